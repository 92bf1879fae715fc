/- The law NetRuns as a statement over numbers and lists alone: it holds under the bounds that the statement names. -/
import Derived.Test.YtidjihmlkaeemaaStatNetRuns
set_option linter.unusedVariables false
set_option linter.unusedSimpArgs false
set_option linter.unusedSectionVars false
namespace Go.Proofs.Ytidjihmlkaeemaa.Pure
open Go.RowKit Go.Proofs.Ytidjihmlkaeemaa.PNetRuns Go.Proofs.YtidjihmlkaeemaaW.PrintWords Go.Proofs.YtidjihmlkaeemaaW.PrintLast Go.Proofs.YtidjihmlkaeemaaW.PrintMore

/-! ### base: words for every pure text -/
theorem w64 {x : Int} (h0 : -9223372036854775808 ≤ x) (h1 : x ≤ 9223372036854775807) : wrap64 x = x := by unfold wrap64; omega
theorem Ev.pos {α : Type} {c : Prop} [Decidable c] {g f : Nat → Option α} {r : α} (h : c) (e : Ev g r) : Ev (fun k => if c then g k else f k) r := Ev.congr (fun k => by rw [if_pos h]) e
theorem Ev.neg {α : Type} {c : Prop} [Decidable c] {g f : Nat → Option α} {r : α} (h : ¬ c) (e : Ev f r) : Ev (fun k => if c then g k else f k) r := Ev.congr (fun k => by rw [if_neg h]) e
theorem Ev.val {α : Type} {r q : α} (h : r = q) : Ev (fun _ => some r) q := by subst h; exact Ev.now r
theorem rd_getElem {l : List Int} {i : Int} (h1 : i.toNat < l.length) : rd l i = l[i.toNat] := by simp [rd, List.getD_eq_getElem?_getD, List.getElem?_eq_getElem h1]
theorem drop_rd {l : List Int} {i : Int} (h0 : 0 ≤ i) (h1 : i < l.length) : l.drop i.toNat = rd l i :: l.drop (i + 1).toNat := by
  have h : i.toNat < l.length := by omega
  rw [rd_getElem h, List.drop_eq_getElem_cons h]; congr 2; omega
theorem take_rd {l : List Int} {i : Int} (h0 : 0 ≤ i) (h1 : i < l.length) : l.take (i + 1).toNat = l.take i.toNat ++ [rd l i] := by
  have h : i.toNat < l.length := by omega
  have e : (i + 1).toNat = i.toNat + 1 := by omega
  rw [rd_getElem h, e, List.take_succ_eq_append_getElem h]
theorem rd_drop (l : List Int) (n : Nat) (i : Int) (h0 : 0 ≤ i) : rd (l.drop n) i = rd l (i + n) := by
  have e : (i + n).toNat = n + i.toNat := by omega
  simp only [rd, List.getD_eq_getElem?_getD, List.getElem?_drop, e]
theorem rd_take (l : List Int) (n : Nat) (i : Int) (h0 : 0 ≤ i) (h1 : i < n) : rd (l.take n) i = rd l i := by
  simp only [rd, List.getD_eq_getElem?_getD]; rw [List.getElem?_take_of_lt (by omega)]
theorem drop_all {α : Type} (l : List α) (n : Nat) (h : l.length ≤ n) : l.drop n = [] := List.drop_eq_nil_of_le h
theorem dec_ne {a b : Int} {l m : List Int} (h : a ≠ b) : decide (a :: l = b :: m) = false := decide_eq_false (fun q => h (List.cons.inj q).1)
theorem Ev.no {p : Prop} [Decidable p] (h : ¬ p) : Ev (fun _ => some false) (decide p) := Ev.val (decide_eq_false h).symm
theorem Ev.yes {p : Prop} [Decidable p] (h : p) : Ev (fun _ => some true) (decide p) := Ev.val (decide_eq_true h).symm
theorem ext_rd {a b : List Int} (hl : a.length = b.length) (h : ∀ i : Int, 0 ≤ i → i < a.length → rd a i = rd b i) : a = b := by
  apply List.ext_getElem hl
  intro i h1 h2
  have := h i (by omega) (by omega)
  rwa [rd_getElem (by simpa using h1), rd_getElem (by simpa using h2)] at this
theorem wf_u8 {x : Int} (h : (Lit.int .u8 x).wf = true) : 0 ≤ x ∧ x ≤ 255 := by simpa [Lit.wf, IntKind.min, IntKind.max, IntKind.signed, IntKind.bits] using h
theorem wf_u32 {x : Int} (h : (Lit.int .u32 x).wf = true) : 0 ≤ x ∧ x ≤ 4294967295 := by simpa [Lit.wf, IntKind.min, IntKind.max, IntKind.signed, IntKind.bits] using h
theorem wf_i64 {x : Int} (h : (Lit.int .i64 x).wf = true) : -9223372036854775808 ≤ x ∧ x ≤ 9223372036854775807 := by simpa [Lit.wf, IntKind.min, IntKind.max, IntKind.signed, IntKind.bits] using h
theorem rd_mem {l : List Int} {i : Int} (h0 : 0 ≤ i) (h1 : i < l.length) : rd l i ∈ l := by
  rw [rd_getElem (by omega)]; exact List.getElem_mem _
theorem rd_u8 {l : List Int} (hw : ∀ x ∈ l, (Lit.int .u8 x).wf = true) {i : Int} (h0 : 0 ≤ i) (h1 : i < l.length) : 0 ≤ rd l i ∧ rd l i ≤ 255 := wf_u8 (hw _ (rd_mem h0 h1))
theorem tm {a b : Int} (h : 0 ≤ a) : Int.tmod a b = a % b := Int.tmod_eq_emod_of_nonneg h
theorem td {a b : Int} (h : 0 ≤ a) : Int.tdiv a b = a / b := Int.tdiv_eq_ediv_of_nonneg h

/-! ### words of 32 bits as natural numbers -/
theorem u32_id {x : Int} (h0 : 0 ≤ x) (h1 : x ≤ 4294967295) : IntKind.u32.wrap x = x := by rw [IntKind.wrap_u32]; omega
theorem u64_id {x : Int} (h0 : 0 ≤ x) (h1 : x ≤ 18446744073709551615) : IntKind.u64.wrap x = x := by simp [IntKind.wrap, IntKind.bits, IntKind.signed]; omega
theorem u32_or (a b : Nat) (ha : a < 2 ^ 32) (hb : b < 2 ^ 32) : Go.bits .or .u32 a b = ((a ||| b : Nat) : Int) :=
  (bits_nat .u32 32 (by decide) (fun n h0 h1 => u32_id h0 (by omega)) a b ha hb).2
theorem u32_and (a b : Nat) (ha : a < 2 ^ 32) (hb : b < 2 ^ 32) : Go.bits .and .u32 a b = ((a &&& b : Nat) : Int) :=
  (bits_nat .u32 32 (by decide) (fun n h0 h1 => u32_id h0 (by omega)) a b ha hb).1
theorem shl1 (n : Nat) (h : n < 32) : shl .u32 1 (n : Int) = ((2 ^ n : Nat) : Int) := by
  unfold shl
  have e : min ((n : Int)).toNat IntKind.u32.bits = n := by simp [IntKind.bits]; omega
  have h2 : 2 ^ n ≤ 2 ^ 31 := Nat.pow_le_pow_right (by omega) (by omega)
  rw [e, Int.one_mul, u32_id (by exact_mod_cast Nat.zero_le _) (by have : ((2 ^ n : Nat) : Int) ≤ 2 ^ 31 := by exact_mod_cast h2
                                                                   have e2 : ((2 : Int) ^ n) = ((2 ^ n : Nat) : Int) := by simp
                                                                   omega)]
  simp
theorem shrn (a n : Nat) (h : n < 32) : shr .u32 (a : Int) (n : Int) = ((a / 2 ^ n : Nat) : Int) := by
  unfold shr
  have e : min ((n : Int)).toNat IntKind.u32.bits = n := by simp [IntKind.bits]; omega
  rw [e]; simp

/-! ### net_Check and coppicerref_NetCheck: one answer -/
def arcBad (N K : Int) (a : S31) : Prop := a.f0 < 0 ∨ a.f0 ≥ N ∨ a.f2 < 0 ∨ a.f2 ≥ N ∨ a.f1 < -1 ∨ a.f1 ≥ K
instance (N K : Int) (a : S31) : Decidable (arcBad N K a) := by unfold arcBad; infer_instance
def netCode (N K : Int) (arcs : List S31) (s f : Int) : Int :=
  if N < 1 ∨ N > 7 ∨ K < 1 ∨ K > 3 ∨ (arcs.length : Int) > 60 then 1 else if (arcs.any fun a => decide (arcBad N K a)) = true then 2 else if s ≥ 2 ^ N.toNat ∨ f ≥ 2 ^ N.toNat then 4 else 0
theorem rd_arc {l : List S31} {i : Int} (h0 : 0 ≤ i) (h1 : i < l.length) : l.drop i.toNat = rd_T31 l i :: l.drop (i + 1).toNat := by
  have h : i.toNat < l.length := by omega
  have e : rd_T31 l i = l[i.toNat] := by simp [rd_T31, List.getD_eq_getElem?_getD, List.getElem?_eq_getElem h]
  rw [e, List.drop_eq_getElem_cons h]; congr 2; omega
theorem net_end (N s f : Int) (h0 : 1 ≤ N) (h1 : N ≤ 7) (hs0 : 0 ≤ s) (hs1 : s ≤ 4294967295) (hf0 : 0 ≤ f) (hf1 : f ≤ 4294967295) : (shr .u32 (Go.bits .or .u32 s f) N) = 0 ↔ ¬ (s ≥ 2 ^ N.toNat ∨ f ≥ 2 ^ N.toNat) := by
  obtain ⟨a, rfl⟩ := Int.eq_ofNat_of_zero_le hs0
  obtain ⟨b, rfl⟩ := Int.eq_ofNat_of_zero_le hf0
  obtain ⟨n, rfl⟩ := Int.eq_ofNat_of_zero_le (show 0 ≤ N by omega)
  rw [u32_or a b (by omega) (by omega), shrn _ _ (by omega), Int.toNat_natCast]
  have e : ((2 : Int) ^ n) = ((2 ^ n : Nat) : Int) := by simp
  rw [e]
  have key : (a ||| b) / 2 ^ n = 0 ↔ a < 2 ^ n ∧ b < 2 ^ n := by
    rw [Nat.div_eq_zero_iff]
    constructor
    · rintro (h | h)
      · have := Nat.two_pow_pos n; omega
      · exact ⟨Nat.lt_of_le_of_lt Nat.left_le_or h, Nat.lt_of_le_of_lt Nat.right_le_or h⟩
    · rintro ⟨h, h'⟩; exact .inr (Nat.or_lt_two_pow h h')
  omega
theorem netCheck_l0 (N K : Int) (all : List S31) (s f : Int) (hN0 : 1 ≤ N) (hN1 : N ≤ 7) (hl : all.length ≤ 60) (hs0 : 0 ≤ s) (hs1 : s ≤ 4294967295) (hf0 : 0 ≤ f) (hf1 : f ≤ 4294967295) (d : Nat) : ∀ i : Int, 0 ≤ i → i + d = all.length →
    Ev (fun k => net_Check.l0 k all (all.length : Int) i N K all s f) (if ((all.drop i.toNat).any fun a => decide (arcBad N K a)) = true then 2 else if s ≥ 2 ^ N.toNat ∨ f ≥ 2 ^ N.toNat then 4 else 0) := by
  induction d with
  | zero =>
    intro i h0 hd
    refine Ev.step (fun k => net_Check.l0.eq_2 _ _ _ _ _ _ _ _ k) ?_
    simp (disch := omega) only [if_neg (show ¬ i < (all.length : Int) by omega), if_pos (show 0 ≤ N by omega)]
    rw [List.drop_eq_nil_of_le (by omega)]
    have e := net_end N s f hN0 hN1 hs0 hs1 hf0 hf1
    by_cases q : s ≥ 2 ^ N.toNat ∨ f ≥ 2 ^ N.toNat
    · simp only [if_neg (fun h => (e.1 h) q)]; exact Ev.val (by rw [if_neg (by simp), if_pos q])
    · simp only [if_pos (e.2 q)]; exact Ev.val (by rw [if_neg (by simp), if_neg q])
  | succ d ih =>
    intro i h0 hd
    refine Ev.step (fun k => net_Check.l0.eq_2 _ _ _ _ _ _ _ _ k) ?_
    rw [rd_arc h0 (by omega)]
    have m0 : mn (rd_T31 all i).f0 (rd_T31 all i).f2 < 0 ↔ (rd_T31 all i).f0 < 0 ∨ (rd_T31 all i).f2 < 0 := by unfold mn; split <;> omega
    have m1 : mx (rd_T31 all i).f0 (rd_T31 all i).f2 ≥ N ↔ (rd_T31 all i).f0 ≥ N ∨ (rd_T31 all i).f2 ≥ N := by unfold mx; split <;> omega
    simp (disch := omega) only [if_pos (show i < (all.length : Int) by omega), if_pos (show 0 ≤ i by omega), m0, m1, w64]
    by_cases hb : arcBad N K (rd_T31 all i)
    · have : Ev (fun _ => (some 2 : Option Int)) (if ((rd_T31 all i :: all.drop (i + 1).toNat).any fun a => decide (arcBad N K a)) = true then 2 else if s ≥ 2 ^ N.toNat ∨ f ≥ 2 ^ N.toNat then 4 else 0) := Ev.val (by rw [if_pos (by simp [hb])])
      by_cases b1 : (rd_T31 all i).f0 < 0 ∨ (rd_T31 all i).f2 < 0
      · simp only [if_pos b1]; exact this
      by_cases b2 : (rd_T31 all i).f0 ≥ N ∨ (rd_T31 all i).f2 ≥ N
      · simp only [if_neg b1, if_pos b2]; exact this
      by_cases b3 : (rd_T31 all i).f1 < -1
      · simp only [if_neg b1, if_neg b2, if_pos b3]; exact this
      · have b4 : (rd_T31 all i).f1 ≥ K := by unfold arcBad at hb; omega
        simp only [if_neg b1, if_neg b2, if_neg b3, if_pos b4]; exact this
    · have b : ¬ ((rd_T31 all i).f0 < 0 ∨ (rd_T31 all i).f2 < 0) ∧ ¬ ((rd_T31 all i).f0 ≥ N ∨ (rd_T31 all i).f2 ≥ N) ∧ ¬ (rd_T31 all i).f1 < -1 ∧ ¬ (rd_T31 all i).f1 ≥ K := by unfold arcBad at hb; omega
      simp only [if_neg b.1, if_neg b.2.1, if_neg b.2.2.1, if_neg b.2.2.2]
      have := ih (i + 1) (by omega) (by omega)
      simpa [hb] using this
theorem netRef_l0 (N K : Int) (all : List S31) (s f : Int) (hN0 : 1 ≤ N) (hN1 : N ≤ 7) (hl : all.length ≤ 60) (d : Nat) : ∀ i : Int, 0 ≤ i → i + d = all.length →
    Ev (fun k => coppicerref_NetCheck.l0 k all (all.length : Int) i N K all s f) (if ((all.drop i.toNat).any fun a => decide (arcBad N K a)) = true then 2 else if s ≥ 2 ^ N.toNat ∨ f ≥ 2 ^ N.toNat then 4 else 0) := by
  induction d with
  | zero =>
    intro i h0 hd
    refine Ev.step (fun k => coppicerref_NetCheck.l0.eq_2 _ _ _ _ _ _ _ _ k) ?_
    obtain ⟨n, rfl⟩ := Int.eq_ofNat_of_zero_le (show 0 ≤ N by omega)
    have e : ((2 : Int) ^ n) = ((2 ^ n : Nat) : Int) := by simp
    simp (disch := omega) only [if_neg (show ¬ i < (all.length : Int) by omega), u64_id, if_pos (show 0 ≤ (n : Int) by omega), shl1 n (by omega)]
    rw [List.drop_eq_nil_of_le (by omega), Int.toNat_natCast, e]
    by_cases q : s ≥ ((2 ^ n : Nat) : Int)
    · simp only [if_pos q]; exact Ev.val (by rw [if_neg (by simp), if_pos (.inl q)])
    · simp only [if_neg q]
      by_cases q2 : f ≥ ((2 ^ n : Nat) : Int)
      · simp only [if_pos q2]; exact Ev.val (by rw [if_neg (by simp), if_pos (.inr q2)])
      · simp only [if_neg q2]; exact Ev.val (by rw [if_neg (by simp), if_neg (fun h => h.elim q q2)])
  | succ d ih =>
    intro i h0 hd
    refine Ev.step (fun k => coppicerref_NetCheck.l0.eq_2 _ _ _ _ _ _ _ _ k) ?_
    rw [rd_arc h0 (by omega)]
    simp (disch := omega) only [if_pos (show i < (all.length : Int) by omega), if_pos (show 0 ≤ i by omega), w64]
    by_cases hb : arcBad N K (rd_T31 all i)
    · have : Ev (fun _ => (some 2 : Option Int)) (if ((rd_T31 all i :: all.drop (i + 1).toNat).any fun a => decide (arcBad N K a)) = true then 2 else if s ≥ 2 ^ N.toNat ∨ f ≥ 2 ^ N.toNat then 4 else 0) := Ev.val (by rw [if_pos (by simp [hb])])
      by_cases b1 : (rd_T31 all i).f0 < 0
      · simp only [if_pos b1]; exact this
      by_cases b2 : (rd_T31 all i).f0 ≥ N
      · simp only [if_neg b1, if_pos b2]; exact this
      by_cases b5 : (rd_T31 all i).f2 < 0
      · simp only [if_neg b1, if_neg b2, if_pos b5]; exact this
      by_cases b6 : (rd_T31 all i).f2 ≥ N
      · simp only [if_neg b1, if_neg b2, if_neg b5, if_pos b6]; exact this
      by_cases b3 : (rd_T31 all i).f1 < -1
      · simp only [if_neg b1, if_neg b2, if_neg b5, if_neg b6, if_pos b3]; exact this
      · have b4 : (rd_T31 all i).f1 ≥ K := by unfold arcBad at hb; omega
        simp only [if_neg b1, if_neg b2, if_neg b5, if_neg b6, if_neg b3, if_pos b4]; exact this
    · have b : ¬ (rd_T31 all i).f0 < 0 ∧ ¬ (rd_T31 all i).f0 ≥ N ∧ ¬ (rd_T31 all i).f2 < 0 ∧ ¬ (rd_T31 all i).f2 ≥ N ∧ ¬ (rd_T31 all i).f1 < -1 ∧ ¬ (rd_T31 all i).f1 ≥ K := by unfold arcBad at hb; omega
      simp only [if_neg b.1, if_neg b.2.1, if_neg b.2.2.1, if_neg b.2.2.2.1, if_neg b.2.2.2.2.1, if_neg b.2.2.2.2.2]
      have := ih (i + 1) (by omega) (by omega)
      simpa [hb] using this
theorem netCode_bad (N K : Int) (arcs : List S31) (s f : Int) (h : N < 1 ∨ N > 7 ∨ K < 1 ∨ K > 3 ∨ (arcs.length : Int) > 60) : netCode N K arcs s f = 1 := by unfold netCode; rw [if_pos h]
theorem netCheck_ev (N K : Int) (arcs : List S31) (s f : Int) (hs0 : 0 ≤ s) (hs1 : s ≤ 4294967295) (hf0 : 0 ≤ f) (hf1 : f ≤ 4294967295) : Ev (fun k => net_Check.f k N K arcs s f) (netCode N K arcs s f) := by
  unfold net_Check.f
  have bad : (N < 1 ∨ N > 7 ∨ K < 1 ∨ K > 3 ∨ (arcs.length : Int) > 60) → Ev (fun k => net_Check.j0 k true N K arcs s f) (netCode N K arcs s f) := by
    intro h
    rw [netCode_bad _ _ _ _ _ h]
    refine Ev.step (fun k => net_Check.j0.eq_2 _ _ _ _ _ _ k) ?_
    simp only [if_true]; exact Ev.now _
  by_cases c1 : N < 1
  · simp only [if_pos c1]; exact bad (by omega)
  by_cases c2 : N > 7
  · simp only [if_neg c1, if_pos c2]; exact bad (by omega)
  by_cases c3 : K < 1
  · simp only [if_neg c1, if_neg c2, if_pos c3]; exact bad (by omega)
  by_cases c4 : K > 3
  · simp only [if_neg c1, if_neg c2, if_neg c3, if_pos c4]; exact bad (by omega)
  simp only [if_neg c1, if_neg c2, if_neg c3, if_neg c4]
  by_cases c5 : (arcs.length : Int) > 60
  · simp only [c5, decide_true]; exact bad (by omega)
  · simp only [c5, decide_false]
    refine Ev.step (fun k => net_Check.j0.eq_2 _ _ _ _ _ _ k) ?_
    simp only [Bool.false_eq_true, if_false]
    have := netCheck_l0 N K arcs s f (by omega) (by omega) (by omega) hs0 hs1 hf0 hf1 arcs.length 0 (by omega) (by omega)
    unfold netCode
    rw [if_neg (by omega)]
    simpa using this
theorem netRef_ev (N K : Int) (arcs : List S31) (s f : Int) : Ev (fun k => coppicerref_NetCheck.f k N K arcs s f) (netCode N K arcs s f) := by
  unfold coppicerref_NetCheck.f
  have bad : (N < 1 ∨ N > 7 ∨ K < 1 ∨ K > 3 ∨ (arcs.length : Int) > 60) → Ev (fun k => coppicerref_NetCheck.j0 k true N K arcs s f) (netCode N K arcs s f) := by
    intro h
    rw [netCode_bad _ _ _ _ _ h]
    refine Ev.step (fun k => coppicerref_NetCheck.j0.eq_2 _ _ _ _ _ _ k) ?_
    simp only [if_true]; exact Ev.now _
  by_cases c1 : N < 1
  · simp only [if_pos c1]; exact bad (by omega)
  by_cases c2 : N > 7
  · simp only [if_neg c1, if_pos c2]; exact bad (by omega)
  by_cases c3 : K < 1
  · simp only [if_neg c1, if_neg c2, if_pos c3]; exact bad (by omega)
  by_cases c4 : K > 3
  · simp only [if_neg c1, if_neg c2, if_neg c3, if_pos c4]; exact bad (by omega)
  simp only [if_neg c1, if_neg c2, if_neg c3, if_neg c4]
  by_cases c5 : (arcs.length : Int) > 60
  · simp only [c5, decide_true]; exact bad (by omega)
  · simp only [c5, decide_false]
    refine Ev.step (fun k => coppicerref_NetCheck.j0.eq_2 _ _ _ _ _ _ k) ?_
    simp only [Bool.false_eq_true, if_false]
    have := netRef_l0 N K arcs s f (by omega) (by omega) (by omega) arcs.length 0 (by omega) (by omega)
    unfold netCode
    rw [if_neg (by omega)]
    simpa using this

/-! ### sets of small numbers: bits of a natural number -/
theorem bit_shr (a i : Nat) (ha : a < 2 ^ 32) (hi : i < 32) : (Go.bits .and .u32 (shr .u32 (a : Int) (i : Int)) 1 = 1) ↔ a.testBit i = true := by
  rw [shrn a i hi]
  have h1 : a / 2 ^ i < 2 ^ 32 := Nat.lt_of_le_of_lt (Nat.div_le_self _ _) ha
  have h2 := u32_and (a / 2 ^ i) 1 h1 (by decide)
  have h3 : ((1 : Nat) : Int) = 1 := rfl
  rw [h3] at h2
  rw [h2, Nat.and_one_is_mod, Nat.testBit_eq_decide_div_mod_eq]
  simp only [decide_eq_true_eq]; omega
theorem bit_and (a i : Nat) (ha : a < 2 ^ 32) (hi : i < 32) : (Go.bits .and .u32 (a : Int) (shl .u32 1 (i : Int)) != 0) = a.testBit i := by
  have h0 : 2 ^ i < 2 ^ 32 := Nat.pow_lt_pow_right (by omega) hi
  rw [shl1 i hi, u32_and a (2 ^ i) ha h0]
  cases h : a.testBit i with
  | true =>
    have : a &&& 2 ^ i ≠ 0 := fun e => by
      have q := congrArg (fun x => Nat.testBit x i) e
      simp [Nat.testBit_and, Nat.testBit_two_pow_self, h] at q
    simp; omega
  | false =>
    have : a &&& 2 ^ i = 0 := by
      apply Nat.eq_of_testBit_eq
      intro j
      by_cases e : i = j
      · subst e; simp [Nat.testBit_and, h]
      · simp [Nat.testBit_and, Nat.testBit_two_pow, e]
    rw [this]; rfl
theorem bit_or (a i : Nat) (ha : a < 2 ^ 32) (hi : i < 32) : Go.bits .or .u32 (a : Int) (shl .u32 1 (i : Int)) = ((a ||| 2 ^ i : Nat) : Int) := by
  have h0 : 2 ^ i < 2 ^ 32 := Nat.pow_lt_pow_right (by omega) hi
  rw [shl1 i hi, u32_or a (2 ^ i) ha h0]
def cnt : Nat → Nat → Nat
  | 0, _ => 0
  | n + 1, s => cnt n s + (s.testBit n).toNat
theorem cnt_le : ∀ n s, cnt n s ≤ n
  | 0, _ => Nat.le_refl _
  | n + 1, s => by
    have := cnt_le n s
    unfold cnt
    cases s.testBit n <;> simp <;> omega
theorem cnt_mono (s t : Nat) (h : ∀ i, s.testBit i = true → t.testBit i = true) : ∀ n, cnt n s ≤ cnt n t
  | 0 => Nat.le_refl _
  | n + 1 => by
    have := cnt_mono s t h n
    have h1 := h n
    unfold cnt
    cases q : s.testBit n
    · simp; omega
    · rw [h1 q]; simp; omega
theorem cnt_lt (s t : Nat) (h : ∀ i, s.testBit i = true → t.testBit i = true) (i : Nat) (hs : s.testBit i = false) (ht : t.testBit i = true) : ∀ n, i < n → cnt n s < cnt n t
  | 0, hi => by omega
  | n + 1, hi => by
    have h1 := h n
    have h2 := cnt_mono s t h n
    unfold cnt
    by_cases e : i = n
    · subst e; rw [hs, ht]; simp; omega
    · have := cnt_lt s t h i hs ht n (by omega)
      cases q : s.testBit n
      · simp; omega
      · rw [h1 q]; simp; omega
theorem bits_ne {s t n : Nat} (hs : s < 2 ^ n) (ht : t < 2 ^ n) (h : ∀ i, s.testBit i = true → t.testBit i = true) (hne : t ≠ s) : ∃ i, i < n ∧ s.testBit i = false ∧ t.testBit i = true := by
  rcases Classical.em (∃ i, i < n ∧ s.testBit i = false ∧ t.testBit i = true) with q | q
  · exact q
  · exfalso; apply hne
    apply Nat.eq_of_testBit_eq
    intro i
    by_cases hi : i < n
    · cases e : s.testBit i with
      | true => exact h i e
      | false =>
        cases e2 : t.testBit i with
        | false => rfl
        | true => exact absurd ⟨i, hi, e, e2⟩ q
    · have h2 : 2 ^ n ≤ 2 ^ i := Nat.pow_le_pow_right (by omega) (by omega)
      rw [Nat.testBit_lt_two_pow (Nat.lt_of_lt_of_le hs h2), Nat.testBit_lt_two_pow (Nat.lt_of_lt_of_le ht h2)]
/-! a step that only adds, again and again -/
def rep (P : Nat → Nat) : Nat → Nat → Nat
  | 0, s => s
  | n + 1, s => rep P n (P s)
theorem rep_fix (P : Nat → Nat) (s : Nat) (h : P s = s) : ∀ n, rep P n s = s
  | 0 => rfl
  | n + 1 => by unfold rep; rw [h]; exact rep_fix P s h n
theorem rep_succ (P : Nat → Nat) : ∀ n s, rep P (n + 1) s = P (rep P n s)
  | 0, _ => rfl
  | n + 1, s => by
    show rep P (n + 1) (P s) = P (rep P n (P s))
    exact rep_succ P n (P s)
theorem rep_lt (P : Nat → Nat) (b : Nat) (h : ∀ s, s < b → P s < b) : ∀ n s, s < b → rep P n s < b
  | 0, _, hs => hs
  | n + 1, s, hs => rep_lt P b h n (P s) (h s hs)

/-! ### nets: sets of states, run by run -/
def passN (l : List S31) (s : Nat) : Nat := l.foldl (fun s a => if a.f1 < 0 ∧ s.testBit a.f0.toNat = true then s ||| 2 ^ a.f2.toNat else s) s
def stepN (c : Int) (s : Nat) (l : List S31) (acc : Nat) : Nat := l.foldl (fun acc a => if a.f1 = c ∧ s.testBit a.f0.toNat = true then acc ||| 2 ^ a.f2.toNat else acc) acc
def okArcs (N K : Int) (l : List S31) : Prop := ∀ a ∈ l, 0 ≤ a.f0 ∧ a.f0 < N ∧ 0 ≤ a.f2 ∧ a.f2 < N ∧ -1 ≤ a.f1 ∧ a.f1 < K
theorem passN_lt (N K : Int) (hN : 0 ≤ N) : ∀ (l : List S31) (s : Nat), okArcs N K l → s < 2 ^ N.toNat → passN l s < 2 ^ N.toNat
  | [], s, _, hs => hs
  | a :: l, s, h, hs => by
    have ha := h a (by simp)
    unfold passN
    rw [List.foldl_cons]
    refine passN_lt N K hN l _ (fun b hb => h b (by simp [hb])) ?_
    split
    · exact Nat.or_lt_two_pow hs (Nat.pow_lt_pow_right (by omega) (by omega))
    · exact hs
theorem stepN_lt (N K : Int) (hN : 0 ≤ N) (c : Int) (s : Nat) : ∀ (l : List S31) (acc : Nat), okArcs N K l → acc < 2 ^ N.toNat → stepN c s l acc < 2 ^ N.toNat
  | [], _, _, hs => hs
  | a :: l, acc, h, hs => by
    have ha := h a (by simp)
    unfold stepN
    rw [List.foldl_cons]
    refine stepN_lt N K hN c s l _ (fun b hb => h b (by simp [hb])) ?_
    split
    · exact Nat.or_lt_two_pow hs (Nat.pow_lt_pow_right (by omega) (by omega))
    · exact hs
theorem passN_sub : ∀ (l : List S31) (s i : Nat), s.testBit i = true → (passN l s).testBit i = true
  | [], _, _, h => h
  | a :: l, s, i, h => by
    unfold passN
    rw [List.foldl_cons]
    refine passN_sub l _ i ?_
    split
    · rw [Nat.testBit_or, h, Bool.true_or]
    · exact h
/-- all that is reached without a symbol -/
def cloN (N : Nat) (l : List S31) (s : Nat) : Nat := rep (passN l) N s
def runN (N : Nat) (l : List S31) : List Int → Nat → Nat
  | [], s => s
  | c :: w, s => runN N l w (cloN N l (stepN c s l 0))
section
variable (N K : Int) (all : List S31) (st f : Int) (hN0 : 1 ≤ N) (hN1 : N ≤ 7) (hl : all.length ≤ 60) (ho : okArcs N K all)
include hN0 hN1 hl ho
theorem arc_ok (i : Int) (h0 : 0 ≤ i) (h1 : i < all.length) : 0 ≤ (rd_T31 all i).f0 ∧ (rd_T31 all i).f0 < N ∧ 0 ≤ (rd_T31 all i).f2 ∧ (rd_T31 all i).f2 < N ∧ -1 ≤ (rd_T31 all i).f1 ∧ (rd_T31 all i).f1 < K := by
  refine ho _ ?_
  have h : i.toNat < all.length := by omega
  have e : rd_T31 all i = all[i.toNat] := by simp [rd_T31, List.getD_eq_getElem?_getD, List.getElem?_eq_getElem h]
  rw [e]; exact List.getElem_mem _
theorem lt32 {s : Nat} (h : s < 2 ^ N.toNat) : s < 2 ^ 32 := Nat.lt_of_lt_of_le h (Nat.pow_le_pow_right (by omega) (by omega))
theorem free_l1 (R : Int) (old : Int) (d : Nat) : ∀ (i : Int) (s : Nat), 0 ≤ i → i + d = all.length → s < 2 ^ N.toNat →
    Ev (fun k => net_Free.l0 k ((passN (all.drop i.toNat) s : Nat) : Int) (((passN (all.drop i.toNat) s : Nat) : Int) != old) N K all st f) R →
    Ev (fun k => net_Free.l1 k (s : Int) old all (all.length : Int) i N K all st f) R := by
  induction d with
  | zero =>
    intro i s h0 hd hs h
    refine Ev.step (fun k => net_Free.l1.eq_2 _ _ _ _ _ _ _ _ _ _ k) ?_
    simp (disch := omega) only [if_neg]
    rw [List.drop_eq_nil_of_le (by omega)] at h
    exact h
  | succ d ih =>
    intro i s h0 hd hs h
    have ha := arc_ok N K all hN0 hN1 hl ho i h0 (by omega)
    refine Ev.step (fun k => net_Free.l1.eq_2 _ _ _ _ _ _ _ _ _ _ k) ?_
    rw [rd_arc h0 (by omega)] at h
    unfold passN at h
    rw [List.foldl_cons] at h
    obtain ⟨p, hp⟩ := Int.eq_ofNat_of_zero_le ha.1
    obtain ⟨q, hq⟩ := Int.eq_ofNat_of_zero_le ha.2.2.1
    simp (disch := omega) only [if_pos, w64]
    by_cases c : (rd_T31 all i).f1 < 0
    · simp only [if_pos c]
      by_cases t : s.testBit (rd_T31 all i).f0.toNat = true
      · rw [if_pos ⟨c, t⟩] at h
        rw [hp, Int.toNat_natCast] at t
        rw [hq, Int.toNat_natCast] at h
        simp only [hp, hq, if_pos ((bit_shr s p (lt32 N K all hN0 hN1 hl ho hs) (by omega)).2 t), bit_or s q (lt32 N K all hN0 hN1 hl ho hs) (by omega)]
        exact ih (i + 1) _ (by omega) (by omega) (Nat.or_lt_two_pow hs (Nat.pow_lt_pow_right (by omega) (by omega))) h
      · rw [if_neg (fun x => t x.2)] at h
        rw [hp, Int.toNat_natCast] at t
        simp only [hp, if_neg (fun x => t ((bit_shr s p (lt32 N K all hN0 hN1 hl ho hs) (by omega)).1 x))]
        exact ih (i + 1) _ (by omega) (by omega) hs h
    · simp only [if_neg c]
      rw [if_neg (fun x => c x.1)] at h
      exact ih (i + 1) _ (by omega) (by omega) hs h
theorem free_ev (s : Nat) (hs : s < 2 ^ N.toNat) : Ev (fun k => net_Free.f k N K all st f (s : Int)) ((cloN N.toNat all s : Nat) : Int) := by
  unfold net_Free.f
  have key : ∀ (d j : Nat) (t : Nat), j + d = N.toNat → t < 2 ^ N.toNat → j ≤ cnt N.toNat t → cloN N.toNat all s = rep (passN all) d t → Ev (fun k => net_Free.l0 k (t : Int) true N K all st f) ((cloN N.toNat all s : Nat) : Int) := by
    intro d
    induction d with
    | zero =>
      intro j t hj ht hc he
      have hfix : passN all t = t := by
        rcases Classical.em (passN all t = t) with q | q
        · exact q
        · have hlt := passN_lt N K (by omega) all t ho ht
          obtain ⟨i, i0, i1, i2⟩ := bits_ne ht hlt (passN_sub all t) q
          have := cnt_lt t _ (passN_sub all t) i i1 i2 N.toNat i0
          have := cnt_le N.toNat (passN all t)
          omega
      refine Ev.step (fun k => net_Free.l0.eq_2 _ _ _ _ _ _ _ k) ?_
      simp only [if_true]
      refine free_l1 N K all st f hN0 hN1 hl ho _ (t : Int) all.length 0 t (by omega) (by omega) ht ?_
      simp only [Int.toNat_zero, List.drop_zero, hfix, bne_self_eq_false]
      refine Ev.step (fun k => net_Free.l0.eq_2 _ _ _ _ _ _ _ k) ?_
      simp only [Bool.false_eq_true, if_false]
      exact Ev.val (by rw [he]; rfl)
    | succ d ih =>
      intro j t hj ht hc he
      refine Ev.step (fun k => net_Free.l0.eq_2 _ _ _ _ _ _ _ k) ?_
      simp only [if_true]
      refine free_l1 N K all st f hN0 hN1 hl ho _ (t : Int) all.length 0 t (by omega) (by omega) ht ?_
      simp only [Int.toNat_zero, List.drop_zero]
      by_cases q : passN all t = t
      · simp only [q, bne_self_eq_false]
        refine Ev.step (fun k => net_Free.l0.eq_2 _ _ _ _ _ _ _ k) ?_
        simp only [Bool.false_eq_true, if_false]
        exact Ev.val (by rw [he, rep_fix _ _ q])
      · have hlt := passN_lt N K (by omega) all t ho ht
        have hb : (((passN all t : Nat) : Int) != (t : Int)) = true := by simp; omega
        simp only [hb]
        obtain ⟨i, i0, i1, i2⟩ := bits_ne ht hlt (passN_sub all t) q
        have := cnt_lt t _ (passN_sub all t) i i1 i2 N.toNat i0
        exact ih (j + 1) _ (by omega) hlt (by omega) he
  exact key N.toNat 0 s (by omega) hs (by omega) rfl
theorem step_l0 (c : Int) (s : Nat) (hs : s < 2 ^ N.toNat) (d : Nat) : ∀ (i : Int) (acc : Nat), 0 ≤ i → i + d = all.length → acc < 2 ^ N.toNat →
    Ev (fun k => net_Step.l0 k (s : Int) c (acc : Int) all (all.length : Int) i N K all st f) ((cloN N.toNat all (stepN c s (all.drop i.toNat) acc) : Nat) : Int) := by
  induction d with
  | zero =>
    intro i acc h0 hd ha
    refine Ev.step (fun k => net_Step.l0.eq_2 _ _ _ _ _ _ _ _ _ _ _ k) ?_
    simp (disch := omega) only [if_neg]
    rw [List.drop_eq_nil_of_le (by omega)]
    exact Ev.bind (free_ev N K all st f hN0 hN1 hl ho acc ha) (Ev.now _)
  | succ d ih =>
    intro i acc h0 hd hacc
    have ha := arc_ok N K all hN0 hN1 hl ho i h0 (by omega)
    refine Ev.step (fun k => net_Step.l0.eq_2 _ _ _ _ _ _ _ _ _ _ _ k) ?_
    rw [rd_arc h0 (by omega)]
    unfold stepN
    rw [List.foldl_cons]
    obtain ⟨p, hp⟩ := Int.eq_ofNat_of_zero_le ha.1
    obtain ⟨q, hq⟩ := Int.eq_ofNat_of_zero_le ha.2.2.1
    simp (disch := omega) only [if_pos, w64]
    by_cases e : (rd_T31 all i).f1 = c
    · simp only [if_pos e]
      by_cases t : s.testBit (rd_T31 all i).f0.toNat = true
      · simp only [if_pos (show True ∧ s.testBit (rd_T31 all i).f0.toNat = true from ⟨trivial, t⟩), e]
        rw [hp, Int.toNat_natCast] at t
        simp only [hp, hq, Int.toNat_natCast, t, and_self, if_true, if_pos ((bit_shr s p (lt32 N K all hN0 hN1 hl ho hs) (by omega)).2 t), bit_or acc q (lt32 N K all hN0 hN1 hl ho hacc) (by omega)]
        exact ih (i + 1) _ (by omega) (by omega) (Nat.or_lt_two_pow hacc (Nat.pow_lt_pow_right (by omega) (by omega)))
      · rw [if_neg (fun x => t x.2)]
        rw [hp, Int.toNat_natCast] at t
        simp only [hp, if_neg (fun x => t ((bit_shr s p (lt32 N K all hN0 hN1 hl ho hs) (by omega)).1 x))]
        exact ih (i + 1) _ (by omega) (by omega) hacc
    · simp only [if_neg e]
      rw [if_neg (fun x => e x.1)]
      exact ih (i + 1) _ (by omega) (by omega) hacc
theorem step_ev (c : Int) (s : Nat) (hs : s < 2 ^ N.toNat) : Ev (fun k => net_Step.f k N K all st f (s : Int) c) ((cloN N.toNat all (stepN c s all 0) : Nat) : Int) := by
  unfold net_Step.f
  simpa using step_l0 N K all st f hN0 hN1 hl ho c s hs all.length 0 0 (by omega) (by omega) (Nat.two_pow_pos _)
/-! the document's -/
theorem Bit_ev (a i : Nat) (ha : a < 2 ^ 32) (hi : i < 32) : coppicerref_Bit.f (a : Int) (i : Int) = some (a.testBit i) := by
  unfold coppicerref_Bit.f
  simp (disch := omega) only [if_pos, u64_id, bit_and a i ha hi]
theorem rfree_l1 (R : Int) (r : Int) (d : Nat) : ∀ (i : Int) (s : Nat), 0 ≤ i → i + d = all.length → s < 2 ^ N.toNat →
    Ev (fun k => coppicerref_free.l0 k ((passN (all.drop i.toNat) s : Nat) : Int) (wrap64 (r + 1)) N K all st f) R →
    Ev (fun k => coppicerref_free.l1 k (s : Int) r all (all.length : Int) i N K all st f) R := by
  induction d with
  | zero =>
    intro i s h0 hd hs h
    refine Ev.step (fun k => coppicerref_free.l1.eq_2 _ _ _ _ _ _ _ _ _ _ k) ?_
    simp (disch := omega) only [if_neg]
    rw [List.drop_eq_nil_of_le (by omega)] at h
    exact h
  | succ d ih =>
    intro i s h0 hd hs h
    have ha := arc_ok N K all hN0 hN1 hl ho i h0 (by omega)
    refine Ev.step (fun k => coppicerref_free.l1.eq_2 _ _ _ _ _ _ _ _ _ _ k) ?_
    rw [rd_arc h0 (by omega)] at h
    unfold passN at h
    rw [List.foldl_cons] at h
    obtain ⟨p, hp⟩ := Int.eq_ofNat_of_zero_le ha.1
    obtain ⟨q, hq⟩ := Int.eq_ofNat_of_zero_le ha.2.2.1
    simp (disch := omega) only [if_pos, w64]
    by_cases c : (rd_T31 all i).f1 < 0
    · have c' : (rd_T31 all i).f1 = -1 := by omega
      simp only [if_pos c']
      rw [hp, Int.toNat_natCast] at h
      by_cases t : s.testBit p = true
      · rw [if_pos ⟨c, t⟩] at h
        rw [hq, Int.toNat_natCast] at h
        simp (disch := omega) only [hp, hq, Bit_ev N K all hN0 hN1 hl ho s p (lt32 N K all hN0 hN1 hl ho hs) (by omega), Option.bind_some, t, if_true, u64_id, if_pos, bit_or s q (lt32 N K all hN0 hN1 hl ho hs) (by omega)]
        exact ih (i + 1) _ (by omega) (by omega) (Nat.or_lt_two_pow hs (Nat.pow_lt_pow_right (by omega) (by omega))) h
      · rw [if_neg (fun x => t x.2)] at h
        simp only [hp, Bit_ev N K all hN0 hN1 hl ho s p (lt32 N K all hN0 hN1 hl ho hs) (by omega), Option.bind_some, if_neg t]
        exact ih (i + 1) _ (by omega) (by omega) hs h
    · simp (disch := omega) only [if_neg (show ¬ (rd_T31 all i).f1 = -1 by omega)]
      rw [if_neg (fun x => c x.1)] at h
      exact ih (i + 1) _ (by omega) (by omega) hs h
theorem rfree_ev (s : Nat) (hs : s < 2 ^ N.toNat) : Ev (fun k => coppicerref_free.f k N K all st f (s : Int)) ((cloN N.toNat all s : Nat) : Int) := by
  unfold coppicerref_free.f
  have key : ∀ (d : Nat) (r : Int) (t : Nat), 0 ≤ r → r + d = N → t < 2 ^ N.toNat → Ev (fun k => coppicerref_free.l0 k (t : Int) r N K all st f) ((rep (passN all) d t : Nat) : Int) := by
    intro d
    induction d with
    | zero =>
      intro r t h0 h1 ht
      refine Ev.step (fun k => coppicerref_free.l0.eq_2 _ _ _ _ _ _ _ k) ?_
      simp (disch := omega) only [if_neg]
      exact Ev.now _
    | succ d ih =>
      intro r t h0 h1 ht
      refine Ev.step (fun k => coppicerref_free.l0.eq_2 _ _ _ _ _ _ _ k) ?_
      simp (disch := omega) only [if_pos]
      refine rfree_l1 N K all st f hN0 hN1 hl ho _ r all.length 0 t (by omega) (by omega) ht ?_
      simp (disch := omega) only [Int.toNat_zero, List.drop_zero, w64]
      exact ih (r + 1) _ (by omega) (by omega) (passN_lt N K (by omega) all t ho ht)
  have := key N.toNat 0 s (by omega) (by omega) hs
  exact this
end

/-! ### words: machine.Words and coppicerref.WordCheck -/
def wordCode (K : Int) (w : List Int) : Int := if (w.length : Int) > 12 then 1 else if (w.any fun s => decide (s < 0) || decide (s ≥ K)) = true then 2 else 0
theorem Words_eq (K : Int) (w : List Int) : machine_Words.f K w = some (wordCode K w) := by
  unfold machine_Words.f wordCode
  by_cases c : (w.length : Int) > 12
  · simp only [if_pos c]
  · simp only [if_neg c]
    cases w.any fun s => decide (s < 0) || decide (s ≥ K) <;> simp
theorem WordCheck_l0 (K : Int) (w : List Int) (hl : w.length ≤ 12) (d : Nat) : ∀ i : Int, 0 ≤ i → i + d = w.length →
    Ev (fun k => coppicerref_WordCheck.l0 k K w (w.length : Int) i) (if ((w.drop i.toNat).any fun s => decide (s < 0) || decide (s ≥ K)) = true then 2 else 0) := by
  induction d with
  | zero =>
    intro i h0 hd
    refine Ev.step (fun k => coppicerref_WordCheck.l0.eq_2 _ _ _ _ k) ?_
    simp (disch := omega) only [if_neg (show ¬ i < (w.length : Int) by omega)]
    rw [List.drop_eq_nil_of_le (by omega)]; exact Ev.now _
  | succ d ih =>
    intro i h0 hd
    refine Ev.step (fun k => coppicerref_WordCheck.l0.eq_2 _ _ _ _ k) ?_
    rw [drop_rd h0 (by omega)]
    simp (disch := omega) only [if_pos (show i < (w.length : Int) by omega), if_pos h0, w64]
    by_cases a : rd w i < 0
    · simp only [if_pos a]; exact Ev.val (by simp [a])
    · by_cases b : rd w i ≥ K
      · simp only [if_neg a, if_pos b]; exact Ev.val (by simp [b])
      · simp only [if_neg a, if_neg b]
        have := ih (i + 1) (by omega) (by omega)
        simpa [a, b] using this
theorem WordCheck_ev (K : Int) (w : List Int) : Ev (fun k => coppicerref_WordCheck.f k K w) (wordCode K w) := by
  unfold coppicerref_WordCheck.f wordCode
  by_cases c : (w.length : Int) > 12
  · simp only [if_pos c]; exact Ev.now _
  · simp only [if_neg c]
    simpa using WordCheck_l0 K w (by omega) w.length 0 (by omega) (by omega)
theorem wordCode_0 {K : Int} {w : List Int} (h : wordCode K w = 0) : w.length ≤ 12 ∧ ∀ s ∈ w, 0 ≤ s ∧ s < K := by
  unfold wordCode at h
  by_cases c : (w.length : Int) > 12
  · rw [if_pos c] at h; omega
  · rw [if_neg c] at h
    refine ⟨by omega, ?_⟩
    by_cases e : (w.any fun s => decide (s < 0) || decide (s ≥ K)) = true
    · rw [if_pos e] at h; omega
    · intro s hs
      simp only [List.any_eq_true, not_exists, not_and, Bool.or_eq_true, decide_eq_true_eq, not_or] at e
      have := e s hs
      omega

theorem netCode_0 {N K : Int} {arcs : List S31} {s f : Int} (h : netCode N K arcs s f = 0) : 1 ≤ N ∧ N ≤ 7 ∧ arcs.length ≤ 60 ∧ okArcs N K arcs ∧ s < 2 ^ N.toNat ∧ f < 2 ^ N.toNat := by
  unfold netCode at h
  by_cases c : N < 1 ∨ N > 7 ∨ K < 1 ∨ K > 3 ∨ (arcs.length : Int) > 60
  · rw [if_pos c] at h; omega
  · rw [if_neg c] at h
    by_cases e : (arcs.any fun a => decide (arcBad N K a)) = true
    · rw [if_pos e] at h; omega
    · rw [if_neg e] at h
      by_cases g : s ≥ 2 ^ N.toNat ∨ f ≥ 2 ^ N.toNat
      · rw [if_pos g] at h; omega
      · refine ⟨by omega, by omega, by omega, ?_, by omega, by omega⟩
        intro a ha
        simp only [List.any_eq_true, not_exists, not_and, decide_eq_true_eq] at e
        have := e a ha
        unfold arcBad at this
        omega
section
variable (N K : Int) (all : List S31) (st f : Int) (hN0 : 1 ≤ N) (hN1 : N ≤ 7) (hl : all.length ≤ 60) (ho : okArcs N K all)
include hN0 hN1 hl ho
theorem clo_lt (s : Nat) (h : s < 2 ^ N.toNat) : cloN N.toNat all s < 2 ^ N.toNat := rep_lt _ _ (fun s hs => passN_lt N K (by omega) all s ho hs) _ _ h
theorem run_l0 (w : List Int) (hw : w.length ≤ 12) (d : Nat) : ∀ (i : Int) (s : Nat), 0 ≤ i → i + d = w.length → s < 2 ^ N.toNat →
    Ev (fun k => net_Run.l0 k (s : Int) w (w.length : Int) i N K all st f) (((runN N.toNat all (w.drop i.toNat) s : Nat) : Int), ((Go.bits .and .u32 ((runN N.toNat all (w.drop i.toNat) s : Nat) : Int) f) != 0), 0) := by
  induction d with
  | zero =>
    intro i s h0 hd hs
    refine Ev.step (fun k => net_Run.l0.eq_2 _ _ _ _ _ _ _ _ _ k) ?_
    simp (disch := omega) only [if_neg]
    rw [List.drop_eq_nil_of_le (by omega)]
    exact Ev.now _
  | succ d ih =>
    intro i s h0 hd hs
    refine Ev.step (fun k => net_Run.l0.eq_2 _ _ _ _ _ _ _ _ _ k) ?_
    rw [drop_rd h0 (by omega)]
    simp (disch := omega) only [if_pos, w64]
    refine Ev.bind (step_ev N K all st f hN0 hN1 hl ho (rd w i) s hs) ?_
    exact ih (i + 1) _ (by omega) (by omega) (clo_lt N K all hN0 hN1 hl ho _ (stepN_lt N K (by omega) _ _ all 0 ho (Nat.two_pow_pos _)))
theorem leads_l1 (R : Int) (c : Int) (s : Nat) (hs : s < 2 ^ N.toNat) (w : List Int) (n j : Int) (next : Ev (fun k => coppicerref_NetLeads.l0 k ((cloN N.toNat all (stepN c s all 0) : Nat) : Int) w n (wrap64 (j + 1)) N K all st f) R) (d : Nat) : ∀ (i : Int) (acc : Nat), 0 ≤ i → i + d = all.length → acc < 2 ^ N.toNat → stepN c s (all.drop i.toNat) acc = stepN c s all 0 →
    Ev (fun k => coppicerref_NetLeads.l1 k (s : Int) c (acc : Int) w n j all (all.length : Int) i N K all st f) R := by
  induction d with
  | zero =>
    intro i acc h0 hd ha he
    refine Ev.step (fun k => coppicerref_NetLeads.l1.eq_2 _ _ _ _ _ _ _ _ _ _ _ _ _ _ k) ?_
    simp (disch := omega) only [if_neg (show ¬ i < (all.length : Int) by omega)]
    rw [List.drop_eq_nil_of_le (by omega)] at he
    have he : acc = stepN c s all 0 := he
    refine Ev.bind (rfree_ev N K all st f hN0 hN1 hl ho acc ha) ?_
    rw [he]; exact next
  | succ d ih =>
    intro i acc h0 hd hacc he
    have ha := arc_ok N K all hN0 hN1 hl ho i h0 (by omega)
    refine Ev.step (fun k => coppicerref_NetLeads.l1.eq_2 _ _ _ _ _ _ _ _ _ _ _ _ _ _ k) ?_
    rw [rd_arc h0 (by omega)] at he
    unfold stepN at he
    rw [List.foldl_cons] at he
    obtain ⟨p, hp⟩ := Int.eq_ofNat_of_zero_le ha.1
    obtain ⟨q, hq⟩ := Int.eq_ofNat_of_zero_le ha.2.2.1
    simp (disch := omega) only [if_pos (show i < (all.length : Int) by omega), if_pos h0, w64]
    by_cases e : (rd_T31 all i).f1 = c
    · simp only [if_pos e]
      by_cases t : s.testBit (rd_T31 all i).f0.toNat = true
      · rw [if_pos ⟨e, t⟩] at he
        rw [hp, Int.toNat_natCast] at t
        rw [hq, Int.toNat_natCast] at he
        simp (disch := omega) only [hp, hq, Bit_ev N K all hN0 hN1 hl ho s p (lt32 N K all hN0 hN1 hl ho hs) (by omega), Option.bind_some, t, if_true, u64_id, if_pos, bit_or acc q (lt32 N K all hN0 hN1 hl ho hacc) (by omega)]
        exact ih (i + 1) _ (by omega) (by omega) (Nat.or_lt_two_pow hacc (Nat.pow_lt_pow_right (by omega) (by omega))) he
      · rw [if_neg (fun x => t x.2)] at he
        rw [hp, Int.toNat_natCast] at t
        simp only [hp, Bit_ev N K all hN0 hN1 hl ho s p (lt32 N K all hN0 hN1 hl ho hs) (by omega), Option.bind_some, if_neg t]
        exact ih (i + 1) _ (by omega) (by omega) hacc he
    · simp only [if_neg e]
      rw [if_neg (fun x => e x.1)] at he
      exact ih (i + 1) _ (by omega) (by omega) hacc he
theorem leads_l0 (w : List Int) (hw : w.length ≤ 12) (d : Nat) : ∀ (i : Int) (s : Nat), 0 ≤ i → i + d = w.length → s < 2 ^ N.toNat →
    Ev (fun k => coppicerref_NetLeads.l0 k (s : Int) w (w.length : Int) i N K all st f) ((runN N.toNat all (w.drop i.toNat) s : Nat) : Int) := by
  induction d with
  | zero =>
    intro i s h0 hd hs
    refine Ev.step (fun k => coppicerref_NetLeads.l0.eq_2 _ _ _ _ _ _ _ _ _ k) ?_
    simp (disch := omega) only [if_neg]
    rw [List.drop_eq_nil_of_le (by omega)]
    exact Ev.now _
  | succ d ih =>
    intro i s h0 hd hs
    refine Ev.step (fun k => coppicerref_NetLeads.l0.eq_2 _ _ _ _ _ _ _ _ _ k) ?_
    rw [drop_rd h0 (by omega)]
    simp (disch := omega) only [if_pos]
    refine leads_l1 N K all st f hN0 hN1 hl ho _ (rd w i) s hs w (w.length : Int) i ?_ all.length 0 0 (by omega) (by omega) (Nat.two_pow_pos _) (by simp)
    simp (disch := omega) only [w64]
    exact ih (i + 1) _ (by omega) (by omega) (clo_lt N K all hN0 hN1 hl ho _ (stepN_lt N K (by omega) _ _ all 0 ho (Nat.two_pow_pos _)))
end
theorem NetRuns : coppicerlaw_NetRuns.Pure := by
  intro N K arcs st f w hN hK ha hs hf hw hz
  have hs := wf_u32 hs
  have hf := wf_u32 hf
  refine Ev.rounds (g := fun k => coppicerlaw_NetRuns.f k N K arcs st f w) ?_
  unfold coppicerlaw_NetRuns.f net_Run.f
  have hc := netCheck_ev N K arcs st f hs.1 hs.2 hf.1 hf.2
  have hr := netRef_ev N K arcs st f
  by_cases c : netCode N K arcs st f = 0
  · by_cases cw : wordCode K w = 0
    · obtain ⟨n0, n1, n2, n3, n4, n5⟩ := netCode_0 c
      have wl := wordCode_0 cw
      obtain ⟨s, rfl⟩ := Int.eq_ofNat_of_zero_le hs.1
      have hs32 : s < 2 ^ N.toNat := by
        have e : ((2 : Int) ^ N.toNat) = ((2 ^ N.toNat : Nat) : Int) := by simp
        rw [e] at n4; omega
      have h1 := run_l0 N K arcs s f n0 n1 n2 n3 w wl.1 w.length 0 (cloN N.toNat arcs s) (by omega) (by omega) (clo_lt N K arcs n0 n1 n2 n3 _ hs32)
      have h2 := leads_l0 N K arcs s f n0 n1 n2 n3 w wl.1 w.length 0 (cloN N.toNat arcs s) (by omega) (by omega) (clo_lt N K arcs n0 n1 n2 n3 _ hs32)
      generalize runN N.toNat arcs (w.drop (0 : Int).toNat) (cloN N.toNat arcs s) = z at h1 h2
      refine Ev.bind (a := ((z : Int), ((Go.bits .and .u32 (z : Int) f) != 0), 0)) (Ev.bind hc (Ev.congr (fun _ => rfl) ?_)) ?_
      · simp only [c, if_true, Words_eq, Option.bind_some, cw]
        exact Ev.bind (free_ev N K arcs s f n0 n1 n2 n3 s hs32) h1
      · refine Ev.bind hr ?_
        simp only [c, if_true]
        refine Ev.bind (WordCheck_ev K w) ?_
        simp only [cw, if_true]
        unfold coppicerref_NetLeads.f
        refine Ev.bind (Ev.bind (rfree_ev N K arcs s f n0 n1 n2 n3 s hs32) h2) ?_
        simp only [if_true, beq_self_eq_true]; exact Ev.now _
    · refine Ev.bind (a := (0, false, wordCode K w)) (Ev.bind hc (Ev.congr (fun _ => rfl) ?_)) (Ev.bind hr ?_)
      · simp only [c, if_true, Words_eq, Option.bind_some, if_neg cw]; exact Ev.now _
      · simp only [c, if_true]
        refine Ev.bind (WordCheck_ev K w) ?_
        simp only [if_neg cw, if_true]; exact Ev.val rfl
  · refine Ev.bind (a := (0, false, netCode N K arcs st f)) (Ev.bind hc (Ev.congr (fun _ => rfl) ?_)) (Ev.bind hr ?_)
    · simp only [if_neg c]; exact Ev.now _
    · simp only [if_neg c, if_true]; exact Ev.val rfl

end Go.Proofs.Ytidjihmlkaeemaa.Pure
