/- The law NetBacks as a statement over numbers and lists alone: it holds under the bounds that the statement names. -/
import Derived.Test.YtidjihmlkaeemaaStatNetBacks
set_option linter.unusedVariables false
set_option linter.unusedSimpArgs false
set_option linter.unusedSectionVars false
namespace Go.Proofs.Ytidjihmlkaeemaa.Pure
open Go.RowKit Go.Proofs.Ytidjihmlkaeemaa.PNetBacks Go.Proofs.YtidjihmlkaeemaaW.PrintWords Go.Proofs.YtidjihmlkaeemaaW.PrintLast Go.Proofs.YtidjihmlkaeemaaW.PrintMore

/-! ### base: words for every pure text -/
theorem w64 {x : Int} (h0 : -9223372036854775808 ≤ x) (h1 : x ≤ 9223372036854775807) : wrap64 x = x := by unfold wrap64; omega
theorem Ev.pos {α : Type} {c : Prop} [Decidable c] {g f : Nat → Option α} {r : α} (h : c) (e : Ev g r) : Ev (fun k => if c then g k else f k) r := Ev.congr (fun k => by rw [if_pos h]) e
theorem Ev.neg {α : Type} {c : Prop} [Decidable c] {g f : Nat → Option α} {r : α} (h : ¬ c) (e : Ev f r) : Ev (fun k => if c then g k else f k) r := Ev.congr (fun k => by rw [if_neg h]) e
theorem Ev.val {α : Type} {r q : α} (h : r = q) : Ev (fun _ => some r) q := by subst h; exact Ev.now r
theorem rd_getElem {l : List Int} {i : Int} (h1 : i.toNat < l.length) : rd l i = l[i.toNat] := by simp [rd, List.getD_eq_getElem?_getD, List.getElem?_eq_getElem h1]
theorem drop_rd {l : List Int} {i : Int} (h0 : 0 ≤ i) (h1 : i < l.length) : l.drop i.toNat = rd l i :: l.drop (i + 1).toNat := by
  have h : i.toNat < l.length := by omega
  rw [rd_getElem h, List.drop_eq_getElem_cons h]; congr 2; omega
theorem take_rd {l : List Int} {i : Int} (h0 : 0 ≤ i) (h1 : i < l.length) : l.take (i + 1).toNat = l.take i.toNat ++ [rd l i] := by
  have h : i.toNat < l.length := by omega
  have e : (i + 1).toNat = i.toNat + 1 := by omega
  rw [rd_getElem h, e, List.take_succ_eq_append_getElem h]
theorem rd_drop (l : List Int) (n : Nat) (i : Int) (h0 : 0 ≤ i) : rd (l.drop n) i = rd l (i + n) := by
  have e : (i + n).toNat = n + i.toNat := by omega
  simp only [rd, List.getD_eq_getElem?_getD, List.getElem?_drop, e]
theorem rd_take (l : List Int) (n : Nat) (i : Int) (h0 : 0 ≤ i) (h1 : i < n) : rd (l.take n) i = rd l i := by
  simp only [rd, List.getD_eq_getElem?_getD]; rw [List.getElem?_take_of_lt (by omega)]
theorem drop_all {α : Type} (l : List α) (n : Nat) (h : l.length ≤ n) : l.drop n = [] := List.drop_eq_nil_of_le h
theorem dec_ne {a b : Int} {l m : List Int} (h : a ≠ b) : decide (a :: l = b :: m) = false := decide_eq_false (fun q => h (List.cons.inj q).1)
theorem Ev.no {p : Prop} [Decidable p] (h : ¬ p) : Ev (fun _ => some false) (decide p) := Ev.val (decide_eq_false h).symm
theorem Ev.yes {p : Prop} [Decidable p] (h : p) : Ev (fun _ => some true) (decide p) := Ev.val (decide_eq_true h).symm
theorem ext_rd {a b : List Int} (hl : a.length = b.length) (h : ∀ i : Int, 0 ≤ i → i < a.length → rd a i = rd b i) : a = b := by
  apply List.ext_getElem hl
  intro i h1 h2
  have := h i (by omega) (by omega)
  rwa [rd_getElem (by simpa using h1), rd_getElem (by simpa using h2)] at this
theorem wf_u8 {x : Int} (h : (Lit.int .u8 x).wf = true) : 0 ≤ x ∧ x ≤ 255 := by simpa [Lit.wf, IntKind.min, IntKind.max, IntKind.signed, IntKind.bits] using h
theorem wf_u32 {x : Int} (h : (Lit.int .u32 x).wf = true) : 0 ≤ x ∧ x ≤ 4294967295 := by simpa [Lit.wf, IntKind.min, IntKind.max, IntKind.signed, IntKind.bits] using h
theorem wf_i64 {x : Int} (h : (Lit.int .i64 x).wf = true) : -9223372036854775808 ≤ x ∧ x ≤ 9223372036854775807 := by simpa [Lit.wf, IntKind.min, IntKind.max, IntKind.signed, IntKind.bits] using h
theorem rd_mem {l : List Int} {i : Int} (h0 : 0 ≤ i) (h1 : i < l.length) : rd l i ∈ l := by
  rw [rd_getElem (by omega)]; exact List.getElem_mem _
theorem rd_u8 {l : List Int} (hw : ∀ x ∈ l, (Lit.int .u8 x).wf = true) {i : Int} (h0 : 0 ≤ i) (h1 : i < l.length) : 0 ≤ rd l i ∧ rd l i ≤ 255 := wf_u8 (hw _ (rd_mem h0 h1))
theorem tm {a b : Int} (h : 0 ≤ a) : Int.tmod a b = a % b := Int.tmod_eq_emod_of_nonneg h
theorem td {a b : Int} (h : 0 ≤ a) : Int.tdiv a b = a / b := Int.tdiv_eq_ediv_of_nonneg h

/-! ### words of 32 bits as natural numbers -/
theorem u32_id {x : Int} (h0 : 0 ≤ x) (h1 : x ≤ 4294967295) : IntKind.u32.wrap x = x := by rw [IntKind.wrap_u32]; omega
theorem u64_id {x : Int} (h0 : 0 ≤ x) (h1 : x ≤ 18446744073709551615) : IntKind.u64.wrap x = x := by simp [IntKind.wrap, IntKind.bits, IntKind.signed]; omega
theorem u32_or (a b : Nat) (ha : a < 2 ^ 32) (hb : b < 2 ^ 32) : Go.bits .or .u32 a b = ((a ||| b : Nat) : Int) :=
  (bits_nat .u32 32 (by decide) (fun n h0 h1 => u32_id h0 (by omega)) a b ha hb).2
theorem u32_and (a b : Nat) (ha : a < 2 ^ 32) (hb : b < 2 ^ 32) : Go.bits .and .u32 a b = ((a &&& b : Nat) : Int) :=
  (bits_nat .u32 32 (by decide) (fun n h0 h1 => u32_id h0 (by omega)) a b ha hb).1
theorem shl1 (n : Nat) (h : n < 32) : shl .u32 1 (n : Int) = ((2 ^ n : Nat) : Int) := by
  unfold shl
  have e : min ((n : Int)).toNat IntKind.u32.bits = n := by simp [IntKind.bits]; omega
  have h2 : 2 ^ n ≤ 2 ^ 31 := Nat.pow_le_pow_right (by omega) (by omega)
  rw [e, Int.one_mul, u32_id (by exact_mod_cast Nat.zero_le _) (by have : ((2 ^ n : Nat) : Int) ≤ 2 ^ 31 := by exact_mod_cast h2
                                                                   have e2 : ((2 : Int) ^ n) = ((2 ^ n : Nat) : Int) := by simp
                                                                   omega)]
  simp
theorem shrn (a n : Nat) (h : n < 32) : shr .u32 (a : Int) (n : Int) = ((a / 2 ^ n : Nat) : Int) := by
  unfold shr
  have e : min ((n : Int)).toNat IntKind.u32.bits = n := by simp [IntKind.bits]; omega
  rw [e]; simp

/-! ### net_Check and coppicerref_NetCheck: one answer -/
def arcBad (N K : Int) (a : S31) : Prop := a.f0 < 0 ∨ a.f0 ≥ N ∨ a.f2 < 0 ∨ a.f2 ≥ N ∨ a.f1 < -1 ∨ a.f1 ≥ K
instance (N K : Int) (a : S31) : Decidable (arcBad N K a) := by unfold arcBad; infer_instance
def netCode (N K : Int) (arcs : List S31) (s f : Int) : Int :=
  if N < 1 ∨ N > 7 ∨ K < 1 ∨ K > 3 ∨ (arcs.length : Int) > 60 then 1 else if (arcs.any fun a => decide (arcBad N K a)) = true then 2 else if s ≥ 2 ^ N.toNat ∨ f ≥ 2 ^ N.toNat then 4 else 0
theorem rd_arc {l : List S31} {i : Int} (h0 : 0 ≤ i) (h1 : i < l.length) : l.drop i.toNat = rd_T31 l i :: l.drop (i + 1).toNat := by
  have h : i.toNat < l.length := by omega
  have e : rd_T31 l i = l[i.toNat] := by simp [rd_T31, List.getD_eq_getElem?_getD, List.getElem?_eq_getElem h]
  rw [e, List.drop_eq_getElem_cons h]; congr 2; omega
theorem net_end (N s f : Int) (h0 : 1 ≤ N) (h1 : N ≤ 7) (hs0 : 0 ≤ s) (hs1 : s ≤ 4294967295) (hf0 : 0 ≤ f) (hf1 : f ≤ 4294967295) : (shr .u32 (Go.bits .or .u32 s f) N) = 0 ↔ ¬ (s ≥ 2 ^ N.toNat ∨ f ≥ 2 ^ N.toNat) := by
  obtain ⟨a, rfl⟩ := Int.eq_ofNat_of_zero_le hs0
  obtain ⟨b, rfl⟩ := Int.eq_ofNat_of_zero_le hf0
  obtain ⟨n, rfl⟩ := Int.eq_ofNat_of_zero_le (show 0 ≤ N by omega)
  rw [u32_or a b (by omega) (by omega), shrn _ _ (by omega), Int.toNat_natCast]
  have e : ((2 : Int) ^ n) = ((2 ^ n : Nat) : Int) := by simp
  rw [e]
  have key : (a ||| b) / 2 ^ n = 0 ↔ a < 2 ^ n ∧ b < 2 ^ n := by
    rw [Nat.div_eq_zero_iff]
    constructor
    · rintro (h | h)
      · have := Nat.two_pow_pos n; omega
      · exact ⟨Nat.lt_of_le_of_lt Nat.left_le_or h, Nat.lt_of_le_of_lt Nat.right_le_or h⟩
    · rintro ⟨h, h'⟩; exact .inr (Nat.or_lt_two_pow h h')
  omega
theorem netCheck_l0 (N K : Int) (all : List S31) (s f : Int) (hN0 : 1 ≤ N) (hN1 : N ≤ 7) (hl : all.length ≤ 60) (hs0 : 0 ≤ s) (hs1 : s ≤ 4294967295) (hf0 : 0 ≤ f) (hf1 : f ≤ 4294967295) (d : Nat) : ∀ i : Int, 0 ≤ i → i + d = all.length →
    Ev (fun k => net_Check.l0 k all (all.length : Int) i N K all s f) (if ((all.drop i.toNat).any fun a => decide (arcBad N K a)) = true then 2 else if s ≥ 2 ^ N.toNat ∨ f ≥ 2 ^ N.toNat then 4 else 0) := by
  induction d with
  | zero =>
    intro i h0 hd
    refine Ev.step (fun k => net_Check.l0.eq_2 _ _ _ _ _ _ _ _ k) ?_
    simp (disch := omega) only [if_neg (show ¬ i < (all.length : Int) by omega), if_pos (show 0 ≤ N by omega)]
    rw [List.drop_eq_nil_of_le (by omega)]
    have e := net_end N s f hN0 hN1 hs0 hs1 hf0 hf1
    by_cases q : s ≥ 2 ^ N.toNat ∨ f ≥ 2 ^ N.toNat
    · simp only [if_neg (fun h => (e.1 h) q)]; exact Ev.val (by rw [if_neg (by simp), if_pos q])
    · simp only [if_pos (e.2 q)]; exact Ev.val (by rw [if_neg (by simp), if_neg q])
  | succ d ih =>
    intro i h0 hd
    refine Ev.step (fun k => net_Check.l0.eq_2 _ _ _ _ _ _ _ _ k) ?_
    rw [rd_arc h0 (by omega)]
    have m0 : mn (rd_T31 all i).f0 (rd_T31 all i).f2 < 0 ↔ (rd_T31 all i).f0 < 0 ∨ (rd_T31 all i).f2 < 0 := by unfold mn; split <;> omega
    have m1 : mx (rd_T31 all i).f0 (rd_T31 all i).f2 ≥ N ↔ (rd_T31 all i).f0 ≥ N ∨ (rd_T31 all i).f2 ≥ N := by unfold mx; split <;> omega
    simp (disch := omega) only [if_pos (show i < (all.length : Int) by omega), if_pos (show 0 ≤ i by omega), m0, m1, w64]
    by_cases hb : arcBad N K (rd_T31 all i)
    · have : Ev (fun _ => (some 2 : Option Int)) (if ((rd_T31 all i :: all.drop (i + 1).toNat).any fun a => decide (arcBad N K a)) = true then 2 else if s ≥ 2 ^ N.toNat ∨ f ≥ 2 ^ N.toNat then 4 else 0) := Ev.val (by rw [if_pos (by simp [hb])])
      by_cases b1 : (rd_T31 all i).f0 < 0 ∨ (rd_T31 all i).f2 < 0
      · simp only [if_pos b1]; exact this
      by_cases b2 : (rd_T31 all i).f0 ≥ N ∨ (rd_T31 all i).f2 ≥ N
      · simp only [if_neg b1, if_pos b2]; exact this
      by_cases b3 : (rd_T31 all i).f1 < -1
      · simp only [if_neg b1, if_neg b2, if_pos b3]; exact this
      · have b4 : (rd_T31 all i).f1 ≥ K := by unfold arcBad at hb; omega
        simp only [if_neg b1, if_neg b2, if_neg b3, if_pos b4]; exact this
    · have b : ¬ ((rd_T31 all i).f0 < 0 ∨ (rd_T31 all i).f2 < 0) ∧ ¬ ((rd_T31 all i).f0 ≥ N ∨ (rd_T31 all i).f2 ≥ N) ∧ ¬ (rd_T31 all i).f1 < -1 ∧ ¬ (rd_T31 all i).f1 ≥ K := by unfold arcBad at hb; omega
      simp only [if_neg b.1, if_neg b.2.1, if_neg b.2.2.1, if_neg b.2.2.2]
      have := ih (i + 1) (by omega) (by omega)
      simpa [hb] using this
theorem netRef_l0 (N K : Int) (all : List S31) (s f : Int) (hN0 : 1 ≤ N) (hN1 : N ≤ 7) (hl : all.length ≤ 60) (d : Nat) : ∀ i : Int, 0 ≤ i → i + d = all.length →
    Ev (fun k => coppicerref_NetCheck.l0 k all (all.length : Int) i N K all s f) (if ((all.drop i.toNat).any fun a => decide (arcBad N K a)) = true then 2 else if s ≥ 2 ^ N.toNat ∨ f ≥ 2 ^ N.toNat then 4 else 0) := by
  induction d with
  | zero =>
    intro i h0 hd
    refine Ev.step (fun k => coppicerref_NetCheck.l0.eq_2 _ _ _ _ _ _ _ _ k) ?_
    obtain ⟨n, rfl⟩ := Int.eq_ofNat_of_zero_le (show 0 ≤ N by omega)
    have e : ((2 : Int) ^ n) = ((2 ^ n : Nat) : Int) := by simp
    simp (disch := omega) only [if_neg (show ¬ i < (all.length : Int) by omega), u64_id, if_pos (show 0 ≤ (n : Int) by omega), shl1 n (by omega)]
    rw [List.drop_eq_nil_of_le (by omega), Int.toNat_natCast, e]
    by_cases q : s ≥ ((2 ^ n : Nat) : Int)
    · simp only [if_pos q]; exact Ev.val (by rw [if_neg (by simp), if_pos (.inl q)])
    · simp only [if_neg q]
      by_cases q2 : f ≥ ((2 ^ n : Nat) : Int)
      · simp only [if_pos q2]; exact Ev.val (by rw [if_neg (by simp), if_pos (.inr q2)])
      · simp only [if_neg q2]; exact Ev.val (by rw [if_neg (by simp), if_neg (fun h => h.elim q q2)])
  | succ d ih =>
    intro i h0 hd
    refine Ev.step (fun k => coppicerref_NetCheck.l0.eq_2 _ _ _ _ _ _ _ _ k) ?_
    rw [rd_arc h0 (by omega)]
    simp (disch := omega) only [if_pos (show i < (all.length : Int) by omega), if_pos (show 0 ≤ i by omega), w64]
    by_cases hb : arcBad N K (rd_T31 all i)
    · have : Ev (fun _ => (some 2 : Option Int)) (if ((rd_T31 all i :: all.drop (i + 1).toNat).any fun a => decide (arcBad N K a)) = true then 2 else if s ≥ 2 ^ N.toNat ∨ f ≥ 2 ^ N.toNat then 4 else 0) := Ev.val (by rw [if_pos (by simp [hb])])
      by_cases b1 : (rd_T31 all i).f0 < 0
      · simp only [if_pos b1]; exact this
      by_cases b2 : (rd_T31 all i).f0 ≥ N
      · simp only [if_neg b1, if_pos b2]; exact this
      by_cases b5 : (rd_T31 all i).f2 < 0
      · simp only [if_neg b1, if_neg b2, if_pos b5]; exact this
      by_cases b6 : (rd_T31 all i).f2 ≥ N
      · simp only [if_neg b1, if_neg b2, if_neg b5, if_pos b6]; exact this
      by_cases b3 : (rd_T31 all i).f1 < -1
      · simp only [if_neg b1, if_neg b2, if_neg b5, if_neg b6, if_pos b3]; exact this
      · have b4 : (rd_T31 all i).f1 ≥ K := by unfold arcBad at hb; omega
        simp only [if_neg b1, if_neg b2, if_neg b5, if_neg b6, if_neg b3, if_pos b4]; exact this
    · have b : ¬ (rd_T31 all i).f0 < 0 ∧ ¬ (rd_T31 all i).f0 ≥ N ∧ ¬ (rd_T31 all i).f2 < 0 ∧ ¬ (rd_T31 all i).f2 ≥ N ∧ ¬ (rd_T31 all i).f1 < -1 ∧ ¬ (rd_T31 all i).f1 ≥ K := by unfold arcBad at hb; omega
      simp only [if_neg b.1, if_neg b.2.1, if_neg b.2.2.1, if_neg b.2.2.2.1, if_neg b.2.2.2.2.1, if_neg b.2.2.2.2.2]
      have := ih (i + 1) (by omega) (by omega)
      simpa [hb] using this
theorem netCode_bad (N K : Int) (arcs : List S31) (s f : Int) (h : N < 1 ∨ N > 7 ∨ K < 1 ∨ K > 3 ∨ (arcs.length : Int) > 60) : netCode N K arcs s f = 1 := by unfold netCode; rw [if_pos h]
theorem netCheck_ev (N K : Int) (arcs : List S31) (s f : Int) (hs0 : 0 ≤ s) (hs1 : s ≤ 4294967295) (hf0 : 0 ≤ f) (hf1 : f ≤ 4294967295) : Ev (fun k => net_Check.f k N K arcs s f) (netCode N K arcs s f) := by
  unfold net_Check.f
  have bad : (N < 1 ∨ N > 7 ∨ K < 1 ∨ K > 3 ∨ (arcs.length : Int) > 60) → Ev (fun k => net_Check.j0 k true N K arcs s f) (netCode N K arcs s f) := by
    intro h
    rw [netCode_bad _ _ _ _ _ h]
    refine Ev.step (fun k => net_Check.j0.eq_2 _ _ _ _ _ _ k) ?_
    simp only [if_true]; exact Ev.now _
  by_cases c1 : N < 1
  · simp only [if_pos c1]; exact bad (by omega)
  by_cases c2 : N > 7
  · simp only [if_neg c1, if_pos c2]; exact bad (by omega)
  by_cases c3 : K < 1
  · simp only [if_neg c1, if_neg c2, if_pos c3]; exact bad (by omega)
  by_cases c4 : K > 3
  · simp only [if_neg c1, if_neg c2, if_neg c3, if_pos c4]; exact bad (by omega)
  simp only [if_neg c1, if_neg c2, if_neg c3, if_neg c4]
  by_cases c5 : (arcs.length : Int) > 60
  · simp only [c5, decide_true]; exact bad (by omega)
  · simp only [c5, decide_false]
    refine Ev.step (fun k => net_Check.j0.eq_2 _ _ _ _ _ _ k) ?_
    simp only [Bool.false_eq_true, if_false]
    have := netCheck_l0 N K arcs s f (by omega) (by omega) (by omega) hs0 hs1 hf0 hf1 arcs.length 0 (by omega) (by omega)
    unfold netCode
    rw [if_neg (by omega)]
    simpa using this
theorem netRef_ev (N K : Int) (arcs : List S31) (s f : Int) : Ev (fun k => coppicerref_NetCheck.f k N K arcs s f) (netCode N K arcs s f) := by
  unfold coppicerref_NetCheck.f
  have bad : (N < 1 ∨ N > 7 ∨ K < 1 ∨ K > 3 ∨ (arcs.length : Int) > 60) → Ev (fun k => coppicerref_NetCheck.j0 k true N K arcs s f) (netCode N K arcs s f) := by
    intro h
    rw [netCode_bad _ _ _ _ _ h]
    refine Ev.step (fun k => coppicerref_NetCheck.j0.eq_2 _ _ _ _ _ _ k) ?_
    simp only [if_true]; exact Ev.now _
  by_cases c1 : N < 1
  · simp only [if_pos c1]; exact bad (by omega)
  by_cases c2 : N > 7
  · simp only [if_neg c1, if_pos c2]; exact bad (by omega)
  by_cases c3 : K < 1
  · simp only [if_neg c1, if_neg c2, if_pos c3]; exact bad (by omega)
  by_cases c4 : K > 3
  · simp only [if_neg c1, if_neg c2, if_neg c3, if_pos c4]; exact bad (by omega)
  simp only [if_neg c1, if_neg c2, if_neg c3, if_neg c4]
  by_cases c5 : (arcs.length : Int) > 60
  · simp only [c5, decide_true]; exact bad (by omega)
  · simp only [c5, decide_false]
    refine Ev.step (fun k => coppicerref_NetCheck.j0.eq_2 _ _ _ _ _ _ k) ?_
    simp only [Bool.false_eq_true, if_false]
    have := netRef_l0 N K arcs s f (by omega) (by omega) (by omega) arcs.length 0 (by omega) (by omega)
    unfold netCode
    rw [if_neg (by omega)]
    simpa using this

/-! ### loops, told by what follows -/
theorem Ev.loopc {σ ρ : Type} {L : Nat → Int → σ → Option ρ} {n : Int} {r : ρ} (I : Int → σ → Prop)
    (hend : ∀ s, I n s → Ev (fun k => L k n s) r)
    (hstep : ∀ i s, 0 ≤ i → i < n → I i s → (∀ s', I (i + 1) s' → Ev (fun k => L k (i + 1) s') r) → Ev (fun k => L k i s) r) :
    ∀ (i : Int) (s : σ), 0 ≤ i → i ≤ n → I i s → Ev (fun k => L k i s) r := by
  have key : ∀ (d : Nat) (i : Int) (s : σ), 0 ≤ i → i + d = n → I i s → Ev (fun k => L k i s) r := by
    intro d
    induction d with
    | zero => intro i s h0 h1 hI; obtain rfl : i = n := by omega
              exact hend s hI
    | succ d ih =>
      intro i s h0 h1 hI
      exact hstep i s h0 (by omega) hI (fun s' h' => ih (i + 1) s' (by omega) (by omega) h')
  intro i s h0 h1 hI
  exact key (n - i).toNat i s h0 (by omega) hI

/-! ### an answer of which something is known -/
def EvP {α : Type} (g : Nat → Option α) (J : α → Prop) : Prop := ∃ r, J r ∧ Ev g r
theorem EvP.of {α : Type} {g : Nat → Option α} {J : α → Prop} {r : α} (h : J r) (e : Ev g r) : EvP g J := ⟨r, h, e⟩
theorem EvP.now {α : Type} {J : α → Prop} {r : α} (h : J r) : EvP (fun _ => some r) J := ⟨r, h, Ev.now r⟩
theorem EvP.pos {α : Type} {c : Prop} [Decidable c] {g f : Nat → Option α} {J : α → Prop} (h : c) (e : EvP g J) : EvP (fun k => if c then g k else f k) J := let ⟨r, h1, h2⟩ := e; ⟨r, h1, Ev.pos h h2⟩
theorem EvP.neg {α : Type} {c : Prop} [Decidable c] {g f : Nat → Option α} {J : α → Prop} (h : ¬ c) (e : EvP f J) : EvP (fun k => if c then g k else f k) J := let ⟨r, h1, h2⟩ := e; ⟨r, h1, Ev.neg h h2⟩
theorem EvP.step {α : Type} {g f : Nat → Option α} {J : α → Prop} (h : ∀ k, g (k + 1) = f k) (e : EvP f J) : EvP g J := let ⟨r, h1, h2⟩ := e; ⟨r, h1, Ev.step h h2⟩
theorem EvP.congr {α : Type} {g f : Nat → Option α} {J : α → Prop} (h : ∀ k, g k = f k) (e : EvP f J) : EvP g J := let ⟨r, h1, h2⟩ := e; ⟨r, h1, Ev.congr h h2⟩
theorem EvP.bind {α β : Type} {g : Nat → Option α} {f : Nat → α → Option β} {a : α} {J : β → Prop} (h : Ev g a) (e : EvP (fun n => f n a) J) : EvP (fun n => (g n).bind (f n)) J := let ⟨r, h1, h2⟩ := e; ⟨r, h1, Ev.bind h h2⟩
theorem EvP.bindP {α β : Type} {g : Nat → Option α} {f : Nat → α → Option β} {I : α → Prop} {J : β → Prop} (h : EvP g I) (e : ∀ a, I a → EvP (fun n => f n a) J) : EvP (fun n => (g n).bind (f n)) J := let ⟨a, h1, h2⟩ := h; EvP.bind h2 (e a h1)
theorem EvP.ev {α β : Type} {g : Nat → Option α} {f : Nat → α → Option β} {I : α → Prop} {r : β} (h : EvP g I) (e : ∀ a, I a → Ev (fun n => f n a) r) : Ev (fun n => (g n).bind (f n)) r := let ⟨a, h1, h2⟩ := h; Ev.bind h2 (e a h1)
theorem EvP.mono {α : Type} {g : Nat → Option α} {I J : α → Prop} (h : EvP g I) (hi : ∀ a, I a → J a) : EvP g J := let ⟨a, h1, h2⟩ := h; ⟨a, hi a h1, h2⟩
theorem EvP.loop {σ ρ : Type} {L : Nat → Int → σ → Option ρ} {n : Int} {J : ρ → Prop} (I : Int → σ → Prop)
    (hend : ∀ s, I n s → EvP (fun k => L k n s) J)
    (hstep : ∀ i s, 0 ≤ i → i < n → I i s → (∀ s', I (i + 1) s' → EvP (fun k => L k (i + 1) s') J) → EvP (fun k => L k i s) J) :
    ∀ (i : Int) (s : σ), 0 ≤ i → i ≤ n → I i s → EvP (fun k => L k i s) J := by
  have key : ∀ (d : Nat) (i : Int) (s : σ), 0 ≤ i → i + d = n → I i s → EvP (fun k => L k i s) J := by
    intro d
    induction d with
    | zero => intro i s h0 h1 hI; obtain rfl : i = n := by omega
              exact hend s hI
    | succ d ih =>
      intro i s h0 h1 hI
      exact hstep i s h0 (by omega) hI (fun s' h' => ih (i + 1) s' (by omega) (by omega) h')
  intro i s h0 h1 hI
  exact key (n - i).toNat i s h0 (by omega) hI

/-! ### net.Back -/
theorem rdA_set (T : List S31) (k k' : Int) (r : S31) (h0 : 0 ≤ k) (h1 : k < T.length) (h2 : 0 ≤ k') : rd_T31 (T.set k.toNat r) k' = if k' = k then r else rd_T31 T k' := by
  simp only [rd_T31, List.getD_eq_getElem?_getD]
  by_cases c : k' = k
  · subst c; rw [if_pos rfl, List.getElem?_set_self (by omega)]; rfl
  · rw [if_neg c, List.getElem?_set_ne (by omega)]
def turnA (a : S31) : S31 := ⟨a.f2, a.f1, a.f0⟩
def Turned (l L : List S31) : Prop := L.length = l.length ∧ ∀ i : Int, 0 ≤ i → i < l.length → rd_T31 L i = turnA (rd_T31 l i)
theorem clone_arc (l : List S31) (h : l.length ≤ 1000) : slices_Clone_Sapi_Arc_api_Arc.f l = some l := by
  unfold slices_Clone_Sapi_Arc_api_Arc.f; rw [if_pos (by omega)]
theorem back_ev {N K : Int} {l : List S31} {s f : Int} (hc : Ev (fun k => net_Check.f k N K l s f) 0) (hl : l.length ≤ 60) : EvP (fun k => net_Back.f k N K l s f) (fun r => ∃ L, Turned l L ∧ r = (N, K, L, f, s, 0)) := by
  unfold net_Back.f
  refine EvP.bind hc (EvP.pos rfl ?_)
  rw [clone_arc l (by omega)]
  simp only [Option.bind_some]
  refine EvP.loop (σ := List S31) (L := fun k i L => net_Back.l0 k (l.length : Int) i N K L s f) (n := (l.length : Int))
    (fun i L => L.length = l.length ∧ ∀ j : Int, 0 ≤ j → j < l.length → rd_T31 L j = if j < i then turnA (rd_T31 l j) else rd_T31 l j) ?_ ?_ 0 l (Int.le_refl _) (by omega) ⟨rfl, fun j h0 h1 => by rw [if_neg (by omega)]⟩
  · rintro L ⟨h1, h2⟩
    refine EvP.step (fun k => net_Back.l0.eq_2 _ _ _ _ _ _ _ k) ?_
    refine EvP.neg (by omega) (EvP.now ⟨L, ⟨h1, fun j j0 j1 => ?_⟩, rfl⟩)
    rw [h2 j j0 j1, if_pos j1]
  · rintro i L i0 i1 ⟨h1, h2⟩ hn
    refine EvP.step (fun k => net_Back.l0.eq_2 _ _ _ _ _ _ _ k) ?_
    rw [w64 (x := i + 1) (by omega) (by omega)]
    refine EvP.pos i1 (EvP.pos i0 (EvP.pos (by omega) ?_))
    simp only [Option.bind_some]
    rw [rdA_set _ _ _ _ i0 (by omega) i0, if_pos rfl, List.set_set]
    have e := h2 i i0 i1
    rw [if_neg (by omega)] at e
    refine hn _ ⟨by rw [List.length_set]; exact h1, fun j j0 j1 => ?_⟩
    rw [rdA_set _ _ _ _ i0 (by omega) j0]
    by_cases c : j = i
    · subst c; rw [if_pos rfl, if_pos (by omega)]
      show (⟨_, _, _⟩ : S31) = _
      rw [e]; rfl
    · rw [if_neg c, h2 j j0 j1]
      by_cases d : j < i
      · rw [if_pos d, if_pos (by omega)]
      · rw [if_neg d, if_neg (by omega)]
theorem NetBacks : coppicerlaw_NetBacks.Pure := by
  unfold coppicerlaw_NetBacks.Pure
  intro N K l s f
  intros
  have hs : 0 ≤ s ∧ s ≤ 4294967295 := wf_u32 ‹_›
  have hf : 0 ≤ f ∧ f ≤ 4294967295 := wf_u32 ‹_›
  apply Ev.rounds
  unfold coppicerlaw_NetBacks.f
  have c1 := netCheck_ev N K l s f hs.1 hs.2 hf.1 hf.2
  have c2 := netRef_ev N K l s f
  by_cases c : netCode N K l s f = 0
  · rw [c] at c1 c2
    have hl : l.length ≤ 60 := by
      unfold netCode at c
      by_cases q : N < 1 ∨ N > 7 ∨ K < 1 ∨ K > 3 ∨ (l.length : Int) > 60
      · rw [if_pos q] at c; omega
      · omega
    refine EvP.ev (back_ev c1 hl) ?_
    rintro _ ⟨L, ⟨t1, t2⟩, rfl⟩
    refine Ev.bind c2 (Ev.pos rfl (Ev.pos rfl (Ev.pos rfl (Ev.pos rfl (Ev.pos rfl (Ev.pos rfl ?_))))))
    refine Ev.step (fun k => coppicerlaw_NetBacks.j1.eq_2 _ _ _ _ _ _ _ _ _ _ _ k) ?_
    refine Ev.neg (by simp [t1]) ?_
    refine Ev.loopc (σ := Unit) (L := fun k i _ => coppicerlaw_NetBacks.l0 k l (l.length : Int) i N K L f s) (n := (l.length : Int)) (fun _ _ => True) ?_ ?_ 0 () (Int.le_refl _) (by omega) trivial
    · intro _ _
      refine Ev.step (fun k => coppicerlaw_NetBacks.l0.eq_2 _ _ _ _ _ _ _ _ k) ?_
      exact Ev.neg (by omega) (Ev.now _)
    · intro i _ i0 i1 _ hn
      refine Ev.step (fun k => coppicerlaw_NetBacks.l0.eq_2 _ _ _ _ _ _ _ _ k) ?_
      rw [t2 i i0 i1]
      refine Ev.pos i1 (Ev.pos i0 (Ev.pos i1 (Ev.pos (by omega) (Ev.pos rfl (Ev.pos rfl ?_)))))
      refine Ev.step (fun k => coppicerlaw_NetBacks.j3.eq_2 _ _ _ _ _ _ _ _ _ k) ?_
      rw [w64 (x := i + 1) (by omega) (by omega)]
      exact Ev.neg (by simp [turnA]) (hn () trivial)
  · have e1 : Ev (fun k => net_Back.f k N K l s f) (0, 0, [], 0, 0, netCode N K l s f) := by
      unfold net_Back.f
      exact Ev.bind c1 (Ev.neg c (Ev.now _))
    refine Ev.bind e1 (Ev.bind c2 (Ev.neg c (Ev.pos rfl (Ev.pos rfl (Ev.pos rfl (Ev.pos rfl (Ev.pos rfl ?_)))))))
    exact Ev.step (fun k => coppicerlaw_NetBacks.j0.eq_2 _ k) (Ev.now _)

end Go.Proofs.Ytidjihmlkaeemaa.Pure
