/- The law TurnerThens as a statement over numbers and lists alone: it holds under the bounds that the statement names. -/
import Derived.Test.YtlljiegdhelmiaaQStatTurnerThens
set_option linter.unusedVariables false
set_option linter.unusedSimpArgs false
set_option linter.unusedSectionVars false
namespace Go.Proofs.Ytlljiegdhelmiaa.Pure
open Go.RowKit Go.Proofs.Ytlljiegdhelmiaa.PTurnerThens Go.Proofs.YtlljiegdhelmiaaW.PrintWords Go.Proofs.YtlljiegdhelmiaaW.PrintLast Go.Proofs.YtlljiegdhelmiaaW.PrintMore
theorem w64 {x : Int} (h0 : -9223372036854775808 ≤ x) (h1 : x ≤ 9223372036854775807) : wrap64 x = x := by unfold wrap64; omega
theorem Ev.pos {α : Type} {c : Prop} [Decidable c] {g f : Nat → Option α} {r : α} (h : c) (e : Ev g r) : Ev (fun k => if c then g k else f k) r := Ev.congr (fun k => by rw [if_pos h]) e
theorem Ev.neg {α : Type} {c : Prop} [Decidable c] {g f : Nat → Option α} {r : α} (h : ¬ c) (e : Ev f r) : Ev (fun k => if c then g k else f k) r := Ev.congr (fun k => by rw [if_neg h]) e
theorem Ev.val {α : Type} {r q : α} (h : r = q) : Ev (fun _ => some r) q := by subst h; exact Ev.now r
theorem rd_getElem {l : List Int} {i : Int} (h1 : i.toNat < l.length) : rd l i = l[i.toNat] := by simp [rd, List.getD_eq_getElem?_getD, List.getElem?_eq_getElem h1]
theorem drop_rd {l : List Int} {i : Int} (h0 : 0 ≤ i) (h1 : i < l.length) : l.drop i.toNat = rd l i :: l.drop (i + 1).toNat := by
  have h : i.toNat < l.length := by omega
  rw [rd_getElem h, List.drop_eq_getElem_cons h]; congr 2; omega
theorem drop_all {α : Type} (l : List α) (n : Nat) (h : l.length ≤ n) : l.drop n = [] := List.drop_eq_nil_of_le h
theorem rd_mem {l : List Int} {i : Int} (h0 : 0 ≤ i) (h1 : i < l.length) : rd l i ∈ l := by
  rw [rd_getElem (by omega)]; exact List.getElem_mem _
theorem tm {a b : Int} (h : 0 ≤ a) : Int.tmod a b = a % b := Int.tmod_eq_emod_of_nonneg h
theorem td {a b : Int} (h : 0 ≤ a) : Int.tdiv a b = a / b := Int.tdiv_eq_ediv_of_nonneg h
theorem drop_rdL {l : List (List Int)} {i : Int} (h0 : 0 ≤ i) (h1 : i < l.length) : l.drop i.toNat = Zj l i :: l.drop (i + 1).toNat := by
  have h : i.toNat < l.length := by omega
  have e : Zj l i = l[i.toNat] := by simp [Zj, List.getD_eq_getElem?_getD, List.getElem?_eq_getElem h]
  rw [e, List.drop_eq_getElem_cons h]; congr 2; omega
theorem rdL_mem {l : List (List Int)} {i : Int} (h0 : 0 ≤ i) (h1 : i < l.length) : Zj l i ∈ l := by
  have h : i.toNat < l.length := by omega
  have e : Zj l i = l[i.toNat] := by simp [Zj, List.getD_eq_getElem?_getD, List.getElem?_eq_getElem h]
  rw [e]; exact List.getElem_mem _
theorem anyO_some {α : Type} (p : α → Bool) : ∀ l : List α, anyO (fun x => some (p x)) l = some (l.any p)
  | [] => rfl
  | x :: l => by
    unfold anyO
    rw [Option.bind_some, anyO_some p l, List.any_cons]
    cases p x <;> simp
theorem Ev.loop {σ ρ : Type} {L : Nat → Int → σ → Option ρ} {n : Int} {r : ρ} (I : Int → σ → Prop)
    (hend : ∀ s, I n s → Ev (fun k => L k n s) r)
    (hstep : ∀ i s, 0 ≤ i → i < n → I i s → Ev (fun k => L k i s) r ∨ ∃ s', I (i + 1) s' ∧ (Ev (fun k => L k (i + 1) s') r → Ev (fun k => L k i s) r)) :
    ∀ (i : Int) (s : σ), 0 ≤ i → i ≤ n → I i s → Ev (fun k => L k i s) r := by
  have key : ∀ (d : Nat) (i : Int) (s : σ), 0 ≤ i → i + d = n → I i s → Ev (fun k => L k i s) r := by
    intro d
    induction d with
    | zero => intro i s h0 h1 hI; obtain rfl : i = n := by omega
              exact hend s hI
    | succ d ih =>
      intro i s h0 h1 hI
      rcases hstep i s h0 (by omega) hI with h | ⟨s', h', h⟩
      · exact h
      · exact h (ih (i + 1) s' (by omega) (by omega) h')
  intro i s h0 h1 hI
  exact key (n - i).toNat i s h0 (by omega) hI
theorem Ev.firstBad {α ρ : Type} {L : Nat → Int → Option ρ} {l : List α} {rdf : Int → α} {bad : α → Bool} {c fin : ρ}
    (hrd : ∀ i : Int, 0 ≤ i → i < l.length → l.drop i.toNat = rdf i :: l.drop (i + 1).toNat)
    (hend : l.any bad = false → Ev (fun k => L k l.length) fin)
    (hbad : ∀ i : Int, 0 ≤ i → i < l.length → bad (rdf i) = true → Ev (fun k => L k i) c)
    (hgood : ∀ (i : Int) (r : ρ), 0 ≤ i → i < l.length → bad (rdf i) = false → Ev (fun k => L k (i + 1)) r → Ev (fun k => L k i) r) :
    Ev (fun k => L k 0) (if l.any bad = true then c else fin) := by
  refine Ev.loop (σ := Unit) (L := fun k i _ => L k i) (n := l.length) (fun i _ => l.any bad = (l.drop i.toNat).any bad) ?_ ?_ 0 () (Int.le_refl _) (by omega) rfl
  · intro _ h
    rw [Int.toNat_natCast, List.drop_length] at h
    have h : l.any bad = false := h
    rw [h]; exact hend h
  · intro i _ h0 h1 h
    rw [hrd i h0 h1, List.any_cons] at h
    cases hb : bad (rdf i) with
    | true => left; rw [h, hb]; exact hbad i h0 h1 hb
    | false => right; refine ⟨(), by rw [h, hb]; rfl, hgood i _ h0 h1 hb⟩
theorem rd_cons {l : List Int} {i : Int} (h0 : 0 ≤ i) (h1 : i < l.length) : l.drop i.toNat = rd l i :: l.drop (i + 1).toNat := drop_rd h0 h1
theorem Ev.loopc {σ ρ : Type} {L : Nat → Int → σ → Option ρ} {n : Int} {r : ρ} (I : Int → σ → Prop)
    (hend : ∀ s, I n s → Ev (fun k => L k n s) r)
    (hstep : ∀ i s, 0 ≤ i → i < n → I i s → (∀ s', I (i + 1) s' → Ev (fun k => L k (i + 1) s') r) → Ev (fun k => L k i s) r) :
    ∀ (i : Int) (s : σ), 0 ≤ i → i ≤ n → I i s → Ev (fun k => L k i s) r := by
  have key : ∀ (d : Nat) (i : Int) (s : σ), 0 ≤ i → i + d = n → I i s → Ev (fun k => L k i s) r := by
    intro d
    induction d with
    | zero => intro i s h0 h1 hI; obtain rfl : i = n := by omega
              exact hend s hI
    | succ d ih =>
      intro i s h0 h1 hI
      exact hstep i s h0 (by omega) hI (fun s' h' => ih (i + 1) s' (by omega) (by omega) h')
  intro i s h0 h1 hI
  exact key (n - i).toNat i s h0 (by omega) hI
theorem Ints_l0 (a b : List Int) (hl : a.length = b.length) (hb : (a.length : Int) ≤ 4611686018427387904) (d : Nat) : ∀ i : Int, 0 ≤ i → i + d = a.length → Ev (fun k => Zi1.l0 k a b i) (decide (a.drop i.toNat = b.drop i.toNat)) := by
  induction d with
  | zero =>
    intro i h0 hd
    refine Ev.step (fun k => Zi1.l0.eq_2 _ _ _ k) ?_
    simp (disch := omega) only [if_pos, if_neg]
    exact Ev.val (by rw [List.drop_eq_nil_of_le (by omega), List.drop_eq_nil_of_le (by omega)]; simp)
  | succ d ih =>
    intro i h0 hd
    refine Ev.step (fun k => Zi1.l0.eq_2 _ _ _ k) ?_
    simp (disch := omega) only [if_pos, w64]
    rw [drop_rd h0 (by omega), drop_rd (l := b) h0 (by omega)]
    by_cases h : rd a i = rd b i
    · simp only [if_pos h]
      exact Ev.congr (fun _ => rfl) (by simpa [h] using ih (i + 1) (by omega) (by omega))
    · simp only [if_neg h]
      exact Ev.val (by simp [h])
theorem Ints_ev (a b : List Int) (hb : (a.length : Int) ≤ 4611686018427387904) : Ev (fun k => Zi1.f k a b) (decide (a = b)) := by
  unfold Zi1.f
  by_cases hl : a.length = b.length
  · simp (disch := omega) only [if_pos]
    simpa using Ints_l0 a b hl hb a.length 0 (by omega) (by omega)
  · simp (disch := omega) only [if_neg]
    exact Ev.val (by simp; intro h; exact hl (by rw [h]))
theorem Concat_l1 (l : List (List Int)) (hl : l.length ≤ 4611686018427387904) (R : List Int) (hR : R.length < 17592186044416) (d : Nat) : ∀ (i : Int) (acc : List Int), 0 ≤ i → i + d = l.length → acc ++ (l.drop i.toNat).flatten = R →
    Ev (fun k => Zz.l1 k acc l (l.length : Int) i) R := by
  induction d with
  | zero =>
    intro i acc h0 hd h
    refine Ev.step (fun k => Zz.l1.eq_2 _ _ _ _ k) ?_
    simp (disch := omega) only [if_neg]
    rw [List.drop_eq_nil_of_le (by omega)] at h
    exact Ev.val (by simpa using h)
  | succ d ih =>
    intro i acc h0 hd h
    refine Ev.step (fun k => Zz.l1.eq_2 _ _ _ _ k) ?_
    rw [drop_rdL h0 (by omega), List.flatten_cons, ← List.append_assoc] at h
    have hlen : acc.length + (Zj l i).length ≤ R.length := by
      rw [← h]; simp only [List.length_append]; omega
    simp (disch := omega) only [if_pos, w64]
    exact ih (i + 1) _ (by omega) (by omega) h
theorem Concat_l0 (l : List (List Int)) (hl : l.length ≤ 4611686018427387904) (hR : l.flatten.length < 17592186044416) (d : Nat) : ∀ (i s : Int), 0 ≤ i → i + d = l.length → 0 ≤ s → s + (l.drop i.toNat).flatten.length = l.flatten.length →
    Ev (fun k => Zz.l0 k l s l (l.length : Int) i) l.flatten := by
  induction d with
  | zero =>
    intro i s h0 hd hs h
    refine Ev.step (fun k => Zz.l0.eq_2 _ _ _ _ _ k) ?_
    rw [List.drop_eq_nil_of_le (by omega)] at h
    simp only [List.flatten_nil, List.length_nil] at h
    simp (disch := omega) only [if_neg, slices_Grow_Sint_int.f, if_pos, Option.bind_some]
    exact Concat_l1 l hl _ hR l.length 0 [] (by omega) (by omega) (by simp)
  | succ d ih =>
    intro i s h0 hd hs h
    refine Ev.step (fun k => Zz.l0.eq_2 _ _ _ _ _ k) ?_
    rw [drop_rdL h0 (by omega), List.flatten_cons, List.length_append] at h
    simp (disch := omega) only [if_pos, if_neg, w64]
    exact ih (i + 1) _ (by omega) (by omega) (by omega) (by omega)
theorem Concat_ev (l : List (List Int)) (hl : l.length ≤ 4611686018427387904) (hR : l.flatten.length < 17592186044416) : Ev (fun k => Zz.f k l) l.flatten := by
  unfold Zz.f
  exact Concat_l0 l hl hR l.length 0 0 (by omega) (by omega) (by omega) (by simp)
theorem Lists_refl_l0 (a : List (List Int)) (ha : a.length ≤ 4611686018427387904) (hr : ∀ x ∈ a, x.length ≤ 4611686018427387904) (d : Nat) : ∀ i : Int, 0 ≤ i → i + d = a.length → Ev (fun k => Zd1.l0 k a a i) true := by
  induction d with
  | zero =>
    intro i h0 hd
    refine Ev.step (fun k => Zd1.l0.eq_2 _ _ _ k) ?_
    simp (disch := omega) only [if_neg]; exact Ev.now _
  | succ d ih =>
    intro i h0 hd
    refine Ev.step (fun k => Zd1.l0.eq_2 _ _ _ k) ?_
    simp (disch := omega) only [if_pos, w64]
    refine Ev.bind (Ints_ev _ _ (by have := hr _ (rdL_mem h0 (show i < a.length by omega)); omega)) ?_
    simp only [decide_true, if_true]
    exact ih (i + 1) (by omega) (by omega)
theorem Lists_refl (a : List (List Int)) (ha : a.length ≤ 4611686018427387904) (hr : ∀ x ∈ a, x.length ≤ 4611686018427387904) : Ev (fun k => Zd1.f k a a) true := by
  unfold Zd1.f
  simp only [if_true]
  exact Lists_refl_l0 a ha hr a.length 0 (by omega) (by omega)
theorem drop_rdW {l : List (List (List Int))} {i : Int} (h0 : 0 ≤ i) (h1 : i < l.length) : l.drop i.toNat = Zm l i :: l.drop (i + 1).toNat := by
  have h : i.toNat < l.length := by omega
  have e : Zm l i = l[i.toNat] := by simp [Zm, List.getD_eq_getElem?_getD, List.getElem?_eq_getElem h]
  rw [e, List.drop_eq_getElem_cons h]; congr 2; omega
theorem rdW_mem {l : List (List (List Int))} {i : Int} (h0 : 0 ≤ i) (h1 : i < l.length) : Zm l i ∈ l := by
  have h : i.toNat < l.length := by omega
  have e : Zm l i = l[i.toNat] := by simp [Zm, List.getD_eq_getElem?_getD, List.getElem?_eq_getElem h]
  rw [e]; exact List.getElem_mem _
theorem ConcatW_l1 (l : List (List (List Int))) (hl : l.length ≤ 4611686018427387904) (R : List (List Int)) (hR : R.length < 5864062014805) (d : Nat) : ∀ (i : Int) (acc : List (List Int)), 0 ≤ i → i + d = l.length → acc ++ (l.drop i.toNat).flatten = R →
    Ev (fun k => Za1.l1 k l acc (l.length : Int) i) R := by
  induction d with
  | zero =>
    intro i acc h0 hd h
    refine Ev.step (fun k => Za1.l1.eq_2 _ _ _ _ k) ?_
    simp (disch := omega) only [if_neg]
    rw [List.drop_eq_nil_of_le (by omega)] at h
    exact Ev.val (by simpa using h)
  | succ d ih =>
    intro i acc h0 hd h
    refine Ev.step (fun k => Za1.l1.eq_2 _ _ _ _ k) ?_
    rw [drop_rdW h0 (by omega), List.flatten_cons, ← List.append_assoc] at h
    have hlen : acc.length + (Zm l i).length ≤ R.length := by
      rw [← h]; simp only [List.length_append]; omega
    simp (disch := omega) only [if_pos, w64]
    exact ih (i + 1) _ (by omega) (by omega) h
theorem ConcatW_l0 (l : List (List (List Int))) (hl : l.length ≤ 4611686018427387904) (hR : l.flatten.length < 5864062014805) (d : Nat) : ∀ (i s : Int), 0 ≤ i → i + d = l.length → 0 ≤ s → s + (l.drop i.toNat).flatten.length = l.flatten.length →
    Ev (fun k => Za1.l0 k l s (l.length : Int) i) l.flatten := by
  induction d with
  | zero =>
    intro i s h0 hd hs h
    refine Ev.step (fun k => Za1.l0.eq_2 _ _ _ _ k) ?_
    rw [List.drop_eq_nil_of_le (by omega)] at h
    simp only [List.flatten_nil, List.length_nil] at h
    simp (disch := omega) only [if_neg, Zj1.f, if_pos, Option.bind_some]
    exact ConcatW_l1 l hl _ hR l.length 0 [] (by omega) (by omega) (by simp)
  | succ d ih =>
    intro i s h0 hd hs h
    refine Ev.step (fun k => Za1.l0.eq_2 _ _ _ _ k) ?_
    rw [drop_rdW h0 (by omega), List.flatten_cons, List.length_append] at h
    simp (disch := omega) only [if_pos, if_neg, w64]
    exact ih (i + 1) _ (by omega) (by omega) (by omega) (by omega)
theorem ConcatW_ev (l : List (List (List Int))) (hl : l.length ≤ 4611686018427387904) (hR : l.flatten.length < 5864062014805) : Ev (fun k => Za1.f k l) l.flatten := by
  unfold Za1.f
  exact ConcatW_l0 l hl hR l.length 0 0 (by omega) (by omega) (by omega) (by simp)
theorem flat_le (m : Nat) {α : Type} : ∀ l : List (List α), (∀ x ∈ l, x.length ≤ m) → l.flatten.length ≤ l.length * m
  | [], _ => by simp
  | x :: l, h => by
    have := flat_le m l (fun y hy => h y (by simp [hy]))
    have hx := h x (by simp)
    rw [List.flatten_cons, List.length_append, List.length_cons, Nat.succ_mul]; omega
def badB (N x : Int) : Bool := decide (x < 0) || decide (x ≥ N)
def rowBad (K : Int) (next : List (List Int)) (out : List (List (List Int))) (i : Nat) : Bool := decide (((Zj next i).length : Int) ≠ K) || decide (((Zm out i).length : Int) ≠ K)
def tcode (N K L : Int) (next : List (List Int)) (out : List (List (List Int))) (st : Int) : Int :=
  if N < 1 ∨ N > 7 ∨ K < 1 ∨ K > 3 ∨ L < 1 ∨ L > 3 then 1
  else if (next.length : Int) ≠ N ∨ (out.length : Int) ≠ N then 3
  else if (List.range N.toNat).any (rowBad K next out) = true then 3
  else if (out.flatten.any fun w => decide ((w.length : Int) > 4)) = true then 1
  else if (next.flatten.any (badB N) || badB N st || out.flatten.flatten.any (badB L)) = true then 2 else 0
structure TOK (N K L : Int) (next : List (List Int)) (out : List (List (List Int))) : Prop where
  N0 : 1 ≤ N
  N1 : N ≤ 7
  K0 : 1 ≤ K
  K1 : K ≤ 3
  L0 : 1 ≤ L
  L1 : L ≤ 3
  nl : (next.length : Int) = N
  ol : (out.length : Int) = N
  nr : ∀ r ∈ next, (r.length : Int) = K
  orr : ∀ r ∈ out, (r.length : Int) = K
theorem range_cons {n : Nat} {i : Int} (h0 : 0 ≤ i) (h1 : i < ((List.range n).length : Nat)) : (List.range n).drop i.toNat = i.toNat :: (List.range n).drop (i + 1).toNat := by
  have h : i.toNat < (List.range n).length := by omega
  rw [List.drop_eq_getElem_cons h, List.getElem_range]; congr 2; omega
theorem rows_ok {N K L : Int} {next : List (List Int)} {out : List (List (List Int))} (c : ¬ (N < 1 ∨ N > 7 ∨ K < 1 ∨ K > 3 ∨ L < 1 ∨ L > 3)) (c1 : (next.length : Int) = N) (c2 : (out.length : Int) = N)
    (h : (List.range N.toNat).any (rowBad K next out) = false) : TOK N K L next out := by
  have hr : ∀ i : Nat, i < N.toNat → ((Zj next i).length : Int) = K ∧ ((Zm out i).length : Int) = K := by
    intro i hi
    have := List.any_eq_false.1 h i (List.mem_range.2 hi)
    unfold rowBad at this
    simp only [Bool.or_eq_true, decide_eq_true_eq, not_or, Decidable.not_not] at this
    exact this
  refine ⟨by omega, by omega, by omega, by omega, by omega, by omega, c1, c2, ?_, ?_⟩
  · intro r hm
    obtain ⟨i, hi, rfl⟩ := List.mem_iff_getElem.1 hm
    have e : Zj next i = next[i] := by simp [Zj, List.getD_eq_getElem?_getD, List.getElem?_eq_getElem hi]
    rw [← e]; exact (hr i (by omega)).1
  · intro r hm
    obtain ⟨i, hi, rfl⟩ := List.mem_iff_getElem.1 hm
    have e : Zm out i = out[i] := by simp [Zm, List.getD_eq_getElem?_getD, List.getElem?_eq_getElem hi]
    rw [← e]; exact (hr i (by omega)).2
section
variable (N K L : Int) (next : List (List Int)) (out : List (List (List Int))) (st : Int)
theorem tcheck_l2 (all : List Int) (hl : all.length ≤ 1000) : Ev (fun k => Zp.l2 k all (all.length : Int) 0 N K L next out st) (if all.any (badB L) = true then 2 else 0) := by
  refine Ev.firstBad (L := fun k i => Zp.l2 k all (all.length : Int) i N K L next out st) (rdf := rd all) (fun i h0 h1 => rd_cons h0 h1) ?_ ?_ ?_
  · intro _
    refine Ev.step (fun k => Zp.l2.eq_2 _ _ _ _ _ _ _ _ _ k) ?_
    simp (disch := omega) only [if_neg]; exact Ev.now _
  · intro i h0 h1 hb
    refine Ev.step (fun k => Zp.l2.eq_2 _ _ _ _ _ _ _ _ _ k) ?_
    simp (disch := omega) only [if_pos]
    unfold badB at hb
    by_cases c : rd all i < 0
    · simp only [if_pos c]; exact Ev.now _
    · simp only [if_neg c, if_pos (show rd all i ≥ L by simpa [c] using hb)]; exact Ev.now _
  · intro i r h0 h1 hb hr
    refine Ev.step (fun k => Zp.l2.eq_2 _ _ _ _ _ _ _ _ _ k) ?_
    unfold badB at hb
    simp only [Bool.or_eq_false_iff, decide_eq_false_iff_not] at hb
    simp (disch := omega) only [if_pos, if_neg, w64]; exact hr
theorem tcheck_l1 (ws : List (List Int)) (all : List Int) (hl : all.length ≤ 1000) (hws : ws.length ≤ 1000) (hfl : ws.flatten.length ≤ 1000) : Ev (fun k => Zp.l1 k ws all (all.length : Int) 0 N K L next out st) (if all.any (badB N) = true then 2 else if ws.flatten.any (badB L) = true then 2 else 0) := by
  refine Ev.firstBad (L := fun k i => Zp.l1 k ws all (all.length : Int) i N K L next out st) (rdf := rd all) (fun i h0 h1 => rd_cons h0 h1) ?_ ?_ ?_
  · intro _
    refine Ev.step (fun k => Zp.l1.eq_2 _ _ _ _ _ _ _ _ _ _ k) ?_
    simp (disch := omega) only [if_neg]
    exact Ev.bind (Concat_ev ws (by omega) (by omega)) (tcheck_l2 N K L next out st _ hfl)
  · intro i h0 h1 hb
    refine Ev.step (fun k => Zp.l1.eq_2 _ _ _ _ _ _ _ _ _ _ k) ?_
    simp (disch := omega) only [if_pos]
    unfold badB at hb
    by_cases c : rd all i < 0
    · simp only [if_pos c]; exact Ev.now _
    · simp only [if_neg c, if_pos (show rd all i ≥ N by simpa [c] using hb)]; exact Ev.now _
  · intro i r h0 h1 hb hr
    refine Ev.step (fun k => Zp.l1.eq_2 _ _ _ _ _ _ _ _ _ _ k) ?_
    unfold badB at hb
    simp only [Bool.or_eq_false_iff, decide_eq_false_iff_not] at hb
    simp (disch := omega) only [if_pos, if_neg, w64]; exact hr
theorem tcheck_l0 (c : ¬ (N < 1 ∨ N > 7 ∨ K < 1 ∨ K > 3 ∨ L < 1 ∨ L > 3)) (c1 : (next.length : Int) = N) (c2 : (out.length : Int) = N) :
    Ev (fun k => Zp.l0 k N 0 N K L next out st) (if (List.range N.toNat).any (rowBad K next out) = true then 3 else if (out.flatten.any fun w => decide ((w.length : Int) > 4)) = true then 1
      else if (next.flatten.any (badB N) || badB N st || out.flatten.flatten.any (badB L)) = true then 2 else 0) := by
  have hN : (((List.range N.toNat).length : Nat) : Int) = N := by rw [List.length_range]; omega
  refine Ev.firstBad (L := fun k i => Zp.l0 k N i N K L next out st) (rdf := fun i => i.toNat) (l := List.range N.toNat) (fun i h0 h1 => range_cons h0 h1) ?_ ?_ ?_
  · intro hb
    have T := rows_ok c c1 c2 hb
    have h1 : out.flatten.length ≤ 21 := by
      have := flat_le 3 out (fun x hx => by have := T.orr x hx; omega)
      omega
    have h2 : next.flatten.length ≤ 21 := by
      have := flat_le 3 next (fun x hx => by have := T.nr x hx; omega)
      omega
    refine Ev.step (fun k => Zp.l0.eq_2 _ _ _ _ _ _ _ _ k) ?_
    rw [hN]
    simp (disch := omega) only [if_neg (show ¬ N < N by omega)]
    refine Ev.bind (ConcatW_ev out (by omega) (by omega)) ?_
    have e : turner_Check_1_any.f out.flatten = some (out.flatten.any fun w => decide ((w.length : Int) > 4)) := anyO_some _ _
    simp only [e, Option.bind_some]
    cases c4 : (out.flatten.any fun w => decide ((w.length : Int) > 4)) with
    | true => simp only [if_true]; exact Ev.now _
    | false =>
      have hw : ∀ w ∈ out.flatten, w.length ≤ 4 := by
        intro w hw
        have := List.any_eq_false.1 c4 w hw
        simp only [decide_eq_true_eq] at this; omega
      have h3 := flat_le 4 out.flatten hw
      simp only [Bool.false_eq_true, if_false]
      refine Ev.bind (Concat_ev next (by omega) (by omega)) ?_
      have hlim : next.flatten.length + ([st] : List Int).length < 17592186044416 := by simp only [List.length_singleton]; omega
      simp only [Option.bind_some, if_pos hlim]
      have := tcheck_l1 N K L next out st out.flatten (next.flatten ++ [st]) (by simp only [List.length_append, List.length_singleton]; omega) (by omega) (by omega)
      refine Ev.congr (fun _ => rfl) ?_
      have e2 : (next.flatten ++ [st]).any (badB N) = (next.flatten.any (badB N) || badB N st) := by simp [List.any_append]
      rw [e2] at this
      cases q : (next.flatten.any (badB N) || badB N st) with
      | true => rw [q] at this; simpa using this
      | false => rw [q] at this; simpa using this
  · intro i h0 h1 hb
    rw [hN] at h1
    refine Ev.step (fun k => Zp.l0.eq_2 _ _ _ _ _ _ _ _ k) ?_
    unfold rowBad at hb
    rw [show ((i.toNat : Nat) : Int) = i by omega] at hb
    simp (disch := omega) only [if_pos]
    by_cases d1 : ((Zj next i).length : Int) = K
    · have d2 : ¬ ((Zm out i).length : Int) = K := by simpa [d1] using hb
      simp only [if_pos d1, if_neg d2]; exact Ev.now _
    · simp only [if_neg d1]; exact Ev.now _
  · intro i r h0 h1 hb hr
    rw [hN] at h1
    refine Ev.step (fun k => Zp.l0.eq_2 _ _ _ _ _ _ _ _ k) ?_
    unfold rowBad at hb
    rw [show ((i.toNat : Nat) : Int) = i by omega] at hb
    simp only [Bool.or_eq_false_iff, decide_eq_false_iff_not, Decidable.not_not] at hb
    simp (disch := omega) only [if_pos, w64, if_pos hb.1, if_pos hb.2]; exact hr
end
theorem tcode_bad {N K L : Int} {next : List (List Int)} {out : List (List (List Int))} {st : Int} (h : N < 1 ∨ N > 7 ∨ K < 1 ∨ K > 3 ∨ L < 1 ∨ L > 3) : tcode N K L next out st = 1 := by unfold tcode; rw [if_pos h]
theorem tcode_len {N K L : Int} {next : List (List Int)} {out : List (List (List Int))} {st : Int} (h : ¬ (N < 1 ∨ N > 7 ∨ K < 1 ∨ K > 3 ∨ L < 1 ∨ L > 3)) (h2 : (next.length : Int) ≠ N ∨ (out.length : Int) ≠ N) : tcode N K L next out st = 3 := by unfold tcode; rw [if_neg h, if_pos h2]
theorem tcheck_ev (N K L : Int) (next : List (List Int)) (out : List (List (List Int))) (st : Int) : Ev (fun k => Zp.f k N K L next out st) (tcode N K L next out st) := by
  unfold Zp.f
  have wrong : (N < 1 ∨ N > 7 ∨ K < 1 ∨ K > 3 ∨ L < 1 ∨ L > 3) → Ev (fun k => Zp.j0 k true N K L next out st) (tcode N K L next out st) := by
    intro h
    rw [tcode_bad h]
    refine Ev.step (fun k => Zp.j0.eq_2 _ _ _ _ _ _ _ k) ?_
    simp only [if_true]; exact Ev.now _
  have m1 : mn K L < 1 ↔ (K < 1 ∨ L < 1) := by unfold mn; split <;> omega
  have m2 : mx K L > 3 ↔ (K > 3 ∨ L > 3) := by unfold mx; split <;> omega
  by_cases c1 : N < 1
  · simp only [if_pos c1]; exact wrong (by omega)
  by_cases c2 : N > 7
  · simp only [if_neg c1, if_pos c2]; exact wrong (by omega)
  by_cases c3 : mn K L < 1
  · simp only [if_neg c1, if_neg c2, if_pos c3]; exact wrong (by omega)
  simp only [if_neg c1, if_neg c2, if_neg c3]
  by_cases c4 : mx K L > 3
  · simp only [decide_eq_true c4]; exact wrong (by omega)
  · simp only [decide_eq_false c4]
    have c : ¬ (N < 1 ∨ N > 7 ∨ K < 1 ∨ K > 3 ∨ L < 1 ∨ L > 3) := by omega
    refine Ev.step (fun k => Zp.j0.eq_2 _ _ _ _ _ _ _ k) ?_
    simp only [Bool.false_eq_true, if_false]
    have long : (next.length : Int) ≠ N ∨ (out.length : Int) ≠ N → Ev (fun k => Zp.j1 k true N K L next out st) (tcode N K L next out st) := by
      intro h
      rw [tcode_len c h]
      refine Ev.step (fun k => Zp.j1.eq_2 _ _ _ _ _ _ _ k) ?_
      simp only [if_true]; exact Ev.now _
    by_cases d1 : (next.length : Int) = N
    · simp only [if_pos d1]
      by_cases d2 : (out.length : Int) = N
      · rw [show ((out.length : Int) != N) = false by simp [d2]]
        refine Ev.step (fun k => Zp.j1.eq_2 _ _ _ _ _ _ _ k) ?_
        simp only [Bool.false_eq_true, if_false]
        unfold tcode
        rw [if_neg c, if_neg (by omega)]
        exact tcheck_l0 N K L next out st c d1 d2
      · rw [show ((out.length : Int) != N) = true by simp [d2]]; exact long (.inr d2)
    · simp only [if_neg d1]; exact long (.inl d1)
section
variable (N K L : Int) (next : List (List Int)) (out : List (List (List Int))) (st : Int) (T : TOK N K L next out) (h4 : ∀ w ∈ out.flatten, w.length ≤ 4)
include T
include h4
theorem rturn_l3 (R : Bool) (d : Nat) : ∀ (i : Int) (b : Bool), 0 ≤ i → i + d = N → R = (b || ((next.drop i.toNat).flatten.any (badB N) || (out.drop i.toNat).flatten.flatten.any (badB L))) →
    Ev (fun k => Zl.l3 k b i N K L next out st) (if R = true then 2 else 0) := by
  have hN0 := T.N0; have hN1 := T.N1; have hK1 := T.K1; have hnl := T.nl; have hol := T.ol; have hK0 := T.K0
  induction d with
  | zero =>
    intro i b h0 h1 hR
    refine Ev.step (fun k => Zl.l3.eq_2 _ _ _ _ _ _ _ _ k) ?_
    rw [List.drop_eq_nil_of_le (by omega), List.drop_eq_nil_of_le (by omega)] at hR
    simp only [List.flatten_nil, List.any_nil, Bool.or_false] at hR
    subst hR
    simp (disch := omega) only [if_neg (show ¬ i < N by omega)]
    cases R <;> simp only [if_true, Bool.false_eq_true, if_false] <;> exact Ev.now _
  | succ d ih =>
    intro i b h0 h1 hR
    refine Ev.step (fun k => Zl.l3.eq_2 _ _ _ _ _ _ _ _ k) ?_
    simp (disch := omega) only [if_pos (show i < N by omega)]
    have hi1 : i < next.length := by omega
    have hi2 : i < out.length := by omega
    have m1 := T.nr _ (rdL_mem h0 hi1)
    have m2 := T.orr _ (rdW_mem h0 hi2)
    rw [drop_rdL h0 hi1, drop_rdW h0 hi2, List.flatten_cons, List.flatten_cons, List.flatten_append, List.any_append, List.any_append] at hR
    refine Ev.loop (L := fun k s (b : Bool) => Zl.l4 k b i s N K L next out st) (n := K) (fun s b => R = (b || (((Zj next i).drop s.toNat).any (badB N) || (((Zm out i).drop s.toNat).flatten.any (badB L) || ((next.drop (i + 1).toNat).flatten.any (badB N) || (out.drop (i + 1).toNat).flatten.flatten.any (badB L)))))) ?_ ?_ 0 b (Int.le_refl _) (by omega) (by rw [hR]; simp only [Int.toNat_zero, List.drop_zero]; ac_rfl)
    · intro b hb
      refine Ev.step (fun k => Zl.l4.eq_2 _ _ _ _ _ _ _ _ _ k) ?_
      simp (disch := omega) only [if_neg (show ¬ K < K by omega), w64]
      refine ih (i + 1) b (by omega) (by omega) ?_
      rw [drop_all (Zj next i) _ (by omega), drop_all (Zm out i) _ (by omega)] at hb
      simpa using hb
    · intro s b h2 h3 hb
      right
      have e1 := rd_cons (l := Zj next i) h2 (by omega)
      have e2 := drop_rdL (l := Zm out i) h2 (by omega)
      have hw : (Zj (Zm out i) s).length ≤ 4 := h4 _ (List.mem_flatten.2 ⟨_, rdW_mem h0 hi2, rdL_mem h2 (by omega)⟩)
      rw [e1, e2, List.any_cons, List.flatten_cons, List.any_append] at hb
      refine ⟨b || (badB N (rd (Zj next i) s) || (Zj (Zm out i) s).any (badB L)), by rw [hb]; ac_rfl, ?_⟩
      intro h
      have j8 : ∀ b1 : Bool, b1 = (b || badB N (rd (Zj next i) s)) → Ev (fun k => Zl.j8 k b1 i s N K L next out st) (if R = true then 2 else 0) := by
        intro b1 hb1
        refine Ev.step (fun k => Zl.j8.eq_2 _ _ _ _ _ _ _ _ _ k) ?_
        simp (disch := omega) only [if_pos]
        refine Ev.loop (L := fun k j (c : Bool) => Zl.l5 k c i s (Zj (Zm out i) s) ((Zj (Zm out i) s).length : Int) j N K L next out st) (n := (Zj (Zm out i) s).length)
          (fun j c => (b || (badB N (rd (Zj next i) s) || (Zj (Zm out i) s).any (badB L))) = (c || ((Zj (Zm out i) s).drop j.toNat).any (badB L))) ?_ ?_ 0 b1 (Int.le_refl _) (by omega) (by rw [hb1]; simp only [Int.toNat_zero, List.drop_zero]; ac_rfl)
        · intro c hc
          rw [Int.toNat_natCast, List.drop_length, List.any_nil, Bool.or_false] at hc
          refine Ev.step (fun k => Zl.l5.eq_2 _ _ _ _ _ _ _ _ _ _ _ _ k) ?_
          simp (disch := omega) only [if_neg (show ¬ ((Zj (Zm out i) s).length : Int) < ((Zj (Zm out i) s).length : Nat) by omega), w64]
          rw [hc] at h; exact h
        · intro j c h5 h6 hc
          right
          rw [rd_cons h5 h6, List.any_cons] at hc
          refine ⟨c || badB L (rd (Zj (Zm out i) s) j), by rw [hc]; ac_rfl, ?_⟩
          intro h7
          refine Ev.step (fun k => Zl.l5.eq_2 _ _ _ _ _ _ _ _ _ _ _ _ k) ?_
          simp (disch := omega) only [if_pos, w64]
          cases c with
          | true => simp only [if_true]; exact h7
          | false =>
            simp only [Bool.false_eq_true, if_false]
            unfold badB at h7
            by_cases q : rd (Zj (Zm out i) s) j < 0
            · simp only [if_pos q]; simpa [q] using h7
            · simp only [if_neg q]; simpa [q] using h7
      refine Ev.step (fun k => Zl.l4.eq_2 _ _ _ _ _ _ _ _ _ k) ?_
      simp (disch := omega) only [if_pos (show s < K by omega)]
      cases b with
      | true => simp only [if_true]; exact j8 true (by simp)
      | false =>
        simp (disch := omega) only [Bool.false_eq_true, if_false, if_pos]
        by_cases q : rd (Zj next i) s < 0
        · simp only [if_pos q]; exact j8 true (by unfold badB; simp [q])
        · simp only [if_neg q]; exact j8 _ (by unfold badB; simp [q])
end
theorem rturn_l1 (N K L : Int) (next : List (List Int)) (out : List (List (List Int))) (st : Int) (T : TOK N K L next out) :
    Ev (fun k => Zl.l1 k 0 N K L next out st) (if (out.flatten.any fun w => decide ((w.length : Int) > 4)) = true then 1 else if (next.flatten.any (badB N) || badB N st || out.flatten.flatten.any (badB L)) = true then 2 else 0) := by
  have hN0 := T.N0; have hN1 := T.N1; have hK1 := T.K1; have hnl := T.nl; have hol := T.ol
  have e : (out.flatten.any fun w => decide ((w.length : Int) > 4)) = out.any fun r => r.any fun w => decide ((w.length : Int) > 4) := by rw [List.any_flatten]
  rw [e]
  have hN : N = (out.length : Nat) := by omega
  refine Ev.firstBad (L := fun k i => Zl.l1 k i N K L next out st) (rdf := Zm out) (l := out) (fun i h0 h1 => drop_rdW h0 h1) ?_ ?_ ?_
  · intro hb
    refine Ev.step (fun k => Zl.l1.eq_2 _ _ _ _ _ _ _ k) ?_
    simp (disch := omega) only [if_neg (show ¬ ((out.length : Nat) : Int) < N by omega)]
    rw [← e] at hb
    have h4 : ∀ w ∈ out.flatten, w.length ≤ 4 := by
      intro w hw
      have := List.any_eq_false.1 hb w hw
      simp only [decide_eq_true_eq] at this; omega
    have j5 : ∀ b : Bool, b = badB N st → Ev (fun k => Zl.j5 k b N K L next out st) (if (next.flatten.any (badB N) || badB N st || out.flatten.flatten.any (badB L)) = true then 2 else 0) := by
      intro b hb
      refine Ev.step (fun k => Zl.j5.eq_2 _ _ _ _ _ _ _ k) ?_
      exact rturn_l3 N K L next out st T h4 _ N.toNat 0 b (by omega) (by omega) (by rw [hb]; simp only [Int.toNat_zero, List.drop_zero]; ac_rfl)
    by_cases q : st < 0
    · simp only [if_pos q]; exact j5 true (by unfold badB; simp [q])
    · simp only [if_neg q]; exact j5 _ (by unfold badB; simp [q])
  · intro i h0 h1 hb
    refine Ev.step (fun k => Zl.l1.eq_2 _ _ _ _ _ _ _ k) ?_
    simp (disch := omega) only [if_pos]
    have hl := T.orr _ (rdW_mem h0 h1)
    have := Ev.firstBad (L := fun k j => Zl.l2 k i (Zm out i) ((Zm out i).length : Int) j N K L next out st) (rdf := Zj (Zm out i)) (l := Zm out i) (bad := fun w => decide ((w.length : Int) > 4)) (c := 1) (fin := 1) (fun i h0 h1 => drop_rdL h0 h1) (fun q => by rw [hb] at q; cases q) ?_ ?_
    · rw [hb] at this; exact this
    · intro j h2 h3 hq
      refine Ev.step (fun k => Zl.l2.eq_2 _ _ _ _ _ _ _ _ _ _ k) ?_
      simp only [decide_eq_true_eq] at hq
      simp (disch := omega) only [if_pos, if_pos hq]; exact Ev.now _
    · intro j r h2 h3 hq hr
      refine Ev.step (fun k => Zl.l2.eq_2 _ _ _ _ _ _ _ _ _ _ k) ?_
      simp only [decide_eq_false_iff_not] at hq
      simp (disch := omega) only [if_pos, if_neg hq, w64]; exact hr
  · intro i r h0 h1 hb hr
    refine Ev.step (fun k => Zl.l1.eq_2 _ _ _ _ _ _ _ k) ?_
    simp (disch := omega) only [if_pos]
    have hl := T.orr _ (rdW_mem h0 h1)
    have := Ev.firstBad (L := fun k j => Zl.l2 k i (Zm out i) ((Zm out i).length : Int) j N K L next out st) (rdf := Zj (Zm out i)) (l := Zm out i) (bad := fun w => decide ((w.length : Int) > 4)) (c := 1) (fin := r) (fun i h0 h1 => drop_rdL h0 h1) ?_ ?_ ?_
    · rw [hb] at this; exact this
    · intro _
      refine Ev.step (fun k => Zl.l2.eq_2 _ _ _ _ _ _ _ _ _ _ k) ?_
      simp (disch := omega) only [if_neg (show ¬ ((Zm out i).length : Int) < ((Zm out i).length : Nat) by omega), w64]; exact hr
    · intro j h2 h3 hq
      refine Ev.step (fun k => Zl.l2.eq_2 _ _ _ _ _ _ _ _ _ _ k) ?_
      simp only [decide_eq_true_eq] at hq
      simp (disch := omega) only [if_pos, if_pos hq]; exact Ev.now _
    · intro j r h2 h3 hq hr
      refine Ev.step (fun k => Zl.l2.eq_2 _ _ _ _ _ _ _ _ _ _ k) ?_
      simp only [decide_eq_false_iff_not] at hq
      simp (disch := omega) only [if_pos, if_neg hq, w64]; exact hr
theorem rturn_ev (N K L : Int) (next : List (List Int)) (out : List (List (List Int))) (st : Int) : Ev (fun k => Zl.f k N K L next out st) (tcode N K L next out st) := by
  unfold Zl.f
  have wrong : (N < 1 ∨ N > 7 ∨ K < 1 ∨ K > 3 ∨ L < 1 ∨ L > 3) → Ev (fun k => Zl.j0 k true N K L next out st) (tcode N K L next out st) := by
    intro h
    rw [tcode_bad h]
    refine Ev.step (fun k => Zl.j0.eq_2 _ _ _ _ _ _ _ k) ?_
    simp only [if_true]; exact Ev.now _
  by_cases c1 : N < 1
  · simp only [if_pos c1]; exact wrong (by omega)
  by_cases c2 : N > 7
  · simp only [if_neg c1, if_pos c2]; exact wrong (by omega)
  by_cases c3 : K < 1
  · simp only [if_neg c1, if_neg c2, if_pos c3]; exact wrong (by omega)
  by_cases c4 : K > 3
  · simp only [if_neg c1, if_neg c2, if_neg c3, if_pos c4]; exact wrong (by omega)
  by_cases c5 : L < 1
  · simp only [if_neg c1, if_neg c2, if_neg c3, if_neg c4, if_pos c5]; exact wrong (by omega)
  simp only [if_neg c1, if_neg c2, if_neg c3, if_neg c4, if_neg c5]
  by_cases c6 : L > 3
  · simp only [decide_eq_true c6]; exact wrong (by omega)
  · simp only [decide_eq_false c6]
    have c : ¬ (N < 1 ∨ N > 7 ∨ K < 1 ∨ K > 3 ∨ L < 1 ∨ L > 3) := by omega
    refine Ev.step (fun k => Zl.j0.eq_2 _ _ _ _ _ _ _ k) ?_
    simp only [Bool.false_eq_true, if_false]
    have long : (next.length : Int) ≠ N ∨ (out.length : Int) ≠ N → Ev (fun k => Zl.j1 k true N K L next out st) (tcode N K L next out st) := by
      intro h
      rw [tcode_len c h]
      refine Ev.step (fun k => Zl.j1.eq_2 _ _ _ _ _ _ _ k) ?_
      simp only [if_true]; exact Ev.now _
    by_cases d1 : (next.length : Int) = N
    · simp only [if_pos d1]
      by_cases d2 : (out.length : Int) = N
      · rw [show ((out.length : Int) != N) = false by simp [d2]]
        refine Ev.step (fun k => Zl.j1.eq_2 _ _ _ _ _ _ _ k) ?_
        simp only [Bool.false_eq_true, if_false]
        unfold tcode
        rw [if_neg c, if_neg (by omega)]
        have hN : (((List.range N.toNat).length : Nat) : Int) = N := by rw [List.length_range]; omega
        refine Ev.firstBad (L := fun k i => Zl.l0 k i N K L next out st) (rdf := fun i => i.toNat) (l := List.range N.toNat) (fun i h0 h1 => range_cons h0 h1) ?_ ?_ ?_
        · intro hb
          refine Ev.step (fun k => Zl.l0.eq_2 _ _ _ _ _ _ _ k) ?_
          rw [hN]
          simp (disch := omega) only [if_neg (show ¬ N < N by omega)]
          exact rturn_l1 N K L next out st (rows_ok c d1 d2 hb)
        · intro i h0 h1 hb
          rw [hN] at h1
          refine Ev.step (fun k => Zl.l0.eq_2 _ _ _ _ _ _ _ k) ?_
          unfold rowBad at hb
          rw [show ((i.toNat : Nat) : Int) = i by omega] at hb
          simp (disch := omega) only [if_pos]
          by_cases e1 : ((Zj next i).length : Int) = K
          · have e2 : ¬ ((Zm out i).length : Int) = K := by simpa [e1] using hb
            simp only [if_pos e1, if_neg e2]; exact Ev.now _
          · simp only [if_neg e1]; exact Ev.now _
        · intro i r h0 h1 hb hr
          rw [hN] at h1
          refine Ev.step (fun k => Zl.l0.eq_2 _ _ _ _ _ _ _ k) ?_
          unfold rowBad at hb
          rw [show ((i.toNat : Nat) : Int) = i by omega] at hb
          simp only [Bool.or_eq_false_iff, decide_eq_false_iff_not, Decidable.not_not] at hb
          simp (disch := omega) only [if_pos, w64, if_pos hb.1, if_pos hb.2]; exact hr
      · rw [show ((out.length : Int) != N) = true by simp [d2]]; exact long (.inr d2)
    · simp only [if_neg d1]; exact long (.inl d1)
structure TOK2 (N K L : Int) (next : List (List Int)) (out : List (List (List Int))) (st : Int) : Prop where
  T : TOK N K L next out
  nx : ∀ r ∈ next, ∀ x ∈ r, 0 ≤ x ∧ x < N
  s0 : 0 ≤ st
  s1 : st < N
  wl : ∀ r ∈ out, ∀ w ∈ r, w.length ≤ 4
  wx : ∀ r ∈ out, ∀ w ∈ r, ∀ x ∈ w, 0 ≤ x ∧ x < L
theorem tcode_0 {N K L : Int} {next : List (List Int)} {out : List (List (List Int))} {st : Int} (h : tcode N K L next out st = 0) : TOK2 N K L next out st := by
  unfold tcode at h
  split at h
  · omega
  rename_i c
  split at h
  · omega
  rename_i c1
  split at h
  · omega
  rename_i c2
  split at h
  · omega
  rename_i c3
  split at h
  · omega
  rename_i c4
  have c4 : (next.flatten.any (badB N) || badB N st || out.flatten.flatten.any (badB L)) = false := by simpa using c4
  have c3 : (out.flatten.any fun w => decide ((w.length : Int) > 4)) = false := by simpa using c3
  have c2 : (List.range N.toNat).any (rowBad K next out) = false := by simpa using c2
  simp only [Bool.or_eq_false_iff] at c4
  have nb : ∀ (M x : Int), badB M x = false → 0 ≤ x ∧ x < M := by
    intro M x h
    unfold badB at h
    simp only [Bool.or_eq_false_iff, decide_eq_false_iff_not] at h; omega
  refine ⟨rows_ok c (by omega) (by omega) c2, ?_, (nb N st c4.1.2).1, (nb N st c4.1.2).2, ?_, ?_⟩
  · intro r hr x hx
    exact nb N x (by simpa using List.any_eq_false.1 c4.1.1 x (List.mem_flatten.2 ⟨r, hr, hx⟩))
  · intro r hr w hw
    have := List.any_eq_false.1 c3 w (List.mem_flatten.2 ⟨r, hr, hw⟩)
    simp only [decide_eq_true_eq] at this; omega
  · intro r hr w hw x hx
    exact nb L x (by simpa using List.any_eq_false.1 c4.2 x (List.mem_flatten.2 ⟨w, List.mem_flatten.2 ⟨r, hr, hw⟩, hx⟩))
def wto (next : List (List Int)) (s c : Int) : Int := rd (Zj next s) c
def wout (out : List (List (List Int))) (s c : Int) : List Int := Zj (Zm out s) c
def wrun (next : List (List Int)) (out : List (List (List Int))) : Int → List Int → List Int × Int
  | s, [] => ([], s)
  | s, c :: w => (wout out s c ++ (wrun next out (wto next s c) w).1, (wrun next out (wto next s c) w).2)
theorem TOK2.row {N K L : Int} {next : List (List Int)} {out : List (List (List Int))} {st : Int} (T : TOK2 N K L next out st) {s : Int} (h0 : 0 ≤ s) (h1 : s < N) :
    s < next.length ∧ s < out.length ∧ ((Zj next s).length : Int) = K ∧ ((Zm out s).length : Int) = K := by
  have hn := T.T.nl; have ho := T.T.ol
  exact ⟨by omega, by omega, T.T.nr _ (rdL_mem h0 (by omega)), T.T.orr _ (rdW_mem h0 (by omega))⟩
theorem TOK2.to {N K L : Int} {next : List (List Int)} {out : List (List (List Int))} {st : Int} (T : TOK2 N K L next out st) {s c : Int} (h0 : 0 ≤ s) (h1 : s < N) (c0 : 0 ≤ c) (c1 : c < K) :
    0 ≤ wto next s c ∧ wto next s c < N ∧ (wout out s c).length ≤ 4 ∧ ∀ x ∈ wout out s c, 0 ≤ x ∧ x < L := by
  have hr := T.row h0 h1
  have h2 := T.nx _ (rdL_mem h0 hr.1) _ (rd_mem c0 (show c < ((Zj next s).length : Nat) by omega))
  have hm := rdL_mem (l := Zm out s) c0 (by omega)
  exact ⟨h2.1, h2.2, T.wl _ (rdW_mem h0 hr.2.1) _ hm, T.wx _ (rdW_mem h0 hr.2.1) _ hm⟩
theorem wrun_ok {N K L : Int} {next : List (List Int)} {out : List (List (List Int))} {st : Int} (T : TOK2 N K L next out st) : ∀ (w : List Int) (s : Int), 0 ≤ s → s < N → (∀ c ∈ w, 0 ≤ c ∧ c < K) →
    0 ≤ (wrun next out s w).2 ∧ (wrun next out s w).2 < N ∧ (wrun next out s w).1.length ≤ 4 * w.length ∧ ∀ x ∈ (wrun next out s w).1, 0 ≤ x ∧ x < L
  | [], s, h0, h1, _ => ⟨h0, h1, by simp [wrun], by simp [wrun]⟩
  | c :: w, s, h0, h1, hw => by
    have hc := hw c (by simp)
    have ht := T.to h0 h1 hc.1 hc.2
    have ih := wrun_ok T w (wto next s c) ht.1 ht.2.1 (fun x hx => hw x (by simp [hx]))
    simp only [wrun, List.length_append, List.length_cons]
    refine ⟨ih.1, ih.2.1, by omega, ?_⟩
    intro x hx
    rcases List.mem_append.1 hx with h | h
    · exact ht.2.2.2 x h
    · exact ih.2.2.2 x h
theorem write_ev (N K L : Int) (next : List (List Int)) (out : List (List (List Int))) (st : Int) (T : TOK2 N K L next out st) (w : List Int) (hl : w.length ≤ 1000) (hw : ∀ c ∈ w, 0 ≤ c ∧ c < K) (s : Int) (h0 : 0 ≤ s) (h1 : s < N) :
    Ev (fun k => Zg1.f k N K L next out st s w) (wrun next out s w) := by
  unfold Zg1.f
  refine Ev.loop (L := fun k i (z : Int × List Int) => Zg1.l0 k z.1 z.2 w (w.length : Int) i N K L next out st) (n := w.length) (fun i z => 0 ≤ z.1 ∧ z.1 < N ∧ (z.2.length : Int) ≤ 4 * i ∧ wrun next out s w = (z.2 ++ (wrun next out z.1 (w.drop i.toNat)).1, (wrun next out z.1 (w.drop i.toNat)).2)) ?_ ?_ 0 (s, []) (Int.le_refl _) (by omega) ⟨h0, h1, by simp, by simp⟩
  · rintro ⟨t, acc⟩ ⟨_, _, _, h⟩
    rw [Int.toNat_natCast, List.drop_length] at h
    simp only [wrun, List.append_nil] at h
    refine Ev.step (fun k => Zg1.l0.eq_2 _ _ _ _ _ _ _ _ _ _ _ k) ?_
    simp (disch := omega) only [if_neg]
    rw [h]; exact Ev.now _
  · rintro i ⟨t, acc⟩ h2 h3 ⟨g0, g1, g2, h⟩
    right
    replace g0 : 0 ≤ t := g0
    replace g1 : t < N := g1
    replace g2 : (acc.length : Int) ≤ 4 * i := g2
    replace h : wrun next out s w = (acc ++ (wrun next out t (w.drop i.toNat)).1, (wrun next out t (w.drop i.toNat)).2) := h
    have hc := hw _ (rd_mem h2 h3)
    have hr := T.row g0 g1
    have ht := T.to g0 g1 hc.1 hc.2
    rw [rd_cons h2 h3] at h
    simp only [wrun] at h
    refine ⟨(wto next t (rd w i), acc ++ wout out t (rd w i)), ⟨ht.1, ht.2.1, by simp only [List.length_append]; push_cast; omega, by rw [h, List.append_assoc]⟩, ?_⟩
    intro hk
    refine Ev.step (fun k => Zg1.l0.eq_2 _ _ _ _ _ _ _ _ _ _ _ k) ?_
    have hlim : acc.length + (Zj (Zm out t) (rd w i)).length < 17592186044416 := by have := ht.2.2.1; unfold wout at this; omega
    simp (disch := omega) only [if_pos, if_pos hlim, w64]
    exact hk
theorem Writes_ev (N K L : Int) (next : List (List Int)) (out : List (List (List Int))) (st : Int) (T : TOK2 N K L next out st) (w : List Int) (hl : w.length ≤ 1000) (hw : ∀ c ∈ w, 0 ≤ c ∧ c < K) (s : Int) (h0 : 0 ≤ s) (h1 : s < N) :
    Ev (fun k => Zh1.f k N K L next out st s w) (wrun next out s w) := by
  unfold Zh1.f
  refine Ev.loop (L := fun k i (z : Int × List Int) => Zh1.l0 k z.1 z.2 w (w.length : Int) i N K L next out st) (n := w.length) (fun i z => 0 ≤ z.1 ∧ z.1 < N ∧ (z.2.length : Int) ≤ 4 * i ∧ wrun next out s w = (z.2 ++ (wrun next out z.1 (w.drop i.toNat)).1, (wrun next out z.1 (w.drop i.toNat)).2)) ?_ ?_ 0 (s, []) (Int.le_refl _) (by omega) ⟨h0, h1, by simp, by simp⟩
  · rintro ⟨t, acc⟩ ⟨_, _, _, h⟩
    rw [Int.toNat_natCast, List.drop_length] at h
    simp only [wrun, List.append_nil] at h
    refine Ev.step (fun k => Zh1.l0.eq_2 _ _ _ _ _ _ _ _ _ _ _ k) ?_
    simp (disch := omega) only [if_neg]
    rw [h]; exact Ev.now _
  · rintro i ⟨t, acc⟩ h2 h3 ⟨g0, g1, g2, h⟩
    right
    replace g0 : 0 ≤ t := g0
    replace g1 : t < N := g1
    replace g2 : (acc.length : Int) ≤ 4 * i := g2
    replace h : wrun next out s w = (acc ++ (wrun next out t (w.drop i.toNat)).1, (wrun next out t (w.drop i.toNat)).2) := h
    have hc := hw _ (rd_mem h2 h3)
    have hr := T.row g0 g1
    have ht := T.to g0 g1 hc.1 hc.2
    rw [rd_cons h2 h3] at h
    simp only [wrun] at h
    refine ⟨(wto next t (rd w i), acc ++ wout out t (rd w i)), ⟨ht.1, ht.2.1, by simp only [List.length_append]; push_cast; omega, by rw [h, List.append_assoc]⟩, ?_⟩
    intro hk
    refine Ev.step (fun k => Zh1.l0.eq_2 _ _ _ _ _ _ _ _ _ _ _ k) ?_
    have hlim : acc.length + (Zj (Zm out t) (rd w i)).length < 17592186044416 := by have := ht.2.2.1; unfold wout at this; omega
    simp (disch := omega) only [if_pos, if_pos hlim, w64]
    exact hk
section
variable (NB K : Int) (nA nB : List (List Int)) (oA oB : List (List (List Int)))
def cellT (i j s : Int) : List Int × Int := wrun nB oB j (wout oA i s)
def thRow (i j : Int) : Nat → Option (List Int × List (List Int))
  | 0 => some ([], [])
  | n + 1 => (thRow i j n).bind fun p => if (cellT nB oA oB i j n).1.length > 4 then none else some (p.1 ++ [wto nA i n * NB + (cellT nB oA oB i j n).2], p.2 ++ [(cellT nB oA oB i j n).1])
def thAll : Nat → Option (List (List Int) × List (List (List Int)))
  | 0 => some ([], [])
  | p + 1 => (thAll p).bind fun x => (thRow NB nA nB oA oB ((p : Int) / NB) ((p : Int) % NB) K.toNat).bind fun y => some (x.1 ++ [y.1], x.2 ++ [y.2])
theorem thRow_none {i j : Int} : ∀ (d n : Nat), thRow NB nA nB oA oB i j n = none → thRow NB nA nB oA oB i j (n + d) = none
  | 0, _, h => h
  | d + 1, n, h => by
    show (thRow NB nA nB oA oB i j (n + d)).bind _ = none
    rw [thRow_none d n h]; rfl
theorem thAll_none : ∀ (d n : Nat), thAll NB K nA nB oA oB n = none → thAll NB K nA nB oA oB (n + d) = none
  | 0, _, h => h
  | d + 1, n, h => by
    show (thAll NB K nA nB oA oB (n + d)).bind _ = none
    rw [thAll_none d n h]; rfl
theorem thRow_len {i j : Int} : ∀ (n : Nat) (p : List Int × List (List Int)), thRow NB nA nB oA oB i j n = some p → p.1.length = n ∧ p.2.length = n ∧ ∀ x ∈ p.2, x.length ≤ 4
  | 0, p, h => by
    obtain rfl : ([], []) = p := Option.some.inj h
    exact ⟨rfl, rfl, fun x hx => by simp at hx⟩
  | n + 1, p, h => by
    have h : (thRow NB nA nB oA oB i j n).bind _ = some p := h
    obtain ⟨q, h1, h2⟩ := Option.bind_eq_some_iff.1 h
    have ih := thRow_len n q h1
    split at h2
    · simp at h2
    · rename_i c
      obtain rfl := Option.some.inj h2
      refine ⟨by simp [ih.1], by simp [ih.2.1], fun x hx => ?_⟩
      rcases List.mem_append.1 hx with hx | hx
      · exact ih.2.2 x hx
      · rw [List.mem_singleton] at hx; subst hx; omega
theorem thAll_len : ∀ (n : Nat) (p : List (List Int) × List (List (List Int))), thAll NB K nA nB oA oB n = some p → p.1.length = n ∧ p.2.length = n ∧ (∀ x ∈ p.1, x.length = K.toNat) ∧ ∀ x ∈ p.2, x.length = K.toNat ∧ ∀ y ∈ x, y.length ≤ 4
  | 0, p, h => by
    obtain rfl : ([], []) = p := Option.some.inj h
    exact ⟨rfl, rfl, fun x hx => by simp at hx, fun x hx => by simp at hx⟩
  | n + 1, p, h => by
    have h : (thAll NB K nA nB oA oB n).bind _ = some p := h
    obtain ⟨q, h1, h2⟩ := Option.bind_eq_some_iff.1 h
    obtain ⟨y, h3, h4⟩ := Option.bind_eq_some_iff.1 h2
    have ih := thAll_len n q h1
    have hy := thRow_len NB nA nB oA oB _ _ h3
    obtain rfl := Option.some.inj h4
    refine ⟨by simp [ih.1], by simp [ih.2.1], fun x hx => ?_, fun x hx => ?_⟩
    · rcases List.mem_append.1 hx with hx | hx
      · exact ih.2.2.1 x hx
      · rw [List.mem_singleton] at hx; subst hx; exact hy.1
    · rcases List.mem_append.1 hx with hx | hx
      · exact ih.2.2.2 x hx
      · rw [List.mem_singleton] at hx; subst hx; exact ⟨hy.2.1, hy.2.2⟩
end
theorem divmod {i j n : Int} (j0 : 0 ≤ j) (j1 : j < n) : (i * n + j) / n = i ∧ (i * n + j) % n = j := by
  have hn : n ≠ 0 := by omega
  rw [Int.add_comm]
  refine ⟨?_, ?_⟩
  · rw [Int.add_mul_ediv_right _ _ hn, Int.ediv_eq_zero_of_lt j0 j1]; omega
  · rw [Int.add_mul_emod_self_right, Int.emod_eq_of_lt j0 j1]
section
variable {NA KA LA sA NB KB LB sB : Int} {nA nB : List (List Int)} {oA oB : List (List (List Int))} (TA : TOK2 NA KA LA nA oA sA) (TB : TOK2 NB KB LB nB oB sB) (a0 : 1 ≤ NA) (a1 : NA ≤ 7) (b0 : 1 ≤ NB) (b1 : NB ≤ 7) (k0 : 0 ≤ KA) (k1 : KA ≤ 3) (hL : LA = KB)
include TA TB a0 a1 b0 b1 k0 k1 hL
theorem cellT_ok {i j s : Int} (i0 : 0 ≤ i) (i1 : i < NA) (j0 : 0 ≤ j) (j1 : j < NB) (s0 : 0 ≤ s) (s1 : s < KA) : (wout oA i s).length ≤ 4 ∧ (∀ c ∈ wout oA i s, 0 ≤ c ∧ c < KB) ∧ 0 ≤ (cellT nB oA oB i j s).2 ∧ (cellT nB oA oB i j s).2 < NB ∧ (cellT nB oA oB i j s).1.length ≤ 16 ∧ 0 ≤ wto nA i s ∧ wto nA i s < NA := by
  have t := TA.to i0 i1 s0 s1
  rw [hL] at t
  have w := wrun_ok TB (wout oA i s) j j0 j1 t.2.2.2
  exact ⟨t.2.2.1, t.2.2.2, w.1, w.2.1, by have := w.2.2.1; unfold cellT; omega, t.1, t.2.1⟩
theorem small_mul {x y : Int} (x0 : 0 ≤ x) (x1 : x < NA) (y0 : 0 ≤ y) (y1 : y < NB) : 0 ≤ x * NB ∧ x * NB + y < NA * NB ∧ NA * NB ≤ 49 := by
  have h1 := Int.mul_le_mul_of_nonneg_right (show x + 1 ≤ NA by omega) (show 0 ≤ NB by omega)
  rw [Int.add_mul] at h1
  have h2 := Int.mul_nonneg x0 (show 0 ≤ NB by omega)
  have h3 : NA * NB ≤ 7 * 7 := Int.mul_le_mul a1 b1 (by omega) (by omega)
  exact ⟨h2, by omega, by omega⟩
def resT (NA KA LB sA NB sB : Int) (nA nB : List (List Int)) (oA oB : List (List (List Int))) {β : Type} (ok bad : β) : Int × Int × Int × List (List Int) × List (List (List Int)) × Int × β :=
  match thAll NB KA nA nB oA oB (NA * NB).toNat with
  | none => (0, 0, 0, [], [], 0, bad)
  | some p => (NA * NB, KA, LB, p.1, p.2, sA * NB + sB, ok)
theorem fail_row {β : Type} {ok bad : β} {i j : Int} {n : Nat} (i0 : 0 ≤ i) (i1 : i < NA) (j0 : 0 ≤ j) (j1 : j < NB) (hn : n ≤ KA.toNat) (h : thRow NB nA nB oA oB i j n = none) : resT NA KA LB sA NB sB nA nB oA oB ok bad = (0, 0, 0, [], [], 0, bad) := by
  have m := small_mul TA TB a0 a1 b0 b1 k0 k1 hL i0 i1 j0 j1
  have h1 := thRow_none NB nA nB oA oB (KA.toNat - n) n h
  rw [show n + (KA.toNat - n) = KA.toNat by omega] at h1
  have dm := divmod (i := i) (n := NB) j0 j1
  have h2 : thAll NB KA nA nB oA oB ((i * NB + j).toNat + 1) = none := by
    show (thAll NB KA nA nB oA oB (i * NB + j).toNat).bind _ = none
    rw [show (((i * NB + j).toNat : Nat) : Int) = i * NB + j by omega, dm.1, dm.2, h1]
    cases thAll NB KA nA nB oA oB (i * NB + j).toNat <;> rfl
  have h3 := thAll_none NB KA nA nB oA oB ((NA * NB).toNat - ((i * NB + j).toNat + 1)) _ h2
  rw [show (i * NB + j).toNat + 1 + ((NA * NB).toNat - ((i * NB + j).toNat + 1)) = (NA * NB).toNat by omega] at h3
  unfold resT; rw [h3]
theorem next_cell {i j s : Int} {p : List Int × List (List Int)} (s0 : 0 ≤ s) (h : thRow NB nA nB oA oB i j s.toNat = some p) :
    thRow NB nA nB oA oB i j (s + 1).toNat = if (cellT nB oA oB i j s).1.length > 4 then none else some (p.1 ++ [wto nA i s * NB + (cellT nB oA oB i j s).2], p.2 ++ [(cellT nB oA oB i j s).1]) := by
  rw [show (s + 1).toNat = s.toNat + 1 by omega]
  show (thRow NB nA nB oA oB i j s.toNat).bind _ = _
  rw [h, Option.bind_some, show ((s.toNat : Nat) : Int) = s by omega]
theorem next_row {i j : Int} {x : List (List Int) × List (List (List Int))} {y : List Int × List (List Int)} (j0 : 0 ≤ j) (j1 : j < NB) (h0 : 0 ≤ i * NB) (h : thAll NB KA nA nB oA oB (i * NB + j).toNat = some x) (hy : thRow NB nA nB oA oB i j KA.toNat = some y) :
    thAll NB KA nA nB oA oB (i * NB + j + 1).toNat = some (x.1 ++ [y.1], x.2 ++ [y.2]) := by
  have dm := divmod (i := i) (n := NB) j0 j1
  rw [show (i * NB + j + 1).toNat = (i * NB + j).toNat + 1 by omega]
  show (thAll NB KA nA nB oA oB (i * NB + j).toNat).bind _ = _
  rw [h, Option.bind_some, show (((i * NB + j).toNat : Nat) : Int) = i * NB + j by omega, dm.1, dm.2, hy]; rfl
theorem then_row {i j : Int} {x : List (List Int) × List (List (List Int))} (i0 : 0 ≤ i) (i1 : i < NA) (j0 : 0 ≤ j) (j1 : j < NB) (hx : thAll NB KA nA nB oA oB (i * NB + j).toNat = some x)
    (he : ∀ x, thAll NB KA nA nB oA oB (i * NB + (j + 1)).toNat = some x → Ev (fun k => Zs.l1 k i NA i NB (j + 1) NA KA LA nA oA sA NB KB LB nB oB sB (NA * NB) KA LB x.1 x.2 (sA * NB + sB)) (resT NA KA LB sA NB sB nA nB oA oB (0 : Int) 1)) :
    Ev (fun k => Zs.l2 k i j [] [] NA i NB j KA 0 NA KA LA nA oA sA NB KB LB nB oB sB (NA * NB) KA LB x.1 x.2 (sA * NB + sB)) (resT NA KA LB sA NB sB nA nB oA oB (0 : Int) 1) := by
  have m := small_mul TA TB a0 a1 b0 b1 k0 k1 hL i0 i1 j0 j1
  have hxl := thAll_len NB KA nA nB oA oB _ _ hx
  refine Ev.loopc (σ := List Int × List (List Int)) (L := fun k s p => Zs.l2 k i j p.1 p.2 NA i NB j KA s NA KA LA nA oA sA NB KB LB nB oB sB (NA * NB) KA LB x.1 x.2 (sA * NB + sB)) (n := KA)
    (fun s p => thRow NB nA nB oA oB i j s.toNat = some p) ?_ ?_ 0 ([], []) (Int.le_refl _) k0 rfl
  · intro p hp
    refine Ev.step (fun k => Zs.l2.eq_2 _ _ _ _ _ _ _ _ _ _ _ _ _ _ _ _ _ _ _ _ _ _ _ _ _ _ _ _ k) ?_
    refine Ev.neg (by omega) ?_
    simp only [Option.bind_some, List.length_singleton]
    rw [w64 (x := j + 1) (by omega) (by omega)]
    refine Ev.pos (by omega) (Ev.pos (by omega) (he (x.1 ++ [p.1], x.2 ++ [p.2]) ?_))
    rw [show i * NB + (j + 1) = i * NB + j + 1 by omega]
    exact next_row TA TB a0 a1 b0 b1 k0 k1 hL j0 j1 m.1 hx hp
  · intro s p s0 s1 hp hn
    have hpl := thRow_len NB nA nB oA oB _ _ hp
    have c := cellT_ok TA TB a0 a1 b0 b1 k0 k1 hL i0 i1 j0 j1 s0 s1
    have r := TA.row i0 i1
    have m2 := small_mul TA TB a0 a1 b0 b1 k0 k1 hL c.2.2.2.2.2.1 c.2.2.2.2.2.2 c.2.2.1 c.2.2.2.1
    have nc := next_cell TA TB a0 a1 b0 b1 k0 k1 hL s0 hp
    refine Ev.step (fun k => Zs.l2.eq_2 _ _ _ _ _ _ _ _ _ _ _ _ _ _ _ _ _ _ _ _ _ _ _ _ _ _ _ _ k) ?_
    refine Ev.pos s1 (Ev.pos i0 (Ev.pos r.2.1 (Ev.pos s0 (Ev.pos (by omega) ?_))))
    refine Ev.bind (write_ev NB KB LB nB oB sB TB (wout oA i s) (by omega) c.2.1 j j0 j1) ?_
    by_cases q : (cellT nB oA oB i j s).1.length > 4
    · rw [if_pos q] at nc
      refine Ev.pos (show ((cellT nB oA oB i j s).1.length : Int) > 4 by omega) (Ev.val ?_)
      exact (fail_row TA TB a0 a1 b0 b1 k0 k1 hL i0 i1 j0 j1 (by omega) nc).symm
    · rw [if_neg q] at nc
      refine Ev.neg (show ¬ ((cellT nB oA oB i j s).1.length : Int) > 4 by omega) (Ev.pos (by omega) (Ev.pos (by omega) ?_))
      simp only [Option.bind_some, List.length_singleton]
      refine Ev.pos (by omega) (Ev.pos (by omega) ?_)
      rw [w64 (x := s + 1) (by omega) (by omega)]
      have e1 : wrap64 (wrap64 (rd (Zj nA i) s * NB) + (wrun nB oB j (wout oA i s)).2) = wto nA i s * NB + (cellT nB oA oB i j s).2 := by
        show wrap64 (wrap64 (wto nA i s * NB) + (cellT nB oA oB i j s).2) = _
        rw [w64 (x := wto nA i s * NB) (by omega) (by omega), w64 (by omega) (by omega)]
      rw [e1]
      exact hn _ nc
theorem then_ev (hS : sA * NB + sB = sA * NB + sB) : Ev (fun k => Zs.l0 k NA 0 NA KA LA nA oA sA NB KB LB nB oB sB (NA * NB) KA LB [] [] (sA * NB + sB)) (resT NA KA LB sA NB sB nA nB oA oB (0 : Int) 1) := by
  refine Ev.loopc (σ := List (List Int) × List (List (List Int))) (L := fun k i x => Zs.l0 k NA i NA KA LA nA oA sA NB KB LB nB oB sB (NA * NB) KA LB x.1 x.2 (sA * NB + sB)) (n := NA)
    (fun i x => thAll NB KA nA nB oA oB (i * NB).toNat = some x) ?_ ?_ 0 ([], []) (Int.le_refl _) (by omega) (by rw [Int.zero_mul]; rfl)
  · intro x hx
    refine Ev.step (fun k => Zs.l0.eq_2 _ _ _ _ _ _ _ _ _ _ _ _ _ _ _ _ _ _ _ _ k) ?_
    refine Ev.neg (by omega) (Ev.val ?_)
    unfold resT; rw [hx]
  · intro i x i0 i1 hx hn
    refine Ev.step (fun k => Zs.l0.eq_2 _ _ _ _ _ _ _ _ _ _ _ _ _ _ _ _ _ _ _ _ k) ?_
    refine Ev.pos i1 ?_
    refine Ev.loopc (σ := List (List Int) × List (List (List Int))) (L := fun k j x => Zs.l1 k i NA i NB j NA KA LA nA oA sA NB KB LB nB oB sB (NA * NB) KA LB x.1 x.2 (sA * NB + sB)) (n := NB)
      (fun j x => thAll NB KA nA nB oA oB (i * NB + j).toNat = some x) ?_ ?_ 0 x (Int.le_refl _) (by omega) (by rw [Int.add_zero]; exact hx)
    · intro x hx
      refine Ev.step (fun k => Zs.l1.eq_2 _ _ _ _ _ _ _ _ _ _ _ _ _ _ _ _ _ _ _ _ _ _ _ k) ?_
      rw [w64 (x := i + 1) (by omega) (by omega)]
      refine Ev.neg (by omega) (hn x ?_)
      rw [Int.add_mul, Int.one_mul]; exact hx
    · intro j x j0 j1 hx hn2
      refine Ev.step (fun k => Zs.l1.eq_2 _ _ _ _ _ _ _ _ _ _ _ _ _ _ _ _ _ _ _ _ _ _ _ k) ?_
      exact Ev.pos j1 (then_row TA TB a0 a1 b0 b1 k0 k1 hL i0 i1 j0 j1 hx hn2)
end
section
variable {NA KA LA sA NB KB LB sB : Int} {nA nB : List (List Int)} {oA oB : List (List (List Int))} (TA : TOK2 NA KA LA nA oA sA) (TB : TOK2 NB KB LB nB oB sB) (a0 : 1 ≤ NA) (a1 : NA ≤ 7) (b0 : 1 ≤ NB) (b1 : NB ≤ 7) (k0 : 0 ≤ KA) (k1 : KA ≤ 3) (hL : LA = KB)
include TA TB a0 a1 b0 b1 k0 k1 hL
theorem rthen_row {i j p : Int} {x : List (List Int) × List (List (List Int))} (i0 : 0 ≤ i) (i1 : i < NA) (j0 : 0 ≤ j) (j1 : j < NB) (hp : p = i * NB + j) (hx : thAll NB KA nA nB oA oB p.toNat = some x)
    (he : ∀ x, thAll NB KA nA nB oA oB (p + 1).toNat = some x → Ev (fun k => Zv.l0 k (p + 1) NA KA LA nA oA sA NB KB LB nB oB sB (NA * NB) KA LB x.1 x.2 (sA * NB + sB)) (resT NA KA LB sA NB sB nA nB oA oB true false)) :
    Ev (fun k => Zv.l1 k p [] [] 0 NA KA LA nA oA sA NB KB LB nB oB sB (NA * NB) KA LB x.1 x.2 (sA * NB + sB)) (resT NA KA LB sA NB sB nA nB oA oB true false) := by
  have m := small_mul TA TB a0 a1 b0 b1 k0 k1 hL i0 i1 j0 j1
  have hxl := thAll_len NB KA nA nB oA oB _ _ hx
  have dm := divmod (i := i) (n := NB) j0 j1
  rw [← hp] at dm
  have ed : wrap64 (Int.tdiv p NB) = i := by rw [td (by omega), dm.1, w64 (by omega) (by omega)]
  have em : Int.tmod p NB = j := by rw [tm (by omega), dm.2]
  refine Ev.loopc (σ := List Int × List (List Int)) (L := fun k s q => Zv.l1 k p q.1 q.2 s NA KA LA nA oA sA NB KB LB nB oB sB (NA * NB) KA LB x.1 x.2 (sA * NB + sB)) (n := KA)
    (fun s q => thRow NB nA nB oA oB i j s.toNat = some q) ?_ ?_ 0 ([], []) (Int.le_refl _) k0 rfl
  · intro q hq
    refine Ev.step (fun k => Zv.l1.eq_2 _ _ _ _ _ _ _ _ _ _ _ _ _ _ _ _ _ _ _ _ _ _ k) ?_
    rw [w64 (x := p + 1) (by omega) (by omega)]
    refine Ev.neg (by omega) (Ev.pos (by omega) (Ev.pos (by omega) (he (x.1 ++ [q.1], x.2 ++ [q.2]) ?_)))
    rw [hp] at hx ⊢
    exact next_row TA TB a0 a1 b0 b1 k0 k1 hL j0 j1 m.1 hx hq
  · intro s q s0 s1 hq hn
    have hpl := thRow_len NB nA nB oA oB _ _ hq
    have c := cellT_ok TA TB a0 a1 b0 b1 k0 k1 hL i0 i1 j0 j1 s0 s1
    have r := TA.row i0 i1
    have m2 := small_mul TA TB a0 a1 b0 b1 k0 k1 hL c.2.2.2.2.2.1 c.2.2.2.2.2.2 c.2.2.1 c.2.2.2.1
    have nc := next_cell TA TB a0 a1 b0 b1 k0 k1 hL s0 hq
    refine Ev.step (fun k => Zv.l1.eq_2 _ _ _ _ _ _ _ _ _ _ _ _ _ _ _ _ _ _ _ _ _ _ k) ?_
    rw [ed, em]
    refine Ev.pos s1 (Ev.neg (by omega) (Ev.pos i0 (Ev.pos r.2.1 (Ev.pos s0 (Ev.pos (by omega) ?_)))))
    refine Ev.bind (Writes_ev NB KB LB nB oB sB TB (wout oA i s) (by omega) c.2.1 j j0 j1) ?_
    by_cases z : (cellT nB oA oB i j s).1.length > 4
    · rw [if_pos z] at nc
      refine Ev.pos (show ((cellT nB oA oB i j s).1.length : Int) > 4 by omega) (Ev.val ?_)
      exact (fail_row TA TB a0 a1 b0 b1 k0 k1 hL i0 i1 j0 j1 (by omega) nc).symm
    · rw [if_neg z] at nc
      refine Ev.neg (show ¬ ((cellT nB oA oB i j s).1.length : Int) > 4 by omega) (Ev.pos (by omega) (Ev.pos (by omega) ?_))
      refine Ev.pos (by omega) (Ev.pos (by omega) ?_)
      rw [w64 (x := s + 1) (by omega) (by omega)]
      have e1 : wrap64 (wrap64 (rd (Zj nA i) s * NB) + (wrun nB oB j (wout oA i s)).2) = wto nA i s * NB + (cellT nB oA oB i j s).2 := by
        show wrap64 (wrap64 (wto nA i s * NB) + (cellT nB oA oB i j s).2) = _
        rw [w64 (x := wto nA i s * NB) (by omega) (by omega), w64 (by omega) (by omega)]
      rw [e1]
      exact hn _ nc
theorem rthen_ev : Ev (fun k => Zv.f k NA KA LA nA oA sA NB KB LB nB oB sB) (resT NA KA LB sA NB sB nA nB oA oB true false) := by
  have m := small_mul TA TB a0 a1 b0 b1 k0 k1 hL TA.s0 TA.s1 TB.s0 TB.s1
  have sB0 := TB.s0
  unfold Zv.f
  rw [w64 (x := NA * NB) (by omega) (by omega), w64 (x := sA * NB) (by omega) (by omega), w64 (x := sA * NB + sB) (by omega) (by omega)]
  refine Ev.loopc (σ := List (List Int) × List (List (List Int))) (L := fun k p x => Zv.l0 k p NA KA LA nA oA sA NB KB LB nB oB sB (NA * NB) KA LB x.1 x.2 (sA * NB + sB)) (n := NA * NB)
    (fun p x => thAll NB KA nA nB oA oB p.toNat = some x) ?_ ?_ 0 ([], []) (Int.le_refl _) (by omega) rfl
  · intro x hx
    refine Ev.step (fun k => Zv.l0.eq_2 _ _ _ _ _ _ _ _ _ _ _ _ _ _ _ _ _ _ _ k) ?_
    refine Ev.neg (by omega) (Ev.val ?_)
    unfold resT; rw [hx]
  · intro p x p0 p1 hx hn
    refine Ev.step (fun k => Zv.l0.eq_2 _ _ _ _ _ _ _ _ _ _ _ _ _ _ _ _ _ _ _ k) ?_
    have hb : NB ≠ 0 := by omega
    have j0 := Int.emod_nonneg p hb
    have j1 := Int.emod_lt_of_pos p (show 0 < NB by omega)
    have hp : p = p / NB * NB + p % NB := by have := Int.mul_ediv_add_emod p NB; rw [Int.mul_comm] at this; omega
    have i0 : 0 ≤ p / NB := Int.ediv_nonneg p0 (by omega)
    have i1 : p / NB < NA := Int.ediv_lt_of_lt_mul (by omega) p1
    exact Ev.pos p1 (rthen_row TA TB a0 a1 b0 b1 k0 k1 hL i0 i1 j0 j1 hp hx hn)
end
theorem TSame_refl (N K L : Int) (n : List (List Int)) (o : List (List (List Int))) (s : Int) (h1 : n.length ≤ 100) (h2 : ∀ x ∈ n, x.length ≤ 100) (h3 : o.length ≤ 100) (h4 : ∀ x ∈ o, x.length ≤ 100 ∧ ∀ y ∈ x, y.length ≤ 100) : Ev (fun k => Zy.f k N K L n o s N K L n o s) true := by
  unfold Zy.f
  refine Ev.pos rfl (Ev.pos rfl (Ev.pos rfl (Ev.pos rfl (Ev.bind (Lists_refl n (by omega) (fun x hx => by have := h2 x hx; omega)) (Ev.pos rfl ?_)))))
  refine Ev.step (fun k => Zy.j0.eq_2 _ _ _ _ _ _ _ _ _ _ _ _ _ k) ?_
  refine Ev.neg (by simp) ?_
  refine Ev.loopc (σ := Unit) (L := fun k i _ => Zy.l0 k i N K L n o s N K L n o s) (n := (o.length : Int)) (fun _ _ => True) ?_ ?_ 0 () (Int.le_refl _) (by omega) trivial
  · intro _ _
    refine Ev.step (fun k => Zy.l0.eq_2 _ _ _ _ _ _ _ _ _ _ _ _ _ k) ?_
    exact Ev.neg (by omega) (Ev.now _)
  · intro i _ i0 i1 _ hn
    have q := h4 _ (rdW_mem i0 i1)
    refine Ev.step (fun k => Zy.l0.eq_2 _ _ _ _ _ _ _ _ _ _ _ _ _ k) ?_
    rw [w64 (x := i + 1) (by omega) (by omega)]
    exact Ev.pos i1 (Ev.pos i0 (Ev.pos i1 (Ev.bind (Lists_refl _ (by omega) (fun x hx => by have := q.2 x hx; omega)) (Ev.pos rfl (hn () trivial)))))
theorem fail_j4 (c : Int) (hc : c ≠ 0) (N K L : Int) (n : List (List Int)) (o : List (List (List Int))) (s N2 K2 L2 : Int) (n2 : List (List Int)) (o2 : List (List (List Int))) (s2 : Int) : Ev (fun k => Zt.j4 k c c N K L n o s N2 K2 L2 n2 o2 s2 0 0 0 [] [] 0) true := by
  refine Ev.step (fun k => Zt.j4.eq_2 _ _ _ _ _ _ _ _ _ _ _ _ _ _ _ _ _ _ _ _ k) ?_
  exact Ev.neg hc (Ev.pos rfl (Ev.bind (TSame_refl 0 0 0 [] [] 0 (by simp) (by simp) (by simp) (by simp)) (Ev.now _)))
theorem fail_j0 (c : Int) (hc : c ≠ 0) (N K L : Int) (n : List (List Int)) (o : List (List (List Int))) (s N2 K2 L2 : Int) (n2 : List (List Int)) (o2 : List (List (List Int))) (s2 : Int) : Ev (fun k => Zt.j0 k c c N K L n o s N2 K2 L2 n2 o2 s2 0 0 0 [] [] 0) true := by
  refine Ev.step (fun k => Zt.j0.eq_2 _ _ _ _ _ _ _ _ _ _ _ _ _ _ _ _ _ _ _ _ k) ?_
  refine Ev.neg hc ?_
  refine Ev.step (fun k => Zt.j1.eq_2 _ _ _ _ _ _ _ _ _ _ _ _ _ _ _ _ _ _ _ _ _ k) ?_
  refine Ev.neg (by simp) ?_
  refine Ev.step (fun k => Zt.j2.eq_2 _ _ _ _ _ _ _ _ _ _ _ _ _ _ _ _ _ _ _ _ k) ?_
  refine Ev.neg hc ?_
  refine Ev.step (fun k => Zt.j3.eq_2 _ _ _ _ _ _ _ _ _ _ _ _ _ _ _ _ _ _ _ _ _ k) ?_
  exact Ev.neg (by simp) (fail_j4 c hc _ _ _ _ _ _ _ _ _ _ _ _)
theorem tcode_sizes {N K L : Int} {next : List (List Int)} {out : List (List (List Int))} {st : Int} (h : tcode N K L next out st = 0) : 1 ≤ N ∧ N ≤ 7 ∧ 1 ≤ K ∧ K ≤ 3 := by
  unfold tcode at h
  split at h
  · omega
  · omega
theorem TurnerThens : Zt.Pure := by
  unfold Zt.Pure
  intro NA KA LA nA oA sA NB KB LB nB oB sB
  intros
  apply Ev.rounds
  unfold Zt.f Zs.f
  have p1 := tcheck_ev NA KA LA nA oA sA
  have p2 := tcheck_ev NB KB LB nB oB sB
  have r1 := rturn_ev NA KA LA nA oA sA
  have r2 := rturn_ev NB KB LB nB oB sB
  by_cases c : tcode NA KA LA nA oA sA = 0
  · rw [c] at p1 r1
    have TA := tcode_0 c
    have za := tcode_sizes c
    by_cases d : tcode NB KB LB nB oB sB = 0
    · rw [d] at p2 r2
      have TB := tcode_0 d
      have zb := tcode_sizes d
      have hmul : 0 ≤ NA * NB ∧ NA * NB ≤ 49 := by
        have h3 : NA * NB ≤ 7 * 7 := Int.mul_le_mul za.2.1 zb.2.1 (by omega) (by omega)
        exact ⟨Int.mul_nonneg (by omega) (by omega), by omega⟩
      by_cases hL : LA = KB
      · by_cases h7 : NA * NB > 7
        · refine Ev.bind (a := (0, 0, 0, [], [], 0, 1)) (Ev.bind p1 (Ev.pos rfl (Ev.bind p2 (Ev.pos rfl (Ev.pos hL (Ev.pos (by rw [w64 (by omega) (by omega)]; exact h7) (Ev.now _))))))) ?_
          refine Ev.bind r1 (Ev.pos rfl (Ev.bind r2 ?_))
          refine Ev.step (fun k => Zt.j0.eq_2 _ _ _ _ _ _ _ _ _ _ _ _ _ _ _ _ _ _ _ _ k) ?_
          refine Ev.pos rfl ?_
          refine Ev.step (fun k => Zt.j1.eq_2 _ _ _ _ _ _ _ _ _ _ _ _ _ _ _ _ _ _ _ _ _ k) ?_
          refine Ev.neg (by simpa using hL) ?_
          refine Ev.step (fun k => Zt.j2.eq_2 _ _ _ _ _ _ _ _ _ _ _ _ _ _ _ _ _ _ _ _ k) ?_
          refine Ev.pos rfl ?_
          refine Ev.step (fun k => Zt.j3.eq_2 _ _ _ _ _ _ _ _ _ _ _ _ _ _ _ _ _ _ _ _ _ k) ?_
          exact Ev.pos (by rw [w64 (by omega) (by omega)]; simpa using h7) (fail_j4 1 (by omega) _ _ _ _ _ _ _ _ _ _ _ _)
        · have ms := small_mul TA TB za.1 za.2.1 zb.1 zb.2.1 (by omega) za.2.2.2 hL TA.s0 TA.s1 TB.s0 TB.s1
          have sB0 := TB.s0
          have e1 := then_ev TA TB za.1 za.2.1 zb.1 zb.2.1 (by omega) za.2.2.2 hL rfl
          have e2 := rthen_ev TA TB za.1 za.2.1 zb.1 zb.2.1 (by omega) za.2.2.2 hL
          have w1 : wrap64 (NA * NB) = NA * NB := w64 (by omega) (by omega)
          have w2 : wrap64 (wrap64 (sA * NB) + sB) = sA * NB + sB := by rw [w64 (x := sA * NB) (by omega) (by omega), w64 (by omega) (by omega)]
          rw [w1, w2]
          refine Ev.bind (Ev.bind p1 (Ev.pos rfl (Ev.bind p2 (Ev.pos rfl (Ev.pos hL (Ev.neg h7 e1)))))) ?_
          refine Ev.bind r1 (Ev.pos rfl (Ev.bind r2 ?_))
          refine Ev.step (fun k => Zt.j0.eq_2 _ _ _ _ _ _ _ _ _ _ _ _ _ _ _ _ _ _ _ _ k) ?_
          refine Ev.pos rfl ?_
          refine Ev.step (fun k => Zt.j1.eq_2 _ _ _ _ _ _ _ _ _ _ _ _ _ _ _ _ _ _ _ _ _ k) ?_
          refine Ev.neg (by simpa using hL) ?_
          refine Ev.step (fun k => Zt.j2.eq_2 _ _ _ _ _ _ _ _ _ _ _ _ _ _ _ _ _ _ _ _ k) ?_
          refine Ev.pos rfl ?_
          refine Ev.step (fun k => Zt.j3.eq_2 _ _ _ _ _ _ _ _ _ _ _ _ _ _ _ _ _ _ _ _ _ k) ?_
          refine Ev.neg (by rw [w1]; simpa using h7) ?_
          refine Ev.step (fun k => Zt.j4.eq_2 _ _ _ _ _ _ _ _ _ _ _ _ _ _ _ _ _ _ _ _ k) ?_
          refine Ev.pos rfl (Ev.bind e2 ?_)
          cases h : thAll NB KA nA nB oA oB (NA * NB).toNat with
          | none =>
            have x1 : resT NA KA LB sA NB sB nA nB oA oB (0 : Int) 1 = (0, 0, 0, [], [], 0, 1) := by unfold resT; rw [h]
            have x2 : resT NA KA LB sA NB sB nA nB oA oB true false = (0, 0, 0, [], [], 0, false) := by unfold resT; rw [h]
            rw [x1, x2]
            exact Ev.neg (by simp) (Ev.pos rfl (Ev.bind (TSame_refl 0 0 0 [] [] 0 (by simp) (by simp) (by simp) (by simp)) (Ev.now _)))
          | some p =>
            have x1 : resT NA KA LB sA NB sB nA nB oA oB (0 : Int) 1 = (NA * NB, KA, LB, p.1, p.2, sA * NB + sB, 0) := by unfold resT; rw [h]
            have x2 : resT NA KA LB sA NB sB nA nB oA oB true false = (NA * NB, KA, LB, p.1, p.2, sA * NB + sB, true) := by unfold resT; rw [h]
            rw [x1, x2]
            have l := thAll_len NB KA nA nB oA oB _ _ h
            exact Ev.pos rfl (Ev.pos rfl (Ev.bind (TSame_refl _ _ _ p.1 p.2 _ (by omega) (fun x hx => by have := l.2.2.1 x hx; omega) (by omega) (fun x hx => by have := l.2.2.2 x hx; exact ⟨by omega, fun y hy => by have := this.2 y hy; omega⟩)) (Ev.now _)))
      · refine Ev.bind (a := (0, 0, 0, [], [], 0, 3)) (Ev.bind p1 (Ev.pos rfl (Ev.bind p2 (Ev.pos rfl (Ev.neg hL (Ev.now _)))))) ?_
        refine Ev.bind r1 (Ev.pos rfl (Ev.bind r2 ?_))
        refine Ev.step (fun k => Zt.j0.eq_2 _ _ _ _ _ _ _ _ _ _ _ _ _ _ _ _ _ _ _ _ k) ?_
        refine Ev.pos rfl ?_
        refine Ev.step (fun k => Zt.j1.eq_2 _ _ _ _ _ _ _ _ _ _ _ _ _ _ _ _ _ _ _ _ _ k) ?_
        refine Ev.pos (by simpa using hL) ?_
        refine Ev.step (fun k => Zt.j2.eq_2 _ _ _ _ _ _ _ _ _ _ _ _ _ _ _ _ _ _ _ _ k) ?_
        refine Ev.neg (by omega) ?_
        refine Ev.step (fun k => Zt.j3.eq_2 _ _ _ _ _ _ _ _ _ _ _ _ _ _ _ _ _ _ _ _ _ k) ?_
        exact Ev.neg (by simp) (fail_j4 3 (by omega) _ _ _ _ _ _ _ _ _ _ _ _)
    · refine Ev.bind (a := (0, 0, 0, [], [], 0, tcode NB KB LB nB oB sB)) (Ev.bind p1 (Ev.pos rfl (Ev.bind p2 (Ev.neg d (Ev.now _))))) ?_
      exact Ev.bind r1 (Ev.pos rfl (Ev.bind r2 (fail_j0 _ d _ _ _ _ _ _ _ _ _ _ _ _)))
  · refine Ev.bind (a := (0, 0, 0, [], [], 0, tcode NA KA LA nA oA sA)) (Ev.bind p1 (Ev.neg c (Ev.now _))) ?_
    exact Ev.bind r1 (Ev.neg c (fail_j0 _ c _ _ _ _ _ _ _ _ _ _ _ _))
end Go.Proofs.Ytlljiegdhelmiaa.Pure
