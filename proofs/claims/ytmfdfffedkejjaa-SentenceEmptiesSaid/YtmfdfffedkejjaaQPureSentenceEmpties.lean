/- The law SentenceEmpties as a statement over numbers and lists alone: it holds under the bounds that the statement names. -/
import Derived.Test.YtmfdfffedkejjaaQStatSentenceEmpties
set_option linter.unusedVariables false
set_option linter.unusedSimpArgs false
set_option linter.unusedSectionVars false
namespace Go.Proofs.Ytmfdfffedkejjaa.Pure
open Go.RowKit Go.Proofs.Ytmfdfffedkejjaa.PSentenceEmpties Go.Proofs.YtmfdfffedkejjaaW.PrintWords Go.Proofs.YtmfdfffedkejjaaW.PrintLast Go.Proofs.YtmfdfffedkejjaaW.PrintMore
theorem w64 {x : Int} (h0 : -9223372036854775808 ≤ x) (h1 : x ≤ 9223372036854775807) : wrap64 x = x := by unfold wrap64; omega
theorem Ev.pos {α : Type} {c : Prop} [Decidable c] {g f : Nat → Option α} {r : α} (h : c) (e : Ev g r) : Ev (fun k => if c then g k else f k) r := Ev.congr (fun k => by rw [if_pos h]) e
theorem Ev.neg {α : Type} {c : Prop} [Decidable c] {g f : Nat → Option α} {r : α} (h : ¬ c) (e : Ev f r) : Ev (fun k => if c then g k else f k) r := Ev.congr (fun k => by rw [if_neg h]) e
theorem Ev.val {α : Type} {r q : α} (h : r = q) : Ev (fun _ => some r) q := by subst h; exact Ev.now r
theorem rd_getElem {l : List Int} {i : Int} (h1 : i.toNat < l.length) : rd l i = l[i.toNat] := by simp [rd, List.getD_eq_getElem?_getD, List.getElem?_eq_getElem h1]
theorem drop_rd {l : List Int} {i : Int} (h0 : 0 ≤ i) (h1 : i < l.length) : l.drop i.toNat = rd l i :: l.drop (i + 1).toNat := by
  have h : i.toNat < l.length := by omega
  rw [rd_getElem h, List.drop_eq_getElem_cons h]; congr 2; omega
theorem rd_set_eq (l : List Int) (i : Int) (v : Int) (h0 : 0 ≤ i) (h1 : i < l.length) : rd (l.set i.toNat v) i = v := by
  simp [rd, List.getD_eq_getElem?_getD, List.getElem?_set, show i.toNat < l.length by omega]
theorem rd_set_ne (l : List Int) (i j : Int) (v : Int) (h0 : 0 ≤ i) (hj : 0 ≤ j) (h : j ≠ i) : rd (l.set i.toNat v) j = rd l j := by
  simp only [rd, List.getD_eq_getElem?_getD]
  rw [List.getElem?_set_ne (by omega)]
theorem rd_replicate (n : Nat) (v : Int) (j : Int) (h0 : 0 ≤ j) (h1 : j < n) : rd (List.replicate n v) j = v := by
  simp [rd, List.getD_eq_getElem?_getD, List.getElem?_replicate, show j.toNat < n by omega]
theorem u32_id {x : Int} (h0 : 0 ≤ x) (h1 : x ≤ 4294967295) : IntKind.u32.wrap x = x := by rw [IntKind.wrap_u32]; omega
theorem u32_or (a b : Nat) (ha : a < 2 ^ 32) (hb : b < 2 ^ 32) : Go.bits .or .u32 a b = ((a ||| b : Nat) : Int) :=
  (bits_nat .u32 32 (by decide) (fun n h0 h1 => u32_id h0 (by omega)) a b ha hb).2
theorem u32_and (a b : Nat) (ha : a < 2 ^ 32) (hb : b < 2 ^ 32) : Go.bits .and .u32 a b = ((a &&& b : Nat) : Int) :=
  (bits_nat .u32 32 (by decide) (fun n h0 h1 => u32_id h0 (by omega)) a b ha hb).1
theorem shl1 (n : Nat) (h : n < 32) : shl .u32 1 (n : Int) = ((2 ^ n : Nat) : Int) := by
  unfold shl
  have e : min ((n : Int)).toNat IntKind.u32.bits = n := by simp [IntKind.bits]; omega
  have h2 : 2 ^ n ≤ 2 ^ 31 := Nat.pow_le_pow_right (by omega) (by omega)
  rw [e, Int.one_mul, u32_id (by exact_mod_cast Nat.zero_le _) (by have : ((2 ^ n : Nat) : Int) ≤ 2 ^ 31 := by exact_mod_cast h2
                                                                   have e2 : ((2 : Int) ^ n) = ((2 ^ n : Nat) : Int) := by simp
                                                                   omega)]
  simp
theorem shrn (a n : Nat) (h : n < 32) : shr .u32 (a : Int) (n : Int) = ((a / 2 ^ n : Nat) : Int) := by
  unfold shr
  have e : min ((n : Int)).toNat IntKind.u32.bits = n := by simp [IntKind.bits]; omega
  rw [e]; simp
theorem bit_shr (a i : Nat) (ha : a < 2 ^ 32) (hi : i < 32) : (Go.bits .and .u32 (shr .u32 (a : Int) (i : Int)) 1 = 1) ↔ a.testBit i = true := by
  rw [shrn a i hi]
  have h1 : a / 2 ^ i < 2 ^ 32 := Nat.lt_of_le_of_lt (Nat.div_le_self _ _) ha
  have h2 := u32_and (a / 2 ^ i) 1 h1 (by decide)
  have h3 : ((1 : Nat) : Int) = 1 := rfl
  rw [h3] at h2
  rw [h2, Nat.and_one_is_mod, Nat.testBit_eq_decide_div_mod_eq]
  simp only [decide_eq_true_eq]; omega
theorem Ev.loop {σ ρ : Type} {L : Nat → Int → σ → Option ρ} {n : Int} {r : ρ} (I : Int → σ → Prop)
    (hend : ∀ s, I n s → Ev (fun k => L k n s) r)
    (hstep : ∀ i s, 0 ≤ i → i < n → I i s → Ev (fun k => L k i s) r ∨ ∃ s', I (i + 1) s' ∧ (Ev (fun k => L k (i + 1) s') r → Ev (fun k => L k i s) r)) :
    ∀ (i : Int) (s : σ), 0 ≤ i → i ≤ n → I i s → Ev (fun k => L k i s) r := by
  have key : ∀ (d : Nat) (i : Int) (s : σ), 0 ≤ i → i + d = n → I i s → Ev (fun k => L k i s) r := by
    intro d
    induction d with
    | zero => intro i s h0 h1 hI; obtain rfl : i = n := by omega
              exact hend s hI
    | succ d ih =>
      intro i s h0 h1 hI
      rcases hstep i s h0 (by omega) hI with h | ⟨s', h', h⟩
      · exact h
      · exact h (ih (i + 1) s' (by omega) (by omega) h')
  intro i s h0 h1 hI
  exact key (n - i).toNat i s h0 (by omega) hI
theorem rd_node {l : List S67} {i : Int} (h0 : 0 ≤ i) (h1 : i < l.length) : l.drop i.toNat = rd_T67 l i :: l.drop (i + 1).toNat := by
  have h : i.toNat < l.length := by omega
  have e : rd_T67 l i = l[i.toNat] := by simp [rd_T67, List.getD_eq_getElem?_getD, List.getElem?_eq_getElem h]
  rw [e, List.drop_eq_getElem_cons h]; congr 2; omega
def nodeErr (K i : Int) (x : S67) : Int :=
  if x.f0 < 1 ∨ x.f0 > 6 then 6 else if x.f0 = 3 ∧ (x.f1 < 0 ∨ x.f1 ≥ K) then 2 else if x.f0 ≥ 4 ∧ (x.f1 < 0 ∨ x.f1 ≥ i) then 2 else if (x.f0 = 4 ∨ x.f0 = 5) ∧ (x.f2 < 0 ∨ x.f2 ≥ i) then 2 else 0
def errL (K : Int) : Int → List S67 → Int
  | _, [] => 0
  | i, x :: l => if nodeErr K i x = 0 then errL K (i + 1) l else nodeErr K i x
theorem ahead_eq (a i : Int) : sentence_Right_1.f a i = some (decide (0 ≤ a ∧ a < i)) := by
  unfold sentence_Right_1.f
  by_cases h : a ≥ 0
  · simp [h]
  · simp [h]
theorem node_loop {L : Nat → Int → Option Int} {K : Int} {l : List S67}
    (hend : Ev (fun k => L k l.length) 0)
    (hstep : ∀ (i R : Int), 0 ≤ i → i < l.length → (nodeErr K i (rd_T67 l i) = 0 → Ev (fun k => L k (i + 1)) R) → (nodeErr K i (rd_T67 l i) ≠ 0 → R = nodeErr K i (rd_T67 l i)) → Ev (fun k => L k i) R) :
    Ev (fun k => L k 0) (errL K 0 l) := by
  refine Ev.loop (σ := Unit) (L := fun k i _ => L k i) (n := l.length) (fun i _ => errL K 0 l = errL K i (l.drop i.toNat)) ?_ ?_ 0 () (Int.le_refl _) (by omega) rfl
  · intro _ h
    rw [Int.toNat_natCast, List.drop_length] at h
    rw [h]; exact hend
  · intro i _ h0 h1 h
    rw [rd_node h0 h1] at h
    by_cases c : nodeErr K i (rd_T67 l i) = 0
    · right
      refine ⟨(), by rw [h]; simp only [errL, if_pos c], ?_⟩
      intro hr
      exact hstep i _ h0 h1 (fun _ => hr) (fun q => absurd c q)
    · left
      refine hstep i _ h0 h1 (fun q => absurd q c) (fun _ => ?_)
      rw [h]; simp only [errL, if_neg c]
theorem right_ev (K : Int) (l : List S67) (hl : l.length ≤ 1000) : Ev (fun k => sentence_Right.f k K l) (errL K 0 l) := by
  unfold sentence_Right.f
  refine node_loop (L := fun k i => sentence_Right.l0 k K l (l.length : Int) i) ?_ ?_
  · refine Ev.step (fun k => sentence_Right.l0.eq_2 _ _ _ _ k) ?_
    exact Ev.neg (by omega) (Ev.now _)
  · intro i R h0 h1 hok hno
    obtain ⟨x, hx⟩ : ∃ x, rd_T67 l i = x := ⟨_, rfl⟩
    rw [hx] at hok hno
    refine Ev.step (fun k => sentence_Right.l0.eq_2 _ _ _ _ k) ?_
    rw [hx]
    refine Ev.pos h1 (Ev.pos h0 (Ev.pos h1 ?_))
    have j1 : ∀ b : Bool, (b = true ↔ x.f0 = 1 ∨ x.f0 = 2) → Ev (fun k => sentence_Right.j1 k K l (l.length : Int) i x.f0 b i x.f0 x.f1 x.f2) R := by
      intro b hb
      refine Ev.step (fun k => sentence_Right.j1.eq_2 _ _ _ _ _ _ _ _ _ _ k) ?_
      rw [w64 (show -9223372036854775808 ≤ i + 1 by omega) (by omega), ahead_eq]
      by_cases c : b = true
      · refine Ev.pos c (hok ?_)
        have := hb.1 c
        unfold nodeErr
        rw [if_neg (by omega), if_neg (by omega), if_neg (by omega), if_neg (by omega)]
      · have hb2 : ¬ (x.f0 = 1 ∨ x.f0 = 2) := fun q => c (hb.2 q)
        refine Ev.neg c ?_
        by_cases c3 : x.f0 = 3
        · refine Ev.pos c3 ?_
          by_cases a : x.f1 < 0
          · have e : nodeErr K i x = 2 := by unfold nodeErr; rw [if_neg (by omega), if_pos (by omega)]
            refine Ev.pos a ?_
            rw [hno (by omega), e]; exact Ev.now _
          · refine Ev.neg a ?_
            by_cases a2 : x.f1 ≥ K
            · have e : nodeErr K i x = 2 := by unfold nodeErr; rw [if_neg (by omega), if_pos (by omega)]
              refine Ev.pos a2 ?_
              rw [hno (by omega), e]; exact Ev.now _
            · refine Ev.neg a2 (hok ?_)
              unfold nodeErr
              rw [if_neg (by omega), if_neg (by omega), if_neg (by omega), if_neg (by omega)]
        · refine Ev.neg c3 ?_
          by_cases c6 : x.f0 = 6
          · refine Ev.pos c6 ?_
            simp only [Option.bind_some]
            by_cases a : 0 ≤ x.f1 ∧ x.f1 < i
            · rw [decide_eq_true a]
              refine Ev.pos rfl (hok ?_)
              unfold nodeErr
              rw [if_neg (by omega), if_neg (by omega), if_neg (by omega), if_neg (by omega)]
            · have e : nodeErr K i x = 2 := by unfold nodeErr; rw [if_neg (by omega), if_neg (by omega), if_pos (by omega)]
              rw [decide_eq_false a]
              refine Ev.neg (by simp) ?_
              rw [hno (by omega), e]; exact Ev.now _
          · refine Ev.neg c6 ?_
            have j2 : ∀ b : Bool, (b = true ↔ x.f0 = 4 ∨ x.f0 = 5) → Ev (fun k => sentence_Right.j2 k K l (l.length : Int) i b i x.f0 x.f1 x.f2) R := by
              intro b hb3
              refine Ev.step (fun k => sentence_Right.j2.eq_2 _ _ _ _ _ _ _ _ _ k) ?_
              rw [w64 (show -9223372036854775808 ≤ i + 1 by omega) (by omega), ahead_eq, ahead_eq]
              by_cases d : b = true
              · have hb4 := hb3.1 d
                refine Ev.pos d ?_
                simp only [Option.bind_some]
                by_cases a : 0 ≤ x.f1 ∧ x.f1 < i
                · rw [decide_eq_true a]
                  refine Ev.pos rfl ?_
                  by_cases a2 : 0 ≤ x.f2 ∧ x.f2 < i
                  · rw [decide_eq_true a2]
                    refine Ev.pos rfl (hok ?_)
                    unfold nodeErr
                    rw [if_neg (by omega), if_neg (by omega), if_neg (by omega), if_neg (by omega)]
                  · have e : nodeErr K i x = 2 := by unfold nodeErr; rw [if_neg (by omega), if_neg (by omega), if_neg (by omega), if_pos (by omega)]
                    rw [decide_eq_false a2]
                    refine Ev.neg (by simp) ?_
                    rw [hno (by omega), e]; exact Ev.now _
                · have e : nodeErr K i x = 2 := by unfold nodeErr; rw [if_neg (by omega), if_neg (by omega), if_pos (by omega)]
                  rw [decide_eq_false a]
                  refine Ev.neg (by simp) ?_
                  rw [hno (by omega), e]; exact Ev.now _
              · have hb4 : ¬ (x.f0 = 4 ∨ x.f0 = 5) := fun q => d (hb3.2 q)
                have e : nodeErr K i x = 6 := by unfold nodeErr; rw [if_pos (by omega)]
                refine Ev.neg d ?_
                rw [hno (by omega), e]; exact Ev.now _
            by_cases c4 : x.f0 = 4
            · exact Ev.pos c4 (j2 _ (by simp [c4]))
            · exact Ev.neg c4 (j2 _ (by simp [c4]))
    by_cases c1 : x.f0 = 1
    · exact Ev.pos c1 (j1 _ (by simp [c1]))
    · exact Ev.neg c1 (j1 _ (by simp [c1]))
theorem rright_ev (K : Int) (l : List S67) (hl : l.length ≤ 1000) : Ev (fun k => coppicerref_Right.f k K l) (errL K 0 l) := by
  unfold coppicerref_Right.f
  refine node_loop (L := fun k i => coppicerref_Right.l0 k K l (l.length : Int) i) ?_ ?_
  · refine Ev.step (fun k => coppicerref_Right.l0.eq_2 _ _ _ _ k) ?_
    exact Ev.neg (by omega) (Ev.now _)
  · intro i R h0 h1 hok hno
    obtain ⟨x, hx⟩ : ∃ x, rd_T67 l i = x := ⟨_, rfl⟩
    rw [hx] at hok hno
    refine Ev.step (fun k => coppicerref_Right.l0.eq_2 _ _ _ _ k) ?_
    rw [hx]
    refine Ev.pos h1 (Ev.pos h0 (Ev.pos h1 ?_))
    have j1 : ∀ b : Bool, (b = true ↔ x.f0 < 1 ∨ x.f0 > 6) → Ev (fun k => coppicerref_Right.j1 k K i l (l.length : Int) i b x.f0 x.f1 x.f2) R := by
      intro b hb
      refine Ev.step (fun k => coppicerref_Right.j1.eq_2 _ _ _ _ _ _ _ _ _ k) ?_
      by_cases c : b = true
      · have := hb.1 c
        have e : nodeErr K i x = 6 := by unfold nodeErr; rw [if_pos (by omega)]
        refine Ev.pos c ?_
        rw [hno (by omega), e]; exact Ev.now _
      · have hb1 : ¬ (x.f0 < 1 ∨ x.f0 > 6) := fun q => c (hb.2 q)
        refine Ev.neg c ?_
        have j2 : ∀ b : Bool, (b = true ↔ x.f0 = 3 ∧ (x.f1 < 0 ∨ x.f1 ≥ K)) → Ev (fun k => coppicerref_Right.j2 k K i l (l.length : Int) i b x.f0 x.f1 x.f2) R := by
          intro b hb2
          refine Ev.step (fun k => coppicerref_Right.j2.eq_2 _ _ _ _ _ _ _ _ _ k) ?_
          by_cases c2 : b = true
          · have := hb2.1 c2
            have e : nodeErr K i x = 2 := by unfold nodeErr; rw [if_neg (by omega), if_pos (by omega)]
            refine Ev.pos c2 ?_
            rw [hno (by omega), e]; exact Ev.now _
          · have hb3 : ¬ (x.f0 = 3 ∧ (x.f1 < 0 ∨ x.f1 ≥ K)) := fun q => c2 (hb2.2 q)
            refine Ev.neg c2 ?_
            have j3 : ∀ b : Bool, (b = true ↔ x.f0 ≥ 4 ∧ (x.f1 < 0 ∨ x.f1 ≥ i)) → Ev (fun k => coppicerref_Right.j3 k K i l (l.length : Int) i b x.f0 x.f1 x.f2) R := by
              intro b hb4
              refine Ev.step (fun k => coppicerref_Right.j3.eq_2 _ _ _ _ _ _ _ _ _ k) ?_
              rw [w64 (show -9223372036854775808 ≤ i + 1 by omega) (by omega)]
              by_cases c3 : b = true
              · have := hb4.1 c3
                have e : nodeErr K i x = 2 := by unfold nodeErr; rw [if_neg (by omega), if_neg (by omega), if_pos (by omega)]
                refine Ev.pos c3 ?_
                rw [hno (by omega), e]; exact Ev.now _
              · have hb5 : ¬ (x.f0 ≥ 4 ∧ (x.f1 < 0 ∨ x.f1 ≥ i)) := fun q => c3 (hb4.2 q)
                refine Ev.neg c3 ?_
                have last : (x.f0 = 4 ∨ x.f0 = 5) → Ev (fun k => if x.f2 < 0 then (some 2) else (if x.f2 ≥ i then (some 2) else (coppicerref_Right.l0 k K l (l.length : Int) (i + 1)))) R := by
                  intro hq
                  by_cases a : x.f2 < 0
                  · have e : nodeErr K i x = 2 := by unfold nodeErr; rw [if_neg (by omega), if_neg (by omega), if_neg (by omega), if_pos (by omega)]
                    refine Ev.pos a ?_
                    rw [hno (by omega), e]; exact Ev.now _
                  · refine Ev.neg a ?_
                    by_cases a2 : x.f2 ≥ i
                    · have e : nodeErr K i x = 2 := by unfold nodeErr; rw [if_neg (by omega), if_neg (by omega), if_neg (by omega), if_pos (by omega)]
                      refine Ev.pos a2 ?_
                      rw [hno (by omega), e]; exact Ev.now _
                    · refine Ev.neg a2 (hok ?_)
                      unfold nodeErr
                      rw [if_neg (by omega), if_neg (by omega), if_neg (by omega), if_neg (by omega)]
                by_cases c4 : x.f0 = 4
                · exact Ev.pos c4 (last (.inl c4))
                · refine Ev.neg c4 ?_
                  by_cases c5 : x.f0 = 5
                  · exact Ev.pos c5 (last (.inr c5))
                  · refine Ev.neg c5 (hok ?_)
                    unfold nodeErr
                    rw [if_neg (by omega), if_neg (by omega), if_neg (by omega), if_neg (by omega)]
            by_cases d : x.f0 ≥ 4
            · refine Ev.pos d ?_
              by_cases a : x.f1 < 0
              · exact Ev.pos a (j3 _ (by simp [d, a]))
              · exact Ev.neg a (j3 _ (by simp [d, a]))
            · exact Ev.neg d (j3 _ (by simp [d]))
        by_cases d : x.f0 = 3
        · refine Ev.pos d ?_
          by_cases a : x.f1 < 0
          · exact Ev.pos a (j2 _ (by simp [d, a]))
          · exact Ev.neg a (j2 _ (by simp [d, a]))
        · exact Ev.neg d (j2 _ (by simp [d]))
    by_cases c1 : x.f0 < 1
    · exact Ev.pos c1 (j1 _ (by simp [c1]))
    · exact Ev.neg c1 (j1 _ (by simp [c1]))
def scode (K : Int) (l : List S67) : Int := if K < 1 ∨ K > 3 ∨ l.length = 0 ∨ l.length > 9 then 1 else errL K 0 l
theorem scheck_ev (K : Int) (l : List S67) : Ev (fun k => sentence_Check.f k K l) (scode K l) := by
  unfold sentence_Check.f scode
  by_cases c1 : K < 1
  · rw [if_pos (by omega)]; exact Ev.pos c1 (Ev.now _)
  refine Ev.neg c1 ?_
  by_cases c2 : K > 3
  · rw [if_pos (by omega)]; exact Ev.pos c2 (Ev.now _)
  refine Ev.neg c2 ?_
  by_cases c3 : (l.length : Int) = 0
  · rw [if_pos (by omega)]; exact Ev.pos c3 (Ev.now _)
  refine Ev.neg c3 ?_
  by_cases c4 : (l.length : Int) > 9
  · rw [if_pos (by omega)]; exact Ev.pos c4 (Ev.now _)
  refine Ev.neg c4 ?_
  rw [if_neg (by omega)]
  exact Ev.bind (right_ev K l (by omega)) (Ev.now _)
theorem rscheck_ev (K : Int) (l : List S67) : Ev (fun k => coppicerref_SentenceCheck.f k K l) (scode K l) := by
  unfold coppicerref_SentenceCheck.f scode
  by_cases c1 : K < 1
  · rw [if_pos (by omega)]; exact Ev.pos c1 (Ev.now _)
  refine Ev.neg c1 ?_
  by_cases c2 : K > 3
  · rw [if_pos (by omega)]; exact Ev.pos c2 (Ev.now _)
  refine Ev.neg c2 ?_
  by_cases c3 : (l.length : Int) = 0
  · rw [if_pos (by omega)]; exact Ev.pos c3 (Ev.now _)
  refine Ev.neg c3 ?_
  by_cases c4 : (l.length : Int) > 9
  · rw [if_pos (by omega)]; exact Ev.pos c4 (Ev.now _)
  refine Ev.neg c4 ?_
  rw [if_neg (by omega)]
  exact Ev.bind (rright_ev K l (by omega)) (Ev.now _)
def nd (l : List S67) (k : Int) : S67 := rd_T67 l k
inductive Tk (l : List S67) : Int → List Int → Prop
  | emp (k : Int) : (nd l k).f0 = 2 → Tk l k []
  | sym (k : Int) : (nd l k).f0 = 3 → Tk l k [(nd l k).f1]
  | cat (k : Int) (u v : List Int) : (nd l k).f0 = 4 → Tk l (nd l k).f1 u → Tk l (nd l k).f2 v → Tk l k (u ++ v)
  | left (k : Int) (u : List Int) : (nd l k).f0 = 5 → Tk l (nd l k).f1 u → Tk l k u
  | right (k : Int) (u : List Int) : (nd l k).f0 = 5 → Tk l (nd l k).f2 u → Tk l k u
  | stop (k : Int) : (nd l k).f0 = 6 → Tk l k []
  | more (k : Int) (u v : List Int) : (nd l k).f0 = 6 → Tk l (nd l k).f1 u → u ≠ [] → Tk l k v → Tk l k (u ++ v)
theorem tk1 {l : List S67} {k : Int} {u : List Int} (h : (nd l k).f0 = 1) : ¬ Tk l k u := by
  intro q; cases q <;> omega
theorem tk2 {l : List S67} {k : Int} {u : List Int} (h : (nd l k).f0 = 2) : Tk l k u ↔ u = [] := by
  constructor
  · intro q; cases q <;> first | rfl | omega
  · rintro rfl; exact Tk.emp k h
theorem tk3 {l : List S67} {k : Int} {u : List Int} (h : (nd l k).f0 = 3) : Tk l k u ↔ u = [(nd l k).f1] := by
  constructor
  · intro q; cases q <;> first | rfl | omega
  · rintro rfl; exact Tk.sym k h
theorem tk5 {l : List S67} {k : Int} {u : List Int} (h : (nd l k).f0 = 5) : Tk l k u ↔ Tk l (nd l k).f1 u ∨ Tk l (nd l k).f2 u := by
  constructor
  · intro q; cases q with
    | left _ _ h1 h2 => exact .inl h2
    | right _ _ h1 h2 => exact .inr h2
    | _ => omega
  · rintro (q | q)
    · exact Tk.left k u h q
    · exact Tk.right k u h q
theorem tk4 {l : List S67} {k : Int} {u : List Int} (h : (nd l k).f0 = 4) : Tk l k u ↔ ∃ a b, u = a ++ b ∧ Tk l (nd l k).f1 a ∧ Tk l (nd l k).f2 b := by
  constructor
  · intro q; cases q with
    | cat _ a b h1 h2 h3 => exact ⟨a, b, rfl, h2, h3⟩
    | _ => omega
  · rintro ⟨a, b, rfl, h1, h2⟩; exact Tk.cat k a b h h1 h2
theorem tk6 {l : List S67} {k : Int} {u : List Int} (h : (nd l k).f0 = 6) : Tk l k u ↔ u = [] ∨ ∃ a b, u = a ++ b ∧ a ≠ [] ∧ Tk l (nd l k).f1 a ∧ Tk l k b := by
  constructor
  · intro q; cases q with
    | stop => exact .inl rfl
    | more _ a b h1 h2 h3 h4 => exact .inr ⟨a, b, rfl, h3, h2, h4⟩
    | _ => omega
  · rintro (rfl | ⟨a, b, rfl, h1, h2, h3⟩)
    · exact Tk.stop k h
    · exact Tk.more k a b h h2 h1 h3
def sg (w : List Int) (i j : Int) : List Int := (w.drop i.toNat).take (j - i).toNat
theorem sg_nil {w : List Int} {i j : Int} (h0 : 0 ≤ i) (h1 : i ≤ j) (h2 : j ≤ w.length) : sg w i j = [] ↔ i = j := by
  unfold sg
  rw [← List.length_eq_zero_iff, List.length_take, List.length_drop]
  omega
theorem sg_len {w : List Int} {i j : Int} (h0 : 0 ≤ i) (h1 : i ≤ j) (h2 : j ≤ w.length) : ((sg w i j).length : Int) = j - i := by
  unfold sg
  rw [List.length_take, List.length_drop]; omega
theorem sg_all (w : List Int) : sg w 0 w.length = w := by
  unfold sg; simp
theorem sg_self (w : List Int) (i : Int) : sg w i i = [] := by
  unfold sg; simp
theorem sg_cat {w : List Int} {i m j : Int} (h0 : 0 ≤ i) (h1 : i ≤ m) (h2 : m ≤ j) : sg w i j = sg w i m ++ sg w m j := by
  unfold sg
  have e : (j - i).toNat = (m - i).toNat + (j - m).toNat := by omega
  have e2 : m.toNat = i.toNat + (m - i).toNat := by omega
  rw [e, List.take_add, List.drop_drop, e2]
theorem sg_one {w : List Int} {i : Int} (h0 : 0 ≤ i) (h1 : i < w.length) : sg w i (i + 1) = [rd w i] := by
  unfold sg
  rw [drop_rd h0 h1, show (i + 1 - i).toNat = 1 by omega]; rfl
theorem sg_split {w a b : List Int} {i j : Int} (h0 : 0 ≤ i) (h1 : i ≤ j) (h2 : j ≤ w.length) (h : sg w i j = a ++ b) : ∃ m, i ≤ m ∧ m ≤ j ∧ a = sg w i m ∧ b = sg w m j := by
  have hl := sg_len h0 h1 h2
  rw [h, List.length_append] at hl
  have c := sg_cat (w := w) h0 (show i ≤ i + a.length by omega) (show i + (a.length : Int) ≤ j by omega)
  rw [h] at c
  have e := List.append_inj c (by have := sg_len (w := w) h0 (show i ≤ i + a.length by omega) (by omega); omega)
  exact ⟨i + a.length, by omega, by omega, e.1, e.2⟩
theorem tk2s {l : List S67} {k : Int} {w : List Int} {i j : Int} (h : (nd l k).f0 = 2) (h0 : 0 ≤ i) (h1 : i ≤ j) (h2 : j ≤ w.length) : Tk l k (sg w i j) ↔ j = i := by
  rw [tk2 h, sg_nil h0 h1 h2]; omega
theorem tk3s {l : List S67} {k : Int} {w : List Int} {i j : Int} (h : (nd l k).f0 = 3) (h0 : 0 ≤ i) (h1 : i ≤ j) (h2 : j ≤ w.length) : Tk l k (sg w i j) ↔ j = i + 1 ∧ rd w i = (nd l k).f1 := by
  rw [tk3 h]
  have hl := sg_len h0 h1 h2
  constructor
  · intro q
    have e : j = i + 1 := by rw [q] at hl; simp at hl; omega
    subst e
    rw [sg_one h0 (by omega)] at q
    exact ⟨rfl, by simpa using q⟩
  · rintro ⟨rfl, q⟩
    rw [sg_one h0 (by omega), q]
theorem tk4s {l : List S67} {k : Int} {w : List Int} {i j : Int} (h : (nd l k).f0 = 4) (h0 : 0 ≤ i) (h1 : i ≤ j) (h2 : j ≤ w.length) : Tk l k (sg w i j) ↔ ∃ m, i ≤ m ∧ m ≤ j ∧ Tk l (nd l k).f1 (sg w i m) ∧ Tk l (nd l k).f2 (sg w m j) := by
  rw [tk4 h]
  constructor
  · rintro ⟨a, b, e, ha, hb⟩
    obtain ⟨m, m1, m2, rfl, rfl⟩ := sg_split h0 h1 h2 e
    exact ⟨m, m1, m2, ha, hb⟩
  · rintro ⟨m, m1, m2, ha, hb⟩
    exact ⟨_, _, sg_cat h0 m1 m2, ha, hb⟩
theorem tk6s {l : List S67} {k : Int} {w : List Int} {i j : Int} (h : (nd l k).f0 = 6) (h0 : 0 ≤ i) (h1 : i ≤ j) (h2 : j ≤ w.length) : Tk l k (sg w i j) ↔ j = i ∨ ∃ m, i + 1 ≤ m ∧ m ≤ j ∧ Tk l (nd l k).f1 (sg w i m) ∧ Tk l k (sg w m j) := by
  rw [tk6 h, sg_nil h0 h1 h2]
  constructor
  · rintro (q | ⟨a, b, e, hn, ha, hb⟩)
    · exact .inl q.symm
    · obtain ⟨m, m1, m2, rfl, rfl⟩ := sg_split h0 h1 h2 e
      have : ¬ i = m := fun q => hn (by rw [q]; exact sg_self w m)
      exact .inr ⟨m, by omega, m2, ha, hb⟩
  · rintro (q | ⟨m, m1, m2, ha, hb⟩)
    · exact .inl q.symm
    · refine .inr ⟨_, _, sg_cat h0 (by omega) m2, ?_, ha, hb⟩
      rw [Ne, sg_nil h0 (by omega) (by omega)]; omega
theorem Ev.loopc {σ ρ : Type} {L : Nat → Int → σ → Option ρ} {n : Int} {r : ρ} (I : Int → σ → Prop)
    (hend : ∀ s, I n s → Ev (fun k => L k n s) r)
    (hstep : ∀ i s, 0 ≤ i → i < n → I i s → (∀ s', I (i + 1) s' → Ev (fun k => L k (i + 1) s') r) → Ev (fun k => L k i s) r) :
    ∀ (i : Int) (s : σ), 0 ≤ i → i ≤ n → I i s → Ev (fun k => L k i s) r := by
  have key : ∀ (d : Nat) (i : Int) (s : σ), 0 ≤ i → i + d = n → I i s → Ev (fun k => L k i s) r := by
    intro d
    induction d with
    | zero => intro i s h0 h1 hI; obtain rfl : i = n := by omega
              exact hend s hI
    | succ d ih =>
      intro i s h0 h1 hI
      exact hstep i s h0 (by omega) hI (fun s' h' => ih (i + 1) s' (by omega) (by omega) h')
  intro i s h0 h1 hI
  exact key (n - i).toNat i s h0 (by omega) hI
theorem rdLB_set (T : List (List Bool)) (k k' : Int) (r : List Bool) (h0 : 0 ≤ k) (h1 : k < T.length) (h2 : 0 ≤ k') : rd_L3 (T.set k.toNat r) k' = if k' = k then r else rd_L3 T k' := by
  simp only [rd_L3, List.getD_eq_getElem?_getD]
  by_cases c : k' = k
  · subst c; rw [if_pos rfl, List.getElem?_set_self (by omega)]; rfl
  · rw [if_neg c, List.getElem?_set_ne (by omega)]
theorem rdB_set (r : List Bool) (p p' : Int) (b : Bool) (h0 : 0 ≤ p) (h1 : p < r.length) (h2 : 0 ≤ p') : rdOf false (r.set p.toNat b) p' = if p' = p then b else rdOf false r p' := by
  simp only [rdOf, List.getD_eq_getElem?_getD]
  by_cases c : p' = p
  · subst c; rw [if_pos rfl, List.getElem?_set_self (by omega)]; rfl
  · rw [if_neg c, List.getElem?_set_ne (by omega)]
def te (T : List (List Bool)) (k p : Int) : Bool := rdOf false (rd_L3 T k) p
theorem te_set {T : List (List Bool)} {k p k' p' : Int} {b : Bool} (h0 : 0 ≤ k) (h1 : k < T.length) (h2 : 0 ≤ p) (h3 : p < (rd_L3 T k).length) (h4 : 0 ≤ k') (h5 : 0 ≤ p') :
    te (T.set k.toNat ((rd_L3 T k).set p.toNat b)) k' p' = if k' = k ∧ p' = p then b else te T k' p' := by
  unfold te
  rw [rdLB_set _ _ _ _ h0 h1 h4]
  by_cases c : k' = k
  · subst c
    rw [if_pos rfl, rdB_set _ _ _ _ h2 h3 h5]
    by_cases d : p' = p
    · rw [if_pos d, if_pos ⟨rfl, d⟩]
    · rw [if_neg d, if_neg (fun q => d q.2)]
  · rw [if_neg c, if_neg (fun q => c q.1)]
theorem rowlen_set {T : List (List Bool)} {k p k' : Int} {b : Bool} (h0 : 0 ≤ k) (h1 : k < T.length) (h4 : 0 ≤ k') :
    (rd_L3 (T.set k.toNat ((rd_L3 T k).set p.toNat b)) k').length = (rd_L3 T k').length := by
  rw [rdLB_set _ _ _ _ h0 h1 h4]
  by_cases c : k' = k
  · subst c; rw [if_pos rfl, List.length_set]
  · rw [if_neg c]
theorem idx_inj {n i j i' j' : Int} (h0 : 0 ≤ j) (h1 : j < n) (h2 : 0 ≤ j') (h3 : j' < n) (h : i * n + j = i' * n + j') : i = i' ∧ j = j' := by
  by_cases c : i < i'
  · have := Int.mul_le_mul_of_nonneg_right (show i + 1 ≤ i' by omega) (show 0 ≤ n by omega)
    rw [Int.add_mul] at this; omega
  · by_cases d : i' < i
    · have := Int.mul_le_mul_of_nonneg_right (show i' + 1 ≤ i by omega) (show 0 ≤ n by omega)
      rw [Int.add_mul] at this; omega
    · have e : i = i' := by omega
      subst e; exact ⟨rfl, by omega⟩
theorem idx_lo {n i j : Int} (h0 : 0 ≤ i) (h2 : 0 ≤ j) (h3 : 0 ≤ n) : 0 ≤ i * n + j := by
  have := Int.mul_nonneg h0 h3; omega
theorem idx_hi {n i j : Int} (h1 : i < n) (h2 : 0 ≤ j) (h3 : j < n) : i * n + j < n * n := by
  have := Int.mul_le_mul_of_nonneg_right (show i + 1 ≤ n by omega) (show 0 ≤ n by omega)
  rw [Int.add_mul] at this; omega
theorem sq_hi {n : Int} (h0 : 0 ≤ n) (h1 : n ≤ 1001) : n * n ≤ 1002001 := by
  have a := Int.mul_le_mul_of_nonneg_right h1 h0
  have b : (1001 : Int) * n ≤ 1001 * 1001 := by omega
  omega
def Rt (l : List S67) : Prop := ∀ k : Int, 0 ≤ k → k < l.length → 1 ≤ (nd l k).f0 ∧ (nd l k).f0 ≤ 6 ∧ (4 ≤ (nd l k).f0 → 0 ≤ (nd l k).f1 ∧ (nd l k).f1 < k) ∧ ((nd l k).f0 = 4 ∨ (nd l k).f0 = 5 → 0 ≤ (nd l k).f2 ∧ (nd l k).f2 < k)
structure Fill (l : List S67) (w : List Int) (T : List (List Bool)) (K : Int) : Prop where
  len : T.length = l.length
  row : ∀ k : Int, 0 ≤ k → k < K → ((rd_L3 T k).length : Int) = ((w.length : Int) + 1) * ((w.length : Int) + 1)
  ok : ∀ k i j : Int, 0 ≤ k → k < K → 0 ≤ i → i ≤ j → j ≤ w.length → (te T k (i * ((w.length : Int) + 1) + j) = true ↔ Tk l k (sg w i j))
structure Part (l : List S67) (w : List Int) (T : List (List Bool)) (K s i0 : Int) : Prop where
  all : Fill l w T K
  row : ((rd_L3 T K).length : Int) = ((w.length : Int) + 1) * ((w.length : Int) + 1)
  ok : ∀ i j : Int, 0 ≤ i → i ≤ j → j ≤ w.length → (j - i < s ∨ j - i = s ∧ i < i0) → (te T K (i * ((w.length : Int) + 1) + j) = true ↔ Tk l K (sg w i j))
section
variable {l : List S67} {w : List Int} {R : Bool} {K : Int} (hw : w.length ≤ 1000) (hl : l.length ≤ 1000) (hK0 : 0 ≤ K) (hK1 : K < l.length)
include hw hl hK0 hK1
theorem part_put {T : List (List Bool)} {s i : Int} {b : Bool} (h : Part l w T K s i) (hi : 0 ≤ i) (hs : 0 ≤ s) (hj : i + s ≤ w.length) (hb : b = true ↔ Tk l K (sg w i (i + s))) :
    Part l w (T.set K.toNat ((rd_L3 T K).set (i * ((w.length : Int) + 1) + (i + s)).toNat b)) K s (i + 1) := by
  have hT := h.all.len
  have hp0 := idx_lo (n := (w.length : Int) + 1) hi (show 0 ≤ i + s by omega) (by omega)
  have hp1 := idx_hi (n := (w.length : Int) + 1) (i := i) (j := i + s) (by omega) (by omega) (by omega)
  have hrow := h.row
  refine ⟨⟨by rw [List.length_set]; exact hT, ?_, ?_⟩, ?_, ?_⟩
  · intro k h0 h1; rw [rowlen_set hK0 (by omega) h0]; exact h.all.row k h0 h1
  · intro k a c h0 h1 h2 h3 h4
    rw [te_set hK0 (by omega) hp0 (by omega) h0 (idx_lo h2 (by omega) (by omega)), if_neg (fun q => by omega)]
    exact h.all.ok k a c h0 h1 h2 h3 h4
  · rw [rowlen_set hK0 (by omega) hK0]; exact hrow
  · intro a c h2 h3 h4 hd
    rw [te_set hK0 (by omega) hp0 (by omega) hK0 (idx_lo h2 (by omega) (by omega))]
    by_cases e : a * ((w.length : Int) + 1) + c = i * ((w.length : Int) + 1) + (i + s)
    · obtain ⟨rfl, rfl⟩ := idx_inj (by omega) (by omega) (by omega) (by omega) e
      rw [if_pos ⟨rfl, rfl⟩]; exact hb
    · rw [if_neg (fun q => e q.2)]
      refine h.ok a c h2 h3 h4 ?_
      rcases hd with hd | ⟨hd, hd2⟩
      · exact .inl hd
      · refine .inr ⟨hd, ?_⟩
        have : ¬ a = i := fun q => e (by subst q; rw [show c = a + s by omega])
        omega
theorem means_j7 {T : List (List Bool)} {s i x0 x1 x2 : Int} {b : Bool} (h : Part l w T K s i) (hi : 0 ≤ i) (hs : 0 ≤ s) (hj : i + s ≤ w.length) (hb : b = true ↔ Tk l K (sg w i (i + s)))
    (hc : ∀ T', Part l w T' K s (i + 1) → Ev (fun k => coppicerref_Means.l2 k l w ((w.length : Int) + 1) T' K s (i + 1) l (l.length : Int) K x0 x1 x2) R) :
    Ev (fun k => coppicerref_Means.j7 k l w ((w.length : Int) + 1) T K s i (i + s) b l (l.length : Int) K x0 x1 x2) R := by
  have hT := h.all.len
  have hp0 := idx_lo (n := (w.length : Int) + 1) hi (show 0 ≤ i + s by omega) (by omega)
  have hp1 := idx_hi (n := (w.length : Int) + 1) (i := i) (j := i + s) (by omega) (by omega) (by omega)
  have hrow := h.row
  have hq := sq_hi (n := (w.length : Int) + 1) (by omega) (by omega)
  have hm := Int.mul_nonneg hi (show (0 : Int) ≤ (w.length : Int) + 1 by omega)
  refine Ev.step (fun k => coppicerref_Means.j7.eq_2 _ _ _ _ _ _ _ _ _ _ _ _ _ _ _ k) ?_
  rw [w64 (x := i * ((w.length : Int) + 1)) (by omega) (by omega), w64 (x := i * ((w.length : Int) + 1) + (i + s)) (by omega) (by omega), w64 (x := i + 1) (by omega) (by omega)]
  exact Ev.pos hK0 (Ev.pos (by omega) (Ev.pos hp0 (Ev.pos (by omega) (hc _ (part_put hw hl hK0 hK1 h hi hs hj hb)))))
theorem means_l3 (hr : Rt l) {T : List (List Bool)} {s i : Int} (h : Part l w T K s i) (hi : 0 ≤ i) (hs : 0 ≤ s) (hj : i + s ≤ w.length) (h4 : (nd l K).f0 = 4)
    (hc : ∀ T', Part l w T' K s (i + 1) → Ev (fun k => coppicerref_Means.l2 k l w ((w.length : Int) + 1) T' K s (i + 1) l (l.length : Int) K (nd l K).f0 (nd l K).f1 (nd l K).f2) R) :
    Ev (fun k => coppicerref_Means.l3 k l w ((w.length : Int) + 1) T K s i (i + s) false i l (l.length : Int) K (nd l K).f0 (nd l K).f1 (nd l K).f2) R := by
  have hT := h.all.len
  obtain ⟨-, -, r1, r2⟩ := hr K hK0 hK1
  have r1 := r1 (by omega); have r2 := r2 (.inl h4)
  have hq := sq_hi (n := (w.length : Int) + 1) (by omega) (by omega)
  refine Ev.loopc (σ := Bool) (L := fun k m b => coppicerref_Means.l3 k l w ((w.length : Int) + 1) T K s i (i + s) b m l (l.length : Int) K (nd l K).f0 (nd l K).f1 (nd l K).f2) (n := i + s + 1)
    (fun m b => i ≤ m ∧ (b = true ↔ ∃ m', i ≤ m' ∧ m' < m ∧ Tk l (nd l K).f1 (sg w i m') ∧ Tk l (nd l K).f2 (sg w m' (i + s)))) ?_ ?_ i false hi (by omega) ⟨Int.le_refl _, by constructor; (intro q; cases q); (rintro ⟨m', a, b, _⟩; omega)⟩
  · rintro b ⟨-, hb⟩
    refine Ev.step (fun k => coppicerref_Means.l3.eq_2 _ _ _ _ _ _ _ _ _ _ _ _ _ _ _ _ k) ?_
    refine Ev.neg (by omega) (means_j7 hw hl hK0 hK1 h hi hs hj ?_ hc)
    rw [hb, tk4s h4 hi (by omega) hj]
    constructor
    · rintro ⟨m, a, b, c⟩; exact ⟨m, a, by omega, c⟩
    · rintro ⟨m, a, b, c⟩; exact ⟨m, a, by omega, c⟩
  · rintro m b h0 h1 ⟨him, hb⟩ hn
    have j4 : ∀ b' : Bool, (b' = true ↔ b = true ∨ (Tk l (nd l K).f1 (sg w i m) ∧ Tk l (nd l K).f2 (sg w m (i + s)))) → Ev (fun k => coppicerref_Means.j4 k l w ((w.length : Int) + 1) T K s i (i + s) b' m l (l.length : Int) K (nd l K).f0 (nd l K).f1 (nd l K).f2) R := by
      intro b' hb'
      refine Ev.step (fun k => coppicerref_Means.j4.eq_2 _ _ _ _ _ _ _ _ _ _ _ _ _ _ _ _ k) ?_
      rw [w64 (x := m + 1) (by omega) (by omega)]
      refine hn b' ⟨by omega, ?_⟩
      rw [hb', hb]
      constructor
      · rintro (⟨m', a, c, d⟩ | d)
        · exact ⟨m', a, by omega, d⟩
        · exact ⟨m, him, by omega, d⟩
      · rintro ⟨m', a, c, d⟩
        by_cases e : m' = m
        · subst e; exact .inr d
        · exact .inl ⟨m', a, by omega, d⟩
    have p0 := idx_lo (n := (w.length : Int) + 1) (i := i) (j := m) hi h0 (by omega)
    have p1 := idx_hi (n := (w.length : Int) + 1) (i := i) (j := m) (by omega) h0 (by omega)
    have p2 := idx_lo (n := (w.length : Int) + 1) (i := m) (j := i + s) h0 (by omega) (by omega)
    have p3 := idx_hi (n := (w.length : Int) + 1) (i := m) (j := i + s) (by omega) (by omega) (by omega)
    have p4 := Int.mul_nonneg hi (show (0 : Int) ≤ (w.length : Int) + 1 by omega)
    have p5 := Int.mul_nonneg h0 (show (0 : Int) ≤ (w.length : Int) + 1 by omega)
    have e1 := h.all.row _ r1.1 r1.2
    have e2 := h.all.row _ r2.1 r2.2
    refine Ev.step (fun k => coppicerref_Means.l3.eq_2 _ _ _ _ _ _ _ _ _ _ _ _ _ _ _ _ k) ?_
    refine Ev.pos (by omega) ?_
    by_cases cb : b = true
    · exact Ev.pos cb (j4 true (by simp [cb]))
    · refine Ev.neg cb ?_
      rw [w64 (x := i * ((w.length : Int) + 1)) (by omega) (by omega), w64 (x := i * ((w.length : Int) + 1) + m) (by omega) (by omega), w64 (x := m * ((w.length : Int) + 1)) (by omega) (by omega), w64 (x := m * ((w.length : Int) + 1) + (i + s)) (by omega) (by omega)]
      refine Ev.pos r1.1 (Ev.pos (by omega) (Ev.pos p0 (Ev.pos (by omega) ?_)))
      have q1 := h.all.ok _ i m r1.1 r1.2 hi him (by omega)
      by_cases c1 : rdOf false (rd_L3 T (nd l K).f1) (i * ((w.length : Int) + 1) + m) = true
      · refine Ev.pos c1 (Ev.pos r2.1 (Ev.pos (by omega) (Ev.pos p2 (Ev.pos (by omega) (j4 _ ?_)))))
        have q2 := h.all.ok _ m (i + s) r2.1 r2.2 h0 (by omega) hj
        have q3 := q1.1 c1
        unfold te at q2
        rw [q2]
        constructor
        · intro q; exact .inr ⟨q3, q⟩
        · rintro (q | q)
          · exact absurd q cb
          · exact q.2
      · refine Ev.neg c1 (j4 _ ?_)
        constructor
        · intro q; cases q
        · rintro (q | q)
          · exact absurd q cb
          · exact absurd (q1.2 q.1) c1
theorem means_l4 (hr : Rt l) {T : List (List Bool)} {s i : Int} (h : Part l w T K s i) (hi : 0 ≤ i) (hs : 0 ≤ s) (hj : i + s ≤ w.length) (h6 : (nd l K).f0 = 6)
    (hc : ∀ T', Part l w T' K s (i + 1) → Ev (fun k => coppicerref_Means.l2 k l w ((w.length : Int) + 1) T' K s (i + 1) l (l.length : Int) K (nd l K).f0 (nd l K).f1 (nd l K).f2) R) :
    Ev (fun k => coppicerref_Means.l4 k l w ((w.length : Int) + 1) T K s i (i + s) (s == 0) (i + 1) l (l.length : Int) K (nd l K).f0 (nd l K).f1 (nd l K).f2) R := by
  have hT := h.all.len
  obtain ⟨-, -, r1, -⟩ := hr K hK0 hK1
  have r1 := r1 (by omega)
  have hq := sq_hi (n := (w.length : Int) + 1) (by omega) (by omega)
  refine Ev.loopc (σ := Bool) (L := fun k m b => coppicerref_Means.l4 k l w ((w.length : Int) + 1) T K s i (i + s) b m l (l.length : Int) K (nd l K).f0 (nd l K).f1 (nd l K).f2) (n := i + s + 1)
    (fun m b => i + 1 ≤ m ∧ (b = true ↔ s = 0 ∨ ∃ m', i + 1 ≤ m' ∧ m' < m ∧ Tk l (nd l K).f1 (sg w i m') ∧ Tk l K (sg w m' (i + s)))) ?_ ?_ (i + 1) (s == 0) (by omega) (by omega) ⟨Int.le_refl _, by constructor; (intro q; exact .inl (by simpa using q)); (rintro (q | ⟨m', a, b, _⟩); (simp [q]); omega)⟩
  · rintro b ⟨-, hb⟩
    refine Ev.step (fun k => coppicerref_Means.l4.eq_2 _ _ _ _ _ _ _ _ _ _ _ _ _ _ _ _ k) ?_
    refine Ev.neg (by omega) (means_j7 hw hl hK0 hK1 h hi hs hj ?_ hc)
    rw [hb, tk6s h6 hi (by omega) hj]
    constructor
    · rintro (q | ⟨m, a, b, c⟩)
      · exact .inl (by omega)
      · exact .inr ⟨m, a, by omega, c⟩
    · rintro (q | ⟨m, a, b, c⟩)
      · exact .inl (by omega)
      · exact .inr ⟨m, a, by omega, c⟩
  · rintro m b h0 h1 ⟨him, hb⟩ hn
    have j6 : ∀ b' : Bool, (b' = true ↔ b = true ∨ (Tk l (nd l K).f1 (sg w i m) ∧ Tk l K (sg w m (i + s)))) → Ev (fun k => coppicerref_Means.j6 k l w ((w.length : Int) + 1) T K s i (i + s) b' m l (l.length : Int) K (nd l K).f0 (nd l K).f1 (nd l K).f2) R := by
      intro b' hb'
      refine Ev.step (fun k => coppicerref_Means.j6.eq_2 _ _ _ _ _ _ _ _ _ _ _ _ _ _ _ _ k) ?_
      rw [w64 (x := m + 1) (by omega) (by omega)]
      refine hn b' ⟨by omega, ?_⟩
      rw [hb', hb]
      constructor
      · rintro ((q | ⟨m', a, c, d⟩) | d)
        · exact .inl q
        · exact .inr ⟨m', a, by omega, d⟩
        · exact .inr ⟨m, him, by omega, d⟩
      · rintro (q | ⟨m', a, c, d⟩)
        · exact .inl (.inl q)
        · by_cases e : m' = m
          · subst e; exact .inr d
          · exact .inl (.inr ⟨m', a, by omega, d⟩)
    have p0 := idx_lo (n := (w.length : Int) + 1) (i := i) (j := m) hi h0 (by omega)
    have p1 := idx_hi (n := (w.length : Int) + 1) (i := i) (j := m) (by omega) h0 (by omega)
    have p2 := idx_lo (n := (w.length : Int) + 1) (i := m) (j := i + s) h0 (by omega) (by omega)
    have p3 := idx_hi (n := (w.length : Int) + 1) (i := m) (j := i + s) (by omega) (by omega) (by omega)
    have p4 := Int.mul_nonneg hi (show (0 : Int) ≤ (w.length : Int) + 1 by omega)
    have p5 := Int.mul_nonneg h0 (show (0 : Int) ≤ (w.length : Int) + 1 by omega)
    have e1 := h.all.row _ r1.1 r1.2
    have e2 := h.row
    refine Ev.step (fun k => coppicerref_Means.l4.eq_2 _ _ _ _ _ _ _ _ _ _ _ _ _ _ _ _ k) ?_
    refine Ev.pos (by omega) ?_
    by_cases cb : b = true
    · exact Ev.pos cb (j6 true (by simp [cb]))
    · refine Ev.neg cb ?_
      rw [w64 (x := i * ((w.length : Int) + 1)) (by omega) (by omega), w64 (x := i * ((w.length : Int) + 1) + m) (by omega) (by omega), w64 (x := m * ((w.length : Int) + 1)) (by omega) (by omega), w64 (x := m * ((w.length : Int) + 1) + (i + s)) (by omega) (by omega)]
      refine Ev.pos r1.1 (Ev.pos (by omega) (Ev.pos p0 (Ev.pos (by omega) ?_)))
      have q1 := h.all.ok _ i m r1.1 r1.2 hi (by omega) (by omega)
      by_cases c1 : rdOf false (rd_L3 T (nd l K).f1) (i * ((w.length : Int) + 1) + m) = true
      · refine Ev.pos c1 (Ev.pos hK0 (Ev.pos (by omega) (Ev.pos p2 (Ev.pos (by omega) (j6 _ ?_)))))
        have q2 := h.ok m (i + s) h0 (by omega) hj (.inl (by omega))
        have q3 := q1.1 c1
        unfold te at q2
        rw [q2]
        constructor
        · intro q; exact .inr ⟨q3, q⟩
        · rintro (q | q)
          · exact absurd q cb
          · exact q.2
      · refine Ev.neg c1 (j6 _ ?_)
        constructor
        · intro q; cases q
        · rintro (q | q)
          · exact absurd q cb
          · exact absurd (q1.2 q.1) c1
theorem means_l2 (hr : Rt l) {T : List (List Bool)} {s : Int} (h : Part l w T K s 0) (hs : 0 ≤ s) (hs1 : s ≤ w.length)
    (hc : ∀ T', Part l w T' K (s + 1) 0 → Ev (fun k => coppicerref_Means.l1 k l w ((w.length : Int) + 1) T' K (s + 1) l (l.length : Int) K (nd l K).f0 (nd l K).f1 (nd l K).f2) R) :
    Ev (fun k => coppicerref_Means.l2 k l w ((w.length : Int) + 1) T K s 0 l (l.length : Int) K (nd l K).f0 (nd l K).f1 (nd l K).f2) R := by
  refine Ev.loopc (σ := List (List Bool)) (L := fun k i T => coppicerref_Means.l2 k l w ((w.length : Int) + 1) T K s i l (l.length : Int) K (nd l K).f0 (nd l K).f1 (nd l K).f2) (n := (w.length : Int) + 1 - s)
    (fun i T => Part l w T K s i) ?_ ?_ 0 T (Int.le_refl _) (by omega) h
  · intro T h
    refine Ev.step (fun k => coppicerref_Means.l2.eq_2 _ _ _ _ _ _ _ _ _ _ _ _ _ k) ?_
    rw [w64 (x := (w.length : Int) + 1 - s + s) (by omega) (by omega), w64 (x := s + 1) (by omega) (by omega)]
    refine Ev.neg (by omega) (hc T ⟨h.all, h.row, ?_⟩)
    intro i j h0 h1 h2 h3
    refine h.ok i j h0 h1 h2 ?_
    omega
  · intro i T hi0 hi1 h hn
    have hj : i + s ≤ w.length := by omega
    have hT := h.all.len
    have hq := sq_hi (n := (w.length : Int) + 1) (by omega) (by omega)
    obtain ⟨r0, r0', r1, r2⟩ := hr K hK0 hK1
    have p0 := idx_lo (n := (w.length : Int) + 1) (i := i) (j := i + s) hi0 (by omega) (by omega)
    have p1 := idx_hi (n := (w.length : Int) + 1) (i := i) (j := i + s) (by omega) (by omega) (by omega)
    have p4 := Int.mul_nonneg hi0 (show (0 : Int) ≤ (w.length : Int) + 1 by omega)
    refine Ev.step (fun k => coppicerref_Means.l2.eq_2 _ _ _ _ _ _ _ _ _ _ _ _ _ k) ?_
    rw [w64 (x := i + s) (by omega) (by omega)]
    refine Ev.pos (by omega) ?_
    have j7 : ∀ b : Bool, (b = true ↔ Tk l K (sg w i (i + s))) → Ev (fun k => coppicerref_Means.j7 k l w ((w.length : Int) + 1) T K s i (i + s) b l (l.length : Int) K (nd l K).f0 (nd l K).f1 (nd l K).f2) R := fun b hb => means_j7 hw hl hK0 hK1 h hi0 hs hj hb hn
    by_cases c2 : (nd l K).f0 = 2
    · refine Ev.pos c2 (j7 _ ?_)
      rw [tk2s c2 hi0 (by omega) hj, beq_iff_eq]; omega
    refine Ev.neg c2 ?_
    by_cases c3 : (nd l K).f0 = 3
    · refine Ev.pos c3 ?_
      by_cases d : s = 1
      · refine Ev.pos d (Ev.pos hi0 (Ev.pos (by omega) (j7 _ ?_)))
        rw [tk3s c3 hi0 (by omega) hj, beq_iff_eq]
        constructor
        · intro q; exact ⟨by omega, q⟩
        · intro q; exact q.2
      · refine Ev.neg d (j7 _ ?_)
        rw [tk3s c3 hi0 (by omega) hj]
        constructor
        · intro q; cases q
        · intro q; omega
    refine Ev.neg c3 ?_
    by_cases c5 : (nd l K).f0 = 5
    · have r1 := r1 (by omega); have r2 := r2 (.inr c5)
      have e1 := h.all.row _ r1.1 r1.2
      have e2 := h.all.row _ r2.1 r2.2
      have q1 := h.all.ok _ i (i + s) r1.1 r1.2 hi0 (by omega) hj
      have q2 := h.all.ok _ i (i + s) r2.1 r2.2 hi0 (by omega) hj
      refine Ev.pos c5 ?_
      rw [w64 (x := i * ((w.length : Int) + 1)) (by omega) (by omega), w64 (x := i * ((w.length : Int) + 1) + (i + s)) (by omega) (by omega)]
      refine Ev.pos r1.1 (Ev.pos (by omega) (Ev.pos p0 (Ev.pos (by omega) ?_)))
      by_cases d : rdOf false (rd_L3 T (nd l K).f1) (i * ((w.length : Int) + 1) + (i + s)) = true
      · refine Ev.pos d (j7 _ ?_)
        rw [tk5 c5]
        exact ⟨fun _ => .inl (q1.1 d), fun _ => rfl⟩
      · refine Ev.neg d (Ev.pos r2.1 (Ev.pos (by omega) (Ev.pos (by omega) (j7 _ ?_))))
        rw [tk5 c5]
        unfold te at q2
        rw [q2]
        constructor
        · exact fun q => .inr q
        · rintro (q | q)
          · exact absurd (q1.2 q) d
          · exact q
    refine Ev.neg c5 ?_
    by_cases c4 : (nd l K).f0 = 4
    · refine Ev.pos c4 ?_
      exact means_l3 hw hl hK0 hK1 hr h hi0 hs hj c4 hn
    refine Ev.neg c4 ?_
    by_cases c6 : (nd l K).f0 = 6
    · refine Ev.pos c6 ?_
      rw [w64 (x := i + 1) (by omega) (by omega)]
      exact means_l4 hw hl hK0 hK1 hr h hi0 hs hj c6 hn
    refine Ev.neg c6 (j7 _ ?_)
    have c1 : (nd l K).f0 = 1 := by omega
    constructor
    · intro q; cases q
    · intro q; exact absurd q (tk1 c1)
theorem means_l1 (hr : Rt l) {T : List (List Bool)} (h : Part l w T K 0 0)
    (hc : ∀ T', Fill l w T' (K + 1) → Ev (fun k => coppicerref_Means.l0 k l w ((w.length : Int) + 1) T' l (l.length : Int) (K + 1)) R) :
    Ev (fun k => coppicerref_Means.l1 k l w ((w.length : Int) + 1) T K 0 l (l.length : Int) K (nd l K).f0 (nd l K).f1 (nd l K).f2) R := by
  refine Ev.loopc (σ := List (List Bool)) (L := fun k s T => coppicerref_Means.l1 k l w ((w.length : Int) + 1) T K s l (l.length : Int) K (nd l K).f0 (nd l K).f1 (nd l K).f2) (n := (w.length : Int) + 1)
    (fun s T => Part l w T K s 0) ?_ ?_ 0 T (Int.le_refl _) (by omega) h
  · intro T h
    refine Ev.step (fun k => coppicerref_Means.l1.eq_2 _ _ _ _ _ _ _ _ _ _ _ _ k) ?_
    rw [w64 (x := K + 1) (by omega) (by omega)]
    refine Ev.neg (by omega) (hc T ⟨h.all.len, ?_, ?_⟩)
    · intro k h0 h1
      by_cases e : k = K
      · subst e; exact h.row
      · exact h.all.row k h0 (by omega)
    · intro k i j h0 h1 h2 h3 h4
      by_cases e : k = K
      · subst e; exact h.ok i j h2 h3 h4 (.inl (by omega))
      · exact h.all.ok k i j h0 (by omega) h2 h3 h4
  · intro s T h0 h1 h hn
    refine Ev.step (fun k => coppicerref_Means.l1.eq_2 _ _ _ _ _ _ _ _ _ _ _ _ k) ?_
    exact Ev.pos h1 (means_l2 hw hl hK0 hK1 hr h h0 (by omega) hn)
end
theorem means_ev {l : List S67} {w : List Int} {R : Bool} (hw : w.length ≤ 1000) (hl : l.length ≤ 1000) (h1 : 1 ≤ l.length) (hr : Rt l) (hR : R = true ↔ Tk l ((l.length : Int) - 1) w) :
    Ev (fun k => coppicerref_Means.f k l w) R := by
  have hq := sq_hi (n := (w.length : Int) + 1) (by omega) (by omega)
  have hq0 := Int.mul_nonneg (show (0 : Int) ≤ (w.length : Int) + 1 by omega) (show (0 : Int) ≤ (w.length : Int) + 1 by omega)
  unfold coppicerref_Means.f
  rw [w64 (x := (w.length : Int) + 1) (by omega) (by omega)]
  refine Ev.pos (by omega) (Ev.pos (by omega) ?_)
  refine Ev.loopc (σ := List (List Bool)) (L := fun k K T => coppicerref_Means.l0 k l w ((w.length : Int) + 1) T l (l.length : Int) K) (n := (l.length : Int))
    (fun K T => Fill l w T K) ?_ ?_ 0 _ (Int.le_refl _) (by omega) ⟨by simp, fun k a b => by omega, fun k i j a b => by omega⟩
  · intro T h
    have hT := h.len
    have e := h.row ((l.length : Int) - 1) (by omega) (by omega)
    have q := h.ok ((l.length : Int) - 1) 0 w.length (by omega) (by omega) (by omega) (by omega) (by omega)
    rw [sg_all, Int.zero_mul, Int.zero_add, ← hR] at q
    have p1 := idx_hi (n := (w.length : Int) + 1) (i := 0) (j := w.length) (by omega) (by omega) (by omega)
    rw [Int.zero_mul, Int.zero_add] at p1
    refine Ev.step (fun k => coppicerref_Means.l0.eq_2 _ _ _ _ _ _ _ k) ?_
    rw [w64 (x := (l.length : Int) - 1) (by omega) (by omega), w64 (x := (w.length : Int) + 1 - 1) (by omega) (by omega), show (w.length : Int) + 1 - 1 = w.length by omega]
    refine Ev.neg (by omega) (Ev.pos (by omega) (Ev.pos (by omega) (Ev.pos (by omega) (Ev.pos (by omega) (Ev.pos (by omega) (Ev.val ?_))))))
    unfold te at q
    rw [Bool.eq_iff_iff]; exact q
  · intro K T h0 h2 h hn
    have hT := h.len
    refine Ev.step (fun k => coppicerref_Means.l0.eq_2 _ _ _ _ _ _ _ k) ?_
    rw [w64 (x := ((w.length : Int) + 1) * ((w.length : Int) + 1)) (by omega) (by omega)]
    refine Ev.pos h2 (Ev.pos h0 (Ev.pos h2 (Ev.pos hq0 (Ev.pos (by omega) (Ev.pos (by omega) ?_)))))
    refine means_l1 hw hl h0 h2 hr ?_ hn
    refine ⟨⟨by rw [List.length_set]; exact hT, ?_, ?_⟩, ?_, ?_⟩
    · intro k a b; rw [rdLB_set _ _ _ _ h0 (by omega) a, if_neg (by omega)]; exact h.row k a b
    · intro k i j a b c d e
      unfold te; rw [rdLB_set _ _ _ _ h0 (by omega) a, if_neg (by omega)]; exact h.ok k i j a b c d e
    · rw [rdLB_set _ _ _ _ h0 (by omega) h0, if_pos rfl, List.length_replicate]; omega
    · intro i j a b c d; omega
theorem errL_all {K : Int} : ∀ (l : List S67) (s : Int), errL K s l = 0 ↔ ∀ i : Nat, i < l.length → nodeErr K (s + i) (l.getD i z67) = 0
  | [], s => by simp [errL]
  | x :: l, s => by
    have ih := errL_all (K := K) l (s + 1)
    unfold errL
    by_cases c : nodeErr K s x = 0
    · rw [if_pos c, ih]
      constructor
      · intro h i hi
        cases i with
        | zero => simpa using c
        | succ i =>
          have := h i (by simpa using hi)
          rw [List.getD_cons_succ, show s + ((i + 1 : Nat) : Int) = s + 1 + i by omega]; exact this
      · intro h i hi
        have := h (i + 1) (by simpa using hi)
        rw [List.getD_cons_succ, show s + ((i + 1 : Nat) : Int) = s + 1 + i by omega] at this; exact this
    · rw [if_neg c]
      constructor
      · intro h; exact absurd h c
      · intro h; exact absurd (by simpa using h 0 (by simp)) c
theorem errL_nd {K : Int} {l : List S67} : errL K 0 l = 0 ↔ ∀ k : Int, 0 ≤ k → k < l.length → nodeErr K k (nd l k) = 0 := by
  rw [errL_all]
  constructor
  · intro h k h0 h1
    have := h k.toNat (by omega)
    rw [show (0 : Int) + (k.toNat : Int) = k by omega] at this; exact this
  · intro h i hi
    have := h i (by omega) (by omega)
    rw [Int.zero_add]; exact this
theorem nodeErr_ok {K i : Int} {x : S67} : nodeErr K i x = 0 ↔ 1 ≤ x.f0 ∧ x.f0 ≤ 6 ∧ (x.f0 = 3 → 0 ≤ x.f1 ∧ x.f1 < K) ∧ (4 ≤ x.f0 → 0 ≤ x.f1 ∧ x.f1 < i) ∧ (x.f0 = 4 ∨ x.f0 = 5 → 0 ≤ x.f2 ∧ x.f2 < i) := by
  unfold nodeErr
  constructor
  · intro h
    by_cases c1 : x.f0 < 1 ∨ x.f0 > 6
    · rw [if_pos c1] at h; omega
    rw [if_neg c1] at h
    by_cases c2 : x.f0 = 3 ∧ (x.f1 < 0 ∨ x.f1 ≥ K)
    · rw [if_pos c2] at h; omega
    rw [if_neg c2] at h
    by_cases c3 : x.f0 ≥ 4 ∧ (x.f1 < 0 ∨ x.f1 ≥ i)
    · rw [if_pos c3] at h; omega
    rw [if_neg c3] at h
    by_cases c4 : (x.f0 = 4 ∨ x.f0 = 5) ∧ (x.f2 < 0 ∨ x.f2 ≥ i)
    · rw [if_pos c4] at h; omega
    omega
  · intro h
    rw [if_neg (by omega), if_neg (by omega), if_neg (by omega), if_neg (by omega)]
theorem rt_of {K : Int} {l : List S67} (h : errL K 0 l = 0) : Rt l := by
  rw [errL_nd] at h
  intro k h0 h1
  have := nodeErr_ok.1 (h k h0 h1)
  exact ⟨this.1, this.2.1, this.2.2.2.1, this.2.2.2.2⟩
structure Emb (L b : List S67) (o : Int) : Prop where
  f0 : ∀ k : Int, 0 ≤ k → k < b.length → (nd L (k + o)).f0 = (nd b k).f0
  f3 : ∀ k : Int, 0 ≤ k → k < b.length → (nd b k).f0 = 3 → (nd L (k + o)).f1 = (nd b k).f1
  f1 : ∀ k : Int, 0 ≤ k → k < b.length → 4 ≤ (nd b k).f0 → (nd L (k + o)).f1 = (nd b k).f1 + o
  f2 : ∀ k : Int, 0 ≤ k → k < b.length → (nd b k).f0 = 4 ∨ (nd b k).f0 = 5 → (nd L (k + o)).f2 = (nd b k).f2 + o
def EvP {α : Type} (g : Nat → Option α) (J : α → Prop) : Prop := ∃ r, J r ∧ Ev g r
theorem EvP.of {α : Type} {g : Nat → Option α} {J : α → Prop} {r : α} (h : J r) (e : Ev g r) : EvP g J := ⟨r, h, e⟩
theorem EvP.now {α : Type} {J : α → Prop} {r : α} (h : J r) : EvP (fun _ => some r) J := ⟨r, h, Ev.now r⟩
theorem EvP.pos {α : Type} {c : Prop} [Decidable c] {g f : Nat → Option α} {J : α → Prop} (h : c) (e : EvP g J) : EvP (fun k => if c then g k else f k) J := let ⟨r, h1, h2⟩ := e; ⟨r, h1, Ev.pos h h2⟩
theorem EvP.neg {α : Type} {c : Prop} [Decidable c] {g f : Nat → Option α} {J : α → Prop} (h : ¬ c) (e : EvP f J) : EvP (fun k => if c then g k else f k) J := let ⟨r, h1, h2⟩ := e; ⟨r, h1, Ev.neg h h2⟩
theorem EvP.step {α : Type} {g f : Nat → Option α} {J : α → Prop} (h : ∀ k, g (k + 1) = f k) (e : EvP f J) : EvP g J := let ⟨r, h1, h2⟩ := e; ⟨r, h1, Ev.step h h2⟩
theorem EvP.congr {α : Type} {g f : Nat → Option α} {J : α → Prop} (h : ∀ k, g k = f k) (e : EvP f J) : EvP g J := let ⟨r, h1, h2⟩ := e; ⟨r, h1, Ev.congr h h2⟩
theorem EvP.bind {α β : Type} {g : Nat → Option α} {f : Nat → α → Option β} {a : α} {J : β → Prop} (h : Ev g a) (e : EvP (fun n => f n a) J) : EvP (fun n => (g n).bind (f n)) J := let ⟨r, h1, h2⟩ := e; ⟨r, h1, Ev.bind h h2⟩
theorem EvP.bindP {α β : Type} {g : Nat → Option α} {f : Nat → α → Option β} {I : α → Prop} {J : β → Prop} (h : EvP g I) (e : ∀ a, I a → EvP (fun n => f n a) J) : EvP (fun n => (g n).bind (f n)) J := let ⟨a, h1, h2⟩ := h; EvP.bind h2 (e a h1)
theorem EvP.ev {α β : Type} {g : Nat → Option α} {f : Nat → α → Option β} {I : α → Prop} {r : β} (h : EvP g I) (e : ∀ a, I a → Ev (fun n => f n a) r) : Ev (fun n => (g n).bind (f n)) r := let ⟨a, h1, h2⟩ := h; Ev.bind h2 (e a h1)
theorem EvP.mono {α : Type} {g : Nat → Option α} {I J : α → Prop} (h : EvP g I) (hi : ∀ a, I a → J a) : EvP g J := let ⟨a, h1, h2⟩ := h; ⟨a, hi a h1, h2⟩
theorem EvP.loop {σ ρ : Type} {L : Nat → Int → σ → Option ρ} {n : Int} {J : ρ → Prop} (I : Int → σ → Prop)
    (hend : ∀ s, I n s → EvP (fun k => L k n s) J)
    (hstep : ∀ i s, 0 ≤ i → i < n → I i s → (∀ s', I (i + 1) s' → EvP (fun k => L k (i + 1) s') J) → EvP (fun k => L k i s) J) :
    ∀ (i : Int) (s : σ), 0 ≤ i → i ≤ n → I i s → EvP (fun k => L k i s) J := by
  have key : ∀ (d : Nat) (i : Int) (s : σ), 0 ≤ i → i + d = n → I i s → EvP (fun k => L k i s) J := by
    intro d
    induction d with
    | zero => intro i s h0 h1 hI; obtain rfl : i = n := by omega
              exact hend s hI
    | succ d ih =>
      intro i s h0 h1 hI
      exact hstep i s h0 (by omega) hI (fun s' h' => ih (i + 1) s' (by omega) (by omega) h')
  intro i s h0 h1 hI
  exact key (n - i).toNat i s h0 (by omega) hI
def tb (r : List Int) (i : Int) (j : Nat) : Bool := (rd r i).toNat.testBit j
def Wd (x : Int) : Prop := 0 ≤ x ∧ x < 4294967296
theorem or_tb {x y : Int} (hx : Wd x) (hy : Wd y) : Wd (Go.bits .or .u32 x y) ∧ ∀ j, (Go.bits .or .u32 x y).toNat.testBit j = (x.toNat.testBit j || y.toNat.testBit j) := by
  have e := u32_or x.toNat y.toNat (by have := hx.2; omega) (by have := hy.2; omega)
  rw [Int.toNat_of_nonneg hx.1, Int.toNat_of_nonneg hy.1] at e
  rw [e]
  have hb := Nat.or_lt_two_pow (n := 32) (x := x.toNat) (y := y.toNat) (by have := hx.2; omega) (by have := hy.2; omega)
  refine ⟨⟨by omega, by omega⟩, fun j => ?_⟩
  rw [Int.toNat_natCast, Nat.testBit_or]
theorem and_tb {x i : Int} (hx : Wd x) (h0 : 0 ≤ i) (h1 : i < 32) : Go.bits .and .u32 (shr .u32 x i) 1 = 1 ↔ x.toNat.testBit i.toNat = true := by
  have e := bit_shr x.toNat i.toNat (by have := hx.2; omega) (by omega)
  rwa [Int.toNat_of_nonneg hx.1, Int.toNat_of_nonneg h0] at e
theorem shl_tb {i : Int} (h0 : 0 ≤ i) (h1 : i < 32) : Wd (shl .u32 1 i) ∧ ∀ j, (shl .u32 1 i).toNat.testBit j = decide (i = (j : Int)) := by
  have e := shl1 i.toNat (by omega)
  rw [Int.toNat_of_nonneg h0] at e
  have h2 : 2 ^ i.toNat < 2 ^ 32 := Nat.pow_lt_pow_right (by omega) (by omega)
  rw [e]
  refine ⟨⟨Int.natCast_nonneg _, by generalize 2 ^ i.toNat = p at h2 ⊢; omega⟩, fun j => ?_⟩
  rw [Int.toNat_natCast, Nat.testBit_two_pow]
  by_cases c : i.toNat = j
  · rw [decide_eq_true c, decide_eq_true (by omega)]
  · rw [decide_eq_false c, decide_eq_false (by omega)]
structure RowOk (w : List Int) (r : List Int) (P : Int → Int → Prop) : Prop where
  len : (r.length : Int) = (w.length : Int) + 1
  wd : ∀ i : Int, 0 ≤ i → i ≤ w.length → Wd (rd r i)
  bit : ∀ (i : Int) (j : Nat), 0 ≤ i → i ≤ w.length → (tb r i j = true ↔ i ≤ j ∧ (j : Int) ≤ w.length ∧ P i j)
theorem RowOk.to {w r : List Int} {P Q : Int → Int → Prop} (h : RowOk w r P) (e : ∀ i j : Int, 0 ≤ i → i ≤ j → j ≤ w.length → (P i j ↔ Q i j)) : RowOk w r Q := by
  refine ⟨h.len, h.wd, fun i j h0 h1 => ?_⟩
  rw [h.bit i j h0 h1]
  constructor
  · rintro ⟨a, b, c⟩; exact ⟨a, b, (e i j h0 a b).1 c⟩
  · rintro ⟨a, b, c⟩; exact ⟨a, b, (e i j h0 a b).2 c⟩
structure RowTo (w : List Int) (r r0 : List Int) (P : Int → Int → Prop) (i0 : Int) : Prop where
  len : (r.length : Int) = (w.length : Int) + 1
  wd : ∀ i : Int, 0 ≤ i → i ≤ w.length → Wd (rd r i)
  bit : ∀ (i : Int) (j : Nat), 0 ≤ i → i ≤ w.length → i < i0 → (tb r i j = true ↔ i ≤ j ∧ (j : Int) ≤ w.length ∧ P i j)
  rest : ∀ i : Int, i0 ≤ i → i ≤ w.length → rd r i = rd r0 i
theorem RowTo.start {w r : List Int} {P : Int → Int → Prop} (hl : (r.length : Int) = (w.length : Int) + 1) (hw : ∀ i : Int, 0 ≤ i → i ≤ w.length → Wd (rd r i)) : RowTo w r r P 0 :=
  ⟨hl, hw, fun i j h0 h1 h2 => by omega, fun i h0 h1 => rfl⟩
theorem RowTo.done {w r r0 : List Int} {P : Int → Int → Prop} (h : RowTo w r r0 P ((w.length : Int) + 1)) : RowOk w r P :=
  ⟨h.len, h.wd, fun i j h0 h1 => h.bit i j h0 h1 (by omega)⟩
theorem RowTo.put {w r r0 : List Int} {P : Int → Int → Prop} {i v : Int} (h : RowTo w r r0 P i) (h0 : 0 ≤ i) (h1 : i ≤ w.length) (hv : Wd v) (hb : ∀ j : Nat, v.toNat.testBit j = true ↔ i ≤ j ∧ (j : Int) ≤ w.length ∧ P i j) : RowTo w (r.set i.toNat v) r0 P (i + 1) := by
  have hl := h.len
  refine ⟨by rw [List.length_set]; exact hl, ?_, ?_, ?_⟩
  · intro a a0 a1
    by_cases e : a = i
    · subst e; rw [rd_set_eq _ _ _ h0 (by omega)]; exact hv
    · rw [rd_set_ne _ _ _ _ h0 a0 e]; exact h.wd a a0 a1
  · intro a j a0 a1 a2
    unfold tb
    by_cases e : a = i
    · subst e; rw [rd_set_eq _ _ _ h0 (by omega)]; exact hb j
    · rw [rd_set_ne _ _ _ _ h0 a0 e]; exact h.bit a j a0 a1 (by omega)
  · intro a a0 a1
    rw [rd_set_ne _ _ _ _ h0 (by omega) (by omega)]; exact h.rest a (by omega) a1
theorem RowTo.keep {w r r0 : List Int} {P : Int → Int → Prop} {i : Int} (h : RowTo w r r0 P i) (h0 : 0 ≤ i) (h1 : i ≤ w.length) (hb : ∀ j : Nat, (rd r0 i).toNat.testBit j = true ↔ i ≤ j ∧ (j : Int) ≤ w.length ∧ P i j) : RowTo w r r0 P (i + 1) := by
  refine ⟨h.len, h.wd, ?_, fun a a0 a1 => h.rest a (by omega) a1⟩
  intro a j a0 a1 a2
  by_cases e : a = i
  · subst e; unfold tb; rw [h.rest a (by omega) a1]; exact hb j
  · exact h.bit a j a0 a1 (by omega)
theorem zero_row (w : List Int) : ((List.replicate ((w.length : Int) + 1).toNat (0 : Int)).length : Int) = (w.length : Int) + 1 ∧ ∀ i : Int, 0 ≤ i → i ≤ w.length → rd (List.replicate ((w.length : Int) + 1).toNat (0 : Int)) i = 0 :=
  ⟨by rw [List.length_replicate]; omega, fun i h0 h1 => rd_replicate _ _ _ h0 (by omega)⟩
theorem wd0 : Wd 0 := ⟨by omega, by omega⟩
theorem through_ev {w a b : List Int} {A B : Int → Int → Prop} (hw : w.length ≤ 20) (ha : RowOk w a A) (hb : RowOk w b B) :
    EvP (fun k => sentence_spans_1.f k a b ((w.length : Int) + 1)) (fun r => RowOk w r (fun i j => ∃ m : Int, i ≤ m ∧ m ≤ j ∧ A i m ∧ B m j)) := by
  have la := ha.len
  have lb := hb.len
  obtain ⟨z1, z2⟩ := zero_row w
  unfold sentence_spans_1.f
  refine EvP.pos (by omega) (EvP.pos (by omega) ?_)
  refine EvP.loop (σ := List Int) (L := fun k i r => sentence_spans_1.l0 k a b r ((w.length : Int) + 1) i ((w.length : Int) + 1)) (n := (w.length : Int) + 1)
    (fun i r => RowTo w r (List.replicate ((w.length : Int) + 1).toNat (0 : Int)) (fun i j => ∃ m : Int, i ≤ m ∧ m ≤ j ∧ A i m ∧ B m j) i) ?_ ?_ 0 _ (Int.le_refl _) (by omega)
    (RowTo.start z1 (fun i h0 h1 => by rw [z2 i h0 h1]; exact wd0))
  · intro r h
    refine EvP.step (fun k => sentence_spans_1.l0.eq_2 _ _ _ _ _ _ k) ?_
    exact EvP.neg (by omega) (EvP.now h.done)
  · intro i r i0 i1 h hn
    refine EvP.step (fun k => sentence_spans_1.l0.eq_2 _ _ _ _ _ _ k) ?_
    refine EvP.pos i1 ?_
    refine EvP.loop (σ := List Int) (L := fun k j r => sentence_spans_1.l1 k a b r i ((w.length : Int) + 1) i ((w.length : Int) + 1) j ((w.length : Int) + 1)) (n := (w.length : Int) + 1)
      (fun j q => ∃ v : Int, Wd v ∧ q = r.set i.toNat v ∧ ∀ t : Nat, v.toNat.testBit t = true ↔ ∃ m : Int, 0 ≤ m ∧ m < j ∧ tb a i m.toNat = true ∧ tb b m t = true) ?_ ?_ 0 r (Int.le_refl _) (by omega) ?_
    · rintro q ⟨v, hv, rfl, hq⟩
      refine EvP.step (fun k => sentence_spans_1.l1.eq_2 _ _ _ _ _ _ _ _ _ k) ?_
      rw [w64 (x := i + 1) (by omega) (by omega)]
      refine EvP.neg (by omega) (hn _ (h.put i0 (by omega) hv ?_))
      intro t
      rw [hq t]
      constructor
      · rintro ⟨m, m0, m1, m2, m3⟩
        have q1 := (ha.bit i m.toNat i0 (by omega)).1 m2
        have q2 := (hb.bit m t m0 (by omega)).1 m3
        rw [Int.toNat_of_nonneg m0] at q1
        exact ⟨by omega, q2.2.1, m, q1.1, q2.1, q1.2.2, q2.2.2⟩
      · rintro ⟨t0, t1, m, m0, m1, m2, m3⟩
        refine ⟨m, by omega, by omega, (ha.bit i m.toNat i0 (by omega)).2 ?_, (hb.bit m t (by omega) (by omega)).2 ⟨m1, t1, m3⟩⟩
        rw [Int.toNat_of_nonneg (by omega)]
        exact ⟨m0, by omega, m2⟩
    · rintro j q j0 j1 ⟨v, hv, rfl, hq⟩ hn2
      have hl := h.len
      refine EvP.step (fun k => sentence_spans_1.l1.eq_2 _ _ _ _ _ _ _ _ _ k) ?_
      rw [w64 (x := j + 1) (by omega) (by omega)]
      refine EvP.pos j1 (EvP.pos i0 (EvP.pos (by omega) (EvP.pos j0 ?_)))
      have ht := and_tb (ha.wd i i0 (by omega)) j0 (by omega)
      by_cases c : Go.bits .and .u32 (shr .u32 (rd a i) j) 1 = 1
      · refine EvP.pos c (EvP.pos (by rw [List.length_set]; omega) (EvP.pos (by omega) ?_))
        rw [rd_set_eq _ _ _ i0 (by omega), List.set_set]
        obtain ⟨o1, o2⟩ := or_tb hv (hb.wd j j0 (by omega))
        refine hn2 _ ⟨_, o1, rfl, fun t => ?_⟩
        rw [o2 t, Bool.or_eq_true, hq t]
        constructor
        · rintro (⟨m, m0, m1, m2⟩ | e)
          · exact ⟨m, m0, by omega, m2⟩
          · exact ⟨j, j0, by omega, ht.1 c, e⟩
        · rintro ⟨m, m0, m1, m2, m3⟩
          by_cases e : m = j
          · subst e; exact .inr m3
          · exact .inl ⟨m, m0, by omega, m2, m3⟩
      · refine EvP.neg c (hn2 _ ⟨v, hv, rfl, fun t => ?_⟩)
        rw [hq t]
        constructor
        · rintro ⟨m, m0, m1, m2⟩; exact ⟨m, m0, by omega, m2⟩
        · rintro ⟨m, m0, m1, m2, m3⟩
          by_cases e : m = j
          · subst e; exact absurd (ht.2 m2) c
          · exact ⟨m, m0, by omega, m2, m3⟩
    · have e : rd r i = 0 := by rw [h.rest i (Int.le_refl _) (by omega)]; exact z2 i i0 (by omega)
      refine ⟨0, wd0, ?_, fun t => ?_⟩
      · have hl := h.len
        have g : r[i.toNat]'(by omega) = 0 := by rw [← rd_getElem]; exact e
        have q : r.set i.toNat (r[i.toNat]'(by omega)) = r := List.set_getElem_self _
        rw [g] at q; exact q.symm
      · constructor
        · intro q; simp at q
        · rintro ⟨m, m0, m1, _⟩; omega
def St (A : Int → Int → Prop) : Nat → Int → Int → Prop
  | 0, i, j => j = i
  | r + 1, i, j => St A r i j ∨ ∃ m : Int, i ≤ m ∧ m ≤ j ∧ St A r i m ∧ A m j
theorem St.le {A : Int → Int → Prop} {i j : Int} : ∀ {r s : Nat}, r ≤ s → St A r i j → St A s i j := by
  intro r s h hs
  obtain ⟨d, rfl⟩ := Nat.exists_eq_add_of_le h
  clear h
  induction d with
  | zero => exact hs
  | succ d ih => exact .inl ih
theorem St.front {A : Int → Int → Prop} {i m : Int} (h0 : i ≤ m) (ha : A i m) : ∀ (r : Nat) (j : Int), m ≤ j → St A r m j → St A (r + 1) i j
  | 0, j, _, h => by
    have h : j = m := h
    subst h; exact .inr ⟨i, Int.le_refl _, h0, rfl, ha⟩
  | r + 1, j, hj, h => by
    rcases h with h | ⟨p, p0, p1, p2, p3⟩
    · exact .inl (St.front h0 ha r j hj h)
    · exact .inr ⟨p, by omega, p1, St.front h0 ha r p p0 p2, p3⟩
theorem star_snoc {l : List S67} {k : Int} {u v : List Int} (h6 : (nd l k).f0 = 6) (h : Tk l k u) (hv : Tk l (nd l k).f1 v) : Tk l k (u ++ v) := by
  have hv1 : Tk l k v := by
    by_cases e : v = []
    · subst e; exact Tk.stop k h6
    · have := Tk.more k v [] h6 hv e (Tk.stop k h6)
      rwa [List.append_nil] at this
  induction h with
  | stop k _ => exact hv1
  | more k a b _ h1 hn _ _ ih => rw [List.append_assoc]; exact Tk.more k a _ h6 h1 hn (ih h6 hv hv1)
  | _ => omega
theorem st_tk {l : List S67} {w : List Int} {k : Int} (h6 : (nd l k).f0 = 6) {i : Int} (h0 : 0 ≤ i) : ∀ (r : Nat) (j : Int), i ≤ j → j ≤ w.length → St (fun a b => Tk l (nd l k).f1 (sg w a b)) r i j → Tk l k (sg w i j)
  | 0, j, _, _, h => by
    have h : j = i := h
    subst h; rw [sg_self]; exact Tk.stop k h6
  | r + 1, j, hj, hj2, h => by
    rcases h with h | ⟨m, m0, m1, m2, m3⟩
    · exact st_tk h6 h0 r j hj hj2 h
    · rw [sg_cat h0 m0 m1]; exact star_snoc h6 (st_tk h6 h0 r m m0 (by omega) m2) m3
theorem tk_st {l : List S67} {w : List Int} {k : Int} (h6 : (nd l k).f0 = 6) {j : Int} (hj : j ≤ w.length) : ∀ (d : Nat) (i : Int), 0 ≤ i → i + d = j → Tk l k (sg w i j) → St (fun a b => Tk l (nd l k).f1 (sg w a b)) d i j := by
  intro d
  induction d using Nat.strongRecOn with
  | _ d ih =>
    intro i h0 h1 h
    rcases (tk6s h6 h0 (by omega) hj).1 h with e | ⟨m, m0, m1, m2, m3⟩
    · exact St.le (Nat.zero_le d) e
    · have := ih (j - m).toNat (by omega) m (by omega) (by omega) m3
      exact St.le (show (j - m).toNat + 1 ≤ d by omega) (St.front (by omega) m2 _ j m1 this)
theorem st_iff {l : List S67} {w : List Int} {k : Int} (h6 : (nd l k).f0 = 6) {i j : Int} (h0 : 0 ≤ i) (h1 : i ≤ j) (h2 : j ≤ w.length) : St (fun a b => Tk l (nd l k).f1 (sg w a b)) (w.length + 1) i j ↔ Tk l k (sg w i j) :=
  ⟨fun h => st_tk h6 h0 _ j h1 h2 h, fun h => St.le (show (j - i).toNat ≤ w.length + 1 by omega) (tk_st h6 h2 (j - i).toNat i h0 (by omega) h)⟩
theorem rdLI_set (T : List (List Int)) (k k' : Int) (r : List Int) (h0 : 0 ≤ k) (h1 : k < T.length) (h2 : 0 ≤ k') : rd_L5 (T.set k.toNat r) k' = if k' = k then r else rd_L5 T k' := by
  simp only [rd_L5, List.getD_eq_getElem?_getD]
  by_cases c : k' = k
  · subst c; rw [if_pos rfl, List.getElem?_set_self (by omega)]; rfl
  · rw [if_neg c, List.getElem?_set_ne (by omega)]
structure SFill (l : List S67) (w : List Int) (T : List (List Int)) (K : Int) : Prop where
  len : T.length = l.length
  ok : ∀ k : Int, 0 ≤ k → k < K → RowOk w (rd_L5 T k) (fun i j => Tk l k (sg w i j))
section
variable {l : List S67} {w : List Int} {K : Int} {T : List (List Int)} {J : List (List Int) → Prop} (hw : w.length ≤ 20) (hl : l.length ≤ 1000) (hK0 : 0 ≤ K) (hK1 : K < l.length) (hr : Rt l) (hT : SFill l w T K)
  (hn : ∀ T', SFill l w T' (K + 1) → EvP (fun k => sentence_spans.l0 k w T' l (l.length : Int) (K + 1) ((w.length : Int) + 1)) J)
include hw hl hK0 hK1 hr hT hn
theorem spans_put {t : List Int} (ht : RowOk w t (fun i j => Tk l K (sg w i j))) : EvP (fun k => sentence_spans.l0 k w (T.set K.toNat t) l (l.length : Int) (K + 1) ((w.length : Int) + 1)) J := by
  have e := hT.len
  refine hn _ ⟨by rw [List.length_set]; exact e, fun k h0 h1 => ?_⟩
  rw [rdLI_set _ _ _ _ hK0 (by omega) h0]
  by_cases c : k = K
  · subst c; rw [if_pos rfl]; exact ht
  · rw [if_neg c]; exact hT.ok k h0 (by omega)
theorem spans_l1 (h2 : (nd l K).f0 = 2) : EvP (fun k => sentence_spans.l1 k w T K (List.replicate ((w.length : Int) + 1).toNat 0) l (l.length : Int) K ((w.length : Int) + 1) 0 ((w.length : Int) + 1)) J := by
  obtain ⟨z1, z2⟩ := zero_row w
  have e := hT.len
  refine EvP.loop (σ := List Int) (L := fun k i t => sentence_spans.l1 k w T K t l (l.length : Int) K ((w.length : Int) + 1) i ((w.length : Int) + 1)) (n := (w.length : Int) + 1)
    (fun i t => RowTo w t (List.replicate ((w.length : Int) + 1).toNat (0 : Int)) (fun i j => j = i) i) ?_ ?_ 0 _ (Int.le_refl _) (by omega) (RowTo.start z1 (fun i h0 h1 => by rw [z2 i h0 h1]; exact wd0))
  · intro t h
    refine EvP.step (fun k => sentence_spans.l1.eq_2 _ _ _ _ _ _ _ _ _ _ k) ?_
    rw [w64 (x := K + 1) (by omega) (by omega)]
    refine EvP.neg (by omega) (EvP.pos hK0 (EvP.pos (by omega) (spans_put hw hl hK0 hK1 hr hT hn ?_)))
    exact h.done.to (fun i j h0 h1 h3 => (tk2s h2 h0 h1 h3).symm)
  · intro i t i0 i1 h hn2
    have hl2 := h.len
    refine EvP.step (fun k => sentence_spans.l1.eq_2 _ _ _ _ _ _ _ _ _ _ k) ?_
    rw [w64 (x := i + 1) (by omega) (by omega)]
    obtain ⟨s1, s2⟩ := shl_tb i0 (show i < 32 by omega)
    refine EvP.pos i1 (EvP.pos i0 (EvP.pos (by omega) (hn2 _ (h.put i0 (by omega) s1 (fun j => ?_)))))
    rw [s2 j, decide_eq_true_iff]
    constructor
    · intro q; exact ⟨by omega, by omega, q.symm⟩
    · intro q; exact q.2.2.symm
theorem spans_l2 (h3 : (nd l K).f0 = 3) : EvP (fun k => sentence_spans.l2 k w T K (List.replicate ((w.length : Int) + 1).toNat 0) l (l.length : Int) K w (w.length : Int) 0 ((w.length : Int) + 1) (nd l K).f0 (nd l K).f1 (nd l K).f2) J := by
  obtain ⟨z1, z2⟩ := zero_row w
  have e := hT.len
  refine EvP.loop (σ := List Int) (L := fun k i t => sentence_spans.l2 k w T K t l (l.length : Int) K w (w.length : Int) i ((w.length : Int) + 1) (nd l K).f0 (nd l K).f1 (nd l K).f2) (n := (w.length : Int))
    (fun i t => RowTo w t (List.replicate ((w.length : Int) + 1).toNat (0 : Int)) (fun i j => j = i + 1 ∧ rd w i = (nd l K).f1) i) ?_ ?_ 0 _ (Int.le_refl _) (by omega) (RowTo.start z1 (fun i h0 h1 => by rw [z2 i h0 h1]; exact wd0))
  · intro t h
    refine EvP.step (fun k => sentence_spans.l2.eq_2 _ _ _ _ _ _ _ _ _ _ _ _ _ _ k) ?_
    rw [w64 (x := K + 1) (by omega) (by omega)]
    refine EvP.neg (by omega) (EvP.pos hK0 (EvP.pos (by omega) (spans_put hw hl hK0 hK1 hr hT hn ?_)))
    have h' := h.keep (by omega) (Int.le_refl _) (fun j => by
      rw [z2 _ (by omega) (Int.le_refl _)]
      constructor
      · intro q; simp at q
      · rintro ⟨a, b, c, _⟩; omega)
    exact h'.done.to (fun i j a b c => (tk3s h3 a b c).symm)
  · intro i t i0 i1 h hn2
    have hl2 := h.len
    refine EvP.step (fun k => sentence_spans.l2.eq_2 _ _ _ _ _ _ _ _ _ _ _ _ _ _ k) ?_
    rw [w64 (x := i + 1) (by omega) (by omega)]
    refine EvP.pos i1 (EvP.pos i0 (EvP.pos i1 ?_))
    by_cases c : rd w i = (nd l K).f1
    · obtain ⟨s1, s2⟩ := shl_tb (show 0 ≤ i + 1 by omega) (show i + 1 < 32 by omega)
      refine EvP.pos c (EvP.pos (by omega) (EvP.pos (by omega) (hn2 _ (h.put i0 (by omega) s1 (fun j => ?_)))))
      rw [s2 j, decide_eq_true_iff]
      constructor
      · intro q; exact ⟨by omega, by omega, q.symm, c⟩
      · intro q; exact q.2.2.1.symm
    · refine EvP.neg c (hn2 _ (h.keep i0 (by omega) (fun j => ?_)))
      rw [z2 _ i0 (by omega)]
      constructor
      · intro q; simp at q
      · rintro ⟨_, _, _, q⟩; exact absurd q c
theorem spans_l3 (h5 : (nd l K).f0 = 5) : EvP (fun k => sentence_spans.l3 k w T K (List.replicate ((w.length : Int) + 1).toNat 0) l (l.length : Int) K ((w.length : Int) + 1) 0 ((w.length : Int) + 1) (nd l K).f0 (nd l K).f1 (nd l K).f2) J := by
  obtain ⟨z1, z2⟩ := zero_row w
  have e := hT.len
  obtain ⟨-, -, r1, r2⟩ := hr K hK0 hK1
  have r1 := r1 (by omega); have r2 := r2 (.inr h5)
  have t1 := hT.ok _ r1.1 r1.2
  have t2 := hT.ok _ r2.1 r2.2
  have l1 := t1.len
  have l2 := t2.len
  refine EvP.loop (σ := List Int) (L := fun k i t => sentence_spans.l3 k w T K t l (l.length : Int) K ((w.length : Int) + 1) i ((w.length : Int) + 1) (nd l K).f0 (nd l K).f1 (nd l K).f2) (n := (w.length : Int) + 1)
    (fun i t => RowTo w t (List.replicate ((w.length : Int) + 1).toNat (0 : Int)) (fun i j => Tk l K (sg w i j)) i) ?_ ?_ 0 _ (Int.le_refl _) (by omega) (RowTo.start z1 (fun i h0 h1 => by rw [z2 i h0 h1]; exact wd0))
  · intro t h
    refine EvP.step (fun k => sentence_spans.l3.eq_2 _ _ _ _ _ _ _ _ _ _ _ _ _ k) ?_
    rw [w64 (x := K + 1) (by omega) (by omega)]
    exact EvP.neg (by omega) (EvP.pos hK0 (EvP.pos (by omega) (spans_put hw hl hK0 hK1 hr hT hn h.done)))
  · intro i t i0 i1 h hn2
    have hl2 := h.len
    refine EvP.step (fun k => sentence_spans.l3.eq_2 _ _ _ _ _ _ _ _ _ _ _ _ _ k) ?_
    rw [w64 (x := i + 1) (by omega) (by omega)]
    obtain ⟨o1, o2⟩ := or_tb (t1.wd i i0 (by omega)) (t2.wd i i0 (by omega))
    refine EvP.pos i1 (EvP.pos r1.1 (EvP.pos (by omega) (EvP.pos i0 (EvP.pos (by omega) (EvP.pos r2.1 (EvP.pos (by omega) (EvP.pos (by omega) (EvP.pos (by omega) (hn2 _ (h.put i0 (by omega) o1 (fun j => ?_)))))))))))
    have b1 := t1.bit i j i0 (by omega)
    have b2 := t2.bit i j i0 (by omega)
    unfold tb at b1 b2
    rw [o2 j, Bool.or_eq_true, b1, b2, tk5 h5]
    constructor
    · rintro (⟨a, b, c⟩ | ⟨a, b, c⟩)
      · exact ⟨a, b, .inl c⟩
      · exact ⟨a, b, .inr c⟩
    · rintro ⟨a, b, c | c⟩
      · exact .inl ⟨a, b, c⟩
      · exact .inr ⟨a, b, c⟩
theorem spans_l4 (h6 : (nd l K).f0 = 6) : EvP (fun k => sentence_spans.l4 k w T K (List.replicate ((w.length : Int) + 1).toNat 0) l (l.length : Int) K ((w.length : Int) + 1) 0 ((w.length : Int) + 1) (nd l K).f0 (nd l K).f1 (nd l K).f2) J := by
  obtain ⟨z1, z2⟩ := zero_row w
  have e := hT.len
  obtain ⟨-, -, r1, -⟩ := hr K hK0 hK1
  have r1 := r1 (by omega)
  have t1 := hT.ok _ r1.1 r1.2
  have l1 := t1.len
  refine EvP.loop (σ := List Int) (L := fun k i t => sentence_spans.l4 k w T K t l (l.length : Int) K ((w.length : Int) + 1) i ((w.length : Int) + 1) (nd l K).f0 (nd l K).f1 (nd l K).f2) (n := (w.length : Int) + 1)
    (fun i t => RowTo w t (List.replicate ((w.length : Int) + 1).toNat (0 : Int)) (fun i j => j = i) i) ?_ ?_ 0 _ (Int.le_refl _) (by omega) (RowTo.start z1 (fun i h0 h1 => by rw [z2 i h0 h1]; exact wd0))
  · intro t h
    refine EvP.step (fun k => sentence_spans.l4.eq_2 _ _ _ _ _ _ _ _ _ _ _ _ _ k) ?_
    refine EvP.neg (by omega) ?_
    refine EvP.loop (σ := List Int) (L := fun k r t => sentence_spans.l5 k w T K t l (l.length : Int) K ((w.length : Int) + 1) r ((w.length : Int) + 1) (nd l K).f0 (nd l K).f1 (nd l K).f2) (n := (w.length : Int) + 1)
      (fun r t => RowOk w t (St (fun a b => Tk l (nd l K).f1 (sg w a b)) r.toNat)) ?_ ?_ 0 t (Int.le_refl _) (by omega) (h.done.to (fun i j _ _ _ => Iff.rfl))
    · intro t h
      refine EvP.step (fun k => sentence_spans.l5.eq_2 _ _ _ _ _ _ _ _ _ _ _ _ _ k) ?_
      rw [w64 (x := K + 1) (by omega) (by omega)]
      refine EvP.neg (by omega) (EvP.pos hK0 (EvP.pos (by omega) (spans_put hw hl hK0 hK1 hr hT hn ?_)))
      refine h.to (fun i j a b c => ?_)
      rw [show ((w.length : Int) + 1).toNat = w.length + 1 by omega]
      exact st_iff h6 a b c
    · intro r t r0 r2 h hn2
      refine EvP.step (fun k => sentence_spans.l5.eq_2 _ _ _ _ _ _ _ _ _ _ _ _ _ k) ?_
      refine EvP.pos r2 (EvP.pos r1.1 (EvP.pos (by omega) ?_))
      refine EvP.bindP (through_ev hw h t1) ?_
      intro q hq
      have lq := hq.len
      have lt := h.len
      rw [lt]
      refine EvP.loop (σ := List Int) (L := fun k i t => sentence_spans.l6 k w T K t q l (l.length : Int) K ((w.length : Int) + 1) r ((w.length : Int) + 1) i ((w.length : Int) + 1) (nd l K).f0 (nd l K).f1 (nd l K).f2) (n := (w.length : Int) + 1)
        (fun i t' => RowTo w t' t (St (fun a b => Tk l (nd l K).f1 (sg w a b)) (r.toNat + 1)) i) ?_ ?_ 0 t (Int.le_refl _) (by omega) (RowTo.start lt h.wd)
      · intro t' h'
        refine EvP.step (fun k => sentence_spans.l6.eq_2 _ _ _ _ _ _ _ _ _ _ _ _ _ _ _ _ k) ?_
        rw [w64 (x := r + 1) (by omega) (by omega)]
        refine EvP.neg (by omega) (hn2 _ ?_)
        rw [show (r + 1).toNat = r.toNat + 1 by omega]
        exact h'.done
      · intro i t' i0 i1 h' hn3
        have lt' := h'.len
        refine EvP.step (fun k => sentence_spans.l6.eq_2 _ _ _ _ _ _ _ _ _ _ _ _ _ _ _ _ k) ?_
        rw [w64 (x := i + 1) (by omega) (by omega)]
        obtain ⟨o1, o2⟩ := or_tb (h'.wd i i0 (by omega)) (hq.wd i i0 (by omega))
        refine EvP.pos i1 (EvP.pos i0 (EvP.pos (by omega) (EvP.pos (by omega) (hn3 _ (h'.put i0 (by omega) o1 (fun j => ?_))))))
        have b1 := h.bit i j i0 (by omega)
        have b2 := hq.bit i j i0 (by omega)
        unfold tb at b1 b2
        rw [o2 j, Bool.or_eq_true, h'.rest i (Int.le_refl _) (by omega), b1, b2]
        constructor
        · rintro (⟨a, b, c⟩ | ⟨a, b, c⟩)
          · exact ⟨a, b, .inl c⟩
          · exact ⟨a, b, .inr c⟩
        · rintro ⟨a, b, c | c⟩
          · exact .inl ⟨a, b, c⟩
          · exact .inr ⟨a, b, c⟩
  · intro i t i0 i1 h hn2
    have hl2 := h.len
    refine EvP.step (fun k => sentence_spans.l4.eq_2 _ _ _ _ _ _ _ _ _ _ _ _ _ k) ?_
    rw [w64 (x := i + 1) (by omega) (by omega)]
    obtain ⟨s1, s2⟩ := shl_tb i0 (show i < 32 by omega)
    refine EvP.pos i1 (EvP.pos i0 (EvP.pos (by omega) (hn2 _ (h.put i0 (by omega) s1 (fun j => ?_)))))
    rw [s2 j, decide_eq_true_iff]
    constructor
    · intro q; exact ⟨by omega, by omega, q.symm⟩
    · intro q; exact q.2.2.symm
end
theorem spans_ev {l : List S67} {w : List Int} (hw : w.length ≤ 20) (hl : l.length ≤ 1000) (hr : Rt l) : EvP (fun k => sentence_spans.f k l w) (fun T => SFill l w T l.length) := by
  unfold sentence_spans.f
  rw [w64 (x := (w.length : Int) + 1) (by omega) (by omega)]
  refine EvP.pos (by omega) (EvP.pos (by omega) ?_)
  refine EvP.loop (σ := List (List Int)) (L := fun k K T => sentence_spans.l0 k w T l (l.length : Int) K ((w.length : Int) + 1)) (n := (l.length : Int))
    (fun K T => SFill l w T K) ?_ ?_ 0 _ (Int.le_refl _) (by omega) ⟨by simp, fun k a b => by omega⟩
  · intro T h
    refine EvP.step (fun k => sentence_spans.l0.eq_2 _ _ _ _ _ _ k) ?_
    exact EvP.neg (by omega) (EvP.now h)
  · intro K T h0 h1 h hn
    obtain ⟨z1, z2⟩ := zero_row w
    have e := h.len
    obtain ⟨r0, r0', r1, r2⟩ := hr K h0 h1
    refine EvP.step (fun k => sentence_spans.l0.eq_2 _ _ _ _ _ _ k) ?_
    rw [w64 (x := K + 1) (by omega) (by omega)]
    refine EvP.pos h1 (EvP.pos h0 (EvP.pos h1 (EvP.pos (by omega) (EvP.pos (by omega) ?_))))
    simp only [Option.bind_some]
    rw [z1]
    by_cases c2 : (nd l K).f0 = 2
    · exact EvP.pos c2 (spans_l1 hw hl h0 h1 hr h hn c2)
    refine EvP.neg c2 ?_
    by_cases c3 : (nd l K).f0 = 3
    · exact EvP.pos c3 (spans_l2 hw hl h0 h1 hr h hn c3)
    refine EvP.neg c3 ?_
    by_cases c4 : (nd l K).f0 = 4
    · have r1 := r1 (by omega); have r2 := r2 (.inl c4)
      refine EvP.pos c4 (EvP.pos r1.1 (EvP.pos (show (nd l K).f1 < (T.length : Int) by omega) (EvP.pos r2.1 (EvP.pos (show (nd l K).f2 < (T.length : Int) by omega) ?_))))
      refine EvP.bindP (through_ev hw (h.ok _ r1.1 r1.2) (h.ok _ r2.1 r2.2)) ?_
      intro t ht
      refine EvP.pos (by omega) (spans_put hw hl h0 h1 hr h hn ?_)
      exact ht.to (fun i j a b c => (tk4s c4 a b c).symm)
    refine EvP.neg c4 ?_
    by_cases c5 : (nd l K).f0 = 5
    · exact EvP.pos c5 (spans_l3 hw hl h0 h1 hr h hn c5)
    refine EvP.neg c5 ?_
    by_cases c6 : (nd l K).f0 = 6
    · exact EvP.pos c6 (spans_l4 hw hl h0 h1 hr h hn c6)
    refine EvP.neg c6 (EvP.pos (by omega) (spans_put hw hl h0 h1 hr h hn ?_))
    have c1 : (nd l K).f0 = 1 := by omega
    refine ⟨z1, fun i a b => by rw [z2 i a b]; exact wd0, fun i j a b => ?_⟩
    unfold tb
    rw [z2 i a b]
    constructor
    · intro q; simp at q
    · rintro ⟨_, _, q⟩; exact absurd q (tk1 c1)
theorem take_ev {l : List S67} {w : List Int} {R : Bool} (hw : w.length ≤ 20) (hl : l.length ≤ 1000) (h1 : 1 ≤ l.length) (hr : Rt l) (hR : R = true ↔ Tk l ((l.length : Int) - 1) w) : Ev (fun k => sentence_Take.f k l w) R := by
  unfold sentence_Take.f
  refine EvP.ev (spans_ev hw hl hr) ?_
  intro T h
  have e := h.len
  have q := h.ok ((l.length : Int) - 1) (by omega) (by omega)
  have lq := q.len
  have b := q.bit 0 w.length (Int.le_refl _) (by omega)
  have c := and_tb (i := (w.length : Int)) (q.wd 0 (Int.le_refl _) (by omega)) (by omega) (by omega)
  rw [w64 (x := (l.length : Int) - 1) (by omega) (by omega)]
  refine Ev.pos (by omega) (Ev.pos (by omega) (Ev.pos (by omega) (Ev.val ?_)))
  rw [Bool.eq_iff_iff, beq_iff_eq, c, hR]
  unfold tb at b
  rw [Int.toNat_natCast, b, sg_all]
  constructor
  · exact fun x => x.2.2
  · exact fun x => ⟨by omega, Int.le_refl _, x⟩
theorem isB (p : Prop) : ∃ R : Bool, R = true ↔ p := by
  by_cases h : p
  · exact ⟨true, by simp [h]⟩
  · exact ⟨false, by simp [h]⟩
theorem scode_ok {K : Int} {a : List S67} (ha : scode K a = 0) : 1 ≤ a.length ∧ a.length ≤ 9 ∧ errL K 0 a = 0 := by
  unfold scode at ha; split at ha; omega; exact ⟨by omega, by omega, ha⟩
theorem rdB_rep (n : Nat) (k : Int) : rdOf false (List.replicate n false) k = false := by
  simp only [rdOf, List.getD_eq_getElem?_getD, List.getElem?_replicate]
  split <;> rfl
def stepN (l : List S67) (X : List Bool) (k : Int) : Bool :=
  (nd l k).f0 == 1 || ((nd l k).f0 == 4 && (rdOf false X (nd l k).f1 || rdOf false X (nd l k).f2)) || ((nd l k).f0 == 5 && (rdOf false X (nd l k).f1 && rdOf false X (nd l k).f2))
structure NF (l : List S67) (X : List Bool) (i : Int) : Prop where
  len : X.length = l.length
  ok : ∀ k : Int, 0 ≤ k → k < i → rdOf false X k = stepN l X k
  rest : ∀ k : Int, i ≤ k → 0 ≤ k → rdOf false X k = false
theorem stepN_same {l : List S67} {X Y : List Bool} {k i : Int} (hr : Rt l) (h0 : 0 ≤ k) (h1 : k < l.length) (hi : k ≤ i) (h : ∀ j : Int, 0 ≤ j → j < i → rdOf false X j = rdOf false Y j) : stepN l X k = stepN l Y k := by
  unfold stepN
  obtain ⟨-, -, r1, r2⟩ := hr k h0 h1
  by_cases c : (nd l k).f0 = 4 ∨ (nd l k).f0 = 5
  · have a := r1 (by omega); have b := r2 c
    rw [h _ a.1 (by omega), h _ b.1 (by omega)]
  · have c4 : ((nd l k).f0 == 4) = false := by rw [beq_eq_false_iff_ne]; exact fun q => c (.inl q)
    have c5 : ((nd l k).f0 == 5) = false := by rw [beq_eq_false_iff_ne]; exact fun q => c (.inr q)
    rw [c4, c5]; simp
theorem NF.put {l : List S67} {X : List Bool} {i : Int} {b : Bool} (h : NF l X i) (hr : Rt l) (h0 : 0 ≤ i) (h1 : i < l.length) (hb : b = stepN l X i) : NF l (X.set i.toNat b) (i + 1) := by
  have hl := h.len
  have same : ∀ j : Int, 0 ≤ j → j < i → rdOf false (X.set i.toNat b) j = rdOf false X j := fun j j0 j1 => by rw [rdB_set _ _ _ _ h0 (by omega) j0, if_neg (by omega)]
  refine ⟨by rw [List.length_set]; exact hl, fun k k0 k1 => ?_, fun k k0 k1 => ?_⟩
  · rw [stepN_same hr k0 (by omega) (show k ≤ i by omega) same, rdB_set _ _ _ _ h0 (by omega) k0]
    by_cases c : k = i
    · subst c; rw [if_pos rfl]; exact hb
    · rw [if_neg c]; exact h.ok k k0 (by omega)
  · rw [rdB_set _ _ _ _ h0 (by omega) k1, if_neg (by omega)]; exact h.rest k (by omega) k1
theorem NF.keep {l : List S67} {X : List Bool} {i : Int} (h : NF l X i) (h0 : 0 ≤ i) (hb : stepN l X i = false) : NF l X (i + 1) := by
  refine ⟨h.len, fun k k0 k1 => ?_, fun k k0 k1 => h.rest k (by omega) k1⟩
  by_cases c : k = i
  · subst c; rw [hb]; exact h.rest k (Int.le_refl _) k0
  · exact h.ok k k0 (by omega)
theorem NF.uniq {l : List S67} {X Y : List Bool} (hX : NF l X l.length) (hY : NF l Y l.length) (hr : Rt l) : ∀ (d : Nat) (k : Int), 0 ≤ k → k = d → k < l.length → rdOf false X k = rdOf false Y k := by
  intro d
  induction d using Nat.strongRecOn with
  | _ d ih =>
    intro k k0 kd k1
    rw [hX.ok k k0 k1, hY.ok k k0 k1]
    exact stepN_same hr k0 k1 (Int.le_refl _) (fun j j0 j1 => ih j.toNat (by omega) j j0 (by omega) (by omega))
theorem none_ev {l : List S67} (hl : l.length ≤ 1000) (hr : Rt l) : EvP (fun k => sentence_None.f k l) (fun X => NF l X l.length) := by
  unfold sentence_None.f
  refine EvP.pos (by omega) (EvP.pos (by omega) ?_)
  refine EvP.loop (σ := List Bool) (L := fun k i X => sentence_None.l0 k X l (l.length : Int) i) (n := (l.length : Int)) (fun i X => NF l X i) ?_ ?_ 0 _ (Int.le_refl _) (by omega)
    ⟨by simp, fun k a b => by omega, fun k _ _ => rdB_rep _ k⟩
  · intro X h
    refine EvP.step (fun k => sentence_None.l0.eq_2 _ _ _ _ k) ?_
    exact EvP.neg (by omega) (EvP.now h)
  · intro i X i0 i1 h hn
    have e := h.len
    obtain ⟨-, -, r1, r2⟩ := hr i i0 i1
    have put : ∀ b, b = stepN l X i → EvP (fun k => sentence_None.l0 k (X.set i.toNat b) l (l.length : Int) (i + 1)) (fun X => NF l X l.length) := fun b hb => hn _ (h.put hr i0 i1 hb)
    refine EvP.step (fun k => sentence_None.l0.eq_2 _ _ _ _ k) ?_
    rw [w64 (x := i + 1) (by omega) (by omega)]
    show EvP (fun k => if i < (l.length : Int) then (if 0 ≤ i then (if i < (l.length : Int) then (if (nd l i).f0 = 1 then _ else _) else _) else _) else _) _
    refine EvP.pos i1 (EvP.pos i0 (EvP.pos i1 ?_))
    by_cases c1 : (nd l i).f0 = 1
    · exact EvP.pos c1 (EvP.pos (by omega) (put _ (by simp [stepN, c1])))
    refine EvP.neg c1 ?_
    by_cases c4 : (nd l i).f0 = 4
    · have a := r1 (by omega); have b := r2 (.inl c4)
      refine EvP.pos c4 (EvP.pos a.1 (EvP.pos (show (nd l i).f1 < (X.length : Int) by omega) ?_))
      by_cases d : rdOf false X (nd l i).f1 = true
      · exact EvP.pos d (EvP.pos (by omega) (put _ (by simp [stepN, c4, d])))
      · refine EvP.neg d (EvP.pos b.1 (EvP.pos (show (nd l i).f2 < (X.length : Int) by omega) (EvP.pos (by omega) (put _ ?_))))
        have d := Bool.eq_false_iff.2 d
        unfold stepN; rw [c4, d]; simp; rfl
    refine EvP.neg c4 ?_
    by_cases c5 : (nd l i).f0 = 5
    · have a := r1 (by omega); have b := r2 (.inr c5)
      refine EvP.pos c5 (EvP.pos a.1 (EvP.pos (show (nd l i).f1 < (X.length : Int) by omega) ?_))
      by_cases d : rdOf false X (nd l i).f1 = true
      · refine EvP.pos d (EvP.pos b.1 (EvP.pos (show (nd l i).f2 < (X.length : Int) by omega) (EvP.pos (by omega) (put _ ?_))))
        unfold stepN; rw [c5, d]; simp; rfl
      · have d2 := Bool.eq_false_iff.2 d
        exact EvP.neg d (EvP.pos (by omega) (put _ (by unfold stepN; rw [c5, d2]; simp)))
    refine EvP.neg c5 (hn X (h.keep i0 ?_))
    unfold stepN
    rw [beq_eq_false_iff_ne.2 c1, beq_eq_false_iff_ne.2 c4, beq_eq_false_iff_ne.2 c5]; rfl
theorem noword_ev {l : List S67} (hl : l.length ≤ 1000) (h1 : 1 ≤ l.length) (hr : Rt l) : EvP (fun k => coppicerref_NoWord.f k l) (fun b => ∃ X, NF l X l.length ∧ b = rdOf false X ((l.length : Int) - 1)) := by
  unfold coppicerref_NoWord.f
  refine EvP.pos (by omega) (EvP.pos (by omega) ?_)
  refine EvP.loop (σ := List Bool) (L := fun k i X => coppicerref_NoWord.l0 k l X l (l.length : Int) i) (n := (l.length : Int)) (fun i X => NF l X i) ?_ ?_ 0 _ (Int.le_refl _) (by omega)
    ⟨by simp, fun k a b => by omega, fun k _ _ => rdB_rep _ k⟩
  · intro X h
    have e := h.len
    refine EvP.step (fun k => coppicerref_NoWord.l0.eq_2 _ _ _ _ _ k) ?_
    rw [w64 (x := (l.length : Int) - 1) (by omega) (by omega)]
    exact EvP.neg (by omega) (EvP.pos (by omega) (EvP.pos (by omega) (EvP.now ⟨X, h, rfl⟩)))
  · intro i X i0 i1 h hn
    have e := h.len
    obtain ⟨-, -, r1, r2⟩ := hr i i0 i1
    have put : ∀ b, b = stepN l X i → EvP (fun k => coppicerref_NoWord.l0 k l (X.set i.toNat b) l (l.length : Int) (i + 1)) (fun b => ∃ X, NF l X l.length ∧ b = rdOf false X ((l.length : Int) - 1)) := fun b hb => hn _ (h.put hr i0 i1 hb)
    refine EvP.step (fun k => coppicerref_NoWord.l0.eq_2 _ _ _ _ _ k) ?_
    rw [w64 (x := i + 1) (by omega) (by omega)]
    show EvP (fun k => if i < (l.length : Int) then (if 0 ≤ i then (if i < (l.length : Int) then (if (nd l i).f0 = 1 then _ else _) else _) else _) else _) _
    refine EvP.pos i1 (EvP.pos i0 (EvP.pos i1 ?_))
    by_cases c1 : (nd l i).f0 = 1
    · exact EvP.pos c1 (EvP.pos (by omega) (put _ (by simp [stepN, c1])))
    refine EvP.neg c1 ?_
    by_cases c4 : (nd l i).f0 = 4
    · have a := r1 (by omega); have b := r2 (.inl c4)
      refine EvP.pos c4 (EvP.pos a.1 (EvP.pos (show (nd l i).f1 < (X.length : Int) by omega) ?_))
      by_cases d : rdOf false X (nd l i).f1 = true
      · exact EvP.pos d (EvP.pos (by omega) (put _ (by simp [stepN, c4, d])))
      · have d1 := Bool.eq_false_iff.2 d
        refine EvP.neg d (EvP.pos b.1 (EvP.pos (show (nd l i).f2 < (X.length : Int) by omega) ?_))
        by_cases d2 : rdOf false X (nd l i).f2 = true
        · exact EvP.pos d2 (EvP.pos (by omega) (put _ (by simp [stepN, c4, d2])))
        · have d3 := Bool.eq_false_iff.2 d2
          exact EvP.neg d2 (EvP.neg (show ¬ (nd l i).f0 = 5 by omega) (EvP.pos (by omega) (put _ (by simp [stepN, c4, d1, d3]))))
    refine EvP.neg c4 ?_
    by_cases c5 : (nd l i).f0 = 5
    · have a := r1 (by omega); have b := r2 (.inr c5)
      refine EvP.pos c5 (EvP.pos a.1 (EvP.pos (show (nd l i).f1 < (X.length : Int) by omega) ?_))
      by_cases d : rdOf false X (nd l i).f1 = true
      · refine EvP.pos d (EvP.pos b.1 (EvP.pos (show (nd l i).f2 < (X.length : Int) by omega) (EvP.pos (by omega) (put _ ?_))))
        unfold stepN; rw [c5, d]; simp; rfl
      · have d2 := Bool.eq_false_iff.2 d
        exact EvP.neg d (EvP.pos (by omega) (put _ (by unfold stepN; rw [c5, d2]; simp)))
    refine EvP.neg c5 (EvP.pos (by omega) (put _ ?_))
    unfold stepN
    rw [beq_eq_false_iff_ne.2 c1, beq_eq_false_iff_ne.2 c4, beq_eq_false_iff_ne.2 c5]; rfl
theorem SentenceEmpties : coppicerlaw_SentenceEmpties.Pure := by
  unfold coppicerlaw_SentenceEmpties.Pure
  intro K l
  intros
  apply Ev.rounds
  unfold coppicerlaw_SentenceEmpties.f
  by_cases c : scode K l = 0
  · obtain ⟨l1, l9, e⟩ := scode_ok c
    have hr := rt_of e
    obtain ⟨R, hR⟩ := isB (Tk l ((l.length : Int) - 1) [])
    have e1 : EvP (fun k => sentence_Empty.f k K l) (fun r => ∃ X, NF l X l.length ∧ r = (R, rdOf false X ((l.length : Int) - 1), 0)) := by
      unfold sentence_Empty.f
      refine EvP.bind (c ▸ scheck_ev K l) (EvP.pos rfl (EvP.bind (take_ev (by simp) (by omega) l1 hr hR) (EvP.bindP (none_ev (by omega) hr) ?_)))
      intro X hX
      have := hX.len
      rw [w64 (x := (l.length : Int) - 1) (by omega) (by omega)]
      exact EvP.pos (by omega) (EvP.pos (by omega) (EvP.now ⟨X, hX, rfl⟩))
    refine EvP.ev e1 ?_
    rintro _ ⟨X, hX, rfl⟩
    refine Ev.bind (c ▸ rscheck_ev K l) (Ev.pos rfl (Ev.pos rfl (Ev.bind (means_ev (by simp) (by omega) l1 hr hR) (Ev.pos (by simp) ?_))))
    refine EvP.ev (noword_ev (by omega) l1 hr) ?_
    rintro _ ⟨Y, hY, rfl⟩
    refine Ev.val ?_
    have := NF.uniq hX hY hr ((l.length : Int) - 1).toNat ((l.length : Int) - 1) (by omega) (by omega) (by omega)
    simp [this]
  · have e1 : Ev (fun k => sentence_Empty.f k K l) (false, false, scode K l) := by
      unfold sentence_Empty.f
      exact Ev.bind (scheck_ev K l) (Ev.neg c (Ev.now _))
    exact Ev.bind e1 (Ev.bind (rscheck_ev K l) (Ev.neg c (Ev.pos rfl (Ev.neg (by simp) (Ev.now _)))))
end Go.Proofs.Ytmfdfffedkejjaa.Pure
