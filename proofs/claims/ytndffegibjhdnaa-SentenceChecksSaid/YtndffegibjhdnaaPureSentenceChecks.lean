/- The law SentenceChecks as a statement over numbers and lists alone: it holds under the bounds that the statement names. -/
import Derived.Test.YtndffegibjhdnaaStatSentenceChecks
set_option linter.unusedVariables false
set_option linter.unusedSimpArgs false
set_option linter.unusedSectionVars false
namespace Go.Proofs.Ytndffegibjhdnaa.Pure
open Go.RowKit Go.Proofs.Ytndffegibjhdnaa.PSentenceChecks Go.Proofs.YtndffegibjhdnaaW.PrintWords Go.Proofs.YtndffegibjhdnaaW.PrintLast Go.Proofs.YtndffegibjhdnaaW.PrintMore

/-! ### base: words for every pure text -/
theorem w64 {x : Int} (h0 : -9223372036854775808 ≤ x) (h1 : x ≤ 9223372036854775807) : wrap64 x = x := by unfold wrap64; omega
theorem Ev.pos {α : Type} {c : Prop} [Decidable c] {g f : Nat → Option α} {r : α} (h : c) (e : Ev g r) : Ev (fun k => if c then g k else f k) r := Ev.congr (fun k => by rw [if_pos h]) e
theorem Ev.neg {α : Type} {c : Prop} [Decidable c] {g f : Nat → Option α} {r : α} (h : ¬ c) (e : Ev f r) : Ev (fun k => if c then g k else f k) r := Ev.congr (fun k => by rw [if_neg h]) e
theorem Ev.val {α : Type} {r q : α} (h : r = q) : Ev (fun _ => some r) q := by subst h; exact Ev.now r
theorem rd_getElem {l : List Int} {i : Int} (h1 : i.toNat < l.length) : rd l i = l[i.toNat] := by simp [rd, List.getD_eq_getElem?_getD, List.getElem?_eq_getElem h1]
theorem drop_rd {l : List Int} {i : Int} (h0 : 0 ≤ i) (h1 : i < l.length) : l.drop i.toNat = rd l i :: l.drop (i + 1).toNat := by
  have h : i.toNat < l.length := by omega
  rw [rd_getElem h, List.drop_eq_getElem_cons h]; congr 2; omega
theorem take_rd {l : List Int} {i : Int} (h0 : 0 ≤ i) (h1 : i < l.length) : l.take (i + 1).toNat = l.take i.toNat ++ [rd l i] := by
  have h : i.toNat < l.length := by omega
  have e : (i + 1).toNat = i.toNat + 1 := by omega
  rw [rd_getElem h, e, List.take_succ_eq_append_getElem h]
theorem rd_drop (l : List Int) (n : Nat) (i : Int) (h0 : 0 ≤ i) : rd (l.drop n) i = rd l (i + n) := by
  have e : (i + n).toNat = n + i.toNat := by omega
  simp only [rd, List.getD_eq_getElem?_getD, List.getElem?_drop, e]
theorem rd_take (l : List Int) (n : Nat) (i : Int) (h0 : 0 ≤ i) (h1 : i < n) : rd (l.take n) i = rd l i := by
  simp only [rd, List.getD_eq_getElem?_getD]; rw [List.getElem?_take_of_lt (by omega)]
theorem drop_all {α : Type} (l : List α) (n : Nat) (h : l.length ≤ n) : l.drop n = [] := List.drop_eq_nil_of_le h
theorem dec_ne {a b : Int} {l m : List Int} (h : a ≠ b) : decide (a :: l = b :: m) = false := decide_eq_false (fun q => h (List.cons.inj q).1)
theorem Ev.no {p : Prop} [Decidable p] (h : ¬ p) : Ev (fun _ => some false) (decide p) := Ev.val (decide_eq_false h).symm
theorem Ev.yes {p : Prop} [Decidable p] (h : p) : Ev (fun _ => some true) (decide p) := Ev.val (decide_eq_true h).symm
theorem ext_rd {a b : List Int} (hl : a.length = b.length) (h : ∀ i : Int, 0 ≤ i → i < a.length → rd a i = rd b i) : a = b := by
  apply List.ext_getElem hl
  intro i h1 h2
  have := h i (by omega) (by omega)
  rwa [rd_getElem (by simpa using h1), rd_getElem (by simpa using h2)] at this
theorem wf_u8 {x : Int} (h : (Lit.int .u8 x).wf = true) : 0 ≤ x ∧ x ≤ 255 := by simpa [Lit.wf, IntKind.min, IntKind.max, IntKind.signed, IntKind.bits] using h
theorem wf_u32 {x : Int} (h : (Lit.int .u32 x).wf = true) : 0 ≤ x ∧ x ≤ 4294967295 := by simpa [Lit.wf, IntKind.min, IntKind.max, IntKind.signed, IntKind.bits] using h
theorem wf_i64 {x : Int} (h : (Lit.int .i64 x).wf = true) : -9223372036854775808 ≤ x ∧ x ≤ 9223372036854775807 := by simpa [Lit.wf, IntKind.min, IntKind.max, IntKind.signed, IntKind.bits] using h
theorem rd_mem {l : List Int} {i : Int} (h0 : 0 ≤ i) (h1 : i < l.length) : rd l i ∈ l := by
  rw [rd_getElem (by omega)]; exact List.getElem_mem _
theorem rd_u8 {l : List Int} (hw : ∀ x ∈ l, (Lit.int .u8 x).wf = true) {i : Int} (h0 : 0 ≤ i) (h1 : i < l.length) : 0 ≤ rd l i ∧ rd l i ≤ 255 := wf_u8 (hw _ (rd_mem h0 h1))
theorem tm {a b : Int} (h : 0 ≤ a) : Int.tmod a b = a % b := Int.tmod_eq_emod_of_nonneg h
theorem td {a b : Int} (h : 0 ≤ a) : Int.tdiv a b = a / b := Int.tdiv_eq_ediv_of_nonneg h

/-! ### loops, round by round -/
theorem anyO_some {α : Type} (p : α → Bool) : ∀ l : List α, anyO (fun x => some (p x)) l = some (l.any p)
  | [] => rfl
  | x :: l => by
    unfold anyO
    rw [Option.bind_some, anyO_some p l, List.any_cons]
    cases p x <;> simp
theorem anyO_of {α : Type} {f : α → Option Bool} {p : α → Bool} {l : List α} (h : ∀ x ∈ l, f x = some (p x)) : anyO f l = some (l.any p) := by
  induction l with
  | nil => rfl
  | cons x l ih =>
    unfold anyO
    rw [h x (by simp), Option.bind_some, ih (fun y hy => h y (by simp [hy])), List.any_cons]
    cases p x <;> simp
theorem Ev.loop {σ ρ : Type} {L : Nat → Int → σ → Option ρ} {n : Int} {r : ρ} (I : Int → σ → Prop)
    (hend : ∀ s, I n s → Ev (fun k => L k n s) r)
    (hstep : ∀ i s, 0 ≤ i → i < n → I i s → Ev (fun k => L k i s) r ∨ ∃ s', I (i + 1) s' ∧ (Ev (fun k => L k (i + 1) s') r → Ev (fun k => L k i s) r)) :
    ∀ (i : Int) (s : σ), 0 ≤ i → i ≤ n → I i s → Ev (fun k => L k i s) r := by
  have key : ∀ (d : Nat) (i : Int) (s : σ), 0 ≤ i → i + d = n → I i s → Ev (fun k => L k i s) r := by
    intro d
    induction d with
    | zero => intro i s h0 h1 hI; obtain rfl : i = n := by omega
              exact hend s hI
    | succ d ih =>
      intro i s h0 h1 hI
      rcases hstep i s h0 (by omega) hI with h | ⟨s', h', h⟩
      · exact h
      · exact h (ih (i + 1) s' (by omega) (by omega) h')
  intro i s h0 h1 hI
  exact key (n - i).toNat i s h0 (by omega) hI
/-- The first element that is bad ends a loop. -/
theorem Ev.firstBad {α ρ : Type} {L : Nat → Int → Option ρ} {l : List α} {rdf : Int → α} {bad : α → Bool} {c fin : ρ}
    (hrd : ∀ i : Int, 0 ≤ i → i < l.length → l.drop i.toNat = rdf i :: l.drop (i + 1).toNat)
    (hend : l.any bad = false → Ev (fun k => L k l.length) fin)
    (hbad : ∀ i : Int, 0 ≤ i → i < l.length → bad (rdf i) = true → Ev (fun k => L k i) c)
    (hgood : ∀ (i : Int) (r : ρ), 0 ≤ i → i < l.length → bad (rdf i) = false → Ev (fun k => L k (i + 1)) r → Ev (fun k => L k i) r) :
    Ev (fun k => L k 0) (if l.any bad = true then c else fin) := by
  refine Ev.loop (σ := Unit) (L := fun k i _ => L k i) (n := l.length) (fun i _ => l.any bad = (l.drop i.toNat).any bad) ?_ ?_ 0 () (Int.le_refl _) (by omega) rfl
  · intro _ h
    rw [Int.toNat_natCast, List.drop_length] at h
    have h : l.any bad = false := h
    rw [h]; exact hend h
  · intro i _ h0 h1 h
    rw [hrd i h0 h1, List.any_cons] at h
    cases hb : bad (rdf i) with
    | true => left; rw [h, hb]; exact hbad i h0 h1 hb
    | false => right; refine ⟨(), by rw [h, hb]; rfl, hgood i _ h0 h1 hb⟩
theorem rd_cons {l : List Int} {i : Int} (h0 : 0 ≤ i) (h1 : i < l.length) : l.drop i.toNat = rd l i :: l.drop (i + 1).toNat := drop_rd h0 h1

/-! ### nodes that may be -/
theorem rd_node {l : List S38} {i : Int} (h0 : 0 ≤ i) (h1 : i < l.length) : l.drop i.toNat = rd_T38 l i :: l.drop (i + 1).toNat := by
  have h : i.toNat < l.length := by omega
  have e : rd_T38 l i = l[i.toNat] := by simp [rd_T38, List.getD_eq_getElem?_getD, List.getElem?_eq_getElem h]
  rw [e, List.drop_eq_getElem_cons h]; congr 2; omega
def nodeErr (K i : Int) (x : S38) : Int :=
  if x.f0 < 1 ∨ x.f0 > 6 then 6 else if x.f0 = 3 ∧ (x.f1 < 0 ∨ x.f1 ≥ K) then 2 else if x.f0 ≥ 4 ∧ (x.f1 < 0 ∨ x.f1 ≥ i) then 2 else if (x.f0 = 4 ∨ x.f0 = 5) ∧ (x.f2 < 0 ∨ x.f2 ≥ i) then 2 else 0
def errL (K : Int) : Int → List S38 → Int
  | _, [] => 0
  | i, x :: l => if nodeErr K i x = 0 then errL K (i + 1) l else nodeErr K i x
theorem ahead_eq (a i : Int) : sentence_Right_1.f a i = some (decide (0 ≤ a ∧ a < i)) := by
  unfold sentence_Right_1.f
  by_cases h : a ≥ 0
  · simp [h]
  · simp [h]
theorem node_loop {L : Nat → Int → Option Int} {K : Int} {l : List S38}
    (hend : Ev (fun k => L k l.length) 0)
    (hstep : ∀ (i R : Int), 0 ≤ i → i < l.length → (nodeErr K i (rd_T38 l i) = 0 → Ev (fun k => L k (i + 1)) R) → (nodeErr K i (rd_T38 l i) ≠ 0 → R = nodeErr K i (rd_T38 l i)) → Ev (fun k => L k i) R) :
    Ev (fun k => L k 0) (errL K 0 l) := by
  refine Ev.loop (σ := Unit) (L := fun k i _ => L k i) (n := l.length) (fun i _ => errL K 0 l = errL K i (l.drop i.toNat)) ?_ ?_ 0 () (Int.le_refl _) (by omega) rfl
  · intro _ h
    rw [Int.toNat_natCast, List.drop_length] at h
    rw [h]; exact hend
  · intro i _ h0 h1 h
    rw [rd_node h0 h1] at h
    by_cases c : nodeErr K i (rd_T38 l i) = 0
    · right
      refine ⟨(), by rw [h]; simp only [errL, if_pos c], ?_⟩
      intro hr
      exact hstep i _ h0 h1 (fun _ => hr) (fun q => absurd c q)
    · left
      refine hstep i _ h0 h1 (fun q => absurd q c) (fun _ => ?_)
      rw [h]; simp only [errL, if_neg c]
theorem right_ev (K : Int) (l : List S38) (hl : l.length ≤ 1000) : Ev (fun k => sentence_Right.f k K l) (errL K 0 l) := by
  unfold sentence_Right.f
  refine node_loop (L := fun k i => sentence_Right.l0 k K l (l.length : Int) i) ?_ ?_
  · refine Ev.step (fun k => sentence_Right.l0.eq_2 _ _ _ _ k) ?_
    exact Ev.neg (by omega) (Ev.now _)
  · intro i R h0 h1 hok hno
    obtain ⟨x, hx⟩ : ∃ x, rd_T38 l i = x := ⟨_, rfl⟩
    rw [hx] at hok hno
    refine Ev.step (fun k => sentence_Right.l0.eq_2 _ _ _ _ k) ?_
    rw [hx]
    refine Ev.pos h1 (Ev.pos h0 (Ev.pos h1 ?_))
    have j1 : ∀ b : Bool, (b = true ↔ x.f0 = 1 ∨ x.f0 = 2) → Ev (fun k => sentence_Right.j1 k K l (l.length : Int) i x.f0 b i x.f0 x.f1 x.f2) R := by
      intro b hb
      refine Ev.step (fun k => sentence_Right.j1.eq_2 _ _ _ _ _ _ _ _ _ _ k) ?_
      rw [w64 (show -9223372036854775808 ≤ i + 1 by omega) (by omega), ahead_eq]
      by_cases c : b = true
      · refine Ev.pos c (hok ?_)
        have := hb.1 c
        unfold nodeErr
        rw [if_neg (by omega), if_neg (by omega), if_neg (by omega), if_neg (by omega)]
      · have hb2 : ¬ (x.f0 = 1 ∨ x.f0 = 2) := fun q => c (hb.2 q)
        refine Ev.neg c ?_
        by_cases c3 : x.f0 = 3
        · refine Ev.pos c3 ?_
          by_cases a : x.f1 < 0
          · have e : nodeErr K i x = 2 := by unfold nodeErr; rw [if_neg (by omega), if_pos (by omega)]
            refine Ev.pos a ?_
            rw [hno (by omega), e]; exact Ev.now _
          · refine Ev.neg a ?_
            by_cases a2 : x.f1 ≥ K
            · have e : nodeErr K i x = 2 := by unfold nodeErr; rw [if_neg (by omega), if_pos (by omega)]
              refine Ev.pos a2 ?_
              rw [hno (by omega), e]; exact Ev.now _
            · refine Ev.neg a2 (hok ?_)
              unfold nodeErr
              rw [if_neg (by omega), if_neg (by omega), if_neg (by omega), if_neg (by omega)]
        · refine Ev.neg c3 ?_
          by_cases c6 : x.f0 = 6
          · refine Ev.pos c6 ?_
            simp only [Option.bind_some]
            by_cases a : 0 ≤ x.f1 ∧ x.f1 < i
            · rw [decide_eq_true a]
              refine Ev.pos rfl (hok ?_)
              unfold nodeErr
              rw [if_neg (by omega), if_neg (by omega), if_neg (by omega), if_neg (by omega)]
            · have e : nodeErr K i x = 2 := by unfold nodeErr; rw [if_neg (by omega), if_neg (by omega), if_pos (by omega)]
              rw [decide_eq_false a]
              refine Ev.neg (by simp) ?_
              rw [hno (by omega), e]; exact Ev.now _
          · refine Ev.neg c6 ?_
            have j2 : ∀ b : Bool, (b = true ↔ x.f0 = 4 ∨ x.f0 = 5) → Ev (fun k => sentence_Right.j2 k K l (l.length : Int) i b i x.f0 x.f1 x.f2) R := by
              intro b hb3
              refine Ev.step (fun k => sentence_Right.j2.eq_2 _ _ _ _ _ _ _ _ _ k) ?_
              rw [w64 (show -9223372036854775808 ≤ i + 1 by omega) (by omega), ahead_eq, ahead_eq]
              by_cases d : b = true
              · have hb4 := hb3.1 d
                refine Ev.pos d ?_
                simp only [Option.bind_some]
                by_cases a : 0 ≤ x.f1 ∧ x.f1 < i
                · rw [decide_eq_true a]
                  refine Ev.pos rfl ?_
                  by_cases a2 : 0 ≤ x.f2 ∧ x.f2 < i
                  · rw [decide_eq_true a2]
                    refine Ev.pos rfl (hok ?_)
                    unfold nodeErr
                    rw [if_neg (by omega), if_neg (by omega), if_neg (by omega), if_neg (by omega)]
                  · have e : nodeErr K i x = 2 := by unfold nodeErr; rw [if_neg (by omega), if_neg (by omega), if_neg (by omega), if_pos (by omega)]
                    rw [decide_eq_false a2]
                    refine Ev.neg (by simp) ?_
                    rw [hno (by omega), e]; exact Ev.now _
                · have e : nodeErr K i x = 2 := by unfold nodeErr; rw [if_neg (by omega), if_neg (by omega), if_pos (by omega)]
                  rw [decide_eq_false a]
                  refine Ev.neg (by simp) ?_
                  rw [hno (by omega), e]; exact Ev.now _
              · have hb4 : ¬ (x.f0 = 4 ∨ x.f0 = 5) := fun q => d (hb3.2 q)
                have e : nodeErr K i x = 6 := by unfold nodeErr; rw [if_pos (by omega)]
                refine Ev.neg d ?_
                rw [hno (by omega), e]; exact Ev.now _
            by_cases c4 : x.f0 = 4
            · exact Ev.pos c4 (j2 _ (by simp [c4]))
            · exact Ev.neg c4 (j2 _ (by simp [c4]))
    by_cases c1 : x.f0 = 1
    · exact Ev.pos c1 (j1 _ (by simp [c1]))
    · exact Ev.neg c1 (j1 _ (by simp [c1]))
theorem rright_ev (K : Int) (l : List S38) (hl : l.length ≤ 1000) : Ev (fun k => coppicerref_Right.f k K l) (errL K 0 l) := by
  unfold coppicerref_Right.f
  refine node_loop (L := fun k i => coppicerref_Right.l0 k K l (l.length : Int) i) ?_ ?_
  · refine Ev.step (fun k => coppicerref_Right.l0.eq_2 _ _ _ _ k) ?_
    exact Ev.neg (by omega) (Ev.now _)
  · intro i R h0 h1 hok hno
    obtain ⟨x, hx⟩ : ∃ x, rd_T38 l i = x := ⟨_, rfl⟩
    rw [hx] at hok hno
    refine Ev.step (fun k => coppicerref_Right.l0.eq_2 _ _ _ _ k) ?_
    rw [hx]
    refine Ev.pos h1 (Ev.pos h0 (Ev.pos h1 ?_))
    have j1 : ∀ b : Bool, (b = true ↔ x.f0 < 1 ∨ x.f0 > 6) → Ev (fun k => coppicerref_Right.j1 k K i l (l.length : Int) i b x.f0 x.f1 x.f2) R := by
      intro b hb
      refine Ev.step (fun k => coppicerref_Right.j1.eq_2 _ _ _ _ _ _ _ _ _ k) ?_
      by_cases c : b = true
      · have := hb.1 c
        have e : nodeErr K i x = 6 := by unfold nodeErr; rw [if_pos (by omega)]
        refine Ev.pos c ?_
        rw [hno (by omega), e]; exact Ev.now _
      · have hb1 : ¬ (x.f0 < 1 ∨ x.f0 > 6) := fun q => c (hb.2 q)
        refine Ev.neg c ?_
        have j2 : ∀ b : Bool, (b = true ↔ x.f0 = 3 ∧ (x.f1 < 0 ∨ x.f1 ≥ K)) → Ev (fun k => coppicerref_Right.j2 k K i l (l.length : Int) i b x.f0 x.f1 x.f2) R := by
          intro b hb2
          refine Ev.step (fun k => coppicerref_Right.j2.eq_2 _ _ _ _ _ _ _ _ _ k) ?_
          by_cases c2 : b = true
          · have := hb2.1 c2
            have e : nodeErr K i x = 2 := by unfold nodeErr; rw [if_neg (by omega), if_pos (by omega)]
            refine Ev.pos c2 ?_
            rw [hno (by omega), e]; exact Ev.now _
          · have hb3 : ¬ (x.f0 = 3 ∧ (x.f1 < 0 ∨ x.f1 ≥ K)) := fun q => c2 (hb2.2 q)
            refine Ev.neg c2 ?_
            have j3 : ∀ b : Bool, (b = true ↔ x.f0 ≥ 4 ∧ (x.f1 < 0 ∨ x.f1 ≥ i)) → Ev (fun k => coppicerref_Right.j3 k K i l (l.length : Int) i b x.f0 x.f1 x.f2) R := by
              intro b hb4
              refine Ev.step (fun k => coppicerref_Right.j3.eq_2 _ _ _ _ _ _ _ _ _ k) ?_
              rw [w64 (show -9223372036854775808 ≤ i + 1 by omega) (by omega)]
              by_cases c3 : b = true
              · have := hb4.1 c3
                have e : nodeErr K i x = 2 := by unfold nodeErr; rw [if_neg (by omega), if_neg (by omega), if_pos (by omega)]
                refine Ev.pos c3 ?_
                rw [hno (by omega), e]; exact Ev.now _
              · have hb5 : ¬ (x.f0 ≥ 4 ∧ (x.f1 < 0 ∨ x.f1 ≥ i)) := fun q => c3 (hb4.2 q)
                refine Ev.neg c3 ?_
                have last : (x.f0 = 4 ∨ x.f0 = 5) → Ev (fun k => if x.f2 < 0 then (some 2) else (if x.f2 ≥ i then (some 2) else (coppicerref_Right.l0 k K l (l.length : Int) (i + 1)))) R := by
                  intro hq
                  by_cases a : x.f2 < 0
                  · have e : nodeErr K i x = 2 := by unfold nodeErr; rw [if_neg (by omega), if_neg (by omega), if_neg (by omega), if_pos (by omega)]
                    refine Ev.pos a ?_
                    rw [hno (by omega), e]; exact Ev.now _
                  · refine Ev.neg a ?_
                    by_cases a2 : x.f2 ≥ i
                    · have e : nodeErr K i x = 2 := by unfold nodeErr; rw [if_neg (by omega), if_neg (by omega), if_neg (by omega), if_pos (by omega)]
                      refine Ev.pos a2 ?_
                      rw [hno (by omega), e]; exact Ev.now _
                    · refine Ev.neg a2 (hok ?_)
                      unfold nodeErr
                      rw [if_neg (by omega), if_neg (by omega), if_neg (by omega), if_neg (by omega)]
                by_cases c4 : x.f0 = 4
                · exact Ev.pos c4 (last (.inl c4))
                · refine Ev.neg c4 ?_
                  by_cases c5 : x.f0 = 5
                  · exact Ev.pos c5 (last (.inr c5))
                  · refine Ev.neg c5 (hok ?_)
                    unfold nodeErr
                    rw [if_neg (by omega), if_neg (by omega), if_neg (by omega), if_neg (by omega)]
            by_cases d : x.f0 ≥ 4
            · refine Ev.pos d ?_
              by_cases a : x.f1 < 0
              · exact Ev.pos a (j3 _ (by simp [d, a]))
              · exact Ev.neg a (j3 _ (by simp [d, a]))
            · exact Ev.neg d (j3 _ (by simp [d]))
        by_cases d : x.f0 = 3
        · refine Ev.pos d ?_
          by_cases a : x.f1 < 0
          · exact Ev.pos a (j2 _ (by simp [d, a]))
          · exact Ev.neg a (j2 _ (by simp [d, a]))
        · exact Ev.neg d (j2 _ (by simp [d]))
    by_cases c1 : x.f0 < 1
    · exact Ev.pos c1 (j1 _ (by simp [c1]))
    · exact Ev.neg c1 (j1 _ (by simp [c1]))
def scode (K : Int) (l : List S38) : Int := if K < 1 ∨ K > 3 ∨ l.length = 0 ∨ l.length > 9 then 1 else errL K 0 l
theorem scheck_ev (K : Int) (l : List S38) : Ev (fun k => sentence_Check.f k K l) (scode K l) := by
  unfold sentence_Check.f scode
  by_cases c1 : K < 1
  · rw [if_pos (by omega)]; exact Ev.pos c1 (Ev.now _)
  refine Ev.neg c1 ?_
  by_cases c2 : K > 3
  · rw [if_pos (by omega)]; exact Ev.pos c2 (Ev.now _)
  refine Ev.neg c2 ?_
  by_cases c3 : (l.length : Int) = 0
  · rw [if_pos (by omega)]; exact Ev.pos c3 (Ev.now _)
  refine Ev.neg c3 ?_
  by_cases c4 : (l.length : Int) > 9
  · rw [if_pos (by omega)]; exact Ev.pos c4 (Ev.now _)
  refine Ev.neg c4 ?_
  rw [if_neg (by omega)]
  exact Ev.bind (right_ev K l (by omega)) (Ev.now _)
theorem rscheck_ev (K : Int) (l : List S38) : Ev (fun k => coppicerref_SentenceCheck.f k K l) (scode K l) := by
  unfold coppicerref_SentenceCheck.f scode
  by_cases c1 : K < 1
  · rw [if_pos (by omega)]; exact Ev.pos c1 (Ev.now _)
  refine Ev.neg c1 ?_
  by_cases c2 : K > 3
  · rw [if_pos (by omega)]; exact Ev.pos c2 (Ev.now _)
  refine Ev.neg c2 ?_
  by_cases c3 : (l.length : Int) = 0
  · rw [if_pos (by omega)]; exact Ev.pos c3 (Ev.now _)
  refine Ev.neg c3 ?_
  by_cases c4 : (l.length : Int) > 9
  · rw [if_pos (by omega)]; exact Ev.pos c4 (Ev.now _)
  refine Ev.neg c4 ?_
  rw [if_neg (by omega)]
  exact Ev.bind (rright_ev K l (by omega)) (Ev.now _)

theorem SentenceChecks : coppicerlaw_SentenceChecks.Pure := by
  unfold coppicerlaw_SentenceChecks.Pure
  intro K l _ _ _
  apply Ev.rounds
  unfold coppicerlaw_SentenceChecks.f
  refine Ev.bind (scheck_ev K l) (Ev.bind (rscheck_ev K l) ?_)
  simp only [beq_self_eq_true]; exact Ev.now _

end Go.Proofs.Ytndffegibjhdnaa.Pure
