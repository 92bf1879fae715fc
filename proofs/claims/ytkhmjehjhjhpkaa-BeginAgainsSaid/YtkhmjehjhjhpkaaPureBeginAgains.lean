/- The law BeginAgains as a statement over numbers and lists alone: it holds under the bounds that the statement names. -/
import Derived.Test.YtkhmjehjhjhpkaaPBeginAgainsx2
set_option linter.unusedVariables false
set_option linter.unusedSimpArgs false
namespace Go.Proofs.Ytkhmjehjhjhpkaa.Pure
open Go.RowKit Go.Proofs.Ytkhmjehjhjhpkaa.PBeginAgains Go.Proofs.YtkhmjehjhjhpkaaW.PrintWords Go.Proofs.YtkhmjehjhjhpkaaW.PrintLast Go.Proofs.YtkhmjehjhjhpkaaW.PrintMore

/-! ### base: words for every pure text -/
theorem w64 {x : Int} (h0 : -9223372036854775808 ≤ x) (h1 : x ≤ 9223372036854775807) : wrap64 x = x := by unfold wrap64; omega
theorem Ev.pos {α : Type} {c : Prop} [Decidable c] {g f : Nat → Option α} {r : α} (h : c) (e : Ev g r) : Ev (fun k => if c then g k else f k) r := Ev.congr (fun k => by rw [if_pos h]) e
theorem Ev.neg {α : Type} {c : Prop} [Decidable c] {g f : Nat → Option α} {r : α} (h : ¬ c) (e : Ev f r) : Ev (fun k => if c then g k else f k) r := Ev.congr (fun k => by rw [if_neg h]) e
theorem Ev.val {α : Type} {r q : α} (h : r = q) : Ev (fun _ => some r) q := by subst h; exact Ev.now r
theorem rd_getElem {l : List Int} {i : Int} (h1 : i.toNat < l.length) : rd l i = l[i.toNat] := by simp [rd, List.getD_eq_getElem?_getD, List.getElem?_eq_getElem h1]
theorem drop_rd {l : List Int} {i : Int} (h0 : 0 ≤ i) (h1 : i < l.length) : l.drop i.toNat = rd l i :: l.drop (i + 1).toNat := by
  have h : i.toNat < l.length := by omega
  rw [rd_getElem h, List.drop_eq_getElem_cons h]; congr 2; omega
theorem take_rd {l : List Int} {i : Int} (h0 : 0 ≤ i) (h1 : i < l.length) : l.take (i + 1).toNat = l.take i.toNat ++ [rd l i] := by
  have h : i.toNat < l.length := by omega
  have e : (i + 1).toNat = i.toNat + 1 := by omega
  rw [rd_getElem h, e, List.take_succ_eq_append_getElem h]
theorem rd_drop (l : List Int) (n : Nat) (i : Int) (h0 : 0 ≤ i) : rd (l.drop n) i = rd l (i + n) := by
  have e : (i + n).toNat = n + i.toNat := by omega
  simp only [rd, List.getD_eq_getElem?_getD, List.getElem?_drop, e]
theorem rd_take (l : List Int) (n : Nat) (i : Int) (h0 : 0 ≤ i) (h1 : i < n) : rd (l.take n) i = rd l i := by
  simp only [rd, List.getD_eq_getElem?_getD]; rw [List.getElem?_take_of_lt (by omega)]
theorem drop_all {α : Type} (l : List α) (n : Nat) (h : l.length ≤ n) : l.drop n = [] := List.drop_eq_nil_of_le h
theorem dec_ne {a b : Int} {l m : List Int} (h : a ≠ b) : decide (a :: l = b :: m) = false := decide_eq_false (fun q => h (List.cons.inj q).1)
theorem Ev.no {p : Prop} [Decidable p] (h : ¬ p) : Ev (fun _ => some false) (decide p) := Ev.val (decide_eq_false h).symm
theorem Ev.yes {p : Prop} [Decidable p] (h : p) : Ev (fun _ => some true) (decide p) := Ev.val (decide_eq_true h).symm
theorem ext_rd {a b : List Int} (hl : a.length = b.length) (h : ∀ i : Int, 0 ≤ i → i < a.length → rd a i = rd b i) : a = b := by
  apply List.ext_getElem hl
  intro i h1 h2
  have := h i (by omega) (by omega)
  rwa [rd_getElem (by simpa using h1), rd_getElem (by simpa using h2)] at this
theorem wf_u8 {x : Int} (h : (Lit.int .u8 x).wf = true) : 0 ≤ x ∧ x ≤ 255 := by simpa [Lit.wf, IntKind.min, IntKind.max, IntKind.signed, IntKind.bits] using h
theorem wf_u32 {x : Int} (h : (Lit.int .u32 x).wf = true) : 0 ≤ x ∧ x ≤ 4294967295 := by simpa [Lit.wf, IntKind.min, IntKind.max, IntKind.signed, IntKind.bits] using h
theorem wf_i64 {x : Int} (h : (Lit.int .i64 x).wf = true) : -9223372036854775808 ≤ x ∧ x ≤ 9223372036854775807 := by simpa [Lit.wf, IntKind.min, IntKind.max, IntKind.signed, IntKind.bits] using h
theorem rd_mem {l : List Int} {i : Int} (h0 : 0 ≤ i) (h1 : i < l.length) : rd l i ∈ l := by
  rw [rd_getElem (by omega)]; exact List.getElem_mem _
theorem rd_u8 {l : List Int} (hw : ∀ x ∈ l, (Lit.int .u8 x).wf = true) {i : Int} (h0 : 0 ≤ i) (h1 : i < l.length) : 0 ≤ rd l i ∧ rd l i ≤ 255 := wf_u8 (hw _ (rd_mem h0 h1))
theorem tm {a b : Int} (h : 0 ≤ a) : Int.tmod a b = a % b := Int.tmod_eq_emod_of_nonneg h
theorem td {a b : Int} (h : 0 ≤ a) : Int.tdiv a b = a / b := Int.tdiv_eq_ediv_of_nonneg h

theorem rd_set_eq (l : List Int) (i : Int) (v : Int) (h0 : 0 ≤ i) (h1 : i < l.length) : rd (l.set i.toNat v) i = v := by
  simp [rd, List.getD_eq_getElem?_getD, List.getElem?_set, show i.toNat < l.length by omega]
theorem rd_set_ne (l : List Int) (i j : Int) (v : Int) (h0 : 0 ≤ i) (hj : 0 ≤ j) (h : j ≠ i) : rd (l.set i.toNat v) j = rd l j := by
  simp only [rd, List.getD_eq_getElem?_getD]
  rw [List.getElem?_set_ne (by omega)]
theorem rd_replicate (n : Nat) (v : Int) (j : Int) (h0 : 0 ≤ j) (h1 : j < n) : rd (List.replicate n v) j = v := by
  simp [rd, List.getD_eq_getElem?_getD, List.getElem?_replicate, show j.toNat < n by omega]
theorem rd_append_left (l m : List Int) (j : Int) (h0 : 0 ≤ j) (h1 : j < l.length) : rd (l ++ m) j = rd l j := by
  simp only [rd, List.getD_eq_getElem?_getD]
  rw [List.getElem?_append_left (by omega)]
theorem rd_append_last (l : List Int) (v : Int) (j : Int) (h : j = l.length) : rd (l ++ [v]) j = v := by
  subst h
  simp [rd, List.getD_eq_getElem?_getD]

/-! ### coppicerref_Ints -/
theorem Ints_l0 (a b : List Int) (hl : a.length = b.length) (hb : (a.length : Int) ≤ 4611686018427387904) (d : Nat) : ∀ i : Int, 0 ≤ i → i + d = a.length → Ev (fun k => coppicerref_Ints.l0 k a b i) (decide (a.drop i.toNat = b.drop i.toNat)) := by
  induction d with
  | zero =>
    intro i h0 hd
    refine Ev.step (fun k => coppicerref_Ints.l0.eq_2 _ _ _ k) ?_
    simp (disch := omega) only [if_pos, if_neg]
    exact Ev.val (by rw [List.drop_eq_nil_of_le (by omega), List.drop_eq_nil_of_le (by omega)]; simp)
  | succ d ih =>
    intro i h0 hd
    refine Ev.step (fun k => coppicerref_Ints.l0.eq_2 _ _ _ k) ?_
    simp (disch := omega) only [if_pos, w64]
    rw [drop_rd h0 (by omega), drop_rd (l := b) h0 (by omega)]
    by_cases h : rd a i = rd b i
    · simp only [if_pos h]
      exact Ev.congr (fun _ => rfl) (by simpa [h] using ih (i + 1) (by omega) (by omega))
    · simp only [if_neg h]
      exact Ev.val (by simp [h])
theorem Ints_ev (a b : List Int) (hb : (a.length : Int) ≤ 4611686018427387904) : Ev (fun k => coppicerref_Ints.f k a b) (decide (a = b)) := by
  unfold coppicerref_Ints.f
  by_cases hl : a.length = b.length
  · simp (disch := omega) only [if_pos]
    simpa using Ints_l0 a b hl hb a.length 0 (by omega) (by omega)
  · simp (disch := omega) only [if_neg]
    exact Ev.val (by simp; intro h; exact hl (by rw [h]))

/-! ### coppicerref_Alike -/
def IsAlike (a b : List Int) (n : Int) : Prop := 0 ≤ n ∧ n ≤ a.length ∧ n ≤ b.length ∧ (∀ j : Int, 0 ≤ j → j < n → rd a j = rd b j) ∧ (n = a.length ∨ n = b.length ∨ rd a n ≠ rd b n)
theorem IsAlike.le {a b : List Int} {n m : Int} (h : IsAlike a b n) (h' : IsAlike a b m) : n ≤ m := by
  obtain ⟨h0, h1, h2, h3, h4⟩ := h
  obtain ⟨g0, g1, g2, g3, g4⟩ := h'
  by_cases q : n ≤ m
  · exact q
  · rcases g4 with g4 | g4 | g4
    · omega
    · omega
    · exact absurd (h3 m g0 (by omega)) g4
theorem IsAlike.uniq {a b : List Int} {n m : Int} (h : IsAlike a b n) (h' : IsAlike a b m) : n = m := Int.le_antisymm (h.le h') (h'.le h)
theorem Alike_l0 (a b : List Int) (ha : a.length ≤ 4611686018427387904) (d : Nat) : ∀ i : Int, 0 ≤ i → i + d = a.length → i ≤ b.length → (∀ j : Int, 0 ≤ j → j < i → rd a j = rd b j) → ∃ n, IsAlike a b n ∧ Ev (fun k => coppicerref_Alike.l0 k a b i) n := by
  induction d with
  | zero =>
    intro i h0 hd hb hj
    refine ⟨i, ⟨h0, by omega, hb, hj, .inl (by omega)⟩, Ev.step (fun k => coppicerref_Alike.l0.eq_2 _ _ _ k) ?_⟩
    simp (disch := omega) only [if_neg]; exact Ev.now _
  | succ d ih =>
    intro i h0 hd hb hj
    by_cases q : i < b.length
    · by_cases e : rd a i = rd b i
      · obtain ⟨n, hn, hE⟩ := ih (i + 1) (by omega) (by omega) (by omega) (by
          intro j j0 j1
          by_cases p : j < i
          · exact hj j j0 p
          · have : j = i := by omega
            rw [this]; exact e)
        refine ⟨n, hn, Ev.step (fun k => coppicerref_Alike.l0.eq_2 _ _ _ k) ?_⟩
        simp (disch := omega) only [if_pos, w64, e]
        simpa using hE
      · refine ⟨i, ⟨h0, by omega, hb, hj, .inr (.inr e)⟩, Ev.step (fun k => coppicerref_Alike.l0.eq_2 _ _ _ k) ?_⟩
        simp (disch := omega) only [if_pos, if_neg e]; exact Ev.now _
    · refine ⟨i, ⟨h0, by omega, hb, hj, .inr (.inl (by omega))⟩, Ev.step (fun k => coppicerref_Alike.l0.eq_2 _ _ _ k) ?_⟩
      simp (disch := omega) only [if_pos, if_neg]; exact Ev.now _
theorem Alike_ev (a b : List Int) (ha : a.length ≤ 4611686018427387904) : ∃ n, IsAlike a b n ∧ Ev (fun k => coppicerref_Alike.f k a b) n := by
  unfold coppicerref_Alike.f
  exact Alike_l0 a b ha a.length 0 (by omega) (by omega) (by omega) (by intro j h0 h1; omega)

abbrev Z (w : List Int) (i n : Int) : Prop := IsAlike w (w.drop i.toNat) n
theorem again_l1 (w : List Int) (hn : w.length ≤ 60) (z : List Int) (fr tq n : Int) (i : Int) (hi0 : 1 ≤ i) (hi1 : i < w.length) (hz : z.length = w.length) (hto0 : 0 ≤ tq) (hto : tq ≤ w.length) (hnn : n = w.length) (hfr : 0 ≤ fr)
    (R : List Int × Int) (next : ∀ (k fr' tq' : Int), Z w i k → (fr' = fr ∧ tq' = tq ∨ fr' = i ∧ tq' = i + k) → Ev (fun q => begin_Again.l0 q w (z.set i.toNat k) fr' tq' n (i + 1)) R) (d : Nat) :
    ∀ k : Int, 0 ≤ k → i + k + d = w.length → (∀ j : Int, 0 ≤ j → j < k → rd w j = rd (w.drop i.toNat) j) → Ev (fun q => begin_Again.l1 q w z fr tq i k n i) R := by
  have done : ∀ k : Int, Z w i k → Ev (fun q => if i + k > tq then (if 0 ≤ i then (if i < (z.length : Int) then begin_Again.l0 q w (z.set i.toNat k) i (i + k) n (i + 1) else none) else none) else (if 0 ≤ i then (if i < (z.length : Int) then begin_Again.l0 q w (z.set i.toNat k) fr tq n (i + 1) else none) else none)) R := by
    intro k hk
    by_cases h : i + k > tq
    · simp (disch := omega) only [if_pos]
      exact next k i (i + k) hk (.inr ⟨rfl, rfl⟩)
    · simp only [h, if_false]
      simp (disch := omega) only [if_pos]
      exact next k fr tq hk (.inl ⟨rfl, rfl⟩)
  have hdl : ((w.drop i.toNat).length : Int) = w.length - i := by simp; omega
  induction d with
  | zero =>
    intro k h0 hd hj
    refine Ev.step (fun k => begin_Again.l1.eq_2 _ _ _ _ _ _ _ _ k) ?_
    simp (disch := omega) only [w64, if_neg (show ¬ i + k < (w.length : Int) by omega)]
    exact done k ⟨h0, by omega, by omega, hj, .inr (.inl (by omega))⟩
  | succ d ih =>
    intro k h0 hd hj
    refine Ev.step (fun k => begin_Again.l1.eq_2 _ _ _ _ _ _ _ _ k) ?_
    have e1 : rd (w.drop i.toNat) k = rd w (i + k) := by rw [rd_drop _ _ _ h0]; congr 1; omega
    by_cases e : rd w k = rd w (i + k)
    · simp (disch := omega) only [w64, if_pos (show i + k < (w.length : Int) by omega), if_pos (show 0 ≤ k by omega), if_pos (show k < (w.length : Int) by omega), if_pos (show 0 ≤ i + k by omega), if_pos e]
      refine ih (k + 1) (by omega) (by omega) ?_
      intro j j0 j1
      by_cases p : j < k
      · exact hj j j0 p
      · have : j = k := by omega
        rw [this, e1]; exact e
    · simp (disch := omega) only [w64, if_pos (show i + k < (w.length : Int) by omega), if_pos (show 0 ≤ k by omega), if_pos (show k < (w.length : Int) by omega), if_pos (show 0 ≤ i + k by omega), if_neg e]
      exact done k ⟨h0, by omega, by omega, hj, .inr (.inr (by rw [e1]; exact e))⟩
theorem again_l0 (w : List Int) (hn : w.length ≤ 60) (d : Nat) : ∀ (i : Int) (z : List Int) (fr tq : Int), 0 ≤ i → i + d = w.length → z.length = w.length → 0 ≤ fr → 0 ≤ tq → tq ≤ w.length → (i < tq → 1 ≤ fr) → (fr ≤ i ∧ (i < tq → fr < i)) →
    (∀ j : Int, 0 ≤ j → j < i → Z w j (rd z j)) → (∀ j : Int, 0 ≤ j → fr + j < tq → rd w j = rd w (fr + j)) →
    ∃ z', z'.length = w.length ∧ (∀ j : Int, 0 ≤ j → j < w.length → Z w j (rd z' j)) ∧ Ev (fun q => begin_Again.l0 q w z fr tq (w.length : Int) i) (z', 0) := by
  induction d with
  | zero =>
    intro i z fr tq h0 hd hz hf0 ht0 ht1 hf1 hf2 hA hB
    refine ⟨z, hz, fun j j0 j1 => hA j j0 (by omega), Ev.step (fun k => begin_Again.l0.eq_2 _ _ _ _ _ _ k) ?_⟩
    simp (disch := omega) only [if_neg]; exact Ev.now _
  | succ d ih =>
    intro i z fr tq h0 hd hz hf0 ht0 ht1 hf1 hf2 hA hB
    by_cases hi : i = 0
    · subst hi
      obtain ⟨z', hz', hA', hE⟩ := ih 1 (z.set 0 (w.length : Int)) fr tq (by omega) (by omega) (by simpa using hz) hf0 ht0 ht1 (by omega) (by omega) (by
        intro j j0 j1
        have : j = 0 := by omega
        subst this
        have e : rd (z.set 0 (w.length : Int)) 0 = w.length := rd_set_eq z 0 _ (by omega) (by omega)
        rw [e]
        exact ⟨by omega, by omega, by simp, fun j _ _ => by simp, .inl rfl⟩) hB
      refine ⟨z', hz', hA', Ev.step (fun k => begin_Again.l0.eq_2 _ _ _ _ _ _ k) ?_⟩
      simp (disch := omega) only [if_pos, w64]
      exact hE
    · -- the loop behind i
      have key : ∀ k0 : Int, 0 ≤ k0 → i + k0 ≤ w.length → (∀ j : Int, 0 ≤ j → j < k0 → rd w j = rd (w.drop i.toNat) j) →
          ∃ z', z'.length = w.length ∧ (∀ j : Int, 0 ≤ j → j < w.length → Z w j (rd z' j)) ∧ Ev (fun q => begin_Again.l1 q w z fr tq i k0 (w.length : Int) i) (z', 0) := by
        intro k0 q0 q1 q2
        -- what the inner loop ends with is one number
        have ex : ∃ k, Z w i k := by
          obtain ⟨m, hm⟩ : ∃ m : Nat, (m : Int) = w.length - i - k0 := ⟨(w.length - i - k0).toNat, by omega⟩
          have : ∀ (m : Nat) (k0 : Int), 0 ≤ k0 → (m : Int) = w.length - i - k0 → (∀ j : Int, 0 ≤ j → j < k0 → rd w j = rd (w.drop i.toNat) j) → ∃ k, Z w i k := by
            intro m
            induction m with
            | zero => intro k0 a b c; exact ⟨k0, a, by omega, by simp; omega, c, .inr (.inl (by simp; omega))⟩
            | succ m ihm =>
              intro k0 a b c
              by_cases e : rd w k0 = rd (w.drop i.toNat) k0
              · refine ihm (k0 + 1) (by omega) (by omega) ?_
                intro j j0 j1
                by_cases p : j < k0
                · exact c j j0 p
                · have : j = k0 := by omega
                  rw [this]; exact e
              · exact ⟨k0, a, by omega, by simp; omega, c, .inr (.inr e)⟩
          exact this m k0 q0 hm q2
        obtain ⟨k, hk⟩ := ex
        have hk0 := hk.1
        have hk2 : k ≤ w.length - i := by have := hk.2.2.1; simp at this; omega
        have hk3 := hk.2.2.2.1
        have hA' : ∀ j : Int, 0 ≤ j → j < i + 1 → Z w j (rd (z.set i.toNat k) j) := by
          intro j j0 j1
          by_cases p : j = i
          · subst p; rw [rd_set_eq z j k (by omega) (by omega)]; exact hk
          · rw [rd_set_ne z i j k (by omega) j0 p]; exact hA j j0 (by omega)
        -- both ways of the window give the same list at the end
        have go : ∀ fr' tq', (fr' = fr ∧ tq' = tq ∨ fr' = i ∧ tq' = i + k) → ∃ z', z'.length = w.length ∧ (∀ j : Int, 0 ≤ j → j < w.length → Z w j (rd z' j)) ∧ Ev (fun q => begin_Again.l0 q w (z.set i.toNat k) fr' tq' (w.length : Int) (i + 1)) (z', 0) := by
          intro fr' tq' h
          rcases h with ⟨rfl, rfl⟩ | ⟨rfl, rfl⟩
          · exact ih (i + 1) (z.set i.toNat k) fr' tq' (by omega) (by omega) (by simpa using hz) hf0 ht0 ht1 (by omega) (by omega) hA' hB
          · refine ih (fr' + 1) (z.set fr'.toNat k) fr' (fr' + k) (by omega) (by omega) (by simpa using hz) h0 (by omega) (by omega) (by omega) (by omega) hA' ?_
            intro j j0 j1
            have := hk3 j j0 (by omega)
            rw [rd_drop _ _ _ j0] at this
            rw [this]; congr 1; omega
        obtain ⟨z1, l1, a1, e1⟩ := go fr tq (.inl ⟨rfl, rfl⟩)
        refine ⟨z1, l1, a1, ?_⟩
        refine again_l1 w hn z fr tq w.length i (by omega) (by omega) hz ht0 ht1 rfl hf0 (z1, 0) ?_ (w.length - i - k0).toNat k0 q0 (by omega) q2
        intro k' fr' tq' hk' hw'
        have : k' = k := hk'.uniq hk
        subst this
        obtain ⟨z2, l2, a2, e2⟩ := go fr' tq' hw'
        have : z1 = z2 := ext_rd (by omega) (fun j j0 j1 => (a1 j j0 (by omega)).uniq (a2 j j0 (by omega)))
        rw [this]; exact e2
      by_cases hlt : i < tq
      · have hfi := hf2.2 hlt
        have hf1' := hf1 hlt
        have hq := hA (i - fr) (by omega) (by omega)
        have hm0 : 0 ≤ mn (rd z (i - fr)) (tq - i) := by have := hq.1; unfold mn; split <;> omega
        have hm1 : mn (rd z (i - fr)) (tq - i) ≤ tq - i := by unfold mn; split <;> omega
        have hm2 : mn (rd z (i - fr)) (tq - i) ≤ rd z (i - fr) := by unfold mn; split <;> omega
        obtain ⟨z', lz, az, ez⟩ := key (mn (rd z (i - fr)) (tq - i)) hm0 (by omega) (by
          intro j j0 j1
          have h1 := hq.2.2.2.1 j j0 (by omega)
          rw [rd_drop _ _ _ j0] at h1 ⊢
          have h2 := hB (i - fr + j) (by omega) (by omega)
          rw [h1]
          have e3 : j + ((i - fr).toNat : Int) = i - fr + j := by omega
          have e4 : j + (i.toNat : Int) = fr + (i - fr + j) := by omega
          rw [e3, e4]; exact h2)
        refine ⟨z', lz, az, Ev.step (fun k => begin_Again.l0.eq_2 _ _ _ _ _ _ k) ?_⟩
        simp (disch := omega) only [if_pos, if_neg, w64]
        refine Ev.step (fun k => begin_Again.j1.eq_2 _ _ _ _ _ _ _ _ k) ?_
        exact ez
      · obtain ⟨z', lz, az, ez⟩ := key 0 (by omega) (by omega) (by intro j j0 j1; omega)
        refine ⟨z', lz, az, Ev.step (fun k => begin_Again.l0.eq_2 _ _ _ _ _ _ k) ?_⟩
        simp (disch := omega) only [if_pos, if_neg, w64]
        refine Ev.step (fun k => begin_Again.j1.eq_2 _ _ _ _ _ _ _ _ k) ?_
        exact ez
theorem agains_l0 (w : List Int) (hn : w.length ≤ 60) (z : List Int) (hz : z.length = w.length) (hA : ∀ j : Int, 0 ≤ j → j < w.length → Z w j (rd z j)) (d : Nat) : ∀ (i : Int) (m : List Int), 0 ≤ i → i + d = w.length → (m.length : Int) = i → (∀ j : Int, 0 ≤ j → j < i → Z w j (rd m j)) →
    Ev (fun k => coppicerlaw_BeginAgains.l0 k w z 0 m i) true := by
  induction d with
  | zero =>
    intro i m h0 hd hl hm
    refine Ev.step (fun k => coppicerlaw_BeginAgains.l0.eq_2 _ _ _ _ _ k) ?_
    simp (disch := omega) only [if_neg, if_true]
    refine Ev.bind (Ints_ev _ _ (by omega)) (Ev.val ?_)
    have : z = m := ext_rd (by omega) (fun j j0 j1 => (hA j j0 (by omega)).uniq (hm j j0 (by omega)))
    simp [this]
  | succ d ih =>
    intro i m h0 hd hl hm
    obtain ⟨n, hn1, hn2⟩ := Alike_ev w (w.drop i.toNat) (by omega)
    refine Ev.step (fun k => coppicerlaw_BeginAgains.l0.eq_2 _ _ _ _ _ k) ?_
    simp (disch := omega) only [if_pos, w64]
    refine Ev.bind hn2 ?_
    refine ih (i + 1) (m ++ [n]) (by omega) (by omega) (by simp; omega) ?_
    intro j j0 j1
    by_cases p : j < i
    · rw [rd_append_left _ _ _ j0 (by omega)]; exact hm j j0 p
    · have : j = i := by omega
      subst this
      rw [rd_append_last _ _ _ (by omega)]; exact hn1
theorem BeginAgains : coppicerlaw_BeginAgains.Pure := by
  intro w hm hs hw
  refine Ev.rounds (g := fun k => coppicerlaw_BeginAgains.f k w) ?_
  unfold coppicerlaw_BeginAgains.f begin_Again.f
  by_cases h : (w.length : Int) > 60
  · refine Ev.bind (a := ([], 1)) ?_ ?_
    · simp only [h, if_true]; exact Ev.now _
    · simp only [h, if_true]; exact Ev.val rfl
  · obtain ⟨z, hz, hA, hE⟩ := again_l0 w (by omega) w.length 0 (List.replicate w.length 0) 0 0 (by omega) (by omega) (by simp) (by omega) (by omega) (by omega) (by omega) (by omega) (by intro j h0 h1; omega) (by intro j h0 h1; omega)
    refine Ev.bind (a := (z, 0)) ?_ ?_
    · simp only [h, if_false]
      simp (disch := omega) only [if_pos]
      simp only [Option.bind_some, Int.toNat_natCast, List.length_replicate]
      exact hE
    · simp only [h, if_false]
      exact agains_l0 w (by omega) z hz hA w.length 0 [] (by omega) (by omega) (by simp) (by intro j h0 h1; omega)

end Go.Proofs.Ytkhmjehjhjhpkaa.Pure
