/- The law LyndonParts as a statement over numbers and lists alone: it holds under the bounds that the statement names. -/
import Derived.Test.YtkhmjehjhjhpkaaPLyndonPartsx2
set_option linter.unusedVariables false
set_option linter.unusedSimpArgs false
namespace Go.Proofs.Ytkhmjehjhjhpkaa.Pure
open Go.RowKit Go.Proofs.Ytkhmjehjhjhpkaa.PLyndonParts Go.Proofs.YtkhmjehjhjhpkaaW.PrintWords Go.Proofs.YtkhmjehjhjhpkaaW.PrintLast Go.Proofs.YtkhmjehjhjhpkaaW.PrintMore

/-! ### base: words for every pure text -/
theorem w64 {x : Int} (h0 : -9223372036854775808 ≤ x) (h1 : x ≤ 9223372036854775807) : wrap64 x = x := by unfold wrap64; omega
theorem Ev.pos {α : Type} {c : Prop} [Decidable c] {g f : Nat → Option α} {r : α} (h : c) (e : Ev g r) : Ev (fun k => if c then g k else f k) r := Ev.congr (fun k => by rw [if_pos h]) e
theorem Ev.neg {α : Type} {c : Prop} [Decidable c] {g f : Nat → Option α} {r : α} (h : ¬ c) (e : Ev f r) : Ev (fun k => if c then g k else f k) r := Ev.congr (fun k => by rw [if_neg h]) e
theorem Ev.val {α : Type} {r q : α} (h : r = q) : Ev (fun _ => some r) q := by subst h; exact Ev.now r
theorem rd_getElem {l : List Int} {i : Int} (h1 : i.toNat < l.length) : rd l i = l[i.toNat] := by simp [rd, List.getD_eq_getElem?_getD, List.getElem?_eq_getElem h1]
theorem drop_rd {l : List Int} {i : Int} (h0 : 0 ≤ i) (h1 : i < l.length) : l.drop i.toNat = rd l i :: l.drop (i + 1).toNat := by
  have h : i.toNat < l.length := by omega
  rw [rd_getElem h, List.drop_eq_getElem_cons h]; congr 2; omega
theorem take_rd {l : List Int} {i : Int} (h0 : 0 ≤ i) (h1 : i < l.length) : l.take (i + 1).toNat = l.take i.toNat ++ [rd l i] := by
  have h : i.toNat < l.length := by omega
  have e : (i + 1).toNat = i.toNat + 1 := by omega
  rw [rd_getElem h, e, List.take_succ_eq_append_getElem h]
theorem rd_drop (l : List Int) (n : Nat) (i : Int) (h0 : 0 ≤ i) : rd (l.drop n) i = rd l (i + n) := by
  have e : (i + n).toNat = n + i.toNat := by omega
  simp only [rd, List.getD_eq_getElem?_getD, List.getElem?_drop, e]
theorem rd_take (l : List Int) (n : Nat) (i : Int) (h0 : 0 ≤ i) (h1 : i < n) : rd (l.take n) i = rd l i := by
  simp only [rd, List.getD_eq_getElem?_getD]; rw [List.getElem?_take_of_lt (by omega)]
theorem drop_all {α : Type} (l : List α) (n : Nat) (h : l.length ≤ n) : l.drop n = [] := List.drop_eq_nil_of_le h
theorem dec_ne {a b : Int} {l m : List Int} (h : a ≠ b) : decide (a :: l = b :: m) = false := decide_eq_false (fun q => h (List.cons.inj q).1)
theorem Ev.no {p : Prop} [Decidable p] (h : ¬ p) : Ev (fun _ => some false) (decide p) := Ev.val (decide_eq_false h).symm
theorem Ev.yes {p : Prop} [Decidable p] (h : p) : Ev (fun _ => some true) (decide p) := Ev.val (decide_eq_true h).symm
theorem ext_rd {a b : List Int} (hl : a.length = b.length) (h : ∀ i : Int, 0 ≤ i → i < a.length → rd a i = rd b i) : a = b := by
  apply List.ext_getElem hl
  intro i h1 h2
  have := h i (by omega) (by omega)
  rwa [rd_getElem (by simpa using h1), rd_getElem (by simpa using h2)] at this
theorem wf_u8 {x : Int} (h : (Lit.int .u8 x).wf = true) : 0 ≤ x ∧ x ≤ 255 := by simpa [Lit.wf, IntKind.min, IntKind.max, IntKind.signed, IntKind.bits] using h
theorem wf_u32 {x : Int} (h : (Lit.int .u32 x).wf = true) : 0 ≤ x ∧ x ≤ 4294967295 := by simpa [Lit.wf, IntKind.min, IntKind.max, IntKind.signed, IntKind.bits] using h
theorem wf_i64 {x : Int} (h : (Lit.int .i64 x).wf = true) : -9223372036854775808 ≤ x ∧ x ≤ 9223372036854775807 := by simpa [Lit.wf, IntKind.min, IntKind.max, IntKind.signed, IntKind.bits] using h
theorem rd_mem {l : List Int} {i : Int} (h0 : 0 ≤ i) (h1 : i < l.length) : rd l i ∈ l := by
  rw [rd_getElem (by omega)]; exact List.getElem_mem _
theorem rd_u8 {l : List Int} (hw : ∀ x ∈ l, (Lit.int .u8 x).wf = true) {i : Int} (h0 : 0 ≤ i) (h1 : i < l.length) : 0 ≤ rd l i ∧ rd l i ≤ 255 := wf_u8 (hw _ (rd_mem h0 h1))
theorem tm {a b : Int} (h : 0 ≤ a) : Int.tmod a b = a % b := Int.tmod_eq_emod_of_nonneg h
theorem td {a b : Int} (h : 0 ≤ a) : Int.tdiv a b = a / b := Int.tdiv_eq_ediv_of_nonneg h

/-! ### an end with something told of it -/
def EvQ {α : Type} (g : Nat → Option α) (Q : α → Prop) : Prop := ∃ r, Q r ∧ Ev g r
theorem EvQ.step {α : Type} {f g : Nat → Option α} {Q : α → Prop} (h : ∀ k, f (k + 1) = g k) (e : EvQ g Q) : EvQ f Q := by
  obtain ⟨r, q, e⟩ := e; exact ⟨r, q, Ev.step h e⟩
theorem EvQ.val {α : Type} {Q : α → Prop} {r : α} (h : Q r) : EvQ (fun _ => some r) Q := ⟨r, h, Ev.now r⟩
theorem EvQ.bind {α β : Type} {g : Nat → Option α} {f : Nat → α → Option β} {a : α} {Q : β → Prop} (e : Ev g a) (h : EvQ (fun k => f k a) Q) : EvQ (fun k => (g k).bind (f k)) Q := by
  obtain ⟨r, q, h⟩ := h; exact ⟨r, q, Ev.bind e h⟩
theorem EvQ.bindQ {α β : Type} {g : Nat → Option α} {f : Nat → α → Option β} {P : α → Prop} {Q : β → Prop} (e : EvQ g P) (h : ∀ a, P a → EvQ (fun k => f k a) Q) : EvQ (fun k => (g k).bind (f k)) Q := by
  obtain ⟨a, p, e⟩ := e; exact EvQ.bind e (h a p)
theorem EvQ.mono {α : Type} {g : Nat → Option α} {P Q : α → Prop} (e : EvQ g P) (h : ∀ a, P a → Q a) : EvQ g Q := by
  obtain ⟨a, p, e⟩ := e; exact ⟨a, h a p, e⟩
theorem Ev.toQ {α : Type} {g : Nat → Option α} {r : α} (e : Ev g r) : EvQ g (fun x => x = r) := ⟨r, rfl, e⟩
theorem EvQ.ev {α : Type} {g : Nat → Option α} {r : α} (e : EvQ g (fun x => x = r)) : Ev g r := by obtain ⟨_, rfl, e⟩ := e; exact e

/-! ### coppicerref_Bytes -/
theorem Bytes_l0 (a b : List Int) (hl : a.length = b.length) (hb : (a.length : Int) ≤ 4611686018427387904) (d : Nat) : ∀ i : Int, 0 ≤ i → i + d = a.length → Ev (fun k => coppicerref_Bytes.l0 k a b i) (decide (a.drop i.toNat = b.drop i.toNat)) := by
  induction d with
  | zero =>
    intro i h0 hd
    refine Ev.step (fun k => coppicerref_Bytes.l0.eq_2 _ _ _ k) ?_
    simp (disch := omega) only [if_pos, if_neg]
    exact Ev.val (by rw [List.drop_eq_nil_of_le (by omega), List.drop_eq_nil_of_le (by omega)]; simp)
  | succ d ih =>
    intro i h0 hd
    refine Ev.step (fun k => coppicerref_Bytes.l0.eq_2 _ _ _ k) ?_
    simp (disch := omega) only [if_pos, w64]
    rw [drop_rd h0 (by omega), drop_rd (l := b) h0 (by omega)]
    by_cases h : rd a i = rd b i
    · simp only [if_pos h]
      exact Ev.congr (fun _ => rfl) (by simpa [h] using ih (i + 1) (by omega) (by omega))
    · simp only [if_neg h]
      exact Ev.val (by simp [h])
theorem Bytes_ev (a b : List Int) (hb : (a.length : Int) ≤ 4611686018427387904) : Ev (fun k => coppicerref_Bytes.f k a b) (decide (a = b)) := by
  unfold coppicerref_Bytes.f
  by_cases hl : a.length = b.length
  · simp (disch := omega) only [if_pos]
    simpa using Bytes_l0 a b hl hb a.length 0 (by omega) (by omega)
  · simp (disch := omega) only [if_neg]
    exact Ev.val (by simp; intro h; exact hl (by rw [h]))

/-! ### coppicerref_Join -/
theorem Join_eq (a b : List Int) (h : a.length + b.length < 140737488355328) : coppicerref_Join.f a b = some (a ++ b) := by
  unfold coppicerref_Join.f
  simp (disch := omega) only [Option.bind_some, List.length_nil, List.nil_append, Nat.zero_add, if_pos]

/-! ### coppicerref_Less -/
def lx : List Int → List Int → Bool
  | _, [] => false
  | [], _ :: _ => true
  | a :: x, b :: y => if a = b then lx x y else decide (a < b)
theorem lx_nil (a : List Int) : lx a [] = false := by cases a <;> rfl
theorem lx_cons (a b : Int) (x y : List Int) : lx (a :: x) (b :: y) = if a = b then lx x y else decide (a < b) := rfl
theorem lx_nil_cons (b : Int) (y : List Int) : lx [] (b :: y) = true := rfl
theorem Less_l0 (a b : List Int) (ha : a.length ≤ 4611686018427387904) (d : Nat) : ∀ i : Int, 0 ≤ i → i + d = a.length → i ≤ b.length → Ev (fun k => coppicerref_Less.l0 k a b i) (lx (a.drop i.toNat) (b.drop i.toNat)) := by
  induction d with
  | zero =>
    intro i h0 hd hb
    refine Ev.step (fun k => coppicerref_Less.l0.eq_2 _ _ _ k) ?_
    simp (disch := omega) only [if_neg]
    refine Ev.step (fun k => coppicerref_Less.j1.eq_2 _ _ _ _ k) ?_
    simp only [Bool.false_eq_true, if_false]
    refine Ev.val ?_
    rw [drop_all a _ (by omega)]
    by_cases q : i < b.length
    · rw [drop_rd h0 q, lx_nil_cons]; simp; omega
    · rw [drop_all b _ (by omega), lx_nil]; simp; omega
  | succ d ih =>
    intro i h0 hd hb
    refine Ev.step (fun k => coppicerref_Less.l0.eq_2 _ _ _ k) ?_
    simp (disch := omega) only [if_pos (show i < (a.length : Int) by omega)]
    refine Ev.step (fun k => coppicerref_Less.j1.eq_2 _ _ _ _ k) ?_
    by_cases q : i < b.length
    · simp (disch := omega) only [decide_eq_true_eq, if_pos q, if_pos h0, if_pos (show i < (a.length : Int) by omega), w64]
      rw [drop_rd h0 (by omega), drop_rd (l := b) h0 q, lx_cons]
      by_cases e : rd a i = rd b i
      · simp only [if_pos e]; exact ih (i + 1) (by omega) (by omega) (by omega)
      · simp only [if_neg e]; exact Ev.now _
    · simp (disch := omega) only [decide_eq_true_eq, if_neg q]
      rw [drop_rd h0 (by omega), drop_all b _ (by omega), lx_nil]
      exact Ev.val (by simp; omega)
theorem Less_ev (a b : List Int) (ha : a.length ≤ 4611686018427387904) : Ev (fun k => coppicerref_Less.f k a b) (lx a b) := by
  unfold coppicerref_Less.f
  simpa using Less_l0 a b ha a.length 0 (by omega) (by omega) (by omega)

/-! ### coppicerref_Low: one word less than all its ends -/
theorem lx_diff : ∀ (t : Nat) (a b : List Int), t < a.length → t < b.length → (∀ s : Nat, s < t → a.getD s 0 = b.getD s 0) → a.getD t 0 < b.getD t 0 → lx a b = true
  | 0, x :: a, y :: b, _, _, _, h => by
    have h : x < y := h
    rw [lx_cons, if_neg (by omega)]; simpa using h
  | t + 1, x :: a, y :: b, h1, h2, h3, h => by
    have e : x = y := h3 0 (by omega)
    rw [lx_cons, if_pos e]
    exact lx_diff t a b (by simpa using h1) (by simpa using h2) (fun s hs => h3 (s + 1) (by omega)) h
theorem lx_more : ∀ (t : Nat) (a b : List Int), t < a.length → t < b.length → (∀ s : Nat, s < t → a.getD s 0 = b.getD s 0) → b.getD t 0 < a.getD t 0 → lx a b = false
  | 0, x :: a, y :: b, _, _, _, h => by
    have h : y < x := h
    rw [lx_cons, if_neg (by omega)]; simp; omega
  | t + 1, x :: a, y :: b, h1, h2, h3, h => by
    have e : x = y := h3 0 (by omega)
    rw [lx_cons, if_pos e]
    exact lx_more t a b (by simpa using h1) (by simpa using h2) (fun s hs => h3 (s + 1) (by omega)) h
theorem lx_pre : ∀ (a b : List Int), b.length ≤ a.length → (∀ s : Nat, s < b.length → a.getD s 0 = b.getD s 0) → lx a b = false
  | a, [], _, _ => lx_nil a
  | [], _ :: _, h, _ => by simp at h
  | x :: a, y :: b, h, h3 => by
    have e : x = y := h3 0 (by simp)
    rw [lx_cons, if_pos e]
    exact lx_pre a b (by simpa using h) (fun s hs => h3 (s + 1) (by simpa using hs))
theorem rd_nat (l : List Int) (s : Nat) : l.getD s 0 = rd l (s : Int) := rfl
/-- the same, with indices that are whole numbers -/
theorem lx_diff' (a b : List Int) (t : Int) (h0 : 0 ≤ t) (h1 : t < a.length) (h2 : t < b.length) (h3 : ∀ s : Int, 0 ≤ s → s < t → rd a s = rd b s) (h : rd a t < rd b t) : lx a b = true := by
  refine lx_diff t.toNat a b (by omega) (by omega) (fun s hs => ?_) h
  exact h3 (s : Int) (by omega) (by omega)
theorem lx_more' (a b : List Int) (t : Int) (h0 : 0 ≤ t) (h1 : t < a.length) (h2 : t < b.length) (h3 : ∀ s : Int, 0 ≤ s → s < t → rd a s = rd b s) (h : rd b t < rd a t) : lx a b = false := by
  refine lx_more t.toNat a b (by omega) (by omega) (fun s hs => ?_) h
  exact h3 (s : Int) (by omega) (by omega)
theorem lx_pre' (a b : List Int) (hl : b.length ≤ a.length) (h3 : ∀ s : Int, 0 ≤ s → s < b.length → rd a s = rd b s) : lx a b = false :=
  lx_pre a b hl (fun s hs => h3 (s : Int) (by omega) (by omega))
/-- The n letters from 'at' on are less than each end of theirs. -/
def Lyn (w : List Int) (o n : Int) : Prop := 1 ≤ n ∧ ∀ k : Int, 1 ≤ k → k < n → ∃ t : Int, 0 ≤ t ∧ k + t < n ∧ rd w (o + t) < rd w (o + k + t) ∧ ∀ s : Int, 0 ≤ s → s < t → rd w (o + s) = rd w (o + k + s)
theorem Low_l0 (w : List Int) (hn : w.length ≤ 60) (hl : ∀ k : Int, 1 ≤ k → k < w.length → lx w (w.drop k.toNat) = true) (h1 : 1 ≤ w.length) (d : Nat) : ∀ i : Int, 1 ≤ i → i + d = w.length → Ev (fun k => coppicerref_Low.l0 k w i) true := by
  induction d with
  | zero =>
    intro i h0 hd
    refine Ev.step (fun k => coppicerref_Low.l0.eq_2 _ _ k) ?_
    simp (disch := omega) only [if_neg]; exact Ev.val (by simp; omega)
  | succ d ih =>
    intro i h0 hd
    refine Ev.step (fun k => coppicerref_Low.l0.eq_2 _ _ k) ?_
    simp (disch := omega) only [if_pos, w64]
    refine Ev.bind (Less_ev _ _ (by omega)) ?_
    simp only [if_pos (hl i h0 (by omega))]
    exact ih (i + 1) (by omega) (by omega)
/-- a part of the word -/
def part (w : List Int) (o n : Int) : List Int := (w.take (o + n).toNat).drop o.toNat
theorem part_len (w : List Int) (o n : Int) (h0 : 0 ≤ o) (h1 : 0 ≤ n) (h2 : o + n ≤ w.length) : ((part w o n).length : Int) = n := by unfold part; simp; omega
theorem part_rd (w : List Int) (o n t : Int) (h0 : 0 ≤ o) (h1 : 0 ≤ t) (h2 : t < n) : rd (part w o n) t = rd w (o + t) := by
  unfold part
  rw [rd_drop _ _ _ h1, rd_take _ _ _ (by omega) (by omega)]
  congr 1; omega
theorem Low_part (w : List Int) (hn : w.length ≤ 60) (o n : Int) (h0 : 0 ≤ o) (h2 : o + n ≤ w.length) (h : Lyn w o n) : Ev (fun k => coppicerref_Low.f k (part w o n)) true := by
  have h1 := h.1
  have hl := part_len w o n h0 (by omega) h2
  unfold coppicerref_Low.f
  refine Low_l0 (part w o n) (by omega) ?_ (by omega) ((part w o n).length - 1) 1 (by omega) (by omega)
  intro k k0 k1
  obtain ⟨t, t0, t1, t2, t3⟩ := h.2 k k0 (by omega)
  have e : ∀ s : Int, 0 ≤ s → k + s < n → rd ((part w o n).drop k.toNat) s = rd w (o + k + s) := by
    intro s s0 s1
    rw [rd_drop _ _ _ s0, part_rd w o n _ h0 (by omega) (by omega)]
    congr 1; omega
  refine lx_diff' _ _ t t0 (by omega) (by simp; omega) (fun s s0 s1 => ?_) ?_
  · rw [part_rd w o n s h0 s0 (by omega), e s s0 (by omega)]; exact t3 s s0 s1
  · rw [part_rd w o n t h0 t0 (by omega), e t t0 (by omega)]; exact t2

/-- What has been read since 'at' has the period p. -/
def Perd (w : List Int) (o p j : Int) : Prop := ∀ t : Int, 0 ≤ t → o + t + p < j → rd w (o + t) = rd w (o + t + p)
/-- One letter more, greater than the period says: all of it is one part (Duval). -/
theorem Lyn_more (w : List Int) (o p j : Int) (hp : 1 ≤ p) (hj : o + p ≤ j) (h : Lyn w o p) (hP : Perd w o p j) (hc : rd w (j - p) < rd w j) : Lyn w o (j + 1 - o) := by
  refine ⟨by omega, ?_⟩
  have key : ∀ (m : Nat) (k : Int), k.toNat = m → 1 ≤ k → k < j + 1 - o → ∃ t : Int, 0 ≤ t ∧ k + t < j + 1 - o ∧ rd w (o + t) < rd w (o + k + t) ∧ ∀ s : Int, 0 ≤ s → s < t → rd w (o + s) = rd w (o + k + s) := by
    intro m
    induction m using Nat.strongRecOn with
    | _ m ih =>
      intro k hm k0 k1
      by_cases a : k < p
      · obtain ⟨t, t0, t1, t2, t3⟩ := h.2 k k0 a
        exact ⟨t, t0, by omega, t2, t3⟩
      · by_cases b : k = p
        · subst b
          refine ⟨j - o - k, by omega, by omega, ?_, ?_⟩
          · rw [show o + (j - o - k) = j - k by omega, show o + k + (j - o - k) = j by omega]; exact hc
          · intro s s0 s1
            rw [hP s s0 (by omega)]; congr 1; omega
        · obtain ⟨t, t0, t1, t2, t3⟩ := ih (k - p).toNat (by omega) (k - p) rfl (by omega) (by omega)
          by_cases c : o + k + t < j
          · refine ⟨t, t0, by omega, ?_, ?_⟩
            · have := hP (k - p + t) (by omega) (by omega)
              rw [show o + (k - p + t) = o + (k - p) + t by omega, show o + (k - p) + t + p = o + k + t by omega] at this
              rw [← this]; exact t2
            · intro s s0 s1
              have := hP (k - p + s) (by omega) (by omega)
              rw [show o + (k - p + s) = o + (k - p) + s by omega, show o + (k - p) + s + p = o + k + s by omega] at this
              rw [← this]; exact t3 s s0 s1
          · refine ⟨j - o - k, by omega, by omega, ?_, ?_⟩
            · rw [show o + k + (j - o - k) = j by omega]
              have q : rd w (o + (j - o - k)) ≤ rd w (j - p) := by
                by_cases e : j - o - k = t
                · have := t2
                  rw [← e, show o + (k - p) + (j - o - k) = j - p by omega] at this
                  omega
                · have := t3 (j - o - k) (by omega) (by omega)
                  rw [show o + (k - p) + (j - o - k) = j - p by omega] at this
                  omega
              omega
            · intro s s0 s1
              have := hP (k - p + s) (by omega) (by omega)
              rw [show o + (k - p + s) = o + (k - p) + s by omega, show o + (k - p) + s + p = o + k + s by omega] at this
              rw [← this]; exact t3 s s0 (by omega)
  intro k k0 k1
  exact key k.toNat k rfl k0 k1
theorem Lyn_shift (w : List Int) (o p j : Int) (h : Lyn w o p) (hP : Perd w o p j) (hj : o + p + p ≤ j) : Lyn w (o + p) p := by
  refine ⟨h.1, ?_⟩
  intro k k0 k1
  obtain ⟨t, t0, t1, t2, t3⟩ := h.2 k k0 k1
  have e : ∀ s : Int, 0 ≤ s → s < p → rd w (o + p + s) = rd w (o + s) := by
    intro s s0 s1
    rw [hP s s0 (by omega)]; congr 1; omega
  refine ⟨t, t0, t1, ?_, ?_⟩
  · rw [e t t0 (by omega), show o + p + k + t = o + p + (k + t) by omega, e (k + t) (by omega) (by omega), show o + (k + t) = o + k + t by omega]; exact t2
  · intro s s0 s1
    rw [e s s0 (by omega), show o + p + k + s = o + p + (k + s) by omega, e (k + s) (by omega) (by omega), show o + (k + s) = o + k + s by omega]; exact t3 s s0 s1
/-- The last part, if there is one: no beginning of what follows is greater. -/
def Next (w : List Int) (m : List (List Int)) (o : Int) : Prop := m = [] ∨ ∃ m' u, m = m' ++ [u] ∧ ∀ n : Int, 1 ≤ n → o + n ≤ w.length → lx u (part w o n) = false
/-- The parts so far: each less than its ends, none less than the next; joined, they are the word up to 'at'. -/
inductive Good (w : List Int) : List (List Int) → Int → Prop
  | nil : Good w [] 0
  | more {m : List (List Int)} {o n : Int} : Good w m o → 0 ≤ o → 1 ≤ n → o + n ≤ w.length → Lyn w o n → (m = [] ∨ ∃ m' u, m = m' ++ [u] ∧ lx u (part w o n) = false) → Good w (m ++ [part w o n]) (o + n)
theorem Good.le {w : List Int} {m : List (List Int)} {o : Int} (h : Good w m o) : 0 ≤ o ∧ o ≤ w.length ∧ (m.length : Int) ≤ o := by
  induction h with
  | nil => simp
  | more h a b c d e ih => simp; omega
theorem Good.lens {w : List Int} {m : List (List Int)} {o : Int} (h : Good w m o) : ∀ u ∈ m, u.length ≤ w.length := by
  induction h with
  | nil => intro u hu; simp at hu
  | @more m o n h a b c d e ih =>
    intro u hu
    rcases List.mem_append.1 hu with q | q
    · exact ih u q
    · have := part_len w o n a (by omega) c
      simp at q; subst q; omega
def Nx (w : List Int) (m : List (List Int)) (o n : Int) : Prop := m = [] ∨ ∃ m' u, m = m' ++ [u] ∧ lx u (part w o n) = false
theorem Next.nx {w : List Int} {m : List (List Int)} {o n : Int} (h : Next w m o) (h1 : 1 ≤ n) (h2 : o + n ≤ w.length) : Nx w m o n := by
  rcases h with e | ⟨m', u, e, q⟩
  · exact .inl e
  · exact .inr ⟨m', u, e, q n h1 h2⟩
theorem Good.next {w : List Int} {m : List (List Int)} {o n : Int} (h : Good w m o) (hN : Nx w m o n) (h1 : 1 ≤ n) (h2 : o + n ≤ w.length) (hl : Lyn w o n) : Good w (m ++ [part w o n]) (o + n) :=
  h.more h.le.1 h1 h2 hl hN
theorem part_wrap (w : List Int) (o p : Int) : (w.take ((o + p) : Int).toNat).drop o.toNat = part w o p := rfl
theorem parts_l2 (w : List Int) (hn : w.length ≤ 60) (p j : Int) (hp : 1 ≤ p) (hj : j ≤ w.length) (hE : j = w.length ∨ rd w j < rd w (j - p))
    (Q : List (List Int) × Int → Prop) (next : ∀ (o : Int) (m : List (List Int)), 0 ≤ o → j - p < o → o ≤ j → Good w m o → Next w m o → EvQ (fun k => lyndon_Parts.l0 k w m o) Q) (d : Nat) :
    ∀ (o : Int) (m : List (List Int)), o + p ≤ j → (j - o).toNat ≤ d → Good w m o → Nx w m o p → Lyn w o p → Perd w o p j → EvQ (fun k => lyndon_Parts.l2 k w m o (j - p) p) Q := by
  induction d with
  | zero => intro o m a b; omega
  | succ d ih =>
    intro o m a b hG hN hL hP
    have g := hG.le
    have hG' := hG.next hN hp (by omega) hL
    refine EvQ.step (fun k => lyndon_Parts.l2.eq_2 _ _ _ _ _ k) ?_
    simp (disch := omega) only [if_pos, w64, part_wrap]
    have hpl := part_len w o p g.1 (by omega) (by omega)
    simp (disch := omega) only [bytes_Clone.f, if_pos, Option.bind_some]
    have same : ∀ n : Int, 1 ≤ n → o + p + n ≤ j → n ≤ p → lx (part w o p) (part w (o + p) n) = false := by
      intro n n1 n2 n3
      have hpl' := part_len w (o + p) n (by omega) (by omega) (by omega)
      refine lx_pre' _ _ (by omega) (fun s s0 s1 => ?_)
      rw [part_rd w o p s g.1 s0 (by omega), part_rd w (o + p) n s (by omega) s0 (by omega), hP s s0 (by omega)]
      congr 1; omega
    by_cases c : o + p + p ≤ j
    · refine ih (o + p) _ c (by omega) hG' (.inr ⟨m, _, rfl, same p hp c (by omega)⟩) (Lyn_shift w o p j hL hP c) ?_
      intro t t0 t1
      have := hP (t + p) (by omega) (by omega)
      rw [show o + (t + p) = o + p + t by omega] at this; exact this
    · refine EvQ.step (fun k => lyndon_Parts.l2.eq_2 _ _ _ _ _ k) ?_
      simp (disch := omega) only [if_neg]
      refine next (o + p) _ (by omega) (by omega) (by omega) hG' (.inr ⟨m, _, rfl, ?_⟩)
      intro n n1 n2
      by_cases q : o + p + n ≤ j
      · exact same n n1 q (by omega)
      · have hpl' := part_len w (o + p) n (by omega) (by omega) (by omega)
        refine lx_more' _ _ (j - o - p) (by omega) (by omega) (by omega) (fun s s0 s1 => ?_) ?_
        · rw [part_rd w o p s g.1 s0 (by omega), part_rd w (o + p) n s (by omega) s0 (by omega), hP s s0 (by omega)]
          congr 1; omega
        · rw [part_rd w o p _ g.1 (by omega) (by omega), part_rd w (o + p) n _ (by omega) (by omega) (by omega), show o + p + (j - o - p) = j by omega, show o + (j - o - p) = j - p by omega]
          rcases hE with e | e
          · omega
          · exact e
theorem parts_l1 (w : List Int) (hn : w.length ≤ 60) (m : List (List Int)) (o : Int) (h0 : 0 ≤ o) (hG : Good w m o) (hN : Next w m o) (Q : List (List Int) × Int → Prop)
    (next : ∀ (o' : Int) (m : List (List Int)), o < o' → o' ≤ w.length → Good w m o' → Next w m o' → EvQ (fun k => lyndon_Parts.l0 k w m o') Q) (d : Nat) :
    ∀ (p j : Int), 1 ≤ p → o + p ≤ j → j + d = w.length → Lyn w o p → Perd w o p j → EvQ (fun k => lyndon_Parts.l1 k w m o (j - p) j) Q := by
  have stop : ∀ (p j : Int), 1 ≤ p → o + p ≤ j → j ≤ w.length → Lyn w o p → Perd w o p j → (j = w.length ∨ rd w j < rd w (j - p)) → EvQ (fun k => lyndon_Parts.j2 k w m o (j - p) j false) Q := by
    intro p j hp hj hw hL hP hE
    refine EvQ.step (fun k => lyndon_Parts.j2.eq_2 _ _ _ _ _ _ k) ?_
    simp (disch := omega) only [Bool.false_eq_true, if_neg, not_false_eq_true, w64]
    rw [show j - (j - p) = p by omega]
    exact parts_l2 w hn p j hp hw hE Q (fun o' m' a b c => next o' m' (by omega) (by omega)) (j - o).toNat o m hj (by omega) hG (hN.nx hp (by omega)) hL hP
  induction d with
  | zero =>
    intro p j hp hj hd hL hP
    refine EvQ.step (fun k => lyndon_Parts.l1.eq_2 _ _ _ _ _ k) ?_
    simp (disch := omega) only [if_neg]
    exact stop p j hp hj (by omega) hL hP (.inl (by omega))
  | succ d ih =>
    intro p j hp hj hd hL hP
    refine EvQ.step (fun k => lyndon_Parts.l1.eq_2 _ _ _ _ _ k) ?_
    simp (disch := omega) only [if_pos]
    by_cases c : rd w (j - p) ≤ rd w j
    · simp only [c, decide_true]
      refine EvQ.step (fun k => lyndon_Parts.j2.eq_2 _ _ _ _ _ _ k) ?_
      simp (disch := omega) only [if_pos, w64, show j - p + 1 - 1 = j - p by omega]
      by_cases e : rd w (j - p) < rd w j
      · simp only [if_pos e]
        have := ih (j + 1 - o) (j + 1) (by omega) (by omega) (by omega) (Lyn_more w o p j hp hj hL hP e) (by intro t t0 t1; omega)
        rw [show j + 1 - (j + 1 - o) = o by omega] at this
        exact this
      · simp only [if_neg e]
        have := ih p (j + 1) hp (by omega) (by omega) hL (by
          intro t t0 t1
          by_cases q : o + t + p < j
          · exact hP t t0 q
          · rw [show o + t + p = j by omega, show o + t = j - p by omega]; omega)
        rw [show j + 1 - p = j - p + 1 by omega] at this
        exact this
    · simp only [c, decide_false]
      exact stop p j hp hj (by omega) hL hP (.inr (by omega))
theorem parts_l0 (w : List Int) (hn : w.length ≤ 60) (d : Nat) : ∀ (o : Int) (m : List (List Int)), (w.length - o).toNat ≤ d → Good w m o → Next w m o → EvQ (fun k => lyndon_Parts.l0 k w m o) (fun r => r.2 = 0 ∧ Good w r.1 w.length) := by
  induction d with
  | zero =>
    intro o m hd hG hN
    have g := hG.le
    refine EvQ.step (fun k => lyndon_Parts.l0.eq_2 _ _ _ k) ?_
    simp (disch := omega) only [if_neg]
    refine EvQ.val ⟨rfl, ?_⟩
    rw [show (w.length : Int) = o by omega]; exact hG
  | succ d ih =>
    intro o m hd hG hN
    have g := hG.le
    by_cases c : o < w.length
    · refine EvQ.step (fun k => lyndon_Parts.l0.eq_2 _ _ _ k) ?_
      simp (disch := omega) only [if_pos, w64]
      have := parts_l1 w hn m o g.1 hG hN _ (fun o' m' a b hG' hN' => ih o' m' (by omega) hG' hN') (w.length - (o + 1)).toNat 1 (o + 1) (by omega) (by omega) (by omega) ⟨by omega, by intro k k0 k1; omega⟩ (by intro t t0 t1; omega)
      rw [show o + 1 - 1 = o by omega] at this
      exact this
    · refine EvQ.step (fun k => lyndon_Parts.l0.eq_2 _ _ _ k) ?_
      simp (disch := omega) only [if_neg]
      refine EvQ.val ⟨rfl, ?_⟩
      rw [show (w.length : Int) = o by omega]; exact hG
/-! the law's own loop -/
theorem getL_left (m n : List (List Int)) (i : Int) (h0 : 0 ≤ i) (h1 : i < m.length) : rd_L1 (m ++ n) i = rd_L1 m i := by
  simp only [rd_L1, List.getD_eq_getElem?_getD]
  rw [List.getElem?_append_left (by omega)]
theorem getL_at (m n : List (List Int)) (u : List Int) (i : Int) (h : i = m.length) : rd_L1 (m ++ u :: n) i = u := by
  subst h
  simp [rd_L1, List.getD_eq_getElem?_getD]
theorem part_join (w : List Int) (o n : Int) (h0 : 0 ≤ o) (h1 : 0 ≤ n) (h2 : o + n ≤ w.length) : w.take o.toNat ++ part w o n = w.take (o + n).toNat := by
  unfold part
  have : w.take o.toNat = (w.take (o + n).toNat).take o.toNat := by rw [List.take_take]; congr 1; omega
  rw [this, List.take_append_drop]
theorem law_l0 (w : List Int) (hn : w.length ≤ 60) (all : List (List Int)) (hall : all.length ≤ 60) (Q : Bool → Prop) {m : List (List Int)} {o : Int} (h : Good w m o) : ∀ (rest : List (List Int)), all = m ++ rest →
    EvQ (fun k => coppicerlaw_LyndonParts.l0 k w all 0 (w.take o.toNat) all (all.length : Int) (m.length : Int)) Q → EvQ (fun k => coppicerlaw_LyndonParts.l0 k w all 0 [] all (all.length : Int) 0) Q := by
  induction h with
  | nil => intro rest e h; exact h
  | @more m o n hG h0 h1 h2 hL hx ih =>
    intro rest e h
    have e' : all = m ++ part w o n :: rest := by rw [e]; simp
    refine ih (part w o n :: rest) e' ?_
    have la : all.length = m.length + 1 + rest.length := by rw [e']; simp; omega
    have ra : rd_L1 all (m.length : Int) = part w o n := by rw [e']; exact getL_at m rest _ _ rfl
    have hpl := part_len w o n h0 (by omega) h2
    have hj : coppicerref_Join.f (w.take o.toNat) (part w o n) = some (w.take (o + n).toNat) := by
      rw [Join_eq _ _ (by simp; omega), part_join w o n h0 (by omega) h2]
    have hlen : ((m ++ [part w o n]).length : Int) = (m.length : Int) + 1 := by simp
    rw [hlen] at h
    refine EvQ.step (fun k => coppicerlaw_LyndonParts.l0.eq_2 _ _ _ _ _ _ _ k) ?_
    simp (disch := omega) only [if_pos, w64, ra]
    refine EvQ.bind (Low_part w hn o n h0 h2 hL) ?_
    simp only [if_true]
    rcases hx with hm | ⟨m', u, hm, hu⟩
    · subst hm
      simp (disch := omega) only [List.length_nil, if_neg, hj, Option.bind_some]
      simpa using h
    · have lm : (m.length : Int) = m'.length + 1 := by rw [hm]; simp
      have ru : rd_L1 all (m.length - 1 : Int) = u := by
        have : all = m' ++ u :: (part w o n :: rest) := by rw [e', hm]; simp
        rw [this]; exact getL_at m' _ u _ (by omega)
      have gl := hG.le
      simp (disch := omega) only [if_pos, ru]
      have hul : u.length ≤ 4611686018427387904 := by
        have := hG.lens u (by rw [hm]; simp)
        omega
      refine EvQ.bind (Less_ev u _ hul) ?_
      simp only [hu, Bool.false_eq_true, if_false, hj, Option.bind_some]
      exact h
theorem LyndonParts : coppicerlaw_LyndonParts.Pure := by
  intro w hm hs hw
  refine Ev.rounds (g := fun k => coppicerlaw_LyndonParts.f k w) ?_
  unfold coppicerlaw_LyndonParts.f lyndon_Parts.f
  by_cases h : (w.length : Int) > 60
  · refine Ev.bind (a := ([], 1)) ?_ ?_
    · simp only [h, if_true]; exact Ev.now _
    · simp only [h, if_true]; exact Ev.val rfl
  · obtain ⟨⟨m, z⟩, ⟨rfl, hG⟩, hE⟩ := parts_l0 w (by omega) w.length 0 [] (by omega) (.nil) (.inl rfl)
    have g := hG.le
    have g : m.length ≤ 60 := by have := g.2.2; simp only at this; omega
    refine Ev.bind (a := (m, 0)) ?_ ?_
    · simp only [h, if_false]; exact hE
    · simp only [h, if_false]
      refine EvQ.ev (law_l0 w (by omega) m g _ hG [] (by simp) ?_)
      refine EvQ.step (fun k => coppicerlaw_LyndonParts.l0.eq_2 _ _ _ _ _ _ _ k) ?_
      simp (disch := omega) only [if_neg, if_true]
      refine EvQ.bind (Bytes_ev _ _ (by simp; omega)) (EvQ.val ?_)
      simp

end Go.Proofs.Ytkhmjehjhjhpkaa.Pure
