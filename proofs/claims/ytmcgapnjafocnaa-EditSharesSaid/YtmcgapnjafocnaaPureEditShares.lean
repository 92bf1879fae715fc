/- The law EditShares as a statement over numbers and lists alone: it holds under the bounds that the statement names. -/
import Derived.Test.YtmcgapnjafocnaaPEditSharesx5
set_option linter.unusedVariables false
set_option linter.unusedSimpArgs false
set_option linter.unusedSectionVars false
namespace Go.Proofs.Ytmcgapnjafocnaa.Pure
open Go.RowKit Go.Proofs.Ytmcgapnjafocnaa.PEditShares Go.Proofs.YtmcgapnjafocnaaW.PrintWords Go.Proofs.YtmcgapnjafocnaaW.PrintLast Go.Proofs.YtmcgapnjafocnaaW.PrintMore

/-! ### base: words for every pure text -/
theorem w64 {x : Int} (h0 : -9223372036854775808 ≤ x) (h1 : x ≤ 9223372036854775807) : wrap64 x = x := by unfold wrap64; omega
theorem Ev.pos {α : Type} {c : Prop} [Decidable c] {g f : Nat → Option α} {r : α} (h : c) (e : Ev g r) : Ev (fun k => if c then g k else f k) r := Ev.congr (fun k => by rw [if_pos h]) e
theorem Ev.neg {α : Type} {c : Prop} [Decidable c] {g f : Nat → Option α} {r : α} (h : ¬ c) (e : Ev f r) : Ev (fun k => if c then g k else f k) r := Ev.congr (fun k => by rw [if_neg h]) e
theorem Ev.val {α : Type} {r q : α} (h : r = q) : Ev (fun _ => some r) q := by subst h; exact Ev.now r
theorem rd_getElem {l : List Int} {i : Int} (h1 : i.toNat < l.length) : rd l i = l[i.toNat] := by simp [rd, List.getD_eq_getElem?_getD, List.getElem?_eq_getElem h1]
theorem drop_rd {l : List Int} {i : Int} (h0 : 0 ≤ i) (h1 : i < l.length) : l.drop i.toNat = rd l i :: l.drop (i + 1).toNat := by
  have h : i.toNat < l.length := by omega
  rw [rd_getElem h, List.drop_eq_getElem_cons h]; congr 2; omega
theorem take_rd {l : List Int} {i : Int} (h0 : 0 ≤ i) (h1 : i < l.length) : l.take (i + 1).toNat = l.take i.toNat ++ [rd l i] := by
  have h : i.toNat < l.length := by omega
  have e : (i + 1).toNat = i.toNat + 1 := by omega
  rw [rd_getElem h, e, List.take_succ_eq_append_getElem h]
theorem rd_drop (l : List Int) (n : Nat) (i : Int) (h0 : 0 ≤ i) : rd (l.drop n) i = rd l (i + n) := by
  have e : (i + n).toNat = n + i.toNat := by omega
  simp only [rd, List.getD_eq_getElem?_getD, List.getElem?_drop, e]
theorem rd_take (l : List Int) (n : Nat) (i : Int) (h0 : 0 ≤ i) (h1 : i < n) : rd (l.take n) i = rd l i := by
  simp only [rd, List.getD_eq_getElem?_getD]; rw [List.getElem?_take_of_lt (by omega)]
theorem drop_all {α : Type} (l : List α) (n : Nat) (h : l.length ≤ n) : l.drop n = [] := List.drop_eq_nil_of_le h
theorem dec_ne {a b : Int} {l m : List Int} (h : a ≠ b) : decide (a :: l = b :: m) = false := decide_eq_false (fun q => h (List.cons.inj q).1)
theorem Ev.no {p : Prop} [Decidable p] (h : ¬ p) : Ev (fun _ => some false) (decide p) := Ev.val (decide_eq_false h).symm
theorem Ev.yes {p : Prop} [Decidable p] (h : p) : Ev (fun _ => some true) (decide p) := Ev.val (decide_eq_true h).symm
theorem ext_rd {a b : List Int} (hl : a.length = b.length) (h : ∀ i : Int, 0 ≤ i → i < a.length → rd a i = rd b i) : a = b := by
  apply List.ext_getElem hl
  intro i h1 h2
  have := h i (by omega) (by omega)
  rwa [rd_getElem (by simpa using h1), rd_getElem (by simpa using h2)] at this
theorem wf_u8 {x : Int} (h : (Lit.int .u8 x).wf = true) : 0 ≤ x ∧ x ≤ 255 := by simpa [Lit.wf, IntKind.min, IntKind.max, IntKind.signed, IntKind.bits] using h
theorem wf_u32 {x : Int} (h : (Lit.int .u32 x).wf = true) : 0 ≤ x ∧ x ≤ 4294967295 := by simpa [Lit.wf, IntKind.min, IntKind.max, IntKind.signed, IntKind.bits] using h
theorem wf_i64 {x : Int} (h : (Lit.int .i64 x).wf = true) : -9223372036854775808 ≤ x ∧ x ≤ 9223372036854775807 := by simpa [Lit.wf, IntKind.min, IntKind.max, IntKind.signed, IntKind.bits] using h
theorem rd_mem {l : List Int} {i : Int} (h0 : 0 ≤ i) (h1 : i < l.length) : rd l i ∈ l := by
  rw [rd_getElem (by omega)]; exact List.getElem_mem _
theorem rd_u8 {l : List Int} (hw : ∀ x ∈ l, (Lit.int .u8 x).wf = true) {i : Int} (h0 : 0 ≤ i) (h1 : i < l.length) : 0 ≤ rd l i ∧ rd l i ≤ 255 := wf_u8 (hw _ (rd_mem h0 h1))
theorem tm {a b : Int} (h : 0 ≤ a) : Int.tmod a b = a % b := Int.tmod_eq_emod_of_nonneg h
theorem td {a b : Int} (h : 0 ≤ a) : Int.tdiv a b = a / b := Int.tdiv_eq_ediv_of_nonneg h

theorem rd_set_eq (l : List Int) (i : Int) (v : Int) (h0 : 0 ≤ i) (h1 : i < l.length) : rd (l.set i.toNat v) i = v := by
  simp [rd, List.getD_eq_getElem?_getD, List.getElem?_set, show i.toNat < l.length by omega]
theorem rd_set_ne (l : List Int) (i j : Int) (v : Int) (h0 : 0 ≤ i) (hj : 0 ≤ j) (h : j ≠ i) : rd (l.set i.toNat v) j = rd l j := by
  simp only [rd, List.getD_eq_getElem?_getD]
  rw [List.getElem?_set_ne (by omega)]
theorem rd_replicate (n : Nat) (v : Int) (j : Int) (h0 : 0 ≤ j) (h1 : j < n) : rd (List.replicate n v) j = v := by
  simp [rd, List.getD_eq_getElem?_getD, List.getElem?_replicate, show j.toNat < n by omega]
theorem rd_append_left (l m : List Int) (j : Int) (h0 : 0 ≤ j) (h1 : j < l.length) : rd (l ++ m) j = rd l j := by
  simp only [rd, List.getD_eq_getElem?_getD]
  rw [List.getElem?_append_left (by omega)]
theorem rd_append_last (l : List Int) (v : Int) (j : Int) (h : j = l.length) : rd (l ++ [v]) j = v := by
  subst h
  simp [rd, List.getD_eq_getElem?_getD]

/-! ### coppicerref_Bytes -/
theorem Bytes_l0 (a b : List Int) (hl : a.length = b.length) (hb : (a.length : Int) ≤ 4611686018427387904) (d : Nat) : ∀ i : Int, 0 ≤ i → i + d = a.length → Ev (fun k => coppicerref_Bytes.l0 k a b i) (decide (a.drop i.toNat = b.drop i.toNat)) := by
  induction d with
  | zero =>
    intro i h0 hd
    refine Ev.step (fun k => coppicerref_Bytes.l0.eq_2 _ _ _ k) ?_
    simp (disch := omega) only [if_pos, if_neg]
    exact Ev.val (by rw [List.drop_eq_nil_of_le (by omega), List.drop_eq_nil_of_le (by omega)]; simp)
  | succ d ih =>
    intro i h0 hd
    refine Ev.step (fun k => coppicerref_Bytes.l0.eq_2 _ _ _ k) ?_
    simp (disch := omega) only [if_pos, w64]
    rw [drop_rd h0 (by omega), drop_rd (l := b) h0 (by omega)]
    by_cases h : rd a i = rd b i
    · simp only [if_pos h]
      exact Ev.congr (fun _ => rfl) (by simpa [h] using ih (i + 1) (by omega) (by omega))
    · simp only [if_neg h]
      exact Ev.val (by simp [h])
theorem Bytes_ev (a b : List Int) (hb : (a.length : Int) ≤ 4611686018427387904) : Ev (fun k => coppicerref_Bytes.f k a b) (decide (a = b)) := by
  unfold coppicerref_Bytes.f
  by_cases hl : a.length = b.length
  · simp (disch := omega) only [if_pos]
    simpa using Bytes_l0 a b hl hb a.length 0 (by omega) (by omega)
  · simp (disch := omega) only [if_neg]
    exact Ev.val (by simp; intro h; exact hl (by rw [h]))

/-! ### loops, told by what follows -/
theorem Ev.loopc {σ ρ : Type} {L : Nat → Int → σ → Option ρ} {n : Int} {r : ρ} (I : Int → σ → Prop)
    (hend : ∀ s, I n s → Ev (fun k => L k n s) r)
    (hstep : ∀ i s, 0 ≤ i → i < n → I i s → (∀ s', I (i + 1) s' → Ev (fun k => L k (i + 1) s') r) → Ev (fun k => L k i s) r) :
    ∀ (i : Int) (s : σ), 0 ≤ i → i ≤ n → I i s → Ev (fun k => L k i s) r := by
  have key : ∀ (d : Nat) (i : Int) (s : σ), 0 ≤ i → i + d = n → I i s → Ev (fun k => L k i s) r := by
    intro d
    induction d with
    | zero => intro i s h0 h1 hI; obtain rfl : i = n := by omega
              exact hend s hI
    | succ d ih =>
      intro i s h0 h1 hI
      exact hstep i s h0 (by omega) hI (fun s' h' => ih (i + 1) s' (by omega) (by omega) h')
  intro i s h0 h1 hI
  exact key (n - i).toNat i s h0 (by omega) hI

/-! ### an answer of which something is known -/
def EvP {α : Type} (g : Nat → Option α) (J : α → Prop) : Prop := ∃ r, J r ∧ Ev g r
theorem EvP.of {α : Type} {g : Nat → Option α} {J : α → Prop} {r : α} (h : J r) (e : Ev g r) : EvP g J := ⟨r, h, e⟩
theorem EvP.now {α : Type} {J : α → Prop} {r : α} (h : J r) : EvP (fun _ => some r) J := ⟨r, h, Ev.now r⟩
theorem EvP.pos {α : Type} {c : Prop} [Decidable c] {g f : Nat → Option α} {J : α → Prop} (h : c) (e : EvP g J) : EvP (fun k => if c then g k else f k) J := let ⟨r, h1, h2⟩ := e; ⟨r, h1, Ev.pos h h2⟩
theorem EvP.neg {α : Type} {c : Prop} [Decidable c] {g f : Nat → Option α} {J : α → Prop} (h : ¬ c) (e : EvP f J) : EvP (fun k => if c then g k else f k) J := let ⟨r, h1, h2⟩ := e; ⟨r, h1, Ev.neg h h2⟩
theorem EvP.step {α : Type} {g f : Nat → Option α} {J : α → Prop} (h : ∀ k, g (k + 1) = f k) (e : EvP f J) : EvP g J := let ⟨r, h1, h2⟩ := e; ⟨r, h1, Ev.step h h2⟩
theorem EvP.congr {α : Type} {g f : Nat → Option α} {J : α → Prop} (h : ∀ k, g k = f k) (e : EvP f J) : EvP g J := let ⟨r, h1, h2⟩ := e; ⟨r, h1, Ev.congr h h2⟩
theorem EvP.bind {α β : Type} {g : Nat → Option α} {f : Nat → α → Option β} {a : α} {J : β → Prop} (h : Ev g a) (e : EvP (fun n => f n a) J) : EvP (fun n => (g n).bind (f n)) J := let ⟨r, h1, h2⟩ := e; ⟨r, h1, Ev.bind h h2⟩
theorem EvP.bindP {α β : Type} {g : Nat → Option α} {f : Nat → α → Option β} {I : α → Prop} {J : β → Prop} (h : EvP g I) (e : ∀ a, I a → EvP (fun n => f n a) J) : EvP (fun n => (g n).bind (f n)) J := let ⟨a, h1, h2⟩ := h; EvP.bind h2 (e a h1)
theorem EvP.ev {α β : Type} {g : Nat → Option α} {f : Nat → α → Option β} {I : α → Prop} {r : β} (h : EvP g I) (e : ∀ a, I a → Ev (fun n => f n a) r) : Ev (fun n => (g n).bind (f n)) r := let ⟨a, h1, h2⟩ := h; Ev.bind h2 (e a h1)
theorem EvP.mono {α : Type} {g : Nat → Option α} {I J : α → Prop} (h : EvP g I) (hi : ∀ a, I a → J a) : EvP g J := let ⟨a, h1, h2⟩ := h; ⟨a, hi a h1, h2⟩
theorem EvP.loop {σ ρ : Type} {L : Nat → Int → σ → Option ρ} {n : Int} {J : ρ → Prop} (I : Int → σ → Prop)
    (hend : ∀ s, I n s → EvP (fun k => L k n s) J)
    (hstep : ∀ i s, 0 ≤ i → i < n → I i s → (∀ s', I (i + 1) s' → EvP (fun k => L k (i + 1) s') J) → EvP (fun k => L k i s) J) :
    ∀ (i : Int) (s : σ), 0 ≤ i → i ≤ n → I i s → EvP (fun k => L k i s) J := by
  have key : ∀ (d : Nat) (i : Int) (s : σ), 0 ≤ i → i + d = n → I i s → EvP (fun k => L k i s) J := by
    intro d
    induction d with
    | zero => intro i s h0 h1 hI; obtain rfl : i = n := by omega
              exact hend s hI
    | succ d ih =>
      intro i s h0 h1 hI
      exact hstep i s h0 (by omega) hI (fun s' h' => ih (i + 1) s' (by omega) (by omega) h')
  intro i s h0 h1 hI
  exact key (n - i).toNat i s h0 (by omega) hI

theorem isB (p : Prop) : ∃ R : Bool, R = true ↔ p := by
  by_cases h : p
  · exact ⟨true, by simp [h]⟩
  · exact ⟨false, by simp [h]⟩

/-! ### the least of the longest words that are inside of both -/
def lexle : List Int → List Int → Prop
  | [], _ => True
  | _ :: _, [] => False
  | x :: a, y :: b => x < y ∨ (x = y ∧ lexle a b)
theorem lexle_refl : ∀ a, lexle a a
  | [] => trivial
  | x :: a => .inr ⟨rfl, lexle_refl a⟩
theorem lexle_trans : ∀ {a b c : List Int}, lexle a b → lexle b c → lexle a c
  | [], _, _, _, _ => trivial
  | _ :: _, [], _, h, _ => h.elim
  | _ :: _, _ :: _, [], _, h => h.elim
  | x :: a, y :: b, z :: c, h, h2 => by
    rcases h with h | ⟨e, h⟩
    · rcases h2 with h2 | ⟨e2, h2⟩
      · exact .inl (by omega)
      · exact .inl (by omega)
    · rcases h2 with h2 | ⟨e2, h2⟩
      · exact .inl (by omega)
      · exact .inr ⟨by omega, lexle_trans h h2⟩
theorem lexle_antisymm : ∀ {a b : List Int}, a.length = b.length → lexle a b → lexle b a → a = b
  | [], [], _, _, _ => rfl
  | [], _ :: _, h, _, _ => by simp at h
  | _ :: _, [], h, _, _ => by simp at h
  | x :: a, y :: b, hl, h, h2 => by
    rcases h with h | ⟨e, h⟩
    · rcases h2 with h2 | ⟨e2, h2⟩
      · omega
      · omega
    · rcases h2 with h2 | ⟨e2, h2⟩
      · omega
      · rw [e, lexle_antisymm (by simpa using hl) h h2]
theorem lexle_total : ∀ (a b : List Int), lexle a b ∨ lexle b a
  | [], _ => .inl trivial
  | _ :: _, [] => .inr trivial
  | x :: a, y :: b => by
    by_cases c : x < y
    · exact .inl (.inl c)
    · by_cases d : y < x
      · exact .inr (.inl d)
      · rcases lexle_total a b with h | h
        · exact .inl (.inr ⟨by omega, h⟩)
        · exact .inr (.inr ⟨by omega, h⟩)
/-- As good: longer, or as long and no greater. -/
def asGood (a b : List Int) : Prop := b.length < a.length ∨ (a.length = b.length ∧ lexle a b)
theorem asGood_refl (a : List Int) : asGood a a := .inr ⟨rfl, lexle_refl a⟩
theorem asGood_trans {a b c : List Int} (h : asGood a b) (h2 : asGood b c) : asGood a c := by
  rcases h with h | ⟨e, h⟩
  · rcases h2 with h2 | ⟨e2, h2⟩
    · exact .inl (by omega)
    · exact .inl (by omega)
  · rcases h2 with h2 | ⟨e2, h2⟩
    · exact .inl (by omega)
    · exact .inr ⟨by omega, lexle_trans h h2⟩
theorem asGood_antisymm {a b : List Int} (h : asGood a b) (h2 : asGood b a) : a = b := by
  rcases h with h | ⟨e, h⟩
  · rcases h2 with h2 | ⟨e2, h2⟩
    · omega
    · omega
  · rcases h2 with h2 | ⟨e2, h2⟩
    · omega
    · exact lexle_antisymm e h h2
def CS (w a b : List Int) : Prop := List.Sublist w a ∧ List.Sublist w b
theorem cs_cons {w a b : List Int} {x y : Int} (h : CS w (x :: a) (y :: b)) : CS w a (y :: b) ∨ CS w (x :: a) b ∨ (x = y ∧ ∃ w', w = x :: w' ∧ CS w' a b) := by
  obtain ⟨h1, h2⟩ := h
  cases h1 with
  | cons _ h1 => exact .inl ⟨h1, h2⟩
  | cons_cons _ h1 =>
    cases h2 with
    | cons _ h2 => exact .inr (.inl ⟨h1.cons_cons _, h2⟩)
    | cons_cons _ h2 => exact .inr (.inr ⟨rfl, _, rfl, h1, h2⟩)
theorem cs_left {w a b : List Int} {x : Int} (h : CS w a b) : CS w (x :: a) b := ⟨h.1.cons _, h.2⟩
theorem cs_right {w a b : List Int} {y : Int} (h : CS w a b) : CS w a (y :: b) := ⟨h.1, h.2.cons _⟩
theorem cs_both {w a b : List Int} {x : Int} (h : CS w a b) : CS (x :: w) (x :: a) (x :: b) := ⟨h.1.cons_cons _, h.2.cons_cons _⟩
def Best (a b w : List Int) : Prop := CS w a b ∧ ∀ w', CS w' a b → asGood w w'
theorem Best.uniq {a b w w' : List Int} (h : Best a b w) (h2 : Best a b w') : w = w' := asGood_antisymm (h.2 _ h2.1) (h2.2 _ h.1)
theorem best_nil_left (b : List Int) : Best [] b [] := ⟨⟨List.Sublist.slnil, List.nil_sublist _⟩, fun w' h => by rw [List.sublist_nil.1 h.1]; exact asGood_refl _⟩
theorem best_nil_right (a : List Int) : Best a [] [] := ⟨⟨List.nil_sublist _, List.Sublist.slnil⟩, fun w' h => by rw [List.sublist_nil.1 h.2]; exact asGood_refl _⟩
theorem asGood_cons {x : Int} {a b : List Int} (h : asGood a b) : asGood (x :: a) (x :: b) := by
  rcases h with h | ⟨e, h⟩
  · exact .inl (by simpa using h)
  · exact .inr ⟨by simpa using e, .inr ⟨rfl, h⟩⟩
/-- One step of the table: whichever of the three is as good as the other two. -/
theorem best_step {a b w w1 w2 : List Int} {x y : Int} (h1 : Best a (y :: b) w1) (h2 : Best (x :: a) b w2) (h3 : x = y → ∃ w3, Best a b w3 ∧ asGood w (x :: w3)) (g1 : asGood w w1) (g2 : asGood w w2) (hc : CS w (x :: a) (y :: b)) : Best (x :: a) (y :: b) w := by
  refine ⟨hc, fun w' h => ?_⟩
  rcases cs_cons h with h | h | ⟨e, w'', rfl, h9⟩
  · exact asGood_trans g1 (h1.2 _ h)
  · exact asGood_trans g2 (h2.2 _ h)
  · obtain ⟨w3, hb, g3⟩ := h3 e
    exact asGood_trans g3 (asGood_cons (hb.2 _ h9))
/-- The length of the longest. -/
def Mx (a b : List Int) (n : Int) : Prop := (∃ w, CS w a b ∧ (w.length : Int) = n) ∧ ∀ w', CS w' a b → (w'.length : Int) ≤ n
theorem Mx.uniq {a b : List Int} {n m : Int} (h : Mx a b n) (h2 : Mx a b m) : n = m := by
  obtain ⟨⟨w, hw, e⟩, q⟩ := h
  obtain ⟨⟨w2, hw2, e2⟩, q2⟩ := h2
  have := q _ hw2; have := q2 _ hw; omega
theorem Best.mx {a b w : List Int} (h : Best a b w) : Mx a b w.length := ⟨⟨w, h.1, rfl⟩, fun w' h' => by
  rcases h.2 _ h' with q | ⟨q, _⟩ <;> omega⟩
theorem Mx.zero {a b : List Int} (h : Mx a b 0) : Best a b [] := ⟨⟨List.nil_sublist _, List.nil_sublist _⟩, fun w' h' => by
  have := h.2 _ h'
  have e : w' = [] := List.eq_nil_of_length_eq_zero (by omega)
  rw [e]; exact asGood_refl _⟩
theorem mx_step {a b : List Int} {x y n n1 n2 : Int} (h1 : Mx a (y :: b) n1) (h2 : Mx (x :: a) b n2) (h3 : x = y → ∃ n3, Mx a b n3 ∧ n3 + 1 ≤ n) (g1 : n1 ≤ n) (g2 : n2 ≤ n) (hn : n = n1 ∨ n = n2 ∨ (x = y ∧ ∃ n3, Mx a b n3 ∧ n = n3 + 1)) : Mx (x :: a) (y :: b) n := by
  refine ⟨?_, fun w' h => ?_⟩
  · rcases hn with e | e | ⟨e, n3, q, e2⟩
    · obtain ⟨w, hw, l⟩ := h1.1; exact ⟨w, cs_left hw, by omega⟩
    · obtain ⟨w, hw, l⟩ := h2.1; exact ⟨w, cs_right hw, by omega⟩
    · obtain ⟨w, hw, l⟩ := q.1; subst e; exact ⟨x :: w, cs_both hw, by rw [List.length_cons]; omega⟩
  · rcases cs_cons h with h | h | ⟨e, w'', rfl, h9⟩
    · have := h1.2 _ h; omega
    · have := h2.2 _ h; omega
    · obtain ⟨n3, q, l⟩ := h3 e
      have := q.2 _ h9
      rw [List.length_cons]; omega
/-! byte by byte -/
theorem sub_first {c : Int} {w a1 a2 : List Int} (hn : c ∉ a1) : List.Sublist (c :: w) (a1 ++ c :: a2) ↔ List.Sublist w a2 := by
  induction a1 with
  | nil =>
    constructor
    · intro h
      cases h with
      | cons _ h => exact (List.sublist_cons_self c w).trans h
      | cons_cons _ h => exact h
    · intro h; exact h.cons_cons _
  | cons z a1 ih =>
    have hz : c ≠ z := fun e => hn (by simp [e])
    have ih := ih (fun h => hn (by simp [h]))
    constructor
    · intro h
      cases h with
      | cons _ h => exact ih.1 h
      | cons_cons _ h => exact absurd rfl hz
    · intro h; exact (ih.2 h).cons _
theorem best_byte {a b a1 a2 b1 b2 w : List Int} {c : Int} {n : Int} (ea : a = a1 ++ c :: a2) (eb : b = b1 ++ c :: b2) (ha : c ∉ a1) (hb : c ∉ b1) (hn : Mx a b (n + 1)) (hw : Best a2 b2 w) (hm : (w.length : Int) = n)
    (hmin : ∀ c' w', c' < c → CS (c' :: w') a b → ((c' :: w').length : Int) ≠ n + 1) : Best a b (c :: w) := by
  refine ⟨⟨by rw [ea]; exact (sub_first ha).2 hw.1.1, by rw [eb]; exact (sub_first hb).2 hw.1.2⟩, fun w' h => ?_⟩
  have l := hn.2 _ h
  by_cases e : (w'.length : Int) = n + 1
  · right
    refine ⟨by rw [List.length_cons]; omega, ?_⟩
    cases w' with
    | nil => simp at e; omega
    | cons c' w' =>
      by_cases q : c' < c
      · exact absurd e (hmin c' w' q h)
      · by_cases q2 : c < c'
        · exact .inl q2
        · obtain rfl : c = c' := by omega
          refine .inr ⟨rfl, ?_⟩
          have h2 : CS w' a2 b2 := ⟨by rw [ea] at h; exact (sub_first ha).1 h.1, by rw [eb] at h; exact (sub_first hb).1 h.2⟩
          rw [List.length_cons] at e
          rcases hw.2 _ h2 with z | ⟨_, z⟩
          · omega
          · exact z
  · left; rw [List.length_cons]; omega

/-! ### edit.Shared: the best of all places, row by row -/
theorem cmp_lexle : ∀ (a b : List Int), (∀ x ∈ a, 0 ≤ x ∧ x ≤ 255) → (∀ x ∈ b, 0 ≤ x ∧ x ≤ 255) → (Lib.compareBytes (Lib.bytesOf a) (Lib.bytesOf b) < 0 ↔ ¬ lexle b a)
  | [], [], _, _ => by simp [Lib.bytesOf, Lib.compareBytes, lexle]
  | [], _ :: _, _, _ => by simp [Lib.bytesOf, Lib.compareBytes, lexle]
  | _ :: _, [], _, _ => by simp [Lib.bytesOf, Lib.compareBytes, lexle]
  | x :: a, y :: b, ha, hb => by
    have h1 := ha x (by simp)
    have h2 := hb y (by simp)
    have ih := cmp_lexle a b (fun z hz => ha z (by simp [hz])) (fun z hz => hb z (by simp [hz]))
    have n1 : (UInt8.ofNat x.toNat).toNat = x.toNat := by simp only [UInt8.toNat_ofNat']; omega
    have n2 : (UInt8.ofNat y.toNat).toNat = y.toNat := by simp only [UInt8.toNat_ofNat']; omega
    have e : Lib.compareBytes (Lib.bytesOf (x :: a)) (Lib.bytesOf (y :: b)) = if UInt8.ofNat x.toNat < UInt8.ofNat y.toNat then -1 else if UInt8.ofNat y.toNat < UInt8.ofNat x.toNat then 1 else Lib.compareBytes (Lib.bytesOf a) (Lib.bytesOf b) := rfl
    have l1 : (UInt8.ofNat x.toNat < UInt8.ofNat y.toNat) ↔ x < y := by rw [UInt8.lt_iff_toNat_lt, n1, n2]; omega
    have l2 : (UInt8.ofNat y.toNat < UInt8.ofNat x.toNat) ↔ y < x := by rw [UInt8.lt_iff_toNat_lt, n1, n2]; omega
    have el : lexle (y :: b) (x :: a) ↔ (y < x ∨ (y = x ∧ lexle b a)) := Iff.rfl
    rw [e, el]
    by_cases p : x < y
    · rw [if_pos (l1.2 p)]
      exact ⟨fun _ q => by rcases q with q | ⟨q, _⟩ <;> omega, fun _ => by omega⟩
    · rw [if_neg (fun q => p (l1.1 q))]
      by_cases p2 : y < x
      · rw [if_pos (l2.2 p2)]
        exact ⟨fun q => by omega, fun q => absurd (.inl p2) q⟩
      · rw [if_neg (fun q => p2 (l2.1 q)), ih]
        obtain rfl : x = y := by omega
        exact ⟨fun q z => by rcases z with z | ⟨_, z⟩; omega; exact q z, fun q z => q (.inr ⟨rfl, z⟩)⟩
def bys (w : List Int) : Prop := ∀ x ∈ w, 0 ≤ x ∧ x ≤ 255
theorem better_ev {a b : List Int} (ha : bys a) (hb : bys b) : ∃ r : Bool, edit_Shared_1.f a b = some r ∧ (r = true → asGood a b) ∧ (¬ r = true → asGood b a) := by
  unfold edit_Shared_1.f bytes_Compare.f
  by_cases c : (a.length : Int) > (b.length : Int)
  · rw [if_pos c]; exact ⟨true, rfl, fun _ => .inl (by omega), fun q => absurd rfl q⟩
  · rw [if_neg c]
    by_cases d : (a.length : Int) = (b.length : Int)
    · rw [if_pos d]
      have h := cmp_lexle a b ha hb
      refine ⟨decide (Lib.compareBytes (Lib.bytesOf a) (Lib.bytesOf b) < 0), rfl, fun q => ?_, fun q => ?_⟩
      · have := h.1 (by simpa using q)
        rcases lexle_total a b with z | z
        · exact .inr ⟨by omega, z⟩
        · exact absurd z this
      · refine .inr ⟨by omega, ?_⟩
        apply Classical.byContradiction
        intro z; exact q (by simpa using h.2 z)
    · rw [if_neg d]; exact ⟨false, rfl, fun q => by simp at q, fun _ => .inl (by omega)⟩
section
variable {u v : List Int} (hu : u.length ≤ 60) (hv : v.length ≤ 60) (bu : bys u)
include hu hv bu
theorem best_bys {i : Nat} {b w : List Int} (h : CS w (u.drop i) b) : bys w := fun x hx => bu x (List.mem_of_mem_drop (h.1.subset hx))
theorem best_len {i : Nat} {b w : List Int} (h : CS w (u.drop i) b) : w.length ≤ 60 := by
  have := h.1.length_le
  rw [List.length_drop] at this; omega
structure Bt (u v : List Int) (T : List (List Int)) (i j : Int) : Prop where
  len : (T.length : Int) = v.length + 1
  at_ : ∀ j' : Int, 0 ≤ j' → j < j' → j' ≤ v.length → Best (u.drop i.toNat) (v.drop j'.toNat) (rd_L1 T j')
theorem Bt.put {T : List (List Int)} {i j : Int} {w : List Int} (h : Bt u v T i j) (j0 : 0 ≤ j) (j1 : j ≤ v.length) (hw : Best (u.drop i.toNat) (v.drop j.toNat) w) : Bt u v (T.set j.toNat w) i (j - 1) := by
  have hl := h.len
  refine ⟨by rw [List.length_set]; exact hl, fun j' p q r => ?_⟩
  by_cases c : j' = j
  · subst c
    have : rd_L1 (T.set j'.toNat w) j' = w := by
      simp only [rd_L1, List.getD_eq_getElem?_getD]
      rw [List.getElem?_set_self (by omega)]; rfl
    rw [this]; exact hw
  · have : rd_L1 (T.set j.toNat w) j' = rd_L1 T j' := by
      simp only [rd_L1, List.getD_eq_getElem?_getD]
      rw [List.getElem?_set_ne (by omega)]
    rw [this]; exact h.at_ j' p (by omega) r
theorem es_l1 {i : Int} {below : List (List Int)} (i0 : 0 ≤ i) (i1 : i < u.length) (hb : Bt u v below (i + 1) (-1)) {J : List Int × Int → Prop}
    (he : ∀ now, Bt u v now i (-1) → EvP (fun k => edit_Shared.l0 k u v now (i - 1)) J) :
    ∀ (d : Nat) (j : Int) (now : List (List Int)), j + 1 = d → j < v.length → Bt u v now i j → EvP (fun k => edit_Shared.l1 k u v below i now j) J := by
  intro d
  induction d with
  | zero =>
    intro j now e j1 h
    obtain rfl : j = -1 := by omega
    refine EvP.step (fun k => edit_Shared.l1.eq_2 _ _ _ _ _ _ k) ?_
    rw [w64 (x := i - 1) (by omega) (by omega)]
    exact EvP.neg (by omega) (he now h)
  | succ d ih =>
    intro j now e j1 h
    have j0 : 0 ≤ j := by omega
    have hl := h.len
    have bl := hb.len
    have ea : u.drop i.toNat = rd u i :: u.drop (i + 1).toNat := drop_rd i0 i1
    have eb : v.drop j.toNat = rd v j :: v.drop (j + 1).toNat := drop_rd j0 j1
    have B1 := hb.at_ j j0 (by omega) (by omega)
    have B2 := h.at_ (j + 1) (by omega) (by omega) (by omega)
    have B3 := hb.at_ (j + 1) (by omega) (by omega) (by omega)
    rw [eb] at B1
    rw [ea] at B2
    obtain ⟨w1, e1⟩ : ∃ w, w = rd_L1 below j := ⟨_, rfl⟩
    obtain ⟨w2, e2⟩ : ∃ w, w = rd_L1 now (j + 1) := ⟨_, rfl⟩
    obtain ⟨w3, e3⟩ : ∃ w, w = rd_L1 below (j + 1) := ⟨_, rfl⟩
    rw [← e1] at B1
    rw [← e2] at B2
    rw [← e3] at B3
    have y1 := best_bys hu hv bu B1.1
    have y2 : bys w2 := best_bys hu hv bu (i := i.toNat) (by rw [ea]; exact B2.1)
    have y3 := best_bys hu hv bu B3.1
    have l3 := best_len hu hv bu B3.1
    have bx : 0 ≤ rd u i ∧ rd u i ≤ 255 := bu _ (rd_mem i0 i1)
    have self : ∀ (T : List (List Int)) (w : List Int), (T.length : Int) = v.length + 1 → rd_L1 (T.set j.toNat w) j = w := fun T w q => by
      simp only [rd_L1, List.getD_eq_getElem?_getD]
      rw [List.getElem?_set_self (by omega)]; rfl
    have fin : ∀ (T : List (List Int)) (cur : List Int), (∃ w, T = now.set j.toNat w) → rd_L1 T j = cur → bys cur → asGood cur w1 → asGood cur w2 → CS cur (rd u i :: u.drop (i + 1).toNat) (rd v j :: v.drop (j + 1).toNat) → EvP (fun k => edit_Shared.j3 k u v below i T j) J := by
      rintro T cur ⟨w0, rfl⟩ hc yc g1 g2 cs
      refine EvP.step (fun k => edit_Shared.j3.eq_2 _ _ _ _ _ _ k) ?_
      rw [w64 (x := j + 1) (by omega) (by omega), w64 (x := j - 1) (by omega) (by omega)]
      refine EvP.pos i0 (EvP.pos i1 (EvP.pos j0 (EvP.pos j1 ?_)))
      have nx : ∀ T w, (∃ w0, T = now.set j.toNat w0) → rd_L1 T j = w → Best (rd u i :: u.drop (i + 1).toNat) (rd v j :: v.drop (j + 1).toNat) w → EvP (fun k => edit_Shared.l1 k u v below i T (j - 1)) J := by
        rintro T w ⟨w0, rfl⟩ hw hB
        rw [self now w0 hl] at hw
        subst hw
        refine ih (j - 1) _ (by omega) (by omega) (h.put hu hv bu j0 (by omega) ?_)
        rw [ea, eb]; exact hB
      by_cases q : rd u i = rd v j
      · refine EvP.pos q ?_
        simp only [Option.bind_some, List.singleton_append]
        rw [← e3]
        refine EvP.pos (by omega) (EvP.pos (by omega) (EvP.pos (by simp only [List.length_singleton]; omega) (EvP.pos (by rw [List.length_set]; omega) ?_)))
        rw [hc]
        have yw : bys (rd u i :: w3) := fun x hx => by
          rcases List.mem_cons.1 hx with hx | hx
          · rw [hx]; exact bx
          · exact y3 x hx
        obtain ⟨r, er, r1, r2⟩ := better_ev yw yc
        rw [er]
        simp only [Option.bind_some]
        by_cases c : r = true
        · refine EvP.pos c (nx _ (rd u i :: w3) ⟨rd u i :: w3, by rw [List.set_set]⟩ (self _ _ (by rw [List.length_set]; exact hl)) ?_)
          have g := r1 c
          exact best_step B1 B2 (fun _ => ⟨w3, B3, asGood_refl _⟩) (asGood_trans g g1) (asGood_trans g g2) (by rw [← q]; exact cs_both B3.1)
        · refine EvP.neg c (nx _ cur ⟨w0, rfl⟩ hc ?_)
          exact best_step B1 B2 (fun _ => ⟨w3, B3, r2 c⟩) g1 g2 cs
      · exact EvP.neg q (nx _ cur ⟨w0, rfl⟩ hc (best_step B1 B2 (fun z => absurd z q) g1 g2 cs))
    refine EvP.step (fun k => edit_Shared.l1.eq_2 _ _ _ _ _ _ k) ?_
    rw [w64 (x := j + 1) (by omega) (by omega), ← e1, ← e2]
    refine EvP.pos (by omega) (EvP.pos (by omega) (EvP.pos (by omega) (EvP.pos j0 (EvP.pos (by omega) ?_))))
    simp only [Option.bind_some]
    refine EvP.pos (by omega) ?_
    rw [self now w2 hl]
    obtain ⟨r, er, r1, r2⟩ := better_ev y1 y2
    rw [er]
    simp only [Option.bind_some]
    by_cases c : r = true
    · refine EvP.pos c (fin _ w1 ⟨w1, by rw [List.set_set]⟩ (self _ _ (by rw [List.length_set]; exact hl)) y1 (asGood_refl _) (r1 c) (cs_left B1.1))
    · refine EvP.neg c (fin _ w2 ⟨w2, rfl⟩ (self _ _ hl) y2 (r2 c) (asGood_refl _) (cs_right B2.1))
theorem rep_nil (n : Nat) (j : Int) : rd_L1 (List.replicate n []) j = [] := by
  simp only [rd_L1, List.getD_eq_getElem?_getD, List.getElem?_replicate]
  split <;> rfl
theorem es_l0 : ∀ (d : Nat) (i : Int) (below : List (List Int)), i + 1 = d → i < u.length → Bt u v below (i + 1) (-1) → EvP (fun k => edit_Shared.l0 k u v below i) (fun r => Best u v r.1 ∧ r.2 = 0) := by
  intro d
  induction d with
  | zero =>
    intro i below e i1 h
    obtain rfl : i = -1 := by omega
    have hl := h.len
    have B := h.at_ 0 (by omega) (by omega) (by omega)
    have l := best_len hu hv bu B.1
    refine EvP.step (fun k => edit_Shared.l0.eq_2 _ _ _ _ k) ?_
    refine EvP.neg (by omega) (EvP.pos (by omega) ?_)
    unfold bytes_Clone.f
    rw [if_pos (by omega)]
    exact EvP.now ⟨by simpa using B, rfl⟩
  | succ d ih =>
    intro i below e i1 h
    refine EvP.step (fun k => edit_Shared.l0.eq_2 _ _ _ _ k) ?_
    rw [w64 (x := (v.length : Int) + 1) (by omega) (by omega), w64 (x := (v.length : Int) - 1) (by omega) (by omega)]
    refine EvP.pos (by omega) (EvP.pos (by omega) (EvP.pos (by omega) ?_))
    refine es_l1 hu hv bu (by omega) i1 h (fun now hn => ih (i - 1) now (by omega) (by omega) (by rw [show i - 1 + 1 = i by omega]; exact hn)) v.length _ _ (by omega) (by omega) ⟨by rw [List.length_replicate]; omega, fun j' p q r => ?_⟩
    rw [rep_nil hu hv bu, show j'.toNat = v.length by omega, List.drop_length]
    exact best_nil_right _
theorem edit_ev : EvP (fun k => edit_Shared.f k u v) (fun r => Best u v r.1 ∧ r.2 = 0) := by
  unfold edit_Shared.f
  refine EvP.neg (by omega) ?_
  rw [show decide ((v.length : Int) > 60) = false from decide_eq_false (by omega)]
  refine EvP.step (fun k => edit_Shared.j0.eq_2 _ _ _ k) ?_
  rw [w64 (x := (v.length : Int) + 1) (by omega) (by omega), w64 (x := (u.length : Int) - 1) (by omega) (by omega)]
  refine EvP.neg (by simp) (EvP.pos (by omega) (EvP.pos (by omega) ?_))
  refine es_l0 hu hv bu u.length _ _ (by omega) (by omega) ⟨by rw [List.length_replicate]; omega, fun j' p q r => ?_⟩
  rw [rep_nil hu hv bu, show ((u.length : Int) - 1 + 1).toNat = u.length by omega, List.drop_length]
  exact best_nil_left _
end

/-! ### coppicerref.shared: how many of all places -/
section
variable {u v : List Int} (hu : u.length ≤ 60) (hv : v.length ≤ 60)
include hu hv
theorem mx_pos {i : Nat} {b : List Int} {n : Int} (h : Mx (u.drop i) b n) : 0 ≤ n ∧ n ≤ 60 := by
  obtain ⟨⟨w, hw, l⟩, _⟩ := h
  have := hw.1.length_le
  rw [List.length_drop] at this; omega
structure Tc (u v : List Int) (T : List (List Int)) (i j n : Int) : Prop where
  len : (T.length : Int) = u.length + 1
  row : ∀ i' : Int, i < i' → i' ≤ u.length → ((rd_L3 T i').length : Int) = v.length + 1 ∧ ∀ j' : Int, 0 ≤ j' → j' ≤ v.length → Mx (u.drop i'.toNat) (v.drop j'.toNat) (rd (rd_L3 T i') j')
  cur : ((rd_L3 T i).length : Int) = v.length + 1
  done : ∀ j' : Int, j < j' → 0 ≤ j' → j' ≤ v.length → Mx (u.drop i.toNat) (v.drop j'.toNat) (rd (rd_L3 T i) j')
  at_ : 0 ≤ j → rd (rd_L3 T i) j = n
  rest : ∀ j' : Int, 0 ≤ j' → j' < j → rd (rd_L3 T i) j' = 0
theorem rd3_set (T : List (List Int)) (k k' : Int) (r : List Int) (h0 : 0 ≤ k) (h1 : k < T.length) (h2 : 0 ≤ k') : rd_L3 (T.set k.toNat r) k' = if k' = k then r else rd_L3 T k' := by
  simp only [rd_L3, List.getD_eq_getElem?_getD]
  by_cases c : k' = k
  · subst c; rw [if_pos rfl, List.getElem?_set_self (by omega)]; rfl
  · rw [if_neg c, List.getElem?_set_ne (by omega)]
theorem Tc.put {T : List (List Int)} {i j n n' : Int} (h : Tc u v T i j n) (i0 : 0 ≤ i) (i1 : i ≤ u.length) (j0 : 0 ≤ j) (j1 : j ≤ v.length) : Tc u v (T.set i.toNat ((rd_L3 T i).set j.toNat n')) i j n' := by
  have hl := h.len
  have hc := h.cur
  have e : ∀ k : Int, 0 ≤ k → rd_L3 (T.set i.toNat ((rd_L3 T i).set j.toNat n')) k = if k = i then (rd_L3 T i).set j.toNat n' else rd_L3 T k := fun k q => rd3_set hu hv _ _ _ _ i0 (by omega) q
  have ei := e i i0
  rw [if_pos rfl] at ei
  refine ⟨by rw [List.length_set]; exact hl, fun i' p q => ?_, by rw [ei, List.length_set]; exact hc, fun j' p q r => ?_, fun _ => ?_, fun j' p q => ?_⟩
  · rw [e i' (by omega), if_neg (by omega)]; exact h.row i' p q
  · rw [ei, rd_set_ne _ _ _ _ j0 q (by omega)]; exact h.done j' p q r
  · rw [ei, rd_set_eq _ _ _ j0 (by omega)]
  · rw [ei, rd_set_ne _ _ _ _ j0 p (by omega)]; exact h.rest j' p q
theorem Tc.next {T : List (List Int)} {i j n : Int} (h : Tc u v T i j n) (j0 : 0 ≤ j) (hm : Mx (u.drop i.toNat) (v.drop j.toNat) n) : Tc u v T i (j - 1) 0 := by
  refine ⟨h.len, h.row, h.cur, fun j' p q r => ?_, fun q => h.rest _ q (by omega), fun j' p q => h.rest j' p (by omega)⟩
  by_cases c : j' = j
  · rw [c, h.at_ j0]; exact hm
  · exact h.done j' (by omega) q r
structure Tf (u v : List Int) (T : List (List Int)) (i : Int) : Prop where
  len : (T.length : Int) = u.length + 1
  row : ∀ i' : Int, i ≤ i' → 0 ≤ i' → i' ≤ u.length → ((rd_L3 T i').length : Int) = v.length + 1 ∧ ∀ j' : Int, 0 ≤ j' → j' ≤ v.length → Mx (u.drop i'.toNat) (v.drop j'.toNat) (rd (rd_L3 T i') j')
theorem Tc.close {T : List (List Int)} {i n : Int} (h : Tc u v T i (-1) n) : Tf u v T i := by
  refine ⟨h.len, fun i' p q r => ?_⟩
  by_cases c : i' = i
  · subst c; exact ⟨h.cur, fun j' a b => h.done j' (by omega) a b⟩
  · exact h.row i' (by omega) r
theorem Tf.opens {T : List (List Int)} {i : Int} (h : Tf u v T (i + 1)) (i0 : 0 ≤ i) (i1 : i ≤ u.length) : Tc u v (T.set i.toNat (List.replicate ((v.length : Int) + 1).toNat 0)) i v.length 0 := by
  have hl := h.len
  have e : ∀ k : Int, 0 ≤ k → rd_L3 (T.set i.toNat (List.replicate ((v.length : Int) + 1).toNat 0)) k = if k = i then List.replicate ((v.length : Int) + 1).toNat 0 else rd_L3 T k := fun k q => rd3_set hu hv _ _ _ _ i0 (by omega) q
  have ei := e i i0
  rw [if_pos rfl] at ei
  refine ⟨by rw [List.length_set]; exact hl, fun i' p q => ?_, by rw [ei, List.length_replicate]; omega, fun j' p q r => by omega, fun q => ?_, fun j' p q => ?_⟩
  · rw [e i' (by omega), if_neg (by omega)]; exact h.row i' (by omega) (by omega) q
  · rw [ei, rd_replicate _ _ _ q (by omega)]
  · rw [ei, rd_replicate _ _ _ p (by omega)]
theorem mx_nil_left (b : List Int) : Mx [] b 0 := (best_nil_left b).mx
theorem mx_nil_right (a : List Int) : Mx a [] 0 := (best_nil_right a).mx
/-- What the first two updates leave. -/
def H2 (u v : List Int) (i j n : Int) : Prop := (i < u.length → ∀ a, Mx (u.drop (i + 1).toNat) (v.drop j.toNat) a → a ≤ n) ∧ (j < v.length → ∀ b, Mx (u.drop i.toNat) (v.drop (j + 1).toNat) b → b ≤ n) ∧ (n = 0 ∨ (i < u.length ∧ Mx (u.drop (i + 1).toNat) (v.drop j.toNat) n) ∨ (j < v.length ∧ Mx (u.drop i.toNat) (v.drop (j + 1).toNat) n))
variable {i j : Int} (i0 : 0 ≤ i) (i1 : i ≤ u.length) (j0 : 0 ≤ j) (j1 : j ≤ v.length) {J : List (List Int) → Prop} (he : ∀ T, Tc u v T i (j - 1) 0 → EvP (fun k => coppicerref_shared.l1 k u v T i (j - 1)) J)
include i0 i1 j0 j1
theorem mx_last {n2 n3 : Int} (ha : 0 < (u.length : Int) - i ∨ i = u.length) (h : H2 u v i j n2) (hn : ∀ T', Tf u v T' (i + 1) ∨ True)
    (hA : i < u.length → ∃ a, Mx (u.drop (i + 1).toNat) (v.drop j.toNat) a) (hB : j < v.length → ∃ b, Mx (u.drop i.toNat) (v.drop (j + 1).toNat) b)
    (h3 : i < u.length → j < v.length → rd u i = rd v j → ∃ c, Mx (u.drop (i + 1).toNat) (v.drop (j + 1).toNat) c ∧ c + 1 ≤ n3) (g : n2 ≤ n3) (hv3 : n3 = n2 ∨ (i < u.length ∧ j < v.length ∧ rd u i = rd v j ∧ ∃ c, Mx (u.drop (i + 1).toNat) (v.drop (j + 1).toNat) c ∧ n3 = c + 1)) : Mx (u.drop i.toNat) (v.drop j.toNat) n3 := by
  by_cases ci : i < u.length
  · by_cases cj : j < v.length
    · obtain ⟨a, hA⟩ := hA ci
      obtain ⟨b, hB⟩ := hB cj
      have la := h.1 ci a hA
      have lb := h.2.1 cj b hB
      have pa := mx_pos hu hv hA
      rw [drop_rd i0 ci] at hB ⊢
      rw [drop_rd j0 cj] at hA ⊢
      refine mx_step hA hB (fun e => h3 ci cj e) (by omega) (by omega) ?_
      rcases hv3 with e | ⟨_, _, e1, c, hc, e⟩
      · rcases h.2.2 with z | ⟨_, z⟩ | ⟨_, z⟩
        · left; omega
        · left; rw [drop_rd j0 cj] at z; have := z.uniq hA; omega
        · right; left; rw [drop_rd i0 ci] at z; have := z.uniq hB; omega
      · exact .inr (.inr ⟨e1, c, hc, e⟩)
    · have ej : v.drop j.toNat = [] := List.drop_eq_nil_of_le (by omega)
      have : n3 = 0 := by
        rcases hv3 with e | ⟨_, q, _⟩
        · rcases h.2.2 with z | ⟨_, z⟩ | ⟨z, _⟩
          · omega
          · rw [ej] at z; have := z.uniq (mx_nil_right hu hv _); omega
          · omega
        · omega
      rw [this, ej]; exact mx_nil_right hu hv _
  · have ei : u.drop i.toNat = [] := List.drop_eq_nil_of_le (by omega)
    have : n3 = 0 := by
      rcases hv3 with e | ⟨q, _⟩
      · rcases h.2.2 with z | ⟨z, _⟩ | ⟨_, z⟩
        · omega
        · omega
        · rw [ei] at z; have := z.uniq (mx_nil_left hu hv _); omega
      · omega
    rw [this, ei]; exact mx_nil_left hu hv _
include he
theorem sh_j7 {T : List (List Int)} {n : Int} (h : Tc u v T i j n) (hm : Mx (u.drop i.toNat) (v.drop j.toNat) n) : EvP (fun k => coppicerref_shared.j7 k u v T i j) J := by
  refine EvP.step (fun k => coppicerref_shared.j7.eq_2 _ _ _ _ _ k) ?_
  rw [w64 (x := j - 1) (by omega) (by omega)]
  exact he T (h.next hu hv j0 hm)
theorem sh_j5 {T : List (List Int)} {n2 : Int} (h : Tc u v T i j n2) (hn : H2 u v i j n2) : EvP (fun k => coppicerref_shared.j5 k u v T i j) J := by
  have hl := h.len
  have hc := h.cur
  have hA : i < u.length → ∃ a, Mx (u.drop (i + 1).toNat) (v.drop j.toNat) a := fun q => ⟨_, (h.row (i + 1) (by omega) (by omega)).2 j j0 j1⟩
  have hB : j < v.length → ∃ b, Mx (u.drop i.toNat) (v.drop (j + 1).toNat) b := fun q => ⟨_, h.done (j + 1) (by omega) (by omega) (by omega)⟩
  have skip : (i < u.length → j < v.length → rd u i = rd v j → ∃ c, Mx (u.drop (i + 1).toNat) (v.drop (j + 1).toNat) c ∧ c + 1 ≤ n2) → EvP (fun k => coppicerref_shared.j6 k u v T i j false) J := by
    intro q
    refine EvP.step (fun k => coppicerref_shared.j6.eq_2 _ _ _ _ _ _ k) ?_
    exact EvP.neg (by simp) (sh_j7 hu hv i0 i1 j0 j1 he h (mx_last hu hv i0 i1 j0 j1 (by omega) hn (fun _ => .inr trivial) hA hB q (Int.le_refl _) (.inl rfl)))
  refine EvP.step (fun k => coppicerref_shared.j5.eq_2 _ _ _ _ _ k) ?_
  by_cases ci : i < (u.length : Int)
  · refine EvP.pos ci ?_
    by_cases cj : j < (v.length : Int)
    · refine EvP.pos cj (EvP.pos i0 (EvP.pos j0 ?_))
      by_cases e : rd u i = rd v j
      · refine EvP.pos e ?_
        have hC := (h.row (i + 1) (by omega) (by omega))
        have mC := hC.2 (j + 1) (by omega) (by omega)
        have pC := mx_pos hu hv mC
        have hat := h.at_ j0
        rw [w64 (x := i + 1) (by omega) (by omega), w64 (x := j + 1) (by omega) (by omega), hat]
        refine EvP.pos (by omega) (EvP.pos (by omega) (EvP.pos (by omega) (EvP.pos (by omega) (EvP.pos (by omega) (EvP.pos (by omega) ?_)))))
        rw [w64 (x := rd (rd_L3 T (i + 1)) (j + 1) + 1) (by omega) (by omega)]
        by_cases g : rd (rd_L3 T (i + 1)) (j + 1) + 1 > n2
        · rw [decide_eq_true g]
          refine EvP.step (fun k => coppicerref_shared.j6.eq_2 _ _ _ _ _ _ k) ?_
          rw [w64 (x := i + 1) (by omega) (by omega), w64 (x := j + 1) (by omega) (by omega), w64 (x := rd (rd_L3 T (i + 1)) (j + 1) + 1) (by omega) (by omega)]
          refine EvP.pos rfl (EvP.pos i0 (EvP.pos (by omega) (EvP.pos (by omega) (EvP.pos (by omega) (EvP.pos (by omega) (EvP.pos (by omega) (EvP.pos j0 (EvP.pos (by omega) ?_))))))))
          exact sh_j7 hu hv i0 i1 j0 j1 he (h.put hu hv i0 i1 j0 j1) (mx_last hu hv i0 i1 j0 j1 (by omega) hn (fun _ => .inr trivial) hA hB (fun _ _ _ => ⟨_, mC, Int.le_refl _⟩) (by omega) (.inr ⟨ci, cj, e, _, mC, rfl⟩))
        · rw [decide_eq_false g]
          exact skip (fun _ _ _ => ⟨_, mC, by omega⟩)
      · exact EvP.neg e (skip (fun _ _ q => absurd q e))
    · exact EvP.neg cj (skip (fun _ q _ => absurd q cj))
  · exact EvP.neg ci (skip (fun q _ _ => absurd q ci))
theorem sh_j3 {T : List (List Int)} {n1 : Int} (h : Tc u v T i j n1) (hn0 : 0 ≤ n1) (hn : (i < u.length → ∀ a, Mx (u.drop (i + 1).toNat) (v.drop j.toNat) a → a ≤ n1) ∧ (n1 = 0 ∨ (i < u.length ∧ Mx (u.drop (i + 1).toNat) (v.drop j.toNat) n1))) : EvP (fun k => coppicerref_shared.j3 k u v T i j) J := by
  have hl := h.len
  have hc := h.cur
  have skip : (j < v.length → ∀ b, Mx (u.drop i.toNat) (v.drop (j + 1).toNat) b → b ≤ n1) → EvP (fun k => coppicerref_shared.j4 k u v T i j false) J := by
    intro q
    refine EvP.step (fun k => coppicerref_shared.j4.eq_2 _ _ _ _ _ _ k) ?_
    exact EvP.neg (by simp) (sh_j5 hu hv i0 i1 j0 j1 he h ⟨hn.1, q, hn.2.elim .inl (fun z => .inr (.inl z))⟩)
  refine EvP.step (fun k => coppicerref_shared.j3.eq_2 _ _ _ _ _ k) ?_
  by_cases cj : j < (v.length : Int)
  · have mB := h.done (j + 1) (by omega) (by omega) (by omega)
    have hat := h.at_ j0
    rw [w64 (x := j + 1) (by omega) (by omega), hat]
    refine EvP.pos cj (EvP.pos i0 (EvP.pos (by omega) (EvP.pos (by omega) (EvP.pos (by omega) (EvP.pos j0 (EvP.pos (by omega) ?_))))))
    by_cases g : rd (rd_L3 T i) (j + 1) > n1
    · rw [decide_eq_true g]
      refine EvP.step (fun k => coppicerref_shared.j4.eq_2 _ _ _ _ _ _ k) ?_
      rw [w64 (x := j + 1) (by omega) (by omega)]
      refine EvP.pos rfl (EvP.pos i0 (EvP.pos (by omega) (EvP.pos (by omega) (EvP.pos (by omega) (EvP.pos j0 (EvP.pos (by omega) ?_))))))
      exact sh_j5 hu hv i0 i1 j0 j1 he (h.put hu hv i0 i1 j0 j1) ⟨fun q a z => by have := hn.1 q a z; omega, fun q b z => by have := z.uniq mB; omega, .inr (.inr ⟨cj, mB⟩)⟩
    · rw [decide_eq_false g]
      exact skip (fun _ b z => by have := z.uniq mB; omega)
  · exact EvP.neg cj (skip (fun q => absurd q cj))
theorem sh_l1 {T : List (List Int)} (h : Tc u v T i j 0) : EvP (fun k => coppicerref_shared.l1 k u v T i j) J := by
  have hl := h.len
  have hc := h.cur
  have skip : (i < u.length → ∀ a, Mx (u.drop (i + 1).toNat) (v.drop j.toNat) a → a ≤ 0) → EvP (fun k => coppicerref_shared.j2 k u v T i j false) J := by
    intro q
    refine EvP.step (fun k => coppicerref_shared.j2.eq_2 _ _ _ _ _ _ k) ?_
    exact EvP.neg (by simp) (sh_j3 hu hv i0 i1 j0 j1 he h (Int.le_refl _) ⟨q, .inl rfl⟩)
  refine EvP.step (fun k => coppicerref_shared.l1.eq_2 _ _ _ _ _ k) ?_
  refine EvP.pos j0 ?_
  by_cases ci : i < (u.length : Int)
  · have hA := h.row (i + 1) (by omega) (by omega)
    have mA := hA.2 j j0 j1
    have hat := h.at_ j0
    rw [w64 (x := i + 1) (by omega) (by omega), hat]
    refine EvP.pos ci (EvP.pos (by omega) (EvP.pos (by omega) (EvP.pos j0 (EvP.pos (by omega) (EvP.pos i0 (EvP.pos (by omega) (EvP.pos (by omega) ?_)))))))
    by_cases g : rd (rd_L3 T (i + 1)) j > 0
    · rw [decide_eq_true g]
      refine EvP.step (fun k => coppicerref_shared.j2.eq_2 _ _ _ _ _ _ k) ?_
      rw [w64 (x := i + 1) (by omega) (by omega)]
      refine EvP.pos rfl (EvP.pos i0 (EvP.pos (by omega) (EvP.pos (by omega) (EvP.pos (by omega) (EvP.pos j0 (EvP.pos (by omega) (EvP.pos (by omega) ?_)))))))
      exact sh_j3 hu hv i0 i1 j0 j1 he (h.put hu hv i0 i1 j0 j1) (by omega) ⟨fun _ a z => by have := z.uniq mA; omega, .inr ⟨ci, mA⟩⟩
    · rw [decide_eq_false g]
      exact skip (fun _ a z => by have := z.uniq mA; omega)
  · exact EvP.neg ci (skip (fun q => absurd q ci))
end
section
variable {u v : List Int} (hu : u.length ≤ 60) (hv : v.length ≤ 60)
include hu hv
theorem sh_row {i : Int} {J : List (List Int) → Prop} (i0 : 0 ≤ i) (i1 : i ≤ u.length) (he : ∀ T, Tf u v T i → EvP (fun k => coppicerref_shared.l0 k u v T (i - 1)) J) :
    ∀ (d : Nat) (j : Int) (T : List (List Int)), j + 1 = d → j ≤ v.length → Tc u v T i j 0 → EvP (fun k => coppicerref_shared.l1 k u v T i j) J := by
  intro d
  induction d with
  | zero =>
    intro j T e j1 h
    obtain rfl : j = -1 := by omega
    refine EvP.step (fun k => coppicerref_shared.l1.eq_2 _ _ _ _ _ k) ?_
    rw [w64 (x := i - 1) (by omega) (by omega)]
    exact EvP.neg (by omega) (he T (h.close hu hv))
  | succ d ih =>
    intro j T e j1 h
    exact sh_l1 hu hv i0 i1 (by omega) j1 (fun T' h' => ih (j - 1) T' (by omega) (by omega) h') h
theorem sh_rows : ∀ (d : Nat) (i : Int) (T : List (List Int)), i + 1 = d → i ≤ u.length → Tf u v T (i + 1) → EvP (fun k => coppicerref_shared.l0 k u v T i) (fun T => Tf u v T 0) := by
  intro d
  induction d with
  | zero =>
    intro i T e i1 h
    obtain rfl : i = -1 := by omega
    refine EvP.step (fun k => coppicerref_shared.l0.eq_2 _ _ _ _ k) ?_
    exact EvP.neg (by omega) (EvP.now h)
  | succ d ih =>
    intro i T e i1 h
    have hl := h.len
    refine EvP.step (fun k => coppicerref_shared.l0.eq_2 _ _ _ _ k) ?_
    rw [w64 (x := (v.length : Int) + 1) (by omega) (by omega)]
    refine EvP.pos (by omega) (EvP.pos (by omega) (EvP.pos (by omega) (EvP.pos (by omega) (EvP.pos (by omega) ?_))))
    exact sh_row hu hv (by omega) i1 (fun T' h' => ih (i - 1) T' (by omega) (by omega) (by rw [show i - 1 + 1 = i by omega]; exact h')) (v.length + 1) v.length _ (by omega) (Int.le_refl _) (h.opens hu hv (by omega) i1)
theorem shared_ev : EvP (fun k => coppicerref_shared.f k u v) (fun T => Tf u v T 0) := by
  unfold coppicerref_shared.f
  rw [w64 (x := (u.length : Int) + 1) (by omega) (by omega)]
  refine EvP.pos (by omega) (EvP.pos (by omega) ?_)
  exact sh_rows hu hv (u.length + 1) u.length _ (by omega) (Int.le_refl _) ⟨by rw [List.length_replicate]; omega, fun i' p q r => by omega⟩
end

/-! ### coppicerref.Shared: byte by byte -/
section
variable {u : List Int} (hu : u.length ≤ 60) (bu : bys u)
include hu bu
theorem first_ev {b : Int} : ∀ (d : Nat) (at_ : Int), 0 ≤ at_ → at_ + d = u.length → EvP (fun k => coppicerref_first.f k u at_ b) (fun x => at_ ≤ x ∧ x ≤ u.length ∧ (x < u.length → ∃ a1, u.drop at_.toNat = a1 ++ b :: u.drop (x + 1).toNat ∧ b ∉ a1) ∧ (x = u.length → b ∉ u.drop at_.toNat)) := by
  unfold coppicerref_first.f
  intro d
  induction d with
  | zero =>
    intro at_ a0 e
    refine EvP.step (fun k => coppicerref_first.l0.eq_2 _ _ _ k) ?_
    refine EvP.neg (by omega) (EvP.now ⟨Int.le_refl _, by omega, fun q => by omega, fun _ => ?_⟩)
    rw [List.drop_eq_nil_of_le (by omega)]; simp
  | succ d ih =>
    intro at_ a0 e
    have bx := bu _ (rd_mem (i := at_) a0 (by omega))
    have ed : u.drop at_.toNat = rd u at_ :: u.drop (at_ + 1).toNat := drop_rd a0 (by omega)
    refine EvP.step (fun k => coppicerref_first.l0.eq_2 _ _ _ k) ?_
    rw [w64 (x := rd u at_) (by omega) (by omega), w64 (x := at_ + 1) (by omega) (by omega)]
    refine EvP.pos (by omega) (EvP.pos a0 ?_)
    by_cases c : rd u at_ = b
    · refine EvP.pos c (EvP.now ⟨Int.le_refl _, by omega, fun _ => ⟨[], ?_, by simp⟩, fun q => by omega⟩)
      rw [ed, c]; rfl
    · refine EvP.neg c ((ih (at_ + 1) (by omega) (by omega)).mono ?_)
      rintro x ⟨x0, x1, x2, x3⟩
      refine ⟨by omega, x1, fun q => ?_, fun q => ?_⟩
      · obtain ⟨a1, h1, h2⟩ := x2 q
        refine ⟨rd u at_ :: a1, by rw [ed, h1]; rfl, fun z => ?_⟩
        rcases List.mem_cons.1 z with z | z
        · exact c z.symm
        · exact h2 z
      · rw [ed]
        intro z
        rcases List.mem_cons.1 z with z | z
        · exact c z.symm
        · exact x3 q z
end
section
variable {u v : List Int} (hu : u.length ≤ 60) (hv : v.length ≤ 60) (bu : bys u) (bv : bys v) {T : List (List Int)} (hT : Tf u v T 0)
include hu hv bu bv hT
theorem tail_best {a b a1 a2 b1 b2 w : List Int} {c : Int} (ea : a = a1 ++ c :: a2) (eb : b = b1 ++ c :: b2) (ha : c ∉ a1) (hb : c ∉ b1) (h : Best a b (c :: w)) : Best a2 b2 w := by
  refine ⟨⟨(sub_first ha).1 (by rw [← ea]; exact h.1.1), (sub_first hb).1 (by rw [← eb]; exact h.1.2)⟩, fun w' h' => ?_⟩
  have := h.2 (c :: w') ⟨by rw [ea]; exact (sub_first ha).2 h'.1, by rw [eb]; exact (sub_first hb).2 h'.2⟩
  rcases this with q | ⟨q, z⟩
  · exact .inl (by simpa using q)
  · rcases z with z | ⟨_, z⟩
    · omega
    · exact .inr ⟨by simpa using q, z⟩
theorem greedy_ev : ∀ (w : List Int) (out : List Int) (i j : Int), 0 ≤ i → i ≤ u.length → 0 ≤ j → j ≤ v.length → out.length + w.length ≤ 100 → Best (u.drop i.toNat) (v.drop j.toNat) w → Ev (fun k => coppicerref_Shared.l0 k u v T out i j) (out ++ w) := by
  intro w
  induction w with
  | nil =>
    intro out i j i0 i1 j0 j1 hl h
    have tl := hT.len
    have row := hT.row i i0 i0 i1
    have m := (row.2 j j0 j1).uniq h.mx
    refine Ev.step (fun k => coppicerref_Shared.l0.eq_2 _ _ _ _ _ _ k) ?_
    refine Ev.pos i0 (Ev.pos (by omega) (Ev.pos j0 (Ev.pos (by omega) ?_)))
    rw [m]
    exact Ev.neg (by simp) (Ev.val (by simp))
  | cons c w ih =>
    intro out i j i0 i1 j0 j1 hl h
    have tl := hT.len
    have row := hT.row i i0 i0 i1
    have m := (row.2 j j0 j1).uniq h.mx
    have bc : 0 ≤ c ∧ c ≤ 255 := best_bys hu hv bu h.1 c (by simp)
    rw [List.length_cons] at hl m
    refine Ev.step (fun k => coppicerref_Shared.l0.eq_2 _ _ _ _ _ _ k) ?_
    refine Ev.pos i0 (Ev.pos (by omega) (Ev.pos j0 (Ev.pos (by omega) (Ev.pos (by rw [m]; omega) ?_))))
    have key : ∀ (d : Nat) (b : Int), 0 ≤ b → b + d = c → Ev (fun k => coppicerref_Shared.l1 k u v T out i j b) (out ++ c :: w) := by
      have body : ∀ (b : Int), 0 ≤ b → b ≤ c → (b < c → Ev (fun k => coppicerref_Shared.l1 k u v T out i j (b + 1)) (out ++ c :: w)) → Ev (fun k => coppicerref_Shared.l1 k u v T out i j b) (out ++ c :: w) := by
        intro b b0 b1 hn
        refine Ev.step (fun k => coppicerref_Shared.l1.eq_2 _ _ _ _ _ _ _ k) ?_
        rw [w64 (x := b + 1) (by omega) (by omega)]
        refine Ev.pos (by omega) (EvP.ev (first_ev hu bu (b := b) ((u.length : Int) - i).toNat i i0 (by omega)) ?_)
        rintro x ⟨x0, x1, x2, x3⟩
        refine EvP.ev (first_ev hv bv (b := b) ((v.length : Int) - j).toNat j j0 (by omega)) ?_
        rintro y ⟨y0, y1, y2, y3⟩
        have miss : (x = u.length ∨ y = v.length) → b < c := by
          intro q
          apply Classical.byContradiction; intro z
          obtain rfl : b = c := by omega
          rcases q with q | q
          · exact x3 q (h.1.1.subset (by simp))
          · exact y3 q (h.1.2.subset (by simp))
        by_cases cx : x < (u.length : Int)
        · by_cases cy : y < (v.length : Int)
          · obtain ⟨a1, e1, n1⟩ := x2 cx
            obtain ⟨c1, e2, n2⟩ := y2 cy
            have r2 := hT.row (x + 1) (by omega) (by omega) (by omega)
            have m2 := r2.2 (y + 1) (by omega) (by omega)
            have p2 := mx_pos hu hv m2
            rw [w64 (x := x + 1) (by omega) (by omega), w64 (x := y + 1) (by omega) (by omega), w64 (x := rd (rd_L3 T (x + 1)) (y + 1) + 1) (by omega) (by omega), m]
            refine Ev.pos cx (Ev.pos cy (Ev.pos (by omega) (Ev.pos (by omega) (Ev.pos (by omega) (Ev.pos (by omega) (Ev.pos i0 (Ev.pos (by omega) (Ev.pos j0 (Ev.pos (by omega) ?_)))))))))
            by_cases g : rd (rd_L3 T (x + 1)) (y + 1) + 1 = ((w.length + 1 : Nat) : Int)
            · refine Ev.pos g (Ev.pos (by omega) ?_)
              have eb : b = c := by
                apply Classical.byContradiction; intro z
                obtain ⟨⟨w', hw', lw⟩, _⟩ := m2
                have cs : CS (b :: w') (u.drop i.toNat) (v.drop j.toNat) := ⟨by rw [e1]; exact (sub_first n1).2 hw'.1, by rw [e2]; exact (sub_first n2).2 hw'.2⟩
                rcases h.2 _ cs with q | ⟨q, q2⟩
                · rw [List.length_cons, List.length_cons] at q; omega
                · rcases q2 with q2 | ⟨q2, _⟩ <;> omega
              subst eb
              have hb := tail_best hu hv bu bv hT e1 e2 n1 n2 h
              have := ih (out ++ [b]) (x + 1) (y + 1) (by omega) (by omega) (by omega) (by omega) (by rw [List.length_append]; simp; omega) hb
              rw [show b % 256 = b by omega]
              rw [List.append_assoc] at this
              exact this
            · refine Ev.neg g (hn ?_)
              apply Classical.byContradiction; intro z
              obtain rfl : b = c := by omega
              have hb := tail_best hu hv bu bv hT e1 e2 n1 n2 h
              have := m2.uniq hb.mx
              exact g (by omega)
          · exact Ev.pos cx (Ev.neg cy (hn (miss (by omega))))
        · exact Ev.neg cx (hn (miss (by omega)))
      intro d
      induction d with
      | zero => intro b b0 e; exact body b b0 (by omega) (fun q => by omega)
      | succ d ih2 => intro b b0 e; exact body b b0 (by omega) (fun _ => ih2 (b + 1) (by omega) (by omega))
    exact key c.toNat 0 (Int.le_refl _) (by omega)
end
theorem EditShares : coppicerlaw_EditShares.Pure := by
  unfold coppicerlaw_EditShares.Pure
  intro u v hu1 hu2 hu3 hv1 hv2 hv3
  apply Ev.rounds
  unfold coppicerlaw_EditShares.f
  by_cases cu : (u.length : Int) > 60
  · refine Ev.bind (a := ([], 1)) ?_ ?_
    · unfold edit_Shared.f
      refine Ev.pos cu ?_
      refine Ev.step (fun k => edit_Shared.j0.eq_2 _ _ _ k) ?_
      exact Ev.pos rfl (Ev.now _)
    · refine Ev.pos cu ?_
      refine Ev.step (fun k => coppicerlaw_EditShares.j0.eq_2 _ _ _ _ _ k) ?_
      exact Ev.pos rfl (Ev.pos rfl (Ev.now _))
  · by_cases cv : (v.length : Int) > 60
    · refine Ev.bind (a := ([], 1)) ?_ ?_
      · unfold edit_Shared.f
        refine Ev.neg cu ?_
        rw [decide_eq_true cv]
        refine Ev.step (fun k => edit_Shared.j0.eq_2 _ _ _ k) ?_
        exact Ev.pos rfl (Ev.now _)
      · refine Ev.neg cu ?_
        rw [decide_eq_true cv]
        refine Ev.step (fun k => coppicerlaw_EditShares.j0.eq_2 _ _ _ _ _ k) ?_
        exact Ev.pos rfl (Ev.pos rfl (Ev.now _))
    · have hu : u.length ≤ 60 := by omega
      have hv : v.length ≤ 60 := by omega
      have bu : bys u := fun x hx => wf_u8 (hu3 x hx)
      have bv : bys v := fun x hx => wf_u8 (hv3 x hx)
      refine EvP.ev (edit_ev hu hv bu) ?_
      rintro ⟨w, e⟩ ⟨hw, he⟩
      dsimp only at hw he
      subst he
      refine Ev.neg cu ?_
      rw [decide_eq_false cv]
      refine Ev.step (fun k => coppicerlaw_EditShares.j0.eq_2 _ _ _ _ _ k) ?_
      refine Ev.neg (by simp) (Ev.pos rfl ?_)
      have hlen := best_len hu hv bu (i := 0) (b := v) (by rw [List.drop_zero]; exact hw.1)
      have e2 : Ev (fun k => coppicerref_Shared.f k u v) w := by
        unfold coppicerref_Shared.f
        refine EvP.ev (shared_ev hu hv) (fun T hT => ?_)
        have := greedy_ev hu hv bu bv hT w [] 0 0 (Int.le_refl _) (by omega) (Int.le_refl _) (by omega) (by simp; omega) (by simpa using hw)
        simpa using this
      refine Ev.bind e2 (Ev.bind (Bytes_ev w w (by omega)) (Ev.val (by simp)))

end Go.Proofs.Ytmcgapnjafocnaa.Pure
