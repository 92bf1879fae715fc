/- The law LyndonIs as a statement over numbers and lists alone: it holds under the bounds that the statement names. -/
import Derived.Test.YtkhmjehjhjhpkaaPLyndonIsx1
set_option linter.unusedVariables false
set_option linter.unusedSimpArgs false
namespace Go.Proofs.Ytkhmjehjhjhpkaa.Pure
open Go.RowKit Go.Proofs.Ytkhmjehjhjhpkaa.PLyndonIs Go.Proofs.YtkhmjehjhjhpkaaW.PrintWords Go.Proofs.YtkhmjehjhjhpkaaW.PrintLast Go.Proofs.YtkhmjehjhjhpkaaW.PrintMore

/-! ### base: words for every pure text -/
theorem w64 {x : Int} (h0 : -9223372036854775808 ≤ x) (h1 : x ≤ 9223372036854775807) : wrap64 x = x := by unfold wrap64; omega
theorem Ev.pos {α : Type} {c : Prop} [Decidable c] {g f : Nat → Option α} {r : α} (h : c) (e : Ev g r) : Ev (fun k => if c then g k else f k) r := Ev.congr (fun k => by rw [if_pos h]) e
theorem Ev.neg {α : Type} {c : Prop} [Decidable c] {g f : Nat → Option α} {r : α} (h : ¬ c) (e : Ev f r) : Ev (fun k => if c then g k else f k) r := Ev.congr (fun k => by rw [if_neg h]) e
theorem Ev.val {α : Type} {r q : α} (h : r = q) : Ev (fun _ => some r) q := by subst h; exact Ev.now r
theorem rd_getElem {l : List Int} {i : Int} (h1 : i.toNat < l.length) : rd l i = l[i.toNat] := by simp [rd, List.getD_eq_getElem?_getD, List.getElem?_eq_getElem h1]
theorem drop_rd {l : List Int} {i : Int} (h0 : 0 ≤ i) (h1 : i < l.length) : l.drop i.toNat = rd l i :: l.drop (i + 1).toNat := by
  have h : i.toNat < l.length := by omega
  rw [rd_getElem h, List.drop_eq_getElem_cons h]; congr 2; omega
theorem take_rd {l : List Int} {i : Int} (h0 : 0 ≤ i) (h1 : i < l.length) : l.take (i + 1).toNat = l.take i.toNat ++ [rd l i] := by
  have h : i.toNat < l.length := by omega
  have e : (i + 1).toNat = i.toNat + 1 := by omega
  rw [rd_getElem h, e, List.take_succ_eq_append_getElem h]
theorem rd_drop (l : List Int) (n : Nat) (i : Int) (h0 : 0 ≤ i) : rd (l.drop n) i = rd l (i + n) := by
  have e : (i + n).toNat = n + i.toNat := by omega
  simp only [rd, List.getD_eq_getElem?_getD, List.getElem?_drop, e]
theorem rd_take (l : List Int) (n : Nat) (i : Int) (h0 : 0 ≤ i) (h1 : i < n) : rd (l.take n) i = rd l i := by
  simp only [rd, List.getD_eq_getElem?_getD]; rw [List.getElem?_take_of_lt (by omega)]
theorem drop_all {α : Type} (l : List α) (n : Nat) (h : l.length ≤ n) : l.drop n = [] := List.drop_eq_nil_of_le h
theorem dec_ne {a b : Int} {l m : List Int} (h : a ≠ b) : decide (a :: l = b :: m) = false := decide_eq_false (fun q => h (List.cons.inj q).1)
theorem Ev.no {p : Prop} [Decidable p] (h : ¬ p) : Ev (fun _ => some false) (decide p) := Ev.val (decide_eq_false h).symm
theorem Ev.yes {p : Prop} [Decidable p] (h : p) : Ev (fun _ => some true) (decide p) := Ev.val (decide_eq_true h).symm
theorem ext_rd {a b : List Int} (hl : a.length = b.length) (h : ∀ i : Int, 0 ≤ i → i < a.length → rd a i = rd b i) : a = b := by
  apply List.ext_getElem hl
  intro i h1 h2
  have := h i (by omega) (by omega)
  rwa [rd_getElem (by simpa using h1), rd_getElem (by simpa using h2)] at this
theorem wf_u8 {x : Int} (h : (Lit.int .u8 x).wf = true) : 0 ≤ x ∧ x ≤ 255 := by simpa [Lit.wf, IntKind.min, IntKind.max, IntKind.signed, IntKind.bits] using h
theorem wf_u32 {x : Int} (h : (Lit.int .u32 x).wf = true) : 0 ≤ x ∧ x ≤ 4294967295 := by simpa [Lit.wf, IntKind.min, IntKind.max, IntKind.signed, IntKind.bits] using h
theorem wf_i64 {x : Int} (h : (Lit.int .i64 x).wf = true) : -9223372036854775808 ≤ x ∧ x ≤ 9223372036854775807 := by simpa [Lit.wf, IntKind.min, IntKind.max, IntKind.signed, IntKind.bits] using h
theorem rd_mem {l : List Int} {i : Int} (h0 : 0 ≤ i) (h1 : i < l.length) : rd l i ∈ l := by
  rw [rd_getElem (by omega)]; exact List.getElem_mem _
theorem rd_u8 {l : List Int} (hw : ∀ x ∈ l, (Lit.int .u8 x).wf = true) {i : Int} (h0 : 0 ≤ i) (h1 : i < l.length) : 0 ≤ rd l i ∧ rd l i ≤ 255 := wf_u8 (hw _ (rd_mem h0 h1))
theorem tm {a b : Int} (h : 0 ≤ a) : Int.tmod a b = a % b := Int.tmod_eq_emod_of_nonneg h
theorem td {a b : Int} (h : 0 ≤ a) : Int.tdiv a b = a / b := Int.tdiv_eq_ediv_of_nonneg h

theorem ba_toList (s : ByteArray) : s.toList = s.data.toList := by
  have h : ∀ (n i : Nat) (r : List UInt8), s.size - i = n → ByteArray.toList.loop s i r = r.reverse ++ s.data.toList.drop i := by
    intro n
    induction n with
    | zero =>
      intro i r h
      unfold ByteArray.toList.loop
      rw [if_neg (by omega), List.drop_eq_nil_of_le (by simp; exact Nat.le_of_sub_eq_zero h)]
      simp
    | succ n ih =>
      intro i r h
      unfold ByteArray.toList.loop
      rw [if_pos (by omega), ih (i + 1) _ (by omega)]
      have hi : i < s.data.toList.length := by simp; exact (show i < s.size by omega)
      rw [List.drop_eq_getElem_cons hi]
      have hi' : i < s.data.size := by simpa using hi
      have e : s.get! i = s.data.toList[i] := by
        cases s with | mk d => simp only [ByteArray.get!, Array.getElem_toList]; exact getElem!_pos d i hi'
      simp [e]
  have := h s.size 0 [] (by omega)
  simpa [ByteArray.toList] using this
theorem u8_inj : ∀ {a b : List Int}, (∀ x ∈ a, 0 ≤ x ∧ x ≤ 255) → (∀ x ∈ b, 0 ≤ x ∧ x ≤ 255) → a.map (fun n => UInt8.ofNat n.toNat) = b.map (fun n => UInt8.ofNat n.toNat) → a = b
  | [], [], _, _, _ => rfl
  | [], _ :: _, _, _, h => by simp at h
  | _ :: _, [], _, _, h => by simp at h
  | x :: a, y :: b, ha, hb, h => by
    simp only [List.map_cons, List.cons.injEq] at h
    have h1 := ha x (by simp)
    have h2 := hb y (by simp)
    have h3 : x = y := by
      have := congrArg UInt8.toNat h.1
      simp only [UInt8.toNat_ofNat'] at this
      omega
    rw [h3, u8_inj (fun z hz => ha z (by simp [hz])) (fun z hz => hb z (by simp [hz])) h.2]
theorem strEq {a b : List Int} (ha : ∀ x ∈ a, 0 ≤ x ∧ x ≤ 255) (hb : ∀ x ∈ b, 0 ≤ x ∧ x ≤ 255) : ((strOfNums a).toList == (strOfNums b).toList) = decide (a = b) := by
  rw [ba_toList, ba_toList]
  simp only [strOfNums]
  by_cases h : a = b
  · simp [h]
  · have : ¬ a.map (fun n => UInt8.ofNat n.toNat) = b.map (fun n => UInt8.ofNat n.toNat) := fun e => h (u8_inj ha hb e)
    simp [h, this]
theorem mem_u8 {l : List Int} (hw : ∀ x ∈ l, (Lit.int .u8 x).wf = true) : ∀ x ∈ l, 0 ≤ x ∧ x ≤ 255 := fun x hx => wf_u8 (hw x hx)
theorem u8_drop {l : List Int} (h : ∀ x ∈ l, 0 ≤ x ∧ x ≤ 255) (n : Nat) : ∀ x ∈ l.drop n, 0 ≤ x ∧ x ≤ 255 := fun x hx => h x (List.mem_of_mem_drop hx)
theorem u8_take {l : List Int} (h : ∀ x ∈ l, 0 ≤ x ∧ x ≤ 255) (n : Nat) : ∀ x ∈ l.take n, 0 ≤ x ∧ x ≤ 255 := fun x hx => h x (List.mem_of_mem_take hx)

/-! ### coppicerref_Less -/
def lx : List Int → List Int → Bool
  | _, [] => false
  | [], _ :: _ => true
  | a :: x, b :: y => if a = b then lx x y else decide (a < b)
theorem lx_nil (a : List Int) : lx a [] = false := by cases a <;> rfl
theorem lx_cons (a b : Int) (x y : List Int) : lx (a :: x) (b :: y) = if a = b then lx x y else decide (a < b) := rfl
theorem lx_nil_cons (b : Int) (y : List Int) : lx [] (b :: y) = true := rfl
theorem Less_l0 (a b : List Int) (ha : a.length ≤ 4611686018427387904) (d : Nat) : ∀ i : Int, 0 ≤ i → i + d = a.length → i ≤ b.length → Ev (fun k => coppicerref_Less.l0 k a b i) (lx (a.drop i.toNat) (b.drop i.toNat)) := by
  induction d with
  | zero =>
    intro i h0 hd hb
    refine Ev.step (fun k => coppicerref_Less.l0.eq_2 _ _ _ k) ?_
    simp (disch := omega) only [if_neg]
    refine Ev.step (fun k => coppicerref_Less.j1.eq_2 _ _ _ _ k) ?_
    simp only [Bool.false_eq_true, if_false]
    refine Ev.val ?_
    rw [drop_all a _ (by omega)]
    by_cases q : i < b.length
    · rw [drop_rd h0 q, lx_nil_cons]; simp; omega
    · rw [drop_all b _ (by omega), lx_nil]; simp; omega
  | succ d ih =>
    intro i h0 hd hb
    refine Ev.step (fun k => coppicerref_Less.l0.eq_2 _ _ _ k) ?_
    simp (disch := omega) only [if_pos (show i < (a.length : Int) by omega)]
    refine Ev.step (fun k => coppicerref_Less.j1.eq_2 _ _ _ _ k) ?_
    by_cases q : i < b.length
    · simp (disch := omega) only [decide_eq_true_eq, if_pos q, if_pos h0, if_pos (show i < (a.length : Int) by omega), w64]
      rw [drop_rd h0 (by omega), drop_rd (l := b) h0 q, lx_cons]
      by_cases e : rd a i = rd b i
      · simp only [if_pos e]; exact ih (i + 1) (by omega) (by omega) (by omega)
      · simp only [if_neg e]; exact Ev.now _
    · simp (disch := omega) only [decide_eq_true_eq, if_neg q]
      rw [drop_rd h0 (by omega), drop_all b _ (by omega), lx_nil]
      exact Ev.val (by simp; omega)
theorem Less_ev (a b : List Int) (ha : a.length ≤ 4611686018427387904) : Ev (fun k => coppicerref_Less.f k a b) (lx a b) := by
  unfold coppicerref_Less.f
  simpa using Less_l0 a b ha a.length 0 (by omega) (by omega) (by omega)

/-! ### bytes.Compare -/
theorem cmp_lx : ∀ (a b : List Int), (∀ x ∈ a, 0 ≤ x ∧ x ≤ 255) → (∀ x ∈ b, 0 ≤ x ∧ x ≤ 255) → (Lib.compareBytes (Lib.bytesOf a) (Lib.bytesOf b) < 0 ↔ lx a b = true)
  | [], [], _, _ => by simp [Lib.bytesOf, Lib.compareBytes, lx]
  | [], _ :: _, _, _ => by simp [Lib.bytesOf, Lib.compareBytes, lx]
  | _ :: _, [], _, _ => by simp [Lib.bytesOf, Lib.compareBytes, lx]
  | x :: a, y :: b, ha, hb => by
    have h1 := ha x (by simp)
    have h2 := hb y (by simp)
    have ih := cmp_lx a b (fun z hz => ha z (by simp [hz])) (fun z hz => hb z (by simp [hz]))
    have n1 : (UInt8.ofNat x.toNat).toNat = x.toNat := by simp only [UInt8.toNat_ofNat']; omega
    have n2 : (UInt8.ofNat y.toNat).toNat = y.toNat := by simp only [UInt8.toNat_ofNat']; omega
    have e : Lib.compareBytes (Lib.bytesOf (x :: a)) (Lib.bytesOf (y :: b)) = if UInt8.ofNat x.toNat < UInt8.ofNat y.toNat then -1 else if UInt8.ofNat y.toNat < UInt8.ofNat x.toNat then 1 else Lib.compareBytes (Lib.bytesOf a) (Lib.bytesOf b) := rfl
    rw [e, lx_cons]
    have l1 : (UInt8.ofNat x.toNat < UInt8.ofNat y.toNat) ↔ x < y := by rw [UInt8.lt_iff_toNat_lt, n1, n2]; omega
    have l2 : (UInt8.ofNat y.toNat < UInt8.ofNat x.toNat) ↔ y < x := by rw [UInt8.lt_iff_toNat_lt, n1, n2]; omega
    by_cases q : x = y
    · subst q; simp only [l1, Int.lt_irrefl, if_false, if_true]; exact ih
    · by_cases p : x < y
      · simp [l1, l2, q, p]
      · have p' : y < x := by omega
        simp [l1, l2, q, p, p']

theorem is_l0 (w : List Int) (hw : ∀ x ∈ w, 0 ≤ x ∧ x ≤ 255) (hn : w.length ≤ 60) (d : Nat) : ∀ i : Int, 1 ≤ i → i + d = w.length + 1 →
    ∃ b : Bool, Ev (fun k => lyndon_Is.l0 k w i) (b, 0) ∧ Ev (fun k => coppicerref_Low.l0 k w i) b := by
  induction d with
  | zero =>
    intro i h0 hd
    refine ⟨decide ((w.length : Int) > 0), ?_, ?_⟩
    · refine Ev.step (fun k => lyndon_Is.l0.eq_2 _ _ k) ?_
      simp (disch := omega) only [if_neg]; exact Ev.now _
    · refine Ev.step (fun k => coppicerref_Low.l0.eq_2 _ _ k) ?_
      simp (disch := omega) only [if_neg]; exact Ev.now _
  | succ d ih =>
    intro i h0 hd
    by_cases hi : i < w.length
    · have c := cmp_lx w (w.drop i.toNat) hw (u8_drop hw _)
      by_cases e : lx w (w.drop i.toNat) = true
      · obtain ⟨b, h1, h2⟩ := ih (i + 1) (by omega) (by omega)
        have c' := c.2 e
        refine ⟨b, ?_, ?_⟩
        · refine Ev.step (fun k => lyndon_Is.l0.eq_2 _ _ k) ?_
          simp (disch := omega) only [if_pos, bytes_Compare.f, Option.bind_some, w64]
          simp only [if_neg (show ¬ Lib.compareBytes (Lib.bytesOf w) (Lib.bytesOf (w.drop i.toNat)) ≥ 0 by omega)]
          exact h1
        · refine Ev.step (fun k => coppicerref_Low.l0.eq_2 _ _ k) ?_
          simp (disch := omega) only [if_pos, w64]
          refine Ev.bind (Less_ev _ _ (by omega)) ?_
          simp only [e, if_true]; exact h2
      · have c' : ¬ Lib.compareBytes (Lib.bytesOf w) (Lib.bytesOf (w.drop i.toNat)) < 0 := fun q => e (c.1 q)
        refine ⟨false, ?_, ?_⟩
        · refine Ev.step (fun k => lyndon_Is.l0.eq_2 _ _ k) ?_
          simp (disch := omega) only [if_pos, bytes_Compare.f, Option.bind_some, w64]
          exact Ev.now _
        · refine Ev.step (fun k => coppicerref_Low.l0.eq_2 _ _ k) ?_
          simp (disch := omega) only [if_pos, w64]
          refine Ev.bind (Less_ev _ _ (by omega)) ?_
          simp only [if_neg e]; exact Ev.now _
    · refine ⟨decide ((w.length : Int) > 0), ?_, ?_⟩
      · refine Ev.step (fun k => lyndon_Is.l0.eq_2 _ _ k) ?_
        simp (disch := omega) only [if_neg]; exact Ev.now _
      · refine Ev.step (fun k => coppicerref_Low.l0.eq_2 _ _ k) ?_
        simp (disch := omega) only [if_neg]; exact Ev.now _
theorem LyndonIs : coppicerlaw_LyndonIs.Pure := by
  intro w hm hs hw
  refine Ev.rounds (g := fun k => coppicerlaw_LyndonIs.f k w) ?_
  unfold coppicerlaw_LyndonIs.f lyndon_Is.f
  by_cases h : (w.length : Int) > 60
  · refine Ev.bind (a := (false, 1)) ?_ ?_
    · simp only [h, if_true]; exact Ev.now _
    · simp only [h, if_true]; exact Ev.val rfl
  · obtain ⟨b, h1, h2⟩ := is_l0 w (mem_u8 hw) (by omega) w.length 1 (by omega) (by omega)
    refine Ev.bind (a := (b, 0)) ?_ ?_
    · simp only [h, if_false]; exact h1
    · simp only [h, if_false, if_true]
      unfold coppicerref_Low.f
      exact Ev.bind h2 (Ev.val (by simp))

end Go.Proofs.Ytkhmjehjhjhpkaa.Pure
