/- The law EndsCommons as a statement over numbers and lists alone: it holds under the bounds that the statement names. -/
import Derived.Test.YtpcphfbjnaikhaaPEndsCommonsx4
set_option linter.unusedVariables false
set_option linter.unusedSimpArgs false
set_option linter.unusedSectionVars false
namespace Go.Proofs.Ytpcphfbjnaikhaa.Pure
open Go.RowKit Go.Proofs.Ytpcphfbjnaikhaa.PEndsCommons Go.Proofs.YtpcphfbjnaikhaaW.PrintWords Go.Proofs.YtpcphfbjnaikhaaW.PrintLast Go.Proofs.YtpcphfbjnaikhaaW.PrintMore

/-! ### base: words for every pure text -/
theorem w64 {x : Int} (h0 : -9223372036854775808 ≤ x) (h1 : x ≤ 9223372036854775807) : wrap64 x = x := by unfold wrap64; omega
theorem Ev.pos {α : Type} {c : Prop} [Decidable c] {g f : Nat → Option α} {r : α} (h : c) (e : Ev g r) : Ev (fun k => if c then g k else f k) r := Ev.congr (fun k => by rw [if_pos h]) e
theorem Ev.neg {α : Type} {c : Prop} [Decidable c] {g f : Nat → Option α} {r : α} (h : ¬ c) (e : Ev f r) : Ev (fun k => if c then g k else f k) r := Ev.congr (fun k => by rw [if_neg h]) e
theorem Ev.val {α : Type} {r q : α} (h : r = q) : Ev (fun _ => some r) q := by subst h; exact Ev.now r
theorem rd_getElem {l : List Int} {i : Int} (h1 : i.toNat < l.length) : rd l i = l[i.toNat] := by simp [rd, List.getD_eq_getElem?_getD, List.getElem?_eq_getElem h1]
theorem drop_rd {l : List Int} {i : Int} (h0 : 0 ≤ i) (h1 : i < l.length) : l.drop i.toNat = rd l i :: l.drop (i + 1).toNat := by
  have h : i.toNat < l.length := by omega
  rw [rd_getElem h, List.drop_eq_getElem_cons h]; congr 2; omega
theorem take_rd {l : List Int} {i : Int} (h0 : 0 ≤ i) (h1 : i < l.length) : l.take (i + 1).toNat = l.take i.toNat ++ [rd l i] := by
  have h : i.toNat < l.length := by omega
  have e : (i + 1).toNat = i.toNat + 1 := by omega
  rw [rd_getElem h, e, List.take_succ_eq_append_getElem h]
theorem rd_drop (l : List Int) (n : Nat) (i : Int) (h0 : 0 ≤ i) : rd (l.drop n) i = rd l (i + n) := by
  have e : (i + n).toNat = n + i.toNat := by omega
  simp only [rd, List.getD_eq_getElem?_getD, List.getElem?_drop, e]
theorem rd_take (l : List Int) (n : Nat) (i : Int) (h0 : 0 ≤ i) (h1 : i < n) : rd (l.take n) i = rd l i := by
  simp only [rd, List.getD_eq_getElem?_getD]; rw [List.getElem?_take_of_lt (by omega)]
theorem drop_all {α : Type} (l : List α) (n : Nat) (h : l.length ≤ n) : l.drop n = [] := List.drop_eq_nil_of_le h
theorem dec_ne {a b : Int} {l m : List Int} (h : a ≠ b) : decide (a :: l = b :: m) = false := decide_eq_false (fun q => h (List.cons.inj q).1)
theorem Ev.no {p : Prop} [Decidable p] (h : ¬ p) : Ev (fun _ => some false) (decide p) := Ev.val (decide_eq_false h).symm
theorem Ev.yes {p : Prop} [Decidable p] (h : p) : Ev (fun _ => some true) (decide p) := Ev.val (decide_eq_true h).symm
theorem ext_rd {a b : List Int} (hl : a.length = b.length) (h : ∀ i : Int, 0 ≤ i → i < a.length → rd a i = rd b i) : a = b := by
  apply List.ext_getElem hl
  intro i h1 h2
  have := h i (by omega) (by omega)
  rwa [rd_getElem (by simpa using h1), rd_getElem (by simpa using h2)] at this
theorem wf_u8 {x : Int} (h : (Lit.int .u8 x).wf = true) : 0 ≤ x ∧ x ≤ 255 := by simpa [Lit.wf, IntKind.min, IntKind.max, IntKind.signed, IntKind.bits] using h
theorem wf_u32 {x : Int} (h : (Lit.int .u32 x).wf = true) : 0 ≤ x ∧ x ≤ 4294967295 := by simpa [Lit.wf, IntKind.min, IntKind.max, IntKind.signed, IntKind.bits] using h
theorem wf_i64 {x : Int} (h : (Lit.int .i64 x).wf = true) : -9223372036854775808 ≤ x ∧ x ≤ 9223372036854775807 := by simpa [Lit.wf, IntKind.min, IntKind.max, IntKind.signed, IntKind.bits] using h
theorem rd_mem {l : List Int} {i : Int} (h0 : 0 ≤ i) (h1 : i < l.length) : rd l i ∈ l := by
  rw [rd_getElem (by omega)]; exact List.getElem_mem _
theorem rd_u8 {l : List Int} (hw : ∀ x ∈ l, (Lit.int .u8 x).wf = true) {i : Int} (h0 : 0 ≤ i) (h1 : i < l.length) : 0 ≤ rd l i ∧ rd l i ≤ 255 := wf_u8 (hw _ (rd_mem h0 h1))
theorem tm {a b : Int} (h : 0 ≤ a) : Int.tmod a b = a % b := Int.tmod_eq_emod_of_nonneg h
theorem td {a b : Int} (h : 0 ≤ a) : Int.tdiv a b = a / b := Int.tdiv_eq_ediv_of_nonneg h

/-! ### coppicerref_Ints -/
theorem Ints_l0 (a b : List Int) (hl : a.length = b.length) (hb : (a.length : Int) ≤ 4611686018427387904) (d : Nat) : ∀ i : Int, 0 ≤ i → i + d = a.length → Ev (fun k => coppicerref_Ints.l0 k a b i) (decide (a.drop i.toNat = b.drop i.toNat)) := by
  induction d with
  | zero =>
    intro i h0 hd
    refine Ev.step (fun k => coppicerref_Ints.l0.eq_2 _ _ _ k) ?_
    simp (disch := omega) only [if_pos, if_neg]
    exact Ev.val (by rw [List.drop_eq_nil_of_le (by omega), List.drop_eq_nil_of_le (by omega)]; simp)
  | succ d ih =>
    intro i h0 hd
    refine Ev.step (fun k => coppicerref_Ints.l0.eq_2 _ _ _ k) ?_
    simp (disch := omega) only [if_pos, w64]
    rw [drop_rd h0 (by omega), drop_rd (l := b) h0 (by omega)]
    by_cases h : rd a i = rd b i
    · simp only [if_pos h]
      exact Ev.congr (fun _ => rfl) (by simpa [h] using ih (i + 1) (by omega) (by omega))
    · simp only [if_neg h]
      exact Ev.val (by simp [h])
theorem Ints_ev (a b : List Int) (hb : (a.length : Int) ≤ 4611686018427387904) : Ev (fun k => coppicerref_Ints.f k a b) (decide (a = b)) := by
  unfold coppicerref_Ints.f
  by_cases hl : a.length = b.length
  · simp (disch := omega) only [if_pos]
    simpa using Ints_l0 a b hl hb a.length 0 (by omega) (by omega)
  · simp (disch := omega) only [if_neg]
    exact Ev.val (by simp; intro h; exact hl (by rw [h]))

/-! ### coppicerref_Less -/
def lx : List Int → List Int → Bool
  | _, [] => false
  | [], _ :: _ => true
  | a :: x, b :: y => if a = b then lx x y else decide (a < b)
theorem lx_nil (a : List Int) : lx a [] = false := by cases a <;> rfl
theorem lx_cons (a b : Int) (x y : List Int) : lx (a :: x) (b :: y) = if a = b then lx x y else decide (a < b) := rfl
theorem lx_nil_cons (b : Int) (y : List Int) : lx [] (b :: y) = true := rfl
theorem Less_l0 (a b : List Int) (ha : a.length ≤ 4611686018427387904) (d : Nat) : ∀ i : Int, 0 ≤ i → i + d = a.length → i ≤ b.length → Ev (fun k => coppicerref_Less.l0 k a b i) (lx (a.drop i.toNat) (b.drop i.toNat)) := by
  induction d with
  | zero =>
    intro i h0 hd hb
    refine Ev.step (fun k => coppicerref_Less.l0.eq_2 _ _ _ k) ?_
    simp (disch := omega) only [if_neg]
    refine Ev.step (fun k => coppicerref_Less.j1.eq_2 _ _ _ _ k) ?_
    simp only [Bool.false_eq_true, if_false]
    refine Ev.val ?_
    rw [drop_all a _ (by omega)]
    by_cases q : i < b.length
    · rw [drop_rd h0 q, lx_nil_cons]; simp; omega
    · rw [drop_all b _ (by omega), lx_nil]; simp; omega
  | succ d ih =>
    intro i h0 hd hb
    refine Ev.step (fun k => coppicerref_Less.l0.eq_2 _ _ _ k) ?_
    simp (disch := omega) only [if_pos (show i < (a.length : Int) by omega)]
    refine Ev.step (fun k => coppicerref_Less.j1.eq_2 _ _ _ _ k) ?_
    by_cases q : i < b.length
    · simp (disch := omega) only [decide_eq_true_eq, if_pos q, if_pos h0, if_pos (show i < (a.length : Int) by omega), w64]
      rw [drop_rd h0 (by omega), drop_rd (l := b) h0 q, lx_cons]
      by_cases e : rd a i = rd b i
      · simp only [if_pos e]; exact ih (i + 1) (by omega) (by omega) (by omega)
      · simp only [if_neg e]; exact Ev.now _
    · simp (disch := omega) only [decide_eq_true_eq, if_neg q]
      rw [drop_rd h0 (by omega), drop_all b _ (by omega), lx_nil]
      exact Ev.val (by simp; omega)
theorem Less_ev (a b : List Int) (ha : a.length ≤ 4611686018427387904) : Ev (fun k => coppicerref_Less.f k a b) (lx a b) := by
  unfold coppicerref_Less.f
  simpa using Less_l0 a b ha a.length 0 (by omega) (by omega) (by omega)

/-! ### bytes.Compare -/
theorem cmp_lx : ∀ (a b : List Int), (∀ x ∈ a, 0 ≤ x ∧ x ≤ 255) → (∀ x ∈ b, 0 ≤ x ∧ x ≤ 255) → (Lib.compareBytes (Lib.bytesOf a) (Lib.bytesOf b) < 0 ↔ lx a b = true)
  | [], [], _, _ => by simp [Lib.bytesOf, Lib.compareBytes, lx]
  | [], _ :: _, _, _ => by simp [Lib.bytesOf, Lib.compareBytes, lx]
  | _ :: _, [], _, _ => by simp [Lib.bytesOf, Lib.compareBytes, lx]
  | x :: a, y :: b, ha, hb => by
    have h1 := ha x (by simp)
    have h2 := hb y (by simp)
    have ih := cmp_lx a b (fun z hz => ha z (by simp [hz])) (fun z hz => hb z (by simp [hz]))
    have n1 : (UInt8.ofNat x.toNat).toNat = x.toNat := by simp only [UInt8.toNat_ofNat']; omega
    have n2 : (UInt8.ofNat y.toNat).toNat = y.toNat := by simp only [UInt8.toNat_ofNat']; omega
    have e : Lib.compareBytes (Lib.bytesOf (x :: a)) (Lib.bytesOf (y :: b)) = if UInt8.ofNat x.toNat < UInt8.ofNat y.toNat then -1 else if UInt8.ofNat y.toNat < UInt8.ofNat x.toNat then 1 else Lib.compareBytes (Lib.bytesOf a) (Lib.bytesOf b) := rfl
    rw [e, lx_cons]
    have l1 : (UInt8.ofNat x.toNat < UInt8.ofNat y.toNat) ↔ x < y := by rw [UInt8.lt_iff_toNat_lt, n1, n2]; omega
    have l2 : (UInt8.ofNat y.toNat < UInt8.ofNat x.toNat) ↔ y < x := by rw [UInt8.lt_iff_toNat_lt, n1, n2]; omega
    by_cases q : x = y
    · subst q; simp only [l1, Int.lt_irrefl, if_false, if_true]; exact ih
    · by_cases p : x < y
      · simp [l1, l2, q, p]
      · have p' : y < x := by omega
        simp [l1, l2, q, p, p']

/-! ### all ends of a word, in order -/
theorem lx_self : ∀ a : List Int, lx a a = false
  | [] => rfl
  | x :: a => by rw [lx_cons, if_pos rfl]; exact lx_self a
theorem lx_total : ∀ a b : List Int, lx a b = false → lx b a = false → a = b
  | [], [], _, _ => rfl
  | [], _ :: _, h, _ => by simp [lx] at h
  | _ :: _, [], _, h => by simp [lx] at h
  | x :: a, y :: b, h1, h2 => by
    rw [lx_cons] at h1 h2
    by_cases e : x = y
    · subst e
      rw [if_pos rfl] at h1 h2
      rw [lx_total a b h1 h2]
    · rw [if_neg e] at h1
      rw [if_neg (fun q => e q.symm)] at h2
      simp at h1 h2
      omega
theorem lx_trans : ∀ a b c : List Int, lx a b = true → lx b c = true → lx a c = true
  | _, [], _, h1, _ => by rw [lx_nil] at h1; cases h1
  | _, _ :: _, [], _, h2 => by rw [lx_nil] at h2; cases h2
  | [], _ :: _, _ :: _, _, _ => rfl
  | x :: a, y :: b, z :: c, h1, h2 => by
    rw [lx_cons] at h1 h2 ⊢
    by_cases e1 : x = y
    · subst e1
      rw [if_pos rfl] at h1
      by_cases e2 : x = z
      · rw [if_pos e2] at h2 ⊢; exact lx_trans a b c h1 h2
      · rw [if_neg e2] at h2 ⊢; exact h2
    · rw [if_neg e1] at h1
      simp at h1
      by_cases e2 : y = z
      · subst e2
        rw [if_neg e1]; simpa using h1
      · rw [if_neg e2] at h2
        simp at h2
        rw [if_neg (by omega)]; simp; omega
theorem lx_asymm {a b : List Int} (h : lx a b = true) : lx b a = false := by
  cases h2 : lx b a with
  | false => rfl
  | true => have := lx_trans a b a h h2; rw [lx_self] at this; cases this
/-- The ends, as places. -/
def endsN (l : List Int) : List Nat := ((List.finRange l.length).mergeSort fun x y => !decide (cmpE l y.val x.val < 0)).map fun i => i.val
theorem endsOf_eq (l : List Int) : endsOf l = (endsN l).map fun i : Nat => (i : Int) := by
  unfold endsOf endsN
  rw [List.map_map]; rfl
def isBytes (l : List Int) : Prop := ∀ x ∈ l, 0 ≤ x ∧ x ≤ 255
theorem cmpE_lx {l : List Int} (hl : isBytes l) (x y : Nat) : cmpE l x y < 0 ↔ lx (l.drop x) (l.drop y) = true :=
  cmp_lx _ _ (fun z hz => hl z (List.mem_of_mem_drop hz)) (fun z hz => hl z (List.mem_of_mem_drop hz))
theorem endsN_perm (l : List Int) : (endsN l).Perm (List.range l.length) := by
  unfold endsN
  have h := (List.mergeSort_perm (List.finRange l.length) fun x y => !decide (cmpE l y.val x.val < 0)).map fun i => i.val
  refine h.trans ?_
  have e : (List.finRange l.length).map (fun i => i.val) = List.range l.length := by
    apply List.ext_getElem
    · simp
    · intro i h1 h2; simp
  rw [e]
theorem endsN_len (l : List Int) : (endsN l).length = l.length := by rw [(endsN_perm l).length_eq, List.length_range]
theorem endsN_lt {l : List Int} {i : Nat} (h : i ∈ endsN l) : i < l.length := List.mem_range.1 ((endsN_perm l).mem_iff.1 h)
theorem endsN_mem {l : List Int} {i : Nat} (h : i < l.length) : i ∈ endsN l := (endsN_perm l).mem_iff.2 (List.mem_range.2 h)
theorem drop_inj {l : List Int} {i j : Nat} (hi : i ≤ l.length) (hj : j ≤ l.length) (h : l.drop i = l.drop j) : i = j := by
  have := congrArg List.length h
  rw [List.length_drop, List.length_drop] at this
  omega
theorem endsN_sorted {l : List Int} (hl : isBytes l) : (endsN l).Pairwise fun x y => lx (l.drop x) (l.drop y) = true := by
  have h1 : ((List.finRange l.length).mergeSort fun x y => !decide (cmpE l y.val x.val < 0)).Pairwise fun x y => (!decide (cmpE l y.val x.val < 0)) = true := by
    refine List.pairwise_mergeSort ?_ ?_ _
    · intro a b c hab hbc
      simp only [Bool.not_eq_true', decide_eq_false_iff_not, cmpE_lx hl, Bool.not_eq_true] at hab hbc ⊢
      cases hca : lx (l.drop c.val) (l.drop a.val) with
      | false => rfl
      | true =>
        cases hba : lx (l.drop a.val) (l.drop b.val) with
        | true => rw [lx_trans _ _ _ hca hba] at hbc; cases hbc
        | false => rw [lx_total _ _ hba hab] at hca; rw [hca] at hbc; cases hbc
    · intro a b
      simp only [Bool.or_eq_true, Bool.not_eq_true', decide_eq_false_iff_not, cmpE_lx hl, Bool.not_eq_true]
      cases h : lx (l.drop b.val) (l.drop a.val) with
      | false => exact .inl rfl
      | true => exact .inr (lx_asymm h)
  have h2 : (endsN l).Nodup := (endsN_perm l).nodup_iff.2 List.nodup_range
  have h3 : (endsN l).Pairwise fun x y => lx (l.drop y) (l.drop x) = false := by
    unfold endsN
    rw [List.pairwise_map]
    refine h1.imp ?_
    intro a b h
    simpa only [Bool.not_eq_true', decide_eq_false_iff_not, cmpE_lx hl, Bool.not_eq_true] using h
  refine ((List.pairwise_and_iff.2 ⟨h2, h3⟩).imp_of_mem ?_)
  intro a b ha hb ⟨hne, hba⟩
  cases hab : lx (l.drop a) (l.drop b) with
  | true => rfl
  | false => exact absurd (drop_inj (by have := endsN_lt ha; omega) (by have := endsN_lt hb; omega) (lx_total _ _ hab hba)) hne
theorem countP_sorted {α : Type} (R : α → α → Bool) (irr : ∀ x, R x x = false) (asy : ∀ x y, R x y = true → R y x = false) : ∀ (S : List α), S.Pairwise (fun x y => R x y = true) → ∀ (k : Nat) (x : α), S[k]? = some x → S.countP (fun y => R y x) = k
  | [], _, _, _, h => by simp at h
  | a :: S, hp, 0, x, h => by
    simp at h
    subst h
    have hp := List.pairwise_cons.1 hp
    rw [List.countP_cons_of_neg (by simp [irr])]
    exact List.countP_eq_zero.2 (fun y hy => by simp [asy _ _ (hp.1 y hy)])
  | a :: S, hp, k + 1, x, h => by
    have hp := List.pairwise_cons.1 hp
    have h' : S[k]? = some x := by simpa using h
    rw [List.countP_cons_of_pos (p := fun y => R y x) (hp.1 x (List.mem_of_getElem? h')), countP_sorted R irr asy S hp.2 k x h']
/-- How many ends are less. -/
def rk (l : List Int) (i : Nat) : Nat := (List.range l.length).countP fun j => lx (l.drop j) (l.drop i)
theorem rk_of {l : List Int} (hl : isBytes l) {k i : Nat} (h : (endsN l)[k]? = some i) : rk l i = k := by
  unfold rk
  rw [← (endsN_perm l).countP_eq]
  exact countP_sorted (fun x y => lx (l.drop x) (l.drop y)) (fun x => lx_self _) (fun x y h => lx_asymm h) _ (endsN_sorted hl) k i h
theorem rk_at {l : List Int} (hl : isBytes l) {i : Nat} (h : i < l.length) : (endsN l)[rk l i]? = some i := by
  obtain ⟨k, hk⟩ := List.mem_iff_getElem?.1 (endsN_mem h)
  rw [rk_of hl hk]; exact hk
theorem rk_lt {l : List Int} (hl : isBytes l) {i : Nat} (h : i < l.length) : rk l i < l.length := by
  have := (List.getElem?_eq_some_iff.1 (rk_at hl h)).1
  rw [endsN_len] at this; exact this
theorem rk_inj {l : List Int} (hl : isBytes l) {i j : Nat} (hi : i < l.length) (hj : j < l.length) (h : rk l i = rk l j) : i = j := by
  have h1 := rk_at hl hi
  rw [h, rk_at hl hj] at h1
  injection h1 with h1; exact h1.symm
/-! ### coppicerref.Ordered -/
theorem set_toNat (t : List Int) (k : Nat) (v : Int) (j : Nat) (hk : k < t.length) : (t.set k v)[j]? = if k = j then some v else t[j]? := by
  rw [List.getElem?_set]
  by_cases e : k = j
  · subst e; simp [hk]
  · simp [e]
theorem Ordered_l1 (l : List Int) (hn : l.length ≤ 60) (t : List Int) (i : Nat) (hi : i < l.length) (R : List Int) (h : Ev (fun k => coppicerref_Ordered.l0 k l (t.set (rk l i) (i : Int)) (wrap64 ((i : Int) + 1))) R) (ht : rk l i < t.length) (d : Nat) : ∀ j : Nat, j + d = l.length →
    Ev (fun k => coppicerref_Ordered.l1 k l t (i : Int) (((List.range j).countP fun j => lx (l.drop j) (l.drop i) : Nat) : Int) (j : Int)) R := by
  induction d with
  | zero =>
    intro j hj
    refine Ev.step (fun k => coppicerref_Ordered.l1.eq_2 _ _ _ _ _ k) ?_
    have e : j = l.length := by omega
    subst e
    simp only [if_neg (show ¬ (l.length : Int) < (l.length : Int) by omega)]
    have : (List.range l.length).countP (fun j => lx (l.drop j) (l.drop i)) = rk l i := rfl
    rw [this]
    simp only [if_pos (show (0 : Int) ≤ (rk l i : Int) by omega), if_pos (show (rk l i : Int) < (t.length : Int) by omega), Int.toNat_natCast]
    exact h
  | succ d ih =>
    intro j hj
    refine Ev.step (fun k => coppicerref_Ordered.l1.eq_2 _ _ _ _ _ k) ?_
    have hc : (List.range j).countP (fun j => lx (l.drop j) (l.drop i)) ≤ j := by
      have := List.countP_le_length (p := fun j => lx (l.drop j) (l.drop i)) (l := List.range j)
      rwa [List.length_range] at this
    simp (disch := omega) only [if_pos (show (j : Int) < (l.length : Int) by omega), if_pos (show (0 : Int) ≤ (j : Int) by omega), if_pos (show (j : Int) ≤ (l.length : Int) by omega), if_pos (show (0 : Int) ≤ (i : Int) by omega), if_pos (show (i : Int) ≤ (l.length : Int) by omega), Int.toNat_natCast, w64]
    refine Ev.bind (Less_ev _ _ (by rw [List.length_drop]; omega)) ?_
    have := ih (j + 1) (by omega)
    rw [List.range_succ, List.countP_append] at this
    cases hx : lx (l.drop j) (l.drop i) with
    | true =>
      simp only [if_true]
      refine Ev.congr (fun k => ?_) this
      simp [hx]
    | false =>
      simp only [Bool.false_eq_true, if_false]
      refine Ev.congr (fun k => ?_) this
      simp [hx]
theorem Ordered_l0 (l : List Int) (hl : isBytes l) (hn : l.length ≤ 60) (d : Nat) : ∀ (i : Nat) (t : List Int), i + d = l.length → t.length = l.length → (∀ j, j < i → t[rk l j]? = some (j : Int)) →
    Ev (fun k => coppicerref_Ordered.l0 k l t (i : Int)) (endsOf l) := by
  induction d with
  | zero =>
    intro i t hi ht h
    refine Ev.step (fun k => coppicerref_Ordered.l0.eq_2 _ _ _ k) ?_
    simp only [if_neg (show ¬ (i : Int) < (l.length : Int) by omega)]
    refine Ev.val ?_
    rw [endsOf_eq]
    apply List.ext_getElem?
    intro k
    by_cases hk : k < l.length
    · have hx : (endsN l)[k]? = some ((endsN l)[k]'(by rw [endsN_len]; exact hk)) := List.getElem?_eq_getElem _
      generalize (endsN l)[k]'(by rw [endsN_len]; exact hk) = x at hx
      have hxl := endsN_lt (List.mem_of_getElem? hx)
      have := h x (by omega)
      rw [rk_of hl hx] at this
      rw [this, List.getElem?_map, hx]; rfl
    · rw [List.getElem?_eq_none (by omega), List.getElem?_eq_none (by rw [List.length_map, endsN_len]; omega)]
  | succ d ih =>
    intro i t hi ht h
    refine Ev.step (fun k => coppicerref_Ordered.l0.eq_2 _ _ _ k) ?_
    simp only [if_pos (show (i : Int) < (l.length : Int) by omega)]
    have hr := rk_lt hl (show i < l.length by omega)
    have := Ordered_l1 l hn t i (by omega) (endsOf l) ?_ (by omega) l.length 0 (by omega)
    · exact this
    · rw [w64 (by omega) (by omega)]
      refine Ev.congr (fun k => ?_) (ih (i + 1) (t.set (rk l i) (i : Int)) (by omega) (by rw [List.length_set]; exact ht) (fun j hj => ?_))
      · rfl
      · rw [set_toNat _ _ _ _ (by omega)]
        by_cases e : rk l i = rk l j
        · rw [if_pos e, rk_inj hl (by omega) (by omega) e]
        · rw [if_neg e]
          exact h j (by
            rcases Nat.lt_or_ge j i with q | q
            · exact q
            · exact absurd (by rw [show j = i by omega]) e)
theorem Ordered_ev (l : List Int) (hl : isBytes l) (hn : l.length ≤ 60) : Ev (fun k => coppicerref_Ordered.f k l) (endsOf l) := by
  unfold coppicerref_Ordered.f
  simp only [if_pos (show (0 : Int) ≤ (l.length : Int) by omega), if_pos (show ((l.length : Int)).toNat ≤ 35184372088832 by omega)]
  exact Ordered_l0 l hl hn l.length 0 _ (by omega) (by simp) (fun j hj => by omega)

/-! ### how far two words begin alike -/
def lcp : List Int → List Int → Nat
  | a :: x, b :: y => if a = b then lcp x y + 1 else 0
  | _, _ => 0
theorem lcp_nil_r (a : List Int) : lcp a [] = 0 := by cases a <;> rfl
theorem lcp_comm : ∀ a b : List Int, lcp a b = lcp b a
  | [], [] => rfl
  | [], _ :: _ => rfl
  | _ :: _, [] => rfl
  | a :: x, b :: y => by
    unfold lcp
    by_cases h : a = b
    · rw [if_pos h, if_pos h.symm, lcp_comm x y]
    · rw [if_neg h, if_neg (fun e => h e.symm)]
theorem lcp_le : ∀ a b : List Int, lcp a b ≤ a.length ∧ lcp a b ≤ b.length
  | [], _ => by simp [lcp]
  | _ :: _, [] => by simp [lcp]
  | a :: x, b :: y => by
    unfold lcp
    have := lcp_le x y
    split <;> simp <;> omega
/-- Behind h that are alike: the next are alike, or it ends. -/
theorem lcp_next : ∀ (a b : List Int) (h : Nat), h ≤ lcp a b → ((h < a.length ∧ h < b.length ∧ a.getD h 0 = b.getD h 0) ↔ h < lcp a b)
  | [], b, h, hh => by simp [lcp] at hh ⊢
  | _ :: _, [], h, hh => by simp [lcp] at hh ⊢
  | a :: x, b :: y, 0, _ => by
    unfold lcp
    by_cases e : a = b
    · rw [if_pos e]; simp [e]
    · rw [if_neg e]; simp [e]
  | a :: x, b :: y, h + 1, hh => by
    unfold lcp at hh ⊢
    by_cases e : a = b
    · rw [if_pos e] at hh ⊢
      have := lcp_next x y h (by omega)
      simp at this ⊢
      exact this
    · rw [if_neg e] at hh; omega
/-- What lies between begins alike at least as far. -/
theorem lcp_between : ∀ (a b c : List Int), lx a b = true → lx b c = true → lcp a c ≤ lcp b c
  | [], _, _, _, _ => by simp [lcp]
  | _ :: _, [], _, h1, _ => by rw [lx_nil] at h1; cases h1
  | _ :: _, _ :: _, [], _, h2 => by rw [lx_nil] at h2; cases h2
  | a :: x, b :: y, c :: z, h1, h2 => by
    rw [lx_cons] at h1 h2
    unfold lcp
    by_cases e : a = c
    · subst e
      by_cases e1 : a = b
      · subst e1
        rw [if_pos rfl] at h1 h2
        rw [if_pos rfl, if_pos rfl]
        have := lcp_between x y z h1 h2
        omega
      · rw [if_neg e1] at h1
        rw [if_neg (fun q => e1 q.symm)] at h2
        simp at h1 h2
        omega
    · rw [if_neg e]; omega
theorem w64_succ {h : Nat} (hh : h ≤ 1000000) : wrap64 ((h : Int) + 1) = ((h + 1 : Nat) : Int) := by rw [w64 (by omega) (by omega)]; omega
theorem w64_pred {h : Nat} (h1 : 1 ≤ h) (hh : h ≤ 1000000) : wrap64 ((h : Int) - 1) = ((h - 1 : Nat) : Int) := by rw [w64 (by omega) (by omega)]; omega
theorem w64_plus {a b : Nat} (ha : a ≤ 1000000) (hb : b ≤ 1000000) : wrap64 ((a : Int) + (b : Int)) = (a : Int) + (b : Int) := w64 (by omega) (by omega)
def cm (l : List Int) (i j : Nat) : Nat := lcp (l.drop i) (l.drop j)
theorem rd_drop' (l : List Int) (i h : Nat) : (l.drop i).getD h 0 = rd l ((i : Int) + (h : Int)) := by
  unfold rd
  rw [List.getD_eq_getElem?_getD, List.getElem?_drop, List.getD_eq_getElem?_getD]
  congr 2
theorem cm_next (l : List Int) (i j h : Nat) (hh : h ≤ cm l i j) : (((i : Int) + h < l.length ∧ (j : Int) + h < l.length) ∧ rd l ((i : Int) + h) = rd l ((j : Int) + h)) ↔ h < cm l i j := by
  have := lcp_next (l.drop i) (l.drop j) h hh
  rw [rd_drop', rd_drop', List.length_drop, List.length_drop] at this
  unfold cm
  rw [← this]
  omega
/-- one step on, both -/
theorem cm_step (l : List Int) (i j : Nat) (h : 1 ≤ cm l i j) (hx : lx (l.drop j) (l.drop i) = true) : cm l (i + 1) (j + 1) + 1 = cm l i j ∧ lx (l.drop (j + 1)) (l.drop (i + 1)) = true := by
  have h1 := lcp_le (l.drop i) (l.drop j)
  unfold cm at *
  rw [List.length_drop, List.length_drop] at h1
  have hi : i < l.length := by omega
  have hj : j < l.length := by omega
  rw [List.drop_eq_getElem_cons hi, List.drop_eq_getElem_cons hj] at h hx ⊢
  by_cases e : l[i] = l[j]
  · rw [lx_cons, if_pos e.symm] at hx
    refine ⟨?_, hx⟩
    conv => rhs; unfold lcp
    rw [if_pos e]
  · unfold lcp at h
    rw [if_neg e] at h; omega
/-- The end ahead of it. -/
def ahd (l : List Int) (i : Nat) : Nat := (endsN l).getD (rk l i - 1) 0
theorem ahd_at {l : List Int} (hl : isBytes l) {i : Nat} (hi : i < l.length) (hr : rk l i ≠ 0) : (endsN l)[rk l i - 1]? = some (ahd l i) := by
  have h := rk_lt hl hi
  unfold ahd
  rw [List.getD_eq_getElem?_getD, List.getElem?_eq_getElem (by rw [endsN_len]; omega)]; rfl
theorem ends_lt {l : List Int} (hl : isBytes l) {a b i j : Nat} (ha : (endsN l)[a]? = some i) (hb : (endsN l)[b]? = some j) (h : a < b) : lx (l.drop i) (l.drop j) = true := by
  have hp := endsN_sorted hl
  obtain ⟨ha1, rfl⟩ := List.getElem?_eq_some_iff.1 ha
  obtain ⟨hb1, rfl⟩ := List.getElem?_eq_some_iff.1 hb
  exact List.pairwise_iff_getElem.1 hp a b ha1 hb1 h
theorem rk_lt_of {l : List Int} (hl : isBytes l) {i j : Nat} (hi : i < l.length) (hj : j < l.length) (h : lx (l.drop i) (l.drop j) = true) : rk l i < rk l j := by
  rcases Nat.lt_trichotomy (rk l i) (rk l j) with q | q | q
  · exact q
  · rw [rk_inj hl hi hj q, lx_self] at h; cases h
  · rw [lx_asymm (ends_lt hl (rk_at hl hj) (rk_at hl hi) q)] at h; cases h
theorem kasai {l : List Int} (hl : isBytes l) {i : Nat} (hi : i + 1 < l.length) (hr : rk l i ≠ 0) : cm l i (ahd l i) - 1 ≤ cm l (i + 1) (ahd l (i + 1)) ∨ rk l (i + 1) = 0 := by
  by_cases h2 : cm l i (ahd l i) ≤ 1
  · exact .inl (by omega)
  have ha := ahd_at hl (show i < l.length by omega) hr
  have hlt := ends_lt hl ha (rk_at hl (show i < l.length by omega)) (by omega)
  have hs := cm_step l i (ahd l i) (by omega) hlt
  have hle := lcp_le (l.drop i) (l.drop (ahd l i))
  have hle' : cm l i (ahd l i) ≤ l.length - ahd l i := by have := hle.2; rw [List.length_drop] at this; exact this
  have hrr := rk_lt_of hl (show ahd l i + 1 < l.length by omega) hi hs.2
  left
  have hr1 : rk l (i + 1) ≠ 0 := by omega
  have hb := ahd_at hl hi hr1
  have hj := rk_at hl (show ahd l i + 1 < l.length by omega)
  rcases Nat.lt_or_ge (rk l (ahd l i + 1)) (rk l (i + 1) - 1) with q | q
  · have h3 := ends_lt hl hj hb q
    have h4 := ends_lt hl hb (rk_at hl hi) (by omega)
    have h5 := lcp_between _ _ _ h3 h4
    have e1 := lcp_comm (l.drop (ahd l i + 1)) (l.drop (i + 1))
    have e2 := lcp_comm (l.drop (ahd l (i + 1))) (l.drop (i + 1))
    unfold cm at *
    omega
  · have e : rk l (ahd l i + 1) = rk l (i + 1) - 1 := by omega
    rw [e, hb] at hj
    injection hj with hj
    rw [hj]; omega
/-! ### ends.common -/
def commonOf (l : List Int) : List Int := (List.range (l.length - 1)).map fun k => ((cm l ((endsN l).getD (k + 1) 0) ((endsN l).getD k 0) : Nat) : Int)
theorem common_out {l : List Int} (hl : isBytes l) {out : List Int} (hlen : out.length = l.length - 1) (h : ∀ i, i < l.length → rk l i ≠ 0 → out[rk l i - 1]? = some ((cm l i (ahd l i) : Nat) : Int)) : out = commonOf l := by
  unfold commonOf
  apply List.ext_getElem?
  intro k
  by_cases hk : k < l.length - 1
  · have hx : (endsN l)[k + 1]? = some ((endsN l)[k + 1]'(by rw [endsN_len]; omega)) := List.getElem?_eq_getElem _
    generalize (endsN l)[k + 1]'(by rw [endsN_len]; omega) = x at hx
    have hxl := endsN_lt (List.mem_of_getElem? hx)
    have hr := rk_of hl hx
    have := h x hxl (by omega)
    unfold ahd at this
    rw [hr, Nat.add_sub_cancel] at this
    rw [this, List.getElem?_map, List.getElem?_range hk]
    simp only [Option.map_some]
    rw [List.getD_eq_getElem?_getD (i := k + 1), hx]; rfl
  · rw [List.getElem?_eq_none (by omega), List.getElem?_eq_none (by rw [List.length_map, List.length_range]; omega)]
def rks (l : List Int) : List Int := (List.range l.length).map fun i => ((rk l i : Nat) : Int)
theorem rks_len (l : List Int) : (rks l).length = l.length := by simp [rks]
theorem rd_rks {l : List Int} {i : Nat} (h : i < l.length) : rd (rks l) (i : Int) = ((rk l i : Nat) : Int) := by
  unfold rd rks
  rw [Int.toNat_natCast, List.getD_eq_getElem?_getD, List.getElem?_map, List.getElem?_range h]; rfl
theorem rd_ends {l : List Int} {k i : Nat} (h : (endsN l)[k]? = some i) : rd (endsOf l) (k : Int) = (i : Int) := by
  unfold rd
  rw [Int.toNat_natCast, List.getD_eq_getElem?_getD, endsOf_eq, List.getElem?_map, h]; rfl
theorem mx_eq (a b : Int) : mx a b = max a b := by unfold mx; rcases Int.le_total a b with h | h <;> (split <;> omega)
theorem common_l2 {l : List Int} (hl : isBytes l) (hn : l.length ≤ 60) (out : List Int) (hlen : out.length = l.length - 1) (i : Nat) (hi : i < l.length) (hr : rk l i ≠ 0) (j : Nat) (hal : j < l.length) (R : List Int)
    (hR : Ev (fun k => ends_common.l1 k l (endsOf l) (out.set (rk l i - 1) ((cm l i j : Nat) : Int)) (rks l) (((cm l i j - 1 : Nat)) : Int) (l.length : Int) ((i + 1 : Nat) : Int)) R) (d : Nat) :
    ∀ h : Nat, h + d = cm l i j → Ev (fun k => ends_common.l2 k l (endsOf l) out (rks l) (h : Int) (i : Int) (j : Int) (l.length : Int) (i : Int)) R := by
  have hrl := rk_lt hl hi
  have hcl := lcp_le (l.drop i) (l.drop j)
  rw [List.length_drop, List.length_drop] at hcl
  have hcl' : cm l i j ≤ 60 := by unfold cm; omega
  induction d with
  | zero =>
    intro h hh
    refine Ev.step (fun k => ends_common.l2.eq_2 _ _ _ _ _ _ _ _ _ k) ?_
    have hb : h ≤ 60 := Nat.le_trans (Nat.le_of_eq (by omega)) hcl'
    have z1 : (0 : Int) ≤ (i : Int) + (h : Int) := Int.add_nonneg (Int.natCast_nonneg _) (Int.natCast_nonneg _)
    have z2 : (0 : Int) ≤ (j : Int) + (h : Int) := Int.add_nonneg (Int.natCast_nonneg _) (Int.natCast_nonneg _)
    have hnl : ¬ h < cm l i j := by omega
    have e0 : h = cm l i j := by omega
    have ew : ((rk l i : Nat) : Int) - 1 = ((rk l i - 1 : Nat) : Int) := by omega
    have em : mx ((h : Int) - 1) 0 = ((cm l i j - 1 : Nat) : Int) := by rw [mx_eq]; omega
    have ei : (i : Int) + 1 = ((i + 1 : Nat) : Int) := by omega
    have goal : ∀ k, (if (0 : Int) ≤ (i : Int) then (if (i : Int) < ((rks l).length : Int) then (if 0 ≤ (wrap64 ((rd (rks l) (i : Int)) - 1)) then (if (wrap64 ((rd (rks l) (i : Int)) - 1)) < (out.length : Int) then (ends_common.l1 k l (endsOf l) (out.set ((wrap64 ((rd (rks l) (i : Int)) - 1)) : Int).toNat (h : Int)) (rks l) (mx (wrap64 ((h : Int) - 1)) 0) (l.length : Int) (wrap64 ((i : Int) + 1))) else (none)) else (none)) else (none)) else (none)) = ends_common.l1 k l (endsOf l) (out.set (rk l i - 1) ((cm l i j : Nat) : Int)) (rks l) (((cm l i j - 1 : Nat)) : Int) (l.length : Int) ((i + 1 : Nat) : Int) := by
      intro k
      rw [rks_len, rd_rks hi, w64 (by omega) (by omega), w64 (by omega) (by omega), w64 (by omega) (by omega), em, ew, ei, Int.toNat_natCast, if_pos (by omega), if_pos (by omega), if_pos (by omega), if_pos (by omega), ← e0]
    have w1 : wrap64 ((i : Int) + (h : Int)) = (i : Int) + (h : Int) := w64_plus (Nat.le_trans (Nat.le_of_lt hi) (Nat.le_trans hn (by decide))) (Nat.le_trans hb (by decide))
    have w2 : wrap64 ((j : Int) + (h : Int)) = (j : Int) + (h : Int) := w64_plus (Nat.le_trans (Nat.le_of_lt hal) (Nat.le_trans hn (by decide))) (Nat.le_trans hb (by decide))
    have hx := fun q => hnl ((cm_next l i j h (Nat.le_of_eq e0)).1 q)
    simp only [w1, w2]
    by_cases c1 : (i : Int) + (h : Int) < (l.length : Int)
    · by_cases c2 : (j : Int) + (h : Int) < (l.length : Int)
      · have c3 : ¬ rd l ((i : Int) + (h : Int)) = rd l ((j : Int) + (h : Int)) := fun e => hx ⟨⟨c1, c2⟩, e⟩
        simp only [if_pos c1, if_pos c2, if_pos z1, if_pos z2, if_neg c3]
        exact Ev.congr goal hR
      · simp only [if_pos c1, if_neg c2]
        exact Ev.congr goal hR
    · simp only [if_neg c1]
      exact Ev.congr goal hR
  | succ d ih =>
    intro h hh
    refine Ev.step (fun k => ends_common.l2.eq_2 _ _ _ _ _ _ _ _ _ k) ?_
    have hlt : h < cm l i j := by omega
    have hd : h + 1 + d = cm l i j := by omega
    have hb : h ≤ 60 := Nat.le_trans (Nat.le_of_lt hlt) hcl'
    have z1 : (0 : Int) ≤ (i : Int) + (h : Int) := Int.add_nonneg (Int.natCast_nonneg _) (Int.natCast_nonneg _)
    have z2 : (0 : Int) ≤ (j : Int) + (h : Int) := Int.add_nonneg (Int.natCast_nonneg _) (Int.natCast_nonneg _)
    have w3 : wrap64 ((h : Int) + 1) = ((h + 1 : Nat) : Int) := w64_succ (Nat.le_trans hb (by decide))
    have w1 : wrap64 ((i : Int) + (h : Int)) = (i : Int) + (h : Int) := w64_plus (Nat.le_trans (Nat.le_of_lt hi) (Nat.le_trans hn (by decide))) (Nat.le_trans hb (by decide))
    have w2 : wrap64 ((j : Int) + (h : Int)) = (j : Int) + (h : Int) := w64_plus (Nat.le_trans (Nat.le_of_lt hal) (Nat.le_trans hn (by decide))) (Nat.le_trans hb (by decide))
    have hx := (cm_next l i j h (Nat.le_of_lt hlt)).2 hlt
    simp only [w1, w2, w3, if_pos hx.1.1, if_pos hx.1.2, if_pos z1, if_pos z2, if_pos hx.2]
    exact ih (h + 1) hd
theorem common_l1 {l : List Int} (hl : isBytes l) (hn : l.length ≤ 60) (d : Nat) : ∀ (i h : Nat) (out : List Int), i + d = l.length → out.length = l.length - 1 → (∀ j, j < i → rk l j ≠ 0 → out[rk l j - 1]? = some ((cm l j (ahd l j) : Nat) : Int)) → (i < l.length → rk l i ≠ 0 → h ≤ cm l i (ahd l i)) →
    Ev (fun k => ends_common.l1 k l (endsOf l) out (rks l) (h : Int) (l.length : Int) (i : Int)) (commonOf l) := by
  induction d with
  | zero =>
    intro i h out hi hlen ho _
    refine Ev.step (fun k => ends_common.l1.eq_2 _ _ _ _ _ _ _ k) ?_
    simp only [if_neg (show ¬ (i : Int) < (l.length : Int) by omega)]
    exact Ev.val (common_out hl hlen (fun j hj hr => ho j (by omega) hr))
  | succ d ih =>
    intro i h out hi hlen ho hh
    refine Ev.step (fun k => ends_common.l1.eq_2 _ _ _ _ _ _ _ k) ?_
    have hil : i < l.length := by omega
    have hrl := rk_lt hl hil
    have ei : wrap64 ((i : Int) + 1) = ((i + 1 : Nat) : Int) := w64_succ (by omega)
    simp only [if_pos (show (i : Int) < (l.length : Int) by omega), if_pos (show (0 : Int) ≤ (i : Int) by omega), rks_len, rd_rks hil]
    by_cases c : rk l i = 0
    · simp only [if_pos (show ((rk l i : Nat) : Int) = 0 by omega), ei]
      exact ih (i + 1) 0 out (by omega) hlen (fun j hj hr => ho j (by
        rcases Nat.lt_or_ge j i with q | q
        · exact q
        · exact absurd (show rk l j = 0 by rw [show j = i by omega]; exact c) hr) hr) (fun _ _ => Nat.zero_le _)
    · have ew : wrap64 (((rk l i : Nat) : Int) - 1) = ((rk l i - 1 : Nat) : Int) := w64_pred (by omega) (by omega)
      have el : ((endsOf l).length : Int) = (l.length : Int) := by rw [endsOf_eq, List.length_map, endsN_len]
      simp only [if_neg (show ¬ ((rk l i : Nat) : Int) = 0 by omega), ew, if_pos (show (0 : Int) ≤ ((rk l i - 1 : Nat) : Int) by omega), el, if_pos (show ((rk l i - 1 : Nat) : Int) < (l.length : Int) by omega), rd_ends (ahd_at hl hil c)]
      have hh' := hh hil c
      refine common_l2 hl hn out hlen i hil c (ahd l i) (endsN_lt (List.mem_of_getElem? (ahd_at hl hil c))) _ ?_ (cm l i (ahd l i) - h) h (by omega)
      refine ih (i + 1) (cm l i (ahd l i) - 1) _ (by omega) (by rw [List.length_set]; exact hlen) (fun j hj hr => ?_) (fun h1 h2 => ?_)
      · rw [set_toNat _ _ _ _ (by omega)]
        by_cases e : rk l i - 1 = rk l j - 1
        · rw [if_pos e, rk_inj hl hil (by omega) (by omega : rk l i = rk l j)]
        · rw [if_neg e]
          exact ho j (by
            rcases Nat.lt_or_ge j i with q | q
            · exact q
            · exact absurd (by rw [show j = i by omega]) e) hr
      · rcases kasai hl h1 c with q | q
        · exact q
        · exact absurd q h2
theorem common_l0 {l : List Int} (hl : isBytes l) (hn : l.length ≤ 60) (d : Nat) : ∀ (k0 : Nat) (t : List Int), k0 + d = l.length → t.length = l.length → (∀ k i, k < k0 → (endsN l)[k]? = some i → t[i]? = some (k : Int)) →
    Ev (fun k => ends_common.l0 k l (endsOf l) (List.replicate (l.length - 1) 0) t (endsOf l) (l.length : Int) (k0 : Int)) (commonOf l) := by
  have el : ((endsOf l).length : Int) = (l.length : Int) := by rw [endsOf_eq, List.length_map, endsN_len]
  induction d with
  | zero =>
    intro k0 t hk ht h
    refine Ev.step (fun k => ends_common.l0.eq_2 _ _ _ _ _ _ _ k) ?_
    simp only [if_neg (show ¬ (k0 : Int) < (l.length : Int) by omega)]
    have e : t = rks l := by
      unfold rks
      apply List.ext_getElem?
      intro i
      by_cases hi : i < l.length
      · rw [h (rk l i) i (by have := rk_lt hl hi; omega) (rk_at hl hi), List.getElem?_map, List.getElem?_range hi]; rfl
      · rw [List.getElem?_eq_none (by omega), List.getElem?_eq_none (by rw [List.length_map, List.length_range]; omega)]
    rw [e]
    exact common_l1 hl hn l.length 0 0 _ (by omega) (by simp) (fun j hj => by omega) (fun _ _ => Nat.zero_le _)
  | succ d ih =>
    intro k0 t hk ht h
    refine Ev.step (fun k => ends_common.l0.eq_2 _ _ _ _ _ _ _ k) ?_
    have hx : (endsN l)[k0]? = some ((endsN l)[k0]'(by rw [endsN_len]; omega)) := List.getElem?_eq_getElem _
    generalize (endsN l)[k0]'(by rw [endsN_len]; omega) = x at hx
    have hxl := endsN_lt (List.mem_of_getElem? hx)
    have ek : wrap64 ((k0 : Int) + 1) = ((k0 + 1 : Nat) : Int) := w64_succ (by omega)
    simp only [if_pos (show (k0 : Int) < (l.length : Int) by omega), if_pos (show (0 : Int) ≤ (k0 : Int) by omega), el, rd_ends hx, if_pos (show (0 : Int) ≤ (x : Int) by omega), if_pos (show (x : Int) < (t.length : Int) by omega), Int.toNat_natCast, ek]
    refine ih (k0 + 1) _ (by omega) (by rw [List.length_set]; exact ht) (fun k i hk hi => ?_)
    rw [set_toNat _ _ _ _ (by omega)]
    by_cases e : x = i
    · subst e
      rw [if_pos rfl]
      have := rk_of hl hx
      have := rk_of hl hi
      congr 1; omega
    · rw [if_neg e]
      exact h k i (by
        rcases Nat.lt_or_ge k k0 with q | q
        · exact q
        · rw [show k = k0 by omega, hx] at hi
          injection hi with hi
          exact absurd hi e) hi
theorem common_ev {l : List Int} (hl : isBytes l) (hn : l.length ≤ 60) : Ev (fun k => ends_common.f k l (endsOf l)) (commonOf l) := by
  unfold ends_common.f
  have el : ((endsOf l).length : Int) = (l.length : Int) := by rw [endsOf_eq, List.length_map, endsN_len]
  have em : mx (wrap64 ((l.length : Int) - 1)) 0 = ((l.length - 1 : Nat) : Int) := by rw [w64 (by omega) (by omega), mx_eq]; omega
  simp only [el, em, Int.toNat_natCast, if_pos (show (0 : Int) ≤ ((l.length - 1 : Nat) : Int) by omega), if_pos (show l.length - 1 ≤ 35184372088832 by omega), if_pos (show (0 : Int) ≤ (l.length : Int) by omega), if_pos (show l.length ≤ 35184372088832 by omega)]
  exact common_l0 hl hn l.length 0 _ (by omega) (by simp) (fun k i hk => by omega)

/-! ### the document's -/
theorem Alike_l0 (a b : List Int) (ha : a.length ≤ 60) (d : Nat) : ∀ h : Nat, h + d = lcp a b → Ev (fun k => coppicerref_Alike.l0 k a b (h : Int)) ((lcp a b : Nat) : Int) := by
  have hle := lcp_le a b
  induction d with
  | zero =>
    intro h hh
    refine Ev.step (fun k => coppicerref_Alike.l0.eq_2 _ _ _ k) ?_
    have hx := lcp_next a b h (by omega)
    have e0 : h = lcp a b := by omega
    by_cases c1 : (h : Int) < (a.length : Int)
    · by_cases c2 : (h : Int) < (b.length : Int)
      · have c3 : ¬ rd a (h : Int) = rd b (h : Int) := fun e => by
          have := hx.1 ⟨by omega, by omega, e⟩; omega
        simp only [if_pos c1, if_pos c2, if_pos (show (0 : Int) ≤ (h : Int) by omega), if_neg c3]
        exact Ev.val (by rw [e0])
      · simp only [if_pos c1, if_neg c2]; exact Ev.val (by rw [e0])
    · simp only [if_neg c1]; exact Ev.val (by rw [e0])
  | succ d ih =>
    intro h hh
    refine Ev.step (fun k => coppicerref_Alike.l0.eq_2 _ _ _ k) ?_
    have hx := (lcp_next a b h (by omega)).2 (by omega)
    have hx3 : rd a (h : Int) = rd b (h : Int) := hx.2.2
    have w3 : wrap64 ((h : Int) + 1) = ((h + 1 : Nat) : Int) := w64_succ (by omega)
    simp only [if_pos (show (h : Int) < (a.length : Int) by omega), if_pos (show (h : Int) < (b.length : Int) by omega), if_pos (show (0 : Int) ≤ (h : Int) by omega), if_pos hx3, w3]
    exact ih (h + 1) (by omega)
theorem Alike_ev (a b : List Int) (ha : a.length ≤ 60) : Ev (fun k => coppicerref_Alike.f k a b) ((lcp a b : Nat) : Int) := by
  unfold coppicerref_Alike.f
  exact Alike_l0 a b ha (lcp a b) 0 (by omega)
theorem lawCommons_l0 {l : List Int} (hl : isBytes l) (hn : l.length ≤ 60) (d : Nat) : ∀ (j : Nat), j + d = l.length → 1 ≤ j →
    Ev (fun k => coppicerlaw_EndsCommons.l0 k l (commonOf l) 0 ((commonOf l).take (j - 1)) (endsOf l) (j : Int)) true := by
  have el : ((endsOf l).length : Int) = (l.length : Int) := by rw [endsOf_eq, List.length_map, endsN_len]
  have hcl : (commonOf l).length = l.length - 1 := by simp [commonOf]
  induction d with
  | zero =>
    intro j hj h1
    refine Ev.step (fun k => coppicerlaw_EndsCommons.l0.eq_2 _ _ _ _ _ _ k) ?_
    simp only [el, if_neg (show ¬ (j : Int) < (l.length : Int) by omega), if_true]
    rw [List.take_of_length_le (by omega)]
    refine Ev.bind (Ints_ev _ _ (by omega)) ?_
    exact Ev.val (by simp)
  | succ d ih =>
    intro j hj h1
    refine Ev.step (fun k => coppicerlaw_EndsCommons.l0.eq_2 _ _ _ _ _ _ k) ?_
    have ej : wrap64 ((j : Int) - 1) = ((j - 1 : Nat) : Int) := w64_pred (by omega) (by omega)
    have ek : wrap64 ((j : Int) + 1) = ((j + 1 : Nat) : Int) := w64_succ (by omega)
    have c1 : (j : Int) < (l.length : Int) := by omega
    have c3 : ((j - 1 : Nat) : Int) < (l.length : Int) := by omega
    have ht : ((commonOf l).take (j - 1)).length < 17592186044416 := by rw [List.length_take]; omega
    have hth := ih (j + 1) (by omega) (by omega)
    rw [show j + 1 - 1 = (j - 1) + 1 by omega] at hth
    have hx : (endsN l)[j]? = some ((endsN l)[j]'(by rw [endsN_len]; omega)) := List.getElem?_eq_getElem _
    have hy : (endsN l)[j - 1]? = some ((endsN l)[j - 1]'(by rw [endsN_len]; omega)) := List.getElem?_eq_getElem _
    have hc : (commonOf l)[j - 1]? = some ((cm l ((endsN l)[j]'(by rw [endsN_len]; omega)) ((endsN l)[j - 1]'(by rw [endsN_len]; omega)) : Nat) : Int) := by
      unfold commonOf
      rw [List.getElem?_map, List.getElem?_range (by omega)]
      simp only [Option.map_some, List.getD_eq_getElem?_getD, show j - 1 + 1 = j by omega, hx, hy, Option.getD_some]
    generalize (endsN l)[j]'(by rw [endsN_len]; omega) = x at hx hc
    generalize (endsN l)[j - 1]'(by rw [endsN_len]; omega) = y at hy hc
    have hxl := endsN_lt (List.mem_of_getElem? hx)
    have hyl := endsN_lt (List.mem_of_getElem? hy)
    have c5 : (y : Int) ≤ (l.length : Int) := Int.ofNat_le.2 (Nat.le_of_lt hyl)
    have c8 : (x : Int) ≤ (l.length : Int) := Int.ofNat_le.2 (Nat.le_of_lt hxl)
    simp only [el, ej, ek, rd_ends hx, rd_ends hy, if_pos c1, if_pos (Int.natCast_nonneg (j - 1)), if_pos c3, if_pos (Int.natCast_nonneg y), if_pos c5, if_pos (Int.natCast_nonneg j), if_pos (Int.natCast_nonneg x), if_pos c8, Int.toNat_natCast]
    refine Ev.bind (Alike_ev _ _ (by rw [List.length_drop]; exact Nat.le_trans (Nat.sub_le _ _) hn)) ?_
    simp only [if_pos ht]
    rw [List.take_add_one, hc] at hth
    have e : lcp (l.drop y) (l.drop x) = cm l x y := lcp_comm _ _
    rw [e]
    exact hth
theorem EndsCommons : coppicerlaw_EndsCommons.Pure := by
  unfold coppicerlaw_EndsCommons.Pure
  intro l _ _ hw
  have hl : isBytes l := fun x hx => wf_u8 (hw x hx)
  apply Ev.rounds
  unfold coppicerlaw_EndsCommons.f ends_Common.f
  by_cases c : (l.length : Int) > 60
  · simp only [if_pos c, Option.bind_some, if_true, List.length_nil]
    exact Ev.val (by simp)
  · have hn : l.length ≤ 60 := by omega
    unfold ends_order.f
    simp only [if_neg c, if_pos (show l.length ≤ 1000000 by omega), Option.bind_some]
    refine Ev.bind (Ev.bind (common_ev hl hn) (Ev.now _)) ?_
    refine Ev.bind (Ordered_ev l hl hn) ?_
    by_cases h0 : l.length = 0
    · have e1 : commonOf l = [] := by simp [commonOf, h0]
      have e2 : (endsOf l).length = 0 := by rw [endsOf_eq, List.length_map, endsN_len]; exact h0
      refine Ev.step (fun k => coppicerlaw_EndsCommons.l0.eq_2 _ _ _ _ _ _ k) ?_
      simp only [e2, if_neg (show ¬ (1 : Int) < ((0 : Nat) : Int) by decide), if_true]
      refine Ev.bind (Ints_ev _ _ (by rw [e1]; simp)) ?_
      exact Ev.val (by simp [e1])
    · have := lawCommons_l0 hl hn (l.length - 1) 1 (by omega) (by omega)
      simpa using this

end Go.Proofs.Ytpcphfbjnaikhaa.Pure
