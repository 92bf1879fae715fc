/- The law EndsOrders as a statement over numbers and lists alone: it holds under the bounds that the statement names. -/
import Derived.Test.YtpcphfbjnaikhaaPEndsOrdersx2
set_option linter.unusedVariables false
set_option linter.unusedSimpArgs false
set_option linter.unusedSectionVars false
namespace Go.Proofs.Ytpcphfbjnaikhaa.Pure
open Go.RowKit Go.Proofs.Ytpcphfbjnaikhaa.PEndsOrders Go.Proofs.YtpcphfbjnaikhaaW.PrintWords Go.Proofs.YtpcphfbjnaikhaaW.PrintLast Go.Proofs.YtpcphfbjnaikhaaW.PrintMore

/-! ### base: words for every pure text -/
theorem w64 {x : Int} (h0 : -9223372036854775808 ≤ x) (h1 : x ≤ 9223372036854775807) : wrap64 x = x := by unfold wrap64; omega
theorem Ev.pos {α : Type} {c : Prop} [Decidable c] {g f : Nat → Option α} {r : α} (h : c) (e : Ev g r) : Ev (fun k => if c then g k else f k) r := Ev.congr (fun k => by rw [if_pos h]) e
theorem Ev.neg {α : Type} {c : Prop} [Decidable c] {g f : Nat → Option α} {r : α} (h : ¬ c) (e : Ev f r) : Ev (fun k => if c then g k else f k) r := Ev.congr (fun k => by rw [if_neg h]) e
theorem Ev.val {α : Type} {r q : α} (h : r = q) : Ev (fun _ => some r) q := by subst h; exact Ev.now r
theorem rd_getElem {l : List Int} {i : Int} (h1 : i.toNat < l.length) : rd l i = l[i.toNat] := by simp [rd, List.getD_eq_getElem?_getD, List.getElem?_eq_getElem h1]
theorem drop_rd {l : List Int} {i : Int} (h0 : 0 ≤ i) (h1 : i < l.length) : l.drop i.toNat = rd l i :: l.drop (i + 1).toNat := by
  have h : i.toNat < l.length := by omega
  rw [rd_getElem h, List.drop_eq_getElem_cons h]; congr 2; omega
theorem take_rd {l : List Int} {i : Int} (h0 : 0 ≤ i) (h1 : i < l.length) : l.take (i + 1).toNat = l.take i.toNat ++ [rd l i] := by
  have h : i.toNat < l.length := by omega
  have e : (i + 1).toNat = i.toNat + 1 := by omega
  rw [rd_getElem h, e, List.take_succ_eq_append_getElem h]
theorem rd_drop (l : List Int) (n : Nat) (i : Int) (h0 : 0 ≤ i) : rd (l.drop n) i = rd l (i + n) := by
  have e : (i + n).toNat = n + i.toNat := by omega
  simp only [rd, List.getD_eq_getElem?_getD, List.getElem?_drop, e]
theorem rd_take (l : List Int) (n : Nat) (i : Int) (h0 : 0 ≤ i) (h1 : i < n) : rd (l.take n) i = rd l i := by
  simp only [rd, List.getD_eq_getElem?_getD]; rw [List.getElem?_take_of_lt (by omega)]
theorem drop_all {α : Type} (l : List α) (n : Nat) (h : l.length ≤ n) : l.drop n = [] := List.drop_eq_nil_of_le h
theorem dec_ne {a b : Int} {l m : List Int} (h : a ≠ b) : decide (a :: l = b :: m) = false := decide_eq_false (fun q => h (List.cons.inj q).1)
theorem Ev.no {p : Prop} [Decidable p] (h : ¬ p) : Ev (fun _ => some false) (decide p) := Ev.val (decide_eq_false h).symm
theorem Ev.yes {p : Prop} [Decidable p] (h : p) : Ev (fun _ => some true) (decide p) := Ev.val (decide_eq_true h).symm
theorem ext_rd {a b : List Int} (hl : a.length = b.length) (h : ∀ i : Int, 0 ≤ i → i < a.length → rd a i = rd b i) : a = b := by
  apply List.ext_getElem hl
  intro i h1 h2
  have := h i (by omega) (by omega)
  rwa [rd_getElem (by simpa using h1), rd_getElem (by simpa using h2)] at this
theorem wf_u8 {x : Int} (h : (Lit.int .u8 x).wf = true) : 0 ≤ x ∧ x ≤ 255 := by simpa [Lit.wf, IntKind.min, IntKind.max, IntKind.signed, IntKind.bits] using h
theorem wf_u32 {x : Int} (h : (Lit.int .u32 x).wf = true) : 0 ≤ x ∧ x ≤ 4294967295 := by simpa [Lit.wf, IntKind.min, IntKind.max, IntKind.signed, IntKind.bits] using h
theorem wf_i64 {x : Int} (h : (Lit.int .i64 x).wf = true) : -9223372036854775808 ≤ x ∧ x ≤ 9223372036854775807 := by simpa [Lit.wf, IntKind.min, IntKind.max, IntKind.signed, IntKind.bits] using h
theorem rd_mem {l : List Int} {i : Int} (h0 : 0 ≤ i) (h1 : i < l.length) : rd l i ∈ l := by
  rw [rd_getElem (by omega)]; exact List.getElem_mem _
theorem rd_u8 {l : List Int} (hw : ∀ x ∈ l, (Lit.int .u8 x).wf = true) {i : Int} (h0 : 0 ≤ i) (h1 : i < l.length) : 0 ≤ rd l i ∧ rd l i ≤ 255 := wf_u8 (hw _ (rd_mem h0 h1))
theorem tm {a b : Int} (h : 0 ≤ a) : Int.tmod a b = a % b := Int.tmod_eq_emod_of_nonneg h
theorem td {a b : Int} (h : 0 ≤ a) : Int.tdiv a b = a / b := Int.tdiv_eq_ediv_of_nonneg h

/-! ### coppicerref_Ints -/
theorem Ints_l0 (a b : List Int) (hl : a.length = b.length) (hb : (a.length : Int) ≤ 4611686018427387904) (d : Nat) : ∀ i : Int, 0 ≤ i → i + d = a.length → Ev (fun k => coppicerref_Ints.l0 k a b i) (decide (a.drop i.toNat = b.drop i.toNat)) := by
  induction d with
  | zero =>
    intro i h0 hd
    refine Ev.step (fun k => coppicerref_Ints.l0.eq_2 _ _ _ k) ?_
    simp (disch := omega) only [if_pos, if_neg]
    exact Ev.val (by rw [List.drop_eq_nil_of_le (by omega), List.drop_eq_nil_of_le (by omega)]; simp)
  | succ d ih =>
    intro i h0 hd
    refine Ev.step (fun k => coppicerref_Ints.l0.eq_2 _ _ _ k) ?_
    simp (disch := omega) only [if_pos, w64]
    rw [drop_rd h0 (by omega), drop_rd (l := b) h0 (by omega)]
    by_cases h : rd a i = rd b i
    · simp only [if_pos h]
      exact Ev.congr (fun _ => rfl) (by simpa [h] using ih (i + 1) (by omega) (by omega))
    · simp only [if_neg h]
      exact Ev.val (by simp [h])
theorem Ints_ev (a b : List Int) (hb : (a.length : Int) ≤ 4611686018427387904) : Ev (fun k => coppicerref_Ints.f k a b) (decide (a = b)) := by
  unfold coppicerref_Ints.f
  by_cases hl : a.length = b.length
  · simp (disch := omega) only [if_pos]
    simpa using Ints_l0 a b hl hb a.length 0 (by omega) (by omega)
  · simp (disch := omega) only [if_neg]
    exact Ev.val (by simp; intro h; exact hl (by rw [h]))

/-! ### coppicerref_Less -/
def lx : List Int → List Int → Bool
  | _, [] => false
  | [], _ :: _ => true
  | a :: x, b :: y => if a = b then lx x y else decide (a < b)
theorem lx_nil (a : List Int) : lx a [] = false := by cases a <;> rfl
theorem lx_cons (a b : Int) (x y : List Int) : lx (a :: x) (b :: y) = if a = b then lx x y else decide (a < b) := rfl
theorem lx_nil_cons (b : Int) (y : List Int) : lx [] (b :: y) = true := rfl
theorem Less_l0 (a b : List Int) (ha : a.length ≤ 4611686018427387904) (d : Nat) : ∀ i : Int, 0 ≤ i → i + d = a.length → i ≤ b.length → Ev (fun k => coppicerref_Less.l0 k a b i) (lx (a.drop i.toNat) (b.drop i.toNat)) := by
  induction d with
  | zero =>
    intro i h0 hd hb
    refine Ev.step (fun k => coppicerref_Less.l0.eq_2 _ _ _ k) ?_
    simp (disch := omega) only [if_neg]
    refine Ev.step (fun k => coppicerref_Less.j1.eq_2 _ _ _ _ k) ?_
    simp only [Bool.false_eq_true, if_false]
    refine Ev.val ?_
    rw [drop_all a _ (by omega)]
    by_cases q : i < b.length
    · rw [drop_rd h0 q, lx_nil_cons]; simp; omega
    · rw [drop_all b _ (by omega), lx_nil]; simp; omega
  | succ d ih =>
    intro i h0 hd hb
    refine Ev.step (fun k => coppicerref_Less.l0.eq_2 _ _ _ k) ?_
    simp (disch := omega) only [if_pos (show i < (a.length : Int) by omega)]
    refine Ev.step (fun k => coppicerref_Less.j1.eq_2 _ _ _ _ k) ?_
    by_cases q : i < b.length
    · simp (disch := omega) only [decide_eq_true_eq, if_pos q, if_pos h0, if_pos (show i < (a.length : Int) by omega), w64]
      rw [drop_rd h0 (by omega), drop_rd (l := b) h0 q, lx_cons]
      by_cases e : rd a i = rd b i
      · simp only [if_pos e]; exact ih (i + 1) (by omega) (by omega) (by omega)
      · simp only [if_neg e]; exact Ev.now _
    · simp (disch := omega) only [decide_eq_true_eq, if_neg q]
      rw [drop_rd h0 (by omega), drop_all b _ (by omega), lx_nil]
      exact Ev.val (by simp; omega)
theorem Less_ev (a b : List Int) (ha : a.length ≤ 4611686018427387904) : Ev (fun k => coppicerref_Less.f k a b) (lx a b) := by
  unfold coppicerref_Less.f
  simpa using Less_l0 a b ha a.length 0 (by omega) (by omega) (by omega)

/-! ### bytes.Compare -/
theorem cmp_lx : ∀ (a b : List Int), (∀ x ∈ a, 0 ≤ x ∧ x ≤ 255) → (∀ x ∈ b, 0 ≤ x ∧ x ≤ 255) → (Lib.compareBytes (Lib.bytesOf a) (Lib.bytesOf b) < 0 ↔ lx a b = true)
  | [], [], _, _ => by simp [Lib.bytesOf, Lib.compareBytes, lx]
  | [], _ :: _, _, _ => by simp [Lib.bytesOf, Lib.compareBytes, lx]
  | _ :: _, [], _, _ => by simp [Lib.bytesOf, Lib.compareBytes, lx]
  | x :: a, y :: b, ha, hb => by
    have h1 := ha x (by simp)
    have h2 := hb y (by simp)
    have ih := cmp_lx a b (fun z hz => ha z (by simp [hz])) (fun z hz => hb z (by simp [hz]))
    have n1 : (UInt8.ofNat x.toNat).toNat = x.toNat := by simp only [UInt8.toNat_ofNat']; omega
    have n2 : (UInt8.ofNat y.toNat).toNat = y.toNat := by simp only [UInt8.toNat_ofNat']; omega
    have e : Lib.compareBytes (Lib.bytesOf (x :: a)) (Lib.bytesOf (y :: b)) = if UInt8.ofNat x.toNat < UInt8.ofNat y.toNat then -1 else if UInt8.ofNat y.toNat < UInt8.ofNat x.toNat then 1 else Lib.compareBytes (Lib.bytesOf a) (Lib.bytesOf b) := rfl
    rw [e, lx_cons]
    have l1 : (UInt8.ofNat x.toNat < UInt8.ofNat y.toNat) ↔ x < y := by rw [UInt8.lt_iff_toNat_lt, n1, n2]; omega
    have l2 : (UInt8.ofNat y.toNat < UInt8.ofNat x.toNat) ↔ y < x := by rw [UInt8.lt_iff_toNat_lt, n1, n2]; omega
    by_cases q : x = y
    · subst q; simp only [l1, Int.lt_irrefl, if_false, if_true]; exact ih
    · by_cases p : x < y
      · simp [l1, l2, q, p]
      · have p' : y < x := by omega
        simp [l1, l2, q, p, p']

/-! ### all ends of a word, in order -/
theorem lx_self : ∀ a : List Int, lx a a = false
  | [] => rfl
  | x :: a => by rw [lx_cons, if_pos rfl]; exact lx_self a
theorem lx_total : ∀ a b : List Int, lx a b = false → lx b a = false → a = b
  | [], [], _, _ => rfl
  | [], _ :: _, h, _ => by simp [lx] at h
  | _ :: _, [], _, h => by simp [lx] at h
  | x :: a, y :: b, h1, h2 => by
    rw [lx_cons] at h1 h2
    by_cases e : x = y
    · subst e
      rw [if_pos rfl] at h1 h2
      rw [lx_total a b h1 h2]
    · rw [if_neg e] at h1
      rw [if_neg (fun q => e q.symm)] at h2
      simp at h1 h2
      omega
theorem lx_trans : ∀ a b c : List Int, lx a b = true → lx b c = true → lx a c = true
  | _, [], _, h1, _ => by rw [lx_nil] at h1; cases h1
  | _, _ :: _, [], _, h2 => by rw [lx_nil] at h2; cases h2
  | [], _ :: _, _ :: _, _, _ => rfl
  | x :: a, y :: b, z :: c, h1, h2 => by
    rw [lx_cons] at h1 h2 ⊢
    by_cases e1 : x = y
    · subst e1
      rw [if_pos rfl] at h1
      by_cases e2 : x = z
      · rw [if_pos e2] at h2 ⊢; exact lx_trans a b c h1 h2
      · rw [if_neg e2] at h2 ⊢; exact h2
    · rw [if_neg e1] at h1
      simp at h1
      by_cases e2 : y = z
      · subst e2
        rw [if_neg e1]; simpa using h1
      · rw [if_neg e2] at h2
        simp at h2
        rw [if_neg (by omega)]; simp; omega
theorem lx_asymm {a b : List Int} (h : lx a b = true) : lx b a = false := by
  cases h2 : lx b a with
  | false => rfl
  | true => have := lx_trans a b a h h2; rw [lx_self] at this; cases this
/-- The ends, as places. -/
def endsN (l : List Int) : List Nat := ((List.finRange l.length).mergeSort fun x y => !decide (cmpE l y.val x.val < 0)).map fun i => i.val
theorem endsOf_eq (l : List Int) : endsOf l = (endsN l).map fun i : Nat => (i : Int) := by
  unfold endsOf endsN
  rw [List.map_map]; rfl
def isBytes (l : List Int) : Prop := ∀ x ∈ l, 0 ≤ x ∧ x ≤ 255
theorem cmpE_lx {l : List Int} (hl : isBytes l) (x y : Nat) : cmpE l x y < 0 ↔ lx (l.drop x) (l.drop y) = true :=
  cmp_lx _ _ (fun z hz => hl z (List.mem_of_mem_drop hz)) (fun z hz => hl z (List.mem_of_mem_drop hz))
theorem endsN_perm (l : List Int) : (endsN l).Perm (List.range l.length) := by
  unfold endsN
  have h := (List.mergeSort_perm (List.finRange l.length) fun x y => !decide (cmpE l y.val x.val < 0)).map fun i => i.val
  refine h.trans ?_
  have e : (List.finRange l.length).map (fun i => i.val) = List.range l.length := by
    apply List.ext_getElem
    · simp
    · intro i h1 h2; simp
  rw [e]
theorem endsN_len (l : List Int) : (endsN l).length = l.length := by rw [(endsN_perm l).length_eq, List.length_range]
theorem endsN_lt {l : List Int} {i : Nat} (h : i ∈ endsN l) : i < l.length := List.mem_range.1 ((endsN_perm l).mem_iff.1 h)
theorem endsN_mem {l : List Int} {i : Nat} (h : i < l.length) : i ∈ endsN l := (endsN_perm l).mem_iff.2 (List.mem_range.2 h)
theorem drop_inj {l : List Int} {i j : Nat} (hi : i ≤ l.length) (hj : j ≤ l.length) (h : l.drop i = l.drop j) : i = j := by
  have := congrArg List.length h
  rw [List.length_drop, List.length_drop] at this
  omega
theorem endsN_sorted {l : List Int} (hl : isBytes l) : (endsN l).Pairwise fun x y => lx (l.drop x) (l.drop y) = true := by
  have h1 : ((List.finRange l.length).mergeSort fun x y => !decide (cmpE l y.val x.val < 0)).Pairwise fun x y => (!decide (cmpE l y.val x.val < 0)) = true := by
    refine List.pairwise_mergeSort ?_ ?_ _
    · intro a b c hab hbc
      simp only [Bool.not_eq_true', decide_eq_false_iff_not, cmpE_lx hl, Bool.not_eq_true] at hab hbc ⊢
      cases hca : lx (l.drop c.val) (l.drop a.val) with
      | false => rfl
      | true =>
        cases hba : lx (l.drop a.val) (l.drop b.val) with
        | true => rw [lx_trans _ _ _ hca hba] at hbc; cases hbc
        | false => rw [lx_total _ _ hba hab] at hca; rw [hca] at hbc; cases hbc
    · intro a b
      simp only [Bool.or_eq_true, Bool.not_eq_true', decide_eq_false_iff_not, cmpE_lx hl, Bool.not_eq_true]
      cases h : lx (l.drop b.val) (l.drop a.val) with
      | false => exact .inl rfl
      | true => exact .inr (lx_asymm h)
  have h2 : (endsN l).Nodup := (endsN_perm l).nodup_iff.2 List.nodup_range
  have h3 : (endsN l).Pairwise fun x y => lx (l.drop y) (l.drop x) = false := by
    unfold endsN
    rw [List.pairwise_map]
    refine h1.imp ?_
    intro a b h
    simpa only [Bool.not_eq_true', decide_eq_false_iff_not, cmpE_lx hl, Bool.not_eq_true] using h
  refine ((List.pairwise_and_iff.2 ⟨h2, h3⟩).imp_of_mem ?_)
  intro a b ha hb ⟨hne, hba⟩
  cases hab : lx (l.drop a) (l.drop b) with
  | true => rfl
  | false => exact absurd (drop_inj (by have := endsN_lt ha; omega) (by have := endsN_lt hb; omega) (lx_total _ _ hab hba)) hne
theorem countP_sorted {α : Type} (R : α → α → Bool) (irr : ∀ x, R x x = false) (asy : ∀ x y, R x y = true → R y x = false) : ∀ (S : List α), S.Pairwise (fun x y => R x y = true) → ∀ (k : Nat) (x : α), S[k]? = some x → S.countP (fun y => R y x) = k
  | [], _, _, _, h => by simp at h
  | a :: S, hp, 0, x, h => by
    simp at h
    subst h
    have hp := List.pairwise_cons.1 hp
    rw [List.countP_cons_of_neg (by simp [irr])]
    exact List.countP_eq_zero.2 (fun y hy => by simp [asy _ _ (hp.1 y hy)])
  | a :: S, hp, k + 1, x, h => by
    have hp := List.pairwise_cons.1 hp
    have h' : S[k]? = some x := by simpa using h
    rw [List.countP_cons_of_pos (p := fun y => R y x) (hp.1 x (List.mem_of_getElem? h')), countP_sorted R irr asy S hp.2 k x h']
/-- How many ends are less. -/
def rk (l : List Int) (i : Nat) : Nat := (List.range l.length).countP fun j => lx (l.drop j) (l.drop i)
theorem rk_of {l : List Int} (hl : isBytes l) {k i : Nat} (h : (endsN l)[k]? = some i) : rk l i = k := by
  unfold rk
  rw [← (endsN_perm l).countP_eq]
  exact countP_sorted (fun x y => lx (l.drop x) (l.drop y)) (fun x => lx_self _) (fun x y h => lx_asymm h) _ (endsN_sorted hl) k i h
theorem rk_at {l : List Int} (hl : isBytes l) {i : Nat} (h : i < l.length) : (endsN l)[rk l i]? = some i := by
  obtain ⟨k, hk⟩ := List.mem_iff_getElem?.1 (endsN_mem h)
  rw [rk_of hl hk]; exact hk
theorem rk_lt {l : List Int} (hl : isBytes l) {i : Nat} (h : i < l.length) : rk l i < l.length := by
  have := (List.getElem?_eq_some_iff.1 (rk_at hl h)).1
  rw [endsN_len] at this; exact this
theorem rk_inj {l : List Int} (hl : isBytes l) {i j : Nat} (hi : i < l.length) (hj : j < l.length) (h : rk l i = rk l j) : i = j := by
  have h1 := rk_at hl hi
  rw [h, rk_at hl hj] at h1
  injection h1 with h1; exact h1.symm
/-! ### coppicerref.Ordered -/
theorem set_toNat (t : List Int) (k : Nat) (v : Int) (j : Nat) (hk : k < t.length) : (t.set k v)[j]? = if k = j then some v else t[j]? := by
  rw [List.getElem?_set]
  by_cases e : k = j
  · subst e; simp [hk]
  · simp [e]
theorem Ordered_l1 (l : List Int) (hn : l.length ≤ 60) (t : List Int) (i : Nat) (hi : i < l.length) (R : List Int) (h : Ev (fun k => coppicerref_Ordered.l0 k l (t.set (rk l i) (i : Int)) (wrap64 ((i : Int) + 1))) R) (ht : rk l i < t.length) (d : Nat) : ∀ j : Nat, j + d = l.length →
    Ev (fun k => coppicerref_Ordered.l1 k l t (i : Int) (((List.range j).countP fun j => lx (l.drop j) (l.drop i) : Nat) : Int) (j : Int)) R := by
  induction d with
  | zero =>
    intro j hj
    refine Ev.step (fun k => coppicerref_Ordered.l1.eq_2 _ _ _ _ _ k) ?_
    have e : j = l.length := by omega
    subst e
    simp only [if_neg (show ¬ (l.length : Int) < (l.length : Int) by omega)]
    have : (List.range l.length).countP (fun j => lx (l.drop j) (l.drop i)) = rk l i := rfl
    rw [this]
    simp only [if_pos (show (0 : Int) ≤ (rk l i : Int) by omega), if_pos (show (rk l i : Int) < (t.length : Int) by omega), Int.toNat_natCast]
    exact h
  | succ d ih =>
    intro j hj
    refine Ev.step (fun k => coppicerref_Ordered.l1.eq_2 _ _ _ _ _ k) ?_
    have hc : (List.range j).countP (fun j => lx (l.drop j) (l.drop i)) ≤ j := by
      have := List.countP_le_length (p := fun j => lx (l.drop j) (l.drop i)) (l := List.range j)
      rwa [List.length_range] at this
    simp (disch := omega) only [if_pos (show (j : Int) < (l.length : Int) by omega), if_pos (show (0 : Int) ≤ (j : Int) by omega), if_pos (show (j : Int) ≤ (l.length : Int) by omega), if_pos (show (0 : Int) ≤ (i : Int) by omega), if_pos (show (i : Int) ≤ (l.length : Int) by omega), Int.toNat_natCast, w64]
    refine Ev.bind (Less_ev _ _ (by rw [List.length_drop]; omega)) ?_
    have := ih (j + 1) (by omega)
    rw [List.range_succ, List.countP_append] at this
    cases hx : lx (l.drop j) (l.drop i) with
    | true =>
      simp only [if_true]
      refine Ev.congr (fun k => ?_) this
      simp [hx]
    | false =>
      simp only [Bool.false_eq_true, if_false]
      refine Ev.congr (fun k => ?_) this
      simp [hx]
theorem Ordered_l0 (l : List Int) (hl : isBytes l) (hn : l.length ≤ 60) (d : Nat) : ∀ (i : Nat) (t : List Int), i + d = l.length → t.length = l.length → (∀ j, j < i → t[rk l j]? = some (j : Int)) →
    Ev (fun k => coppicerref_Ordered.l0 k l t (i : Int)) (endsOf l) := by
  induction d with
  | zero =>
    intro i t hi ht h
    refine Ev.step (fun k => coppicerref_Ordered.l0.eq_2 _ _ _ k) ?_
    simp only [if_neg (show ¬ (i : Int) < (l.length : Int) by omega)]
    refine Ev.val ?_
    rw [endsOf_eq]
    apply List.ext_getElem?
    intro k
    by_cases hk : k < l.length
    · have hx : (endsN l)[k]? = some ((endsN l)[k]'(by rw [endsN_len]; exact hk)) := List.getElem?_eq_getElem _
      generalize (endsN l)[k]'(by rw [endsN_len]; exact hk) = x at hx
      have hxl := endsN_lt (List.mem_of_getElem? hx)
      have := h x (by omega)
      rw [rk_of hl hx] at this
      rw [this, List.getElem?_map, hx]; rfl
    · rw [List.getElem?_eq_none (by omega), List.getElem?_eq_none (by rw [List.length_map, endsN_len]; omega)]
  | succ d ih =>
    intro i t hi ht h
    refine Ev.step (fun k => coppicerref_Ordered.l0.eq_2 _ _ _ k) ?_
    simp only [if_pos (show (i : Int) < (l.length : Int) by omega)]
    have hr := rk_lt hl (show i < l.length by omega)
    have := Ordered_l1 l hn t i (by omega) (endsOf l) ?_ (by omega) l.length 0 (by omega)
    · exact this
    · rw [w64 (by omega) (by omega)]
      refine Ev.congr (fun k => ?_) (ih (i + 1) (t.set (rk l i) (i : Int)) (by omega) (by rw [List.length_set]; exact ht) (fun j hj => ?_))
      · rfl
      · rw [set_toNat _ _ _ _ (by omega)]
        by_cases e : rk l i = rk l j
        · rw [if_pos e, rk_inj hl (by omega) (by omega) e]
        · rw [if_neg e]
          exact h j (by
            rcases Nat.lt_or_ge j i with q | q
            · exact q
            · exact absurd (by rw [show j = i by omega]) e)
theorem Ordered_ev (l : List Int) (hl : isBytes l) (hn : l.length ≤ 60) : Ev (fun k => coppicerref_Ordered.f k l) (endsOf l) := by
  unfold coppicerref_Ordered.f
  simp only [if_pos (show (0 : Int) ≤ (l.length : Int) by omega), if_pos (show ((l.length : Int)).toNat ≤ 35184372088832 by omega)]
  exact Ordered_l0 l hl hn l.length 0 _ (by omega) (by simp) (fun j hj => by omega)

theorem EndsOrders : coppicerlaw_EndsOrders.Pure := by
  unfold coppicerlaw_EndsOrders.Pure
  intro l _ _ hw
  have hl : isBytes l := fun x hx => wf_u8 (hw x hx)
  apply Ev.rounds
  unfold coppicerlaw_EndsOrders.f ends_Order.f
  by_cases c : (l.length : Int) > 60
  · simp only [if_pos c, Option.bind_some, if_true, List.length_nil]
    exact Ev.val (by simp)
  · have hn : l.length ≤ 60 := by omega
    unfold ends_order.f
    simp only [if_neg c, if_pos (show l.length ≤ 1000000 by omega), Option.bind_some, if_true]
    refine Ev.bind (Ordered_ev l hl hn) ?_
    refine Ev.bind (Ints_ev _ _ ?_) ?_
    · rw [endsOf_eq, List.length_map, endsN_len]; omega
    · exact Ev.val (by simp)

end Go.Proofs.Ytpcphfbjnaikhaa.Pure
