/- The law EndsCounts as a statement over numbers and lists alone: it holds under the bounds that the statement names. -/
import Derived.Test.YtpcphfbjnaikhaaPEndsCountsx2
set_option linter.unusedVariables false
set_option linter.unusedSimpArgs false
set_option linter.unusedSectionVars false
namespace Go.Proofs.Ytpcphfbjnaikhaa.Pure
open Go.RowKit Go.Proofs.Ytpcphfbjnaikhaa.PEndsCounts Go.Proofs.YtpcphfbjnaikhaaW.PrintWords Go.Proofs.YtpcphfbjnaikhaaW.PrintLast Go.Proofs.YtpcphfbjnaikhaaW.PrintMore

/-! ### base: words for every pure text -/
theorem w64 {x : Int} (h0 : -9223372036854775808 ≤ x) (h1 : x ≤ 9223372036854775807) : wrap64 x = x := by unfold wrap64; omega
theorem Ev.pos {α : Type} {c : Prop} [Decidable c] {g f : Nat → Option α} {r : α} (h : c) (e : Ev g r) : Ev (fun k => if c then g k else f k) r := Ev.congr (fun k => by rw [if_pos h]) e
theorem Ev.neg {α : Type} {c : Prop} [Decidable c] {g f : Nat → Option α} {r : α} (h : ¬ c) (e : Ev f r) : Ev (fun k => if c then g k else f k) r := Ev.congr (fun k => by rw [if_neg h]) e
theorem Ev.val {α : Type} {r q : α} (h : r = q) : Ev (fun _ => some r) q := by subst h; exact Ev.now r
theorem rd_getElem {l : List Int} {i : Int} (h1 : i.toNat < l.length) : rd l i = l[i.toNat] := by simp [rd, List.getD_eq_getElem?_getD, List.getElem?_eq_getElem h1]
theorem drop_rd {l : List Int} {i : Int} (h0 : 0 ≤ i) (h1 : i < l.length) : l.drop i.toNat = rd l i :: l.drop (i + 1).toNat := by
  have h : i.toNat < l.length := by omega
  rw [rd_getElem h, List.drop_eq_getElem_cons h]; congr 2; omega
theorem take_rd {l : List Int} {i : Int} (h0 : 0 ≤ i) (h1 : i < l.length) : l.take (i + 1).toNat = l.take i.toNat ++ [rd l i] := by
  have h : i.toNat < l.length := by omega
  have e : (i + 1).toNat = i.toNat + 1 := by omega
  rw [rd_getElem h, e, List.take_succ_eq_append_getElem h]
theorem rd_drop (l : List Int) (n : Nat) (i : Int) (h0 : 0 ≤ i) : rd (l.drop n) i = rd l (i + n) := by
  have e : (i + n).toNat = n + i.toNat := by omega
  simp only [rd, List.getD_eq_getElem?_getD, List.getElem?_drop, e]
theorem rd_take (l : List Int) (n : Nat) (i : Int) (h0 : 0 ≤ i) (h1 : i < n) : rd (l.take n) i = rd l i := by
  simp only [rd, List.getD_eq_getElem?_getD]; rw [List.getElem?_take_of_lt (by omega)]
theorem drop_all {α : Type} (l : List α) (n : Nat) (h : l.length ≤ n) : l.drop n = [] := List.drop_eq_nil_of_le h
theorem dec_ne {a b : Int} {l m : List Int} (h : a ≠ b) : decide (a :: l = b :: m) = false := decide_eq_false (fun q => h (List.cons.inj q).1)
theorem Ev.no {p : Prop} [Decidable p] (h : ¬ p) : Ev (fun _ => some false) (decide p) := Ev.val (decide_eq_false h).symm
theorem Ev.yes {p : Prop} [Decidable p] (h : p) : Ev (fun _ => some true) (decide p) := Ev.val (decide_eq_true h).symm
theorem ext_rd {a b : List Int} (hl : a.length = b.length) (h : ∀ i : Int, 0 ≤ i → i < a.length → rd a i = rd b i) : a = b := by
  apply List.ext_getElem hl
  intro i h1 h2
  have := h i (by omega) (by omega)
  rwa [rd_getElem (by simpa using h1), rd_getElem (by simpa using h2)] at this
theorem wf_u8 {x : Int} (h : (Lit.int .u8 x).wf = true) : 0 ≤ x ∧ x ≤ 255 := by simpa [Lit.wf, IntKind.min, IntKind.max, IntKind.signed, IntKind.bits] using h
theorem wf_u32 {x : Int} (h : (Lit.int .u32 x).wf = true) : 0 ≤ x ∧ x ≤ 4294967295 := by simpa [Lit.wf, IntKind.min, IntKind.max, IntKind.signed, IntKind.bits] using h
theorem wf_i64 {x : Int} (h : (Lit.int .i64 x).wf = true) : -9223372036854775808 ≤ x ∧ x ≤ 9223372036854775807 := by simpa [Lit.wf, IntKind.min, IntKind.max, IntKind.signed, IntKind.bits] using h
theorem rd_mem {l : List Int} {i : Int} (h0 : 0 ≤ i) (h1 : i < l.length) : rd l i ∈ l := by
  rw [rd_getElem (by omega)]; exact List.getElem_mem _
theorem rd_u8 {l : List Int} (hw : ∀ x ∈ l, (Lit.int .u8 x).wf = true) {i : Int} (h0 : 0 ≤ i) (h1 : i < l.length) : 0 ≤ rd l i ∧ rd l i ≤ 255 := wf_u8 (hw _ (rd_mem h0 h1))
theorem tm {a b : Int} (h : 0 ≤ a) : Int.tmod a b = a % b := Int.tmod_eq_emod_of_nonneg h
theorem td {a b : Int} (h : 0 ≤ a) : Int.tdiv a b = a / b := Int.tdiv_eq_ediv_of_nonneg h

/-! ### coppicerref_Bytes -/
theorem Bytes_l0 (a b : List Int) (hl : a.length = b.length) (hb : (a.length : Int) ≤ 4611686018427387904) (d : Nat) : ∀ i : Int, 0 ≤ i → i + d = a.length → Ev (fun k => coppicerref_Bytes.l0 k a b i) (decide (a.drop i.toNat = b.drop i.toNat)) := by
  induction d with
  | zero =>
    intro i h0 hd
    refine Ev.step (fun k => coppicerref_Bytes.l0.eq_2 _ _ _ k) ?_
    simp (disch := omega) only [if_pos, if_neg]
    exact Ev.val (by rw [List.drop_eq_nil_of_le (by omega), List.drop_eq_nil_of_le (by omega)]; simp)
  | succ d ih =>
    intro i h0 hd
    refine Ev.step (fun k => coppicerref_Bytes.l0.eq_2 _ _ _ k) ?_
    simp (disch := omega) only [if_pos, w64]
    rw [drop_rd h0 (by omega), drop_rd (l := b) h0 (by omega)]
    by_cases h : rd a i = rd b i
    · simp only [if_pos h]
      exact Ev.congr (fun _ => rfl) (by simpa [h] using ih (i + 1) (by omega) (by omega))
    · simp only [if_neg h]
      exact Ev.val (by simp [h])
theorem Bytes_ev (a b : List Int) (hb : (a.length : Int) ≤ 4611686018427387904) : Ev (fun k => coppicerref_Bytes.f k a b) (decide (a = b)) := by
  unfold coppicerref_Bytes.f
  by_cases hl : a.length = b.length
  · simp (disch := omega) only [if_pos]
    simpa using Bytes_l0 a b hl hb a.length 0 (by omega) (by omega)
  · simp (disch := omega) only [if_neg]
    exact Ev.val (by simp; intro h; exact hl (by rw [h]))

/-! ### coppicerref_At: u stands in w at j -/
def Occ (w u : List Int) (j : Int) : Prop := 0 ≤ j ∧ j + u.length ≤ w.length ∧ (w.drop j.toNat).take u.length = u
instance (w u : List Int) (j : Int) : Decidable (Occ w u j) := by unfold Occ; infer_instance
theorem At_ev (w u : List Int) (j : Int) (hw : w.length ≤ 4611686018427387904) (hu : u.length ≤ 4611686018427387904) : Ev (fun k => coppicerref_At.f k w u j) (decide (Occ w u j)) := by
  unfold coppicerref_At.f
  by_cases h0 : j ≥ 0
  · by_cases h1 : j + u.length ≤ w.length
    · simp (disch := omega) only [if_pos, w64]
      have e : (w.take (j + u.length).toNat).drop j.toNat = (w.drop j.toNat).take u.length := by
        rw [List.drop_take]; congr 1; omega
      rw [e]
      refine Ev.bind (Bytes_ev _ u (by simp; omega)) (Ev.val ?_)
      simp [Occ, h0, h1]
    · simp (disch := omega) only [if_pos, w64, if_neg]
      exact Ev.no (fun q => h1 q.2.1)
  · simp only [h0, if_false]
    exact Ev.no (fun q => h0 q.1)

/-! ### coppicerref_Places -/
def occs (w u : List Int) (n : Nat) : List Int := ((List.range n).map fun (i : Nat) => (i : Int)).filter fun p => decide (Occ w u p)
theorem occs_succ (w u : List Int) (n : Nat) : occs w u (n + 1) = occs w u n ++ (if Occ w u n then [(n : Int)] else []) := by
  unfold occs
  rw [List.range_succ, List.map_append, List.filter_append]
  congr 1
  by_cases h : Occ w u n <;> simp [h]
theorem occs_len (w u : List Int) (n : Nat) : (occs w u n).length ≤ n := by
  unfold occs
  exact Nat.le_trans (List.length_filter_le _ _) (by simp)
theorem occs_far (w u : List Int) (n : Nat) (h : w.length < n + u.length) (d : Nat) : occs w u (n + d) = occs w u n := by
  induction d with
  | zero => rfl
  | succ d ih =>
    rw [← Nat.add_assoc, occs_succ, if_neg (by unfold Occ; omega), List.append_nil]; exact ih
theorem Places_l0 (u w : List Int) (hw : w.length ≤ 60) (hu : u.length ≤ 60) (d : Nat) : ∀ i : Nat, i + d = w.length + 1 → Ev (fun k => coppicerref_Places.l0 k u w (occs w u i) (i : Int)) (occs w u (w.length + 1)) := by
  induction d with
  | zero =>
    intro i hd
    refine Ev.step (fun k => coppicerref_Places.l0.eq_2 _ _ _ _ k) ?_
    simp (disch := omega) only [if_neg]
    exact Ev.val (by rw [show i = w.length + 1 by omega])
  | succ d ih =>
    intro i hd
    have hl := occs_len w u i
    have r := ih (i + 1) (by omega)
    rw [occs_succ] at r
    refine Ev.step (fun k => coppicerref_Places.l0.eq_2 _ _ _ _ k) ?_
    simp (disch := omega) only [if_pos (show (i : Int) ≤ (w.length : Int) by omega), w64]
    refine Ev.bind (At_ev w u i (by omega) (by omega)) ?_
    by_cases h : Occ w u i
    · simp only [h, decide_true, if_true]
      simp (disch := omega) only [if_pos (show (occs w u i).length < 17592186044416 by omega)]
      simpa [h] using r
    · simp only [h, decide_false, Bool.false_eq_true, if_false]
      simpa [h] using r
theorem Places_ev (u w : List Int) (hw : w.length ≤ 60) (hu : u.length ≤ 60) : Ev (fun k => coppicerref_Places.f k u w) (occs w u (w.length + 1)) := by
  unfold coppicerref_Places.f
  exact Places_l0 u w hw hu (w.length + 1) 0 (by omega)

/-! ### coppicerref_Less -/
def lx : List Int → List Int → Bool
  | _, [] => false
  | [], _ :: _ => true
  | a :: x, b :: y => if a = b then lx x y else decide (a < b)
theorem lx_nil (a : List Int) : lx a [] = false := by cases a <;> rfl
theorem lx_cons (a b : Int) (x y : List Int) : lx (a :: x) (b :: y) = if a = b then lx x y else decide (a < b) := rfl
theorem lx_nil_cons (b : Int) (y : List Int) : lx [] (b :: y) = true := rfl

/-! ### bytes.Compare -/
theorem cmp_lx : ∀ (a b : List Int), (∀ x ∈ a, 0 ≤ x ∧ x ≤ 255) → (∀ x ∈ b, 0 ≤ x ∧ x ≤ 255) → (Lib.compareBytes (Lib.bytesOf a) (Lib.bytesOf b) < 0 ↔ lx a b = true)
  | [], [], _, _ => by simp [Lib.bytesOf, Lib.compareBytes, lx]
  | [], _ :: _, _, _ => by simp [Lib.bytesOf, Lib.compareBytes, lx]
  | _ :: _, [], _, _ => by simp [Lib.bytesOf, Lib.compareBytes, lx]
  | x :: a, y :: b, ha, hb => by
    have h1 := ha x (by simp)
    have h2 := hb y (by simp)
    have ih := cmp_lx a b (fun z hz => ha z (by simp [hz])) (fun z hz => hb z (by simp [hz]))
    have n1 : (UInt8.ofNat x.toNat).toNat = x.toNat := by simp only [UInt8.toNat_ofNat']; omega
    have n2 : (UInt8.ofNat y.toNat).toNat = y.toNat := by simp only [UInt8.toNat_ofNat']; omega
    have e : Lib.compareBytes (Lib.bytesOf (x :: a)) (Lib.bytesOf (y :: b)) = if UInt8.ofNat x.toNat < UInt8.ofNat y.toNat then -1 else if UInt8.ofNat y.toNat < UInt8.ofNat x.toNat then 1 else Lib.compareBytes (Lib.bytesOf a) (Lib.bytesOf b) := rfl
    rw [e, lx_cons]
    have l1 : (UInt8.ofNat x.toNat < UInt8.ofNat y.toNat) ↔ x < y := by rw [UInt8.lt_iff_toNat_lt, n1, n2]; omega
    have l2 : (UInt8.ofNat y.toNat < UInt8.ofNat x.toNat) ↔ y < x := by rw [UInt8.lt_iff_toNat_lt, n1, n2]; omega
    by_cases q : x = y
    · subst q; simp only [l1, Int.lt_irrefl, if_false, if_true]; exact ih
    · by_cases p : x < y
      · simp [l1, l2, q, p]
      · have p' : y < x := by omega
        simp [l1, l2, q, p, p']

/-! ### all ends of a word, in order -/
theorem lx_self : ∀ a : List Int, lx a a = false
  | [] => rfl
  | x :: a => by rw [lx_cons, if_pos rfl]; exact lx_self a
theorem lx_total : ∀ a b : List Int, lx a b = false → lx b a = false → a = b
  | [], [], _, _ => rfl
  | [], _ :: _, h, _ => by simp [lx] at h
  | _ :: _, [], _, h => by simp [lx] at h
  | x :: a, y :: b, h1, h2 => by
    rw [lx_cons] at h1 h2
    by_cases e : x = y
    · subst e
      rw [if_pos rfl] at h1 h2
      rw [lx_total a b h1 h2]
    · rw [if_neg e] at h1
      rw [if_neg (fun q => e q.symm)] at h2
      simp at h1 h2
      omega
theorem lx_trans : ∀ a b c : List Int, lx a b = true → lx b c = true → lx a c = true
  | _, [], _, h1, _ => by rw [lx_nil] at h1; cases h1
  | _, _ :: _, [], _, h2 => by rw [lx_nil] at h2; cases h2
  | [], _ :: _, _ :: _, _, _ => rfl
  | x :: a, y :: b, z :: c, h1, h2 => by
    rw [lx_cons] at h1 h2 ⊢
    by_cases e1 : x = y
    · subst e1
      rw [if_pos rfl] at h1
      by_cases e2 : x = z
      · rw [if_pos e2] at h2 ⊢; exact lx_trans a b c h1 h2
      · rw [if_neg e2] at h2 ⊢; exact h2
    · rw [if_neg e1] at h1
      simp at h1
      by_cases e2 : y = z
      · subst e2
        rw [if_neg e1]; simpa using h1
      · rw [if_neg e2] at h2
        simp at h2
        rw [if_neg (by omega)]; simp; omega
theorem lx_asymm {a b : List Int} (h : lx a b = true) : lx b a = false := by
  cases h2 : lx b a with
  | false => rfl
  | true => have := lx_trans a b a h h2; rw [lx_self] at this; cases this
/-- The ends, as places. -/
def endsN (l : List Int) : List Nat := ((List.finRange l.length).mergeSort fun x y => !decide (cmpE l y.val x.val < 0)).map fun i => i.val
theorem endsOf_eq (l : List Int) : endsOf l = (endsN l).map fun i : Nat => (i : Int) := by
  unfold endsOf endsN
  rw [List.map_map]; rfl
def isBytes (l : List Int) : Prop := ∀ x ∈ l, 0 ≤ x ∧ x ≤ 255
theorem cmpE_lx {l : List Int} (hl : isBytes l) (x y : Nat) : cmpE l x y < 0 ↔ lx (l.drop x) (l.drop y) = true :=
  cmp_lx _ _ (fun z hz => hl z (List.mem_of_mem_drop hz)) (fun z hz => hl z (List.mem_of_mem_drop hz))
theorem endsN_perm (l : List Int) : (endsN l).Perm (List.range l.length) := by
  unfold endsN
  have h := (List.mergeSort_perm (List.finRange l.length) fun x y => !decide (cmpE l y.val x.val < 0)).map fun i => i.val
  refine h.trans ?_
  have e : (List.finRange l.length).map (fun i => i.val) = List.range l.length := by
    apply List.ext_getElem
    · simp
    · intro i h1 h2; simp
  rw [e]
theorem endsN_len (l : List Int) : (endsN l).length = l.length := by rw [(endsN_perm l).length_eq, List.length_range]
theorem endsN_lt {l : List Int} {i : Nat} (h : i ∈ endsN l) : i < l.length := List.mem_range.1 ((endsN_perm l).mem_iff.1 h)
theorem endsN_mem {l : List Int} {i : Nat} (h : i < l.length) : i ∈ endsN l := (endsN_perm l).mem_iff.2 (List.mem_range.2 h)
theorem drop_inj {l : List Int} {i j : Nat} (hi : i ≤ l.length) (hj : j ≤ l.length) (h : l.drop i = l.drop j) : i = j := by
  have := congrArg List.length h
  rw [List.length_drop, List.length_drop] at this
  omega
theorem endsN_sorted {l : List Int} (hl : isBytes l) : (endsN l).Pairwise fun x y => lx (l.drop x) (l.drop y) = true := by
  have h1 : ((List.finRange l.length).mergeSort fun x y => !decide (cmpE l y.val x.val < 0)).Pairwise fun x y => (!decide (cmpE l y.val x.val < 0)) = true := by
    refine List.pairwise_mergeSort ?_ ?_ _
    · intro a b c hab hbc
      simp only [Bool.not_eq_true', decide_eq_false_iff_not, cmpE_lx hl, Bool.not_eq_true] at hab hbc ⊢
      cases hca : lx (l.drop c.val) (l.drop a.val) with
      | false => rfl
      | true =>
        cases hba : lx (l.drop a.val) (l.drop b.val) with
        | true => rw [lx_trans _ _ _ hca hba] at hbc; cases hbc
        | false => rw [lx_total _ _ hba hab] at hca; rw [hca] at hbc; cases hbc
    · intro a b
      simp only [Bool.or_eq_true, Bool.not_eq_true', decide_eq_false_iff_not, cmpE_lx hl, Bool.not_eq_true]
      cases h : lx (l.drop b.val) (l.drop a.val) with
      | false => exact .inl rfl
      | true => exact .inr (lx_asymm h)
  have h2 : (endsN l).Nodup := (endsN_perm l).nodup_iff.2 List.nodup_range
  have h3 : (endsN l).Pairwise fun x y => lx (l.drop y) (l.drop x) = false := by
    unfold endsN
    rw [List.pairwise_map]
    refine h1.imp ?_
    intro a b h
    simpa only [Bool.not_eq_true', decide_eq_false_iff_not, cmpE_lx hl, Bool.not_eq_true] using h
  refine ((List.pairwise_and_iff.2 ⟨h2, h3⟩).imp_of_mem ?_)
  intro a b ha hb ⟨hne, hba⟩
  cases hab : lx (l.drop a) (l.drop b) with
  | true => rfl
  | false => exact absurd (drop_inj (by have := endsN_lt ha; omega) (by have := endsN_lt hb; omega) (lx_total _ _ hab hba)) hne
theorem countP_sorted {α : Type} (R : α → α → Bool) (irr : ∀ x, R x x = false) (asy : ∀ x y, R x y = true → R y x = false) : ∀ (S : List α), S.Pairwise (fun x y => R x y = true) → ∀ (k : Nat) (x : α), S[k]? = some x → S.countP (fun y => R y x) = k
  | [], _, _, _, h => by simp at h
  | a :: S, hp, 0, x, h => by
    simp at h
    subst h
    have hp := List.pairwise_cons.1 hp
    rw [List.countP_cons_of_neg (by simp [irr])]
    exact List.countP_eq_zero.2 (fun y hy => by simp [asy _ _ (hp.1 y hy)])
  | a :: S, hp, k + 1, x, h => by
    have hp := List.pairwise_cons.1 hp
    have h' : S[k]? = some x := by simpa using h
    rw [List.countP_cons_of_pos (p := fun y => R y x) (hp.1 x (List.mem_of_getElem? h')), countP_sorted R irr asy S hp.2 k x h']
/-- How many ends are less. -/
def rk (l : List Int) (i : Nat) : Nat := (List.range l.length).countP fun j => lx (l.drop j) (l.drop i)
theorem rk_of {l : List Int} (hl : isBytes l) {k i : Nat} (h : (endsN l)[k]? = some i) : rk l i = k := by
  unfold rk
  rw [← (endsN_perm l).countP_eq]
  exact countP_sorted (fun x y => lx (l.drop x) (l.drop y)) (fun x => lx_self _) (fun x y h => lx_asymm h) _ (endsN_sorted hl) k i h
theorem rk_at {l : List Int} (hl : isBytes l) {i : Nat} (h : i < l.length) : (endsN l)[rk l i]? = some i := by
  obtain ⟨k, hk⟩ := List.mem_iff_getElem?.1 (endsN_mem h)
  rw [rk_of hl hk]; exact hk
theorem rk_lt {l : List Int} (hl : isBytes l) {i : Nat} (h : i < l.length) : rk l i < l.length := by
  have := (List.getElem?_eq_some_iff.1 (rk_at hl h)).1
  rw [endsN_len] at this; exact this
theorem rk_inj {l : List Int} (hl : isBytes l) {i j : Nat} (hi : i < l.length) (hj : j < l.length) (h : rk l i = rk l j) : i = j := by
  have h1 := rk_at hl hi
  rw [h, rk_at hl hj] at h1
  injection h1 with h1; exact h1.symm
theorem set_toNat (t : List Int) (k : Nat) (v : Int) (j : Nat) (hk : k < t.length) : (t.set k v)[j]? = if k = j then some v else t[j]? := by
  rw [List.getElem?_set]
  by_cases e : k = j
  · subst e; simp [hk]
  · simp [e]

/-! ### how often a word begins in another one -/
theorem countP_three (f : Nat → Int) : ∀ L : List Nat, L.countP (fun k => !decide (f k > 0)) = L.countP (fun k => !decide (f k ≥ 0)) + L.countP (fun k => decide (f k = 0))
  | [] => rfl
  | a :: L => by
    have ih := countP_three f L
    simp only [List.countP_cons, ih]
    by_cases h1 : f a > 0
    · have h2 : f a ≥ 0 := by omega
      have h3 : ¬ f a = 0 := by omega
      simp [h1, h2, h3]
    · by_cases h2 : f a ≥ 0
      · have h3 : f a = 0 := by omega
        simp [h3]; omega
      · have h3 : ¬ f a = 0 := by omega
        simp [h1, h2, h3]; omega
theorem bytesOf_inj : ∀ {a b : List Int}, isBytes a → isBytes b → Lib.bytesOf a = Lib.bytesOf b → a = b
  | [], [], _, _, _ => rfl
  | [], _ :: _, _, _, h => by simp [Lib.bytesOf] at h
  | _ :: _, [], _, _, h => by simp [Lib.bytesOf] at h
  | x :: a, y :: b, ha, hb, h => by
    have h : UInt8.ofNat x.toNat :: Lib.bytesOf a = UInt8.ofNat y.toNat :: Lib.bytesOf b := h
    injection h with h1 h2
    have hx := ha x (by simp)
    have hy := hb y (by simp)
    have e := congrArg UInt8.toNat h1
    simp only [UInt8.toNat_ofNat'] at e
    have e2 : x = y := by omega
    rw [e2, bytesOf_inj (fun z hz => ha z (by simp [hz])) (fun z hz => hb z (by simp [hz])) h2]
theorem cb_zero_iff {l u : List Int} (hl : isBytes l) (hu : isBytes u) (hm : u.length ≤ 60) (hn : l.length ≤ 60) {k : Nat} (h : k < l.length) :
    decide (Lib.compareBytes (Lib.bytesOf (cutL l (endsOf l) u.length (k : Int))) (Lib.bytesOf u) = 0) = decide ((l.drop ((endsN l).getD k 0)).take u.length = u) := by
  have e : (rd (endsOf l) (k : Int)).toNat = (endsN l).getD k 0 := by
    unfold rd
    rw [Int.toNat_natCast, List.getD_eq_getElem?_getD, List.getD_eq_getElem?_getD, endsOf_eq, List.getElem?_map]
    cases (endsN l)[k]? <;> rfl
  rw [cutL_eq h (by omega) (by omega), e]
  have e2 : (Lib.bytesOf (l.drop ((endsN l).getD k 0))).take u.length = Lib.bytesOf ((l.drop ((endsN l).getD k 0)).take u.length) := by unfold Lib.bytesOf; rw [List.map_take]
  rw [e2, Bool.eq_iff_iff, decide_eq_true_iff, decide_eq_true_iff]
  constructor
  · intro h0
    exact bytesOf_inj (fun z hz => hl z (List.mem_of_mem_drop (List.mem_of_mem_take hz))) hu (cb_eq _ _ h0)
  · intro h0
    rw [h0]; exact cb_self _
theorem cnt_diff {l u : List Int} (hl : isBytes l) (hu : isBytes u) (hm : u.length ≤ 60) (hn : l.length ≤ 60) : cntGt l u = cntGe l u + (List.range l.length).countP fun i => decide ((l.drop i).take u.length = u) := by
  unfold cntGt cntGe
  rw [countP_three (fun k : Nat => Lib.compareBytes (Lib.bytesOf (cutL l (endsOf l) u.length (k : Int))) (Lib.bytesOf u))]
  congr 1
  have e1 : (List.range l.length).countP (fun k : Nat => decide (Lib.compareBytes (Lib.bytesOf (cutL l (endsOf l) u.length (k : Int))) (Lib.bytesOf u) = 0)) = (List.range l.length).countP (fun k : Nat => decide ((l.drop ((endsN l).getD k 0)).take u.length = u)) := by
    apply List.countP_congr
    intro k hk
    rw [cb_zero_iff hl hu hm hn (List.mem_range.1 hk)]
  rw [e1]
  have e2 : endsN l = (List.range l.length).map fun k => (endsN l).getD k 0 := by
    apply List.ext_getElem?
    intro k
    by_cases hk : k < l.length
    · rw [List.getElem?_map, List.getElem?_range hk, Option.map_some, List.getD_eq_getElem?_getD, List.getElem?_eq_getElem (by rw [endsN_len]; exact hk)]; rfl
    · rw [List.getElem?_eq_none (by rw [endsN_len]; omega), List.getElem?_eq_none (by rw [List.length_map, List.length_range]; omega)]
  have e3 := (endsN_perm l).countP_eq (fun i => decide ((l.drop i).take u.length = u))
  rw [← e3]
  conv => rhs; rw [e2]
  rw [List.countP_map]
  rfl
theorem occs_count {l u : List Int} (hu : u ≠ []) : ((occs l u (l.length + 1)).length) = (List.range l.length).countP fun i => decide ((l.drop i).take u.length = u) := by
  unfold occs
  rw [← List.countP_eq_length_filter, List.countP_map, List.range_succ, List.countP_append]
  have hpos : 0 < u.length := List.length_pos_iff.2 hu
  have e1 : [l.length].countP ((fun p => decide (Occ l u p)) ∘ fun i : Nat => (i : Int)) = 0 := by
    rw [List.countP_eq_zero]
    intro a ha
    rw [List.mem_singleton.1 ha]
    simp only [Function.comp_apply, decide_eq_true_eq]
    intro h
    have := h.2.1
    omega
  rw [e1, Nat.add_zero]
  apply List.countP_congr
  intro i hi
  have hi := List.mem_range.1 hi
  simp only [Function.comp_apply, decide_eq_true_eq]
  unfold Occ
  rw [Int.toNat_natCast]
  constructor
  · exact fun h => h.2.2
  · intro h
    refine ⟨by omega, ?_, h⟩
    have := congrArg List.length h
    rw [List.length_take, List.length_drop] at this
    omega
theorem occs_nil (l : List Int) : (occs l [] (l.length + 1)).length = l.length + 1 := by
  unfold occs
  rw [← List.countP_eq_length_filter, List.countP_map]
  have : (List.range (l.length + 1)).countP ((fun p => decide (Occ l [] p)) ∘ fun i : Nat => (i : Int)) = (List.range (l.length + 1)).length := by
    rw [List.countP_eq_length]
    intro i hi
    have hi := List.mem_range.1 hi
    simp only [Function.comp_apply, decide_eq_true_eq]
    refine ⟨by omega, by simp; omega, by simp⟩
  rw [this, List.length_range]
theorem EndsCounts : coppicerlaw_EndsCounts.Pure := by
  unfold coppicerlaw_EndsCounts.Pure
  intro l u _ _ hw _ _ hv
  have hl : isBytes l := fun x hx => wf_u8 (hw x hx)
  have hu : isBytes u := fun x hx => wf_u8 (hv x hx)
  apply Ev.rounds
  unfold coppicerlaw_EndsCounts.f ends_Count.f
  by_cases c : (l.length : Int) > 60
  · simp only [if_pos c, Option.bind_some, if_true]
    exact Ev.val (by simp)
  by_cases c2 : (u.length : Int) > 60
  · simp only [if_neg c, if_pos c2, Option.bind_some, if_true]
    exact Ev.val (by simp)
  have hn : l.length ≤ 60 := by omega
  have hm : u.length ≤ 60 := by omega
  have hp := Places_ev u l hn hm
  by_cases c3 : (u.length : Int) = 0
  · have e0 : u = [] := List.length_eq_zero_iff.1 (by omega)
    have e1 : wrap64 ((l.length : Int) + 1) = ((l.length + 1 : Nat) : Int) := by rw [w64 (by omega) (by omega)]; omega
    simp only [if_neg c, if_neg c2, if_pos c3, Option.bind_some, if_true, e1]
    refine Ev.bind hp ?_
    rw [e0, occs_nil]
    exact Ev.val (by simp)
  · have hd := cnt_diff hl hu hm hn
    have ho := occs_count (l := l) (u := u) (fun e => c3 (by rw [e]; rfl))
    have hle : cntGt l u ≤ l.length := by
      have := List.countP_le_length (p := fun k : Nat => !decide (Lib.compareBytes (Lib.bytesOf (cutL l (endsOf l) u.length (k : Int))) (Lib.bytesOf u) > 0)) (l := List.range l.length)
      rw [List.length_range] at this
      exact this
    have e1 : wrap64 ((cntGt l u : Int) - (cntGe l u : Int)) = (((occs l u (l.length + 1)).length : Nat) : Int) := by
      rw [ho]
      generalize cntGt l u = a at *
      generalize cntGe l u = b at *
      generalize (List.range l.length).countP (fun i => decide ((l.drop i).take u.length = u)) = d at *
      rw [w64 (by omega) (by omega)]
      omega
    simp only [if_neg c, if_neg c2, if_neg c3, Option.bind_some, if_true, e1]
    refine Ev.bind hp ?_
    exact Ev.val (by simp)

end Go.Proofs.Ytpcphfbjnaikhaa.Pure
