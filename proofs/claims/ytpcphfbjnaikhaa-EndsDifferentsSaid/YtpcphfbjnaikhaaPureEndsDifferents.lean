/- The law EndsDifferents as a statement over numbers and lists alone: it holds under the bounds that the statement names. -/
import Derived.Test.YtpcphfbjnaikhaaPEndsDifferentsx3
set_option linter.unusedVariables false
set_option linter.unusedSimpArgs false
set_option linter.unusedSectionVars false
namespace Go.Proofs.Ytpcphfbjnaikhaa.Pure
open Go.RowKit Go.Proofs.Ytpcphfbjnaikhaa.PEndsDifferents Go.Proofs.YtpcphfbjnaikhaaW.PrintWords Go.Proofs.YtpcphfbjnaikhaaW.PrintLast Go.Proofs.YtpcphfbjnaikhaaW.PrintMore

/-! ### base: words for every pure text -/
theorem w64 {x : Int} (h0 : -9223372036854775808 ≤ x) (h1 : x ≤ 9223372036854775807) : wrap64 x = x := by unfold wrap64; omega
theorem Ev.pos {α : Type} {c : Prop} [Decidable c] {g f : Nat → Option α} {r : α} (h : c) (e : Ev g r) : Ev (fun k => if c then g k else f k) r := Ev.congr (fun k => by rw [if_pos h]) e
theorem Ev.neg {α : Type} {c : Prop} [Decidable c] {g f : Nat → Option α} {r : α} (h : ¬ c) (e : Ev f r) : Ev (fun k => if c then g k else f k) r := Ev.congr (fun k => by rw [if_neg h]) e
theorem Ev.val {α : Type} {r q : α} (h : r = q) : Ev (fun _ => some r) q := by subst h; exact Ev.now r
theorem rd_getElem {l : List Int} {i : Int} (h1 : i.toNat < l.length) : rd l i = l[i.toNat] := by simp [rd, List.getD_eq_getElem?_getD, List.getElem?_eq_getElem h1]
theorem drop_rd {l : List Int} {i : Int} (h0 : 0 ≤ i) (h1 : i < l.length) : l.drop i.toNat = rd l i :: l.drop (i + 1).toNat := by
  have h : i.toNat < l.length := by omega
  rw [rd_getElem h, List.drop_eq_getElem_cons h]; congr 2; omega
theorem take_rd {l : List Int} {i : Int} (h0 : 0 ≤ i) (h1 : i < l.length) : l.take (i + 1).toNat = l.take i.toNat ++ [rd l i] := by
  have h : i.toNat < l.length := by omega
  have e : (i + 1).toNat = i.toNat + 1 := by omega
  rw [rd_getElem h, e, List.take_succ_eq_append_getElem h]
theorem rd_drop (l : List Int) (n : Nat) (i : Int) (h0 : 0 ≤ i) : rd (l.drop n) i = rd l (i + n) := by
  have e : (i + n).toNat = n + i.toNat := by omega
  simp only [rd, List.getD_eq_getElem?_getD, List.getElem?_drop, e]
theorem rd_take (l : List Int) (n : Nat) (i : Int) (h0 : 0 ≤ i) (h1 : i < n) : rd (l.take n) i = rd l i := by
  simp only [rd, List.getD_eq_getElem?_getD]; rw [List.getElem?_take_of_lt (by omega)]
theorem drop_all {α : Type} (l : List α) (n : Nat) (h : l.length ≤ n) : l.drop n = [] := List.drop_eq_nil_of_le h
theorem dec_ne {a b : Int} {l m : List Int} (h : a ≠ b) : decide (a :: l = b :: m) = false := decide_eq_false (fun q => h (List.cons.inj q).1)
theorem Ev.no {p : Prop} [Decidable p] (h : ¬ p) : Ev (fun _ => some false) (decide p) := Ev.val (decide_eq_false h).symm
theorem Ev.yes {p : Prop} [Decidable p] (h : p) : Ev (fun _ => some true) (decide p) := Ev.val (decide_eq_true h).symm
theorem ext_rd {a b : List Int} (hl : a.length = b.length) (h : ∀ i : Int, 0 ≤ i → i < a.length → rd a i = rd b i) : a = b := by
  apply List.ext_getElem hl
  intro i h1 h2
  have := h i (by omega) (by omega)
  rwa [rd_getElem (by simpa using h1), rd_getElem (by simpa using h2)] at this
theorem wf_u8 {x : Int} (h : (Lit.int .u8 x).wf = true) : 0 ≤ x ∧ x ≤ 255 := by simpa [Lit.wf, IntKind.min, IntKind.max, IntKind.signed, IntKind.bits] using h
theorem wf_u32 {x : Int} (h : (Lit.int .u32 x).wf = true) : 0 ≤ x ∧ x ≤ 4294967295 := by simpa [Lit.wf, IntKind.min, IntKind.max, IntKind.signed, IntKind.bits] using h
theorem wf_i64 {x : Int} (h : (Lit.int .i64 x).wf = true) : -9223372036854775808 ≤ x ∧ x ≤ 9223372036854775807 := by simpa [Lit.wf, IntKind.min, IntKind.max, IntKind.signed, IntKind.bits] using h
theorem rd_mem {l : List Int} {i : Int} (h0 : 0 ≤ i) (h1 : i < l.length) : rd l i ∈ l := by
  rw [rd_getElem (by omega)]; exact List.getElem_mem _
theorem rd_u8 {l : List Int} (hw : ∀ x ∈ l, (Lit.int .u8 x).wf = true) {i : Int} (h0 : 0 ≤ i) (h1 : i < l.length) : 0 ≤ rd l i ∧ rd l i ≤ 255 := wf_u8 (hw _ (rd_mem h0 h1))
theorem tm {a b : Int} (h : 0 ≤ a) : Int.tmod a b = a % b := Int.tmod_eq_emod_of_nonneg h
theorem td {a b : Int} (h : 0 ≤ a) : Int.tdiv a b = a / b := Int.tdiv_eq_ediv_of_nonneg h

/-! ### coppicerref_Bytes -/
theorem Bytes_l0 (a b : List Int) (hl : a.length = b.length) (hb : (a.length : Int) ≤ 4611686018427387904) (d : Nat) : ∀ i : Int, 0 ≤ i → i + d = a.length → Ev (fun k => coppicerref_Bytes.l0 k a b i) (decide (a.drop i.toNat = b.drop i.toNat)) := by
  induction d with
  | zero =>
    intro i h0 hd
    refine Ev.step (fun k => coppicerref_Bytes.l0.eq_2 _ _ _ k) ?_
    simp (disch := omega) only [if_pos, if_neg]
    exact Ev.val (by rw [List.drop_eq_nil_of_le (by omega), List.drop_eq_nil_of_le (by omega)]; simp)
  | succ d ih =>
    intro i h0 hd
    refine Ev.step (fun k => coppicerref_Bytes.l0.eq_2 _ _ _ k) ?_
    simp (disch := omega) only [if_pos, w64]
    rw [drop_rd h0 (by omega), drop_rd (l := b) h0 (by omega)]
    by_cases h : rd a i = rd b i
    · simp only [if_pos h]
      exact Ev.congr (fun _ => rfl) (by simpa [h] using ih (i + 1) (by omega) (by omega))
    · simp only [if_neg h]
      exact Ev.val (by simp [h])
theorem Bytes_ev (a b : List Int) (hb : (a.length : Int) ≤ 4611686018427387904) : Ev (fun k => coppicerref_Bytes.f k a b) (decide (a = b)) := by
  unfold coppicerref_Bytes.f
  by_cases hl : a.length = b.length
  · simp (disch := omega) only [if_pos]
    simpa using Bytes_l0 a b hl hb a.length 0 (by omega) (by omega)
  · simp (disch := omega) only [if_neg]
    exact Ev.val (by simp; intro h; exact hl (by rw [h]))

/-! ### coppicerref_At: u stands in w at j -/
def Occ (w u : List Int) (j : Int) : Prop := 0 ≤ j ∧ j + u.length ≤ w.length ∧ (w.drop j.toNat).take u.length = u
instance (w u : List Int) (j : Int) : Decidable (Occ w u j) := by unfold Occ; infer_instance
theorem At_ev (w u : List Int) (j : Int) (hw : w.length ≤ 4611686018427387904) (hu : u.length ≤ 4611686018427387904) : Ev (fun k => coppicerref_At.f k w u j) (decide (Occ w u j)) := by
  unfold coppicerref_At.f
  by_cases h0 : j ≥ 0
  · by_cases h1 : j + u.length ≤ w.length
    · simp (disch := omega) only [if_pos, w64]
      have e : (w.take (j + u.length).toNat).drop j.toNat = (w.drop j.toNat).take u.length := by
        rw [List.drop_take]; congr 1; omega
      rw [e]
      refine Ev.bind (Bytes_ev _ u (by simp; omega)) (Ev.val ?_)
      simp [Occ, h0, h1]
    · simp (disch := omega) only [if_pos, w64, if_neg]
      exact Ev.no (fun q => h1 q.2.1)
  · simp only [h0, if_false]
    exact Ev.no (fun q => h0 q.1)

/-! ### coppicerref_Less -/
def lx : List Int → List Int → Bool
  | _, [] => false
  | [], _ :: _ => true
  | a :: x, b :: y => if a = b then lx x y else decide (a < b)
theorem lx_nil (a : List Int) : lx a [] = false := by cases a <;> rfl
theorem lx_cons (a b : Int) (x y : List Int) : lx (a :: x) (b :: y) = if a = b then lx x y else decide (a < b) := rfl
theorem lx_nil_cons (b : Int) (y : List Int) : lx [] (b :: y) = true := rfl

/-! ### bytes.Compare -/
theorem cmp_lx : ∀ (a b : List Int), (∀ x ∈ a, 0 ≤ x ∧ x ≤ 255) → (∀ x ∈ b, 0 ≤ x ∧ x ≤ 255) → (Lib.compareBytes (Lib.bytesOf a) (Lib.bytesOf b) < 0 ↔ lx a b = true)
  | [], [], _, _ => by simp [Lib.bytesOf, Lib.compareBytes, lx]
  | [], _ :: _, _, _ => by simp [Lib.bytesOf, Lib.compareBytes, lx]
  | _ :: _, [], _, _ => by simp [Lib.bytesOf, Lib.compareBytes, lx]
  | x :: a, y :: b, ha, hb => by
    have h1 := ha x (by simp)
    have h2 := hb y (by simp)
    have ih := cmp_lx a b (fun z hz => ha z (by simp [hz])) (fun z hz => hb z (by simp [hz]))
    have n1 : (UInt8.ofNat x.toNat).toNat = x.toNat := by simp only [UInt8.toNat_ofNat']; omega
    have n2 : (UInt8.ofNat y.toNat).toNat = y.toNat := by simp only [UInt8.toNat_ofNat']; omega
    have e : Lib.compareBytes (Lib.bytesOf (x :: a)) (Lib.bytesOf (y :: b)) = if UInt8.ofNat x.toNat < UInt8.ofNat y.toNat then -1 else if UInt8.ofNat y.toNat < UInt8.ofNat x.toNat then 1 else Lib.compareBytes (Lib.bytesOf a) (Lib.bytesOf b) := rfl
    rw [e, lx_cons]
    have l1 : (UInt8.ofNat x.toNat < UInt8.ofNat y.toNat) ↔ x < y := by rw [UInt8.lt_iff_toNat_lt, n1, n2]; omega
    have l2 : (UInt8.ofNat y.toNat < UInt8.ofNat x.toNat) ↔ y < x := by rw [UInt8.lt_iff_toNat_lt, n1, n2]; omega
    by_cases q : x = y
    · subst q; simp only [l1, Int.lt_irrefl, if_false, if_true]; exact ih
    · by_cases p : x < y
      · simp [l1, l2, q, p]
      · have p' : y < x := by omega
        simp [l1, l2, q, p, p']

/-! ### all ends of a word, in order -/
theorem lx_self : ∀ a : List Int, lx a a = false
  | [] => rfl
  | x :: a => by rw [lx_cons, if_pos rfl]; exact lx_self a
theorem lx_total : ∀ a b : List Int, lx a b = false → lx b a = false → a = b
  | [], [], _, _ => rfl
  | [], _ :: _, h, _ => by simp [lx] at h
  | _ :: _, [], _, h => by simp [lx] at h
  | x :: a, y :: b, h1, h2 => by
    rw [lx_cons] at h1 h2
    by_cases e : x = y
    · subst e
      rw [if_pos rfl] at h1 h2
      rw [lx_total a b h1 h2]
    · rw [if_neg e] at h1
      rw [if_neg (fun q => e q.symm)] at h2
      simp at h1 h2
      omega
theorem lx_trans : ∀ a b c : List Int, lx a b = true → lx b c = true → lx a c = true
  | _, [], _, h1, _ => by rw [lx_nil] at h1; cases h1
  | _, _ :: _, [], _, h2 => by rw [lx_nil] at h2; cases h2
  | [], _ :: _, _ :: _, _, _ => rfl
  | x :: a, y :: b, z :: c, h1, h2 => by
    rw [lx_cons] at h1 h2 ⊢
    by_cases e1 : x = y
    · subst e1
      rw [if_pos rfl] at h1
      by_cases e2 : x = z
      · rw [if_pos e2] at h2 ⊢; exact lx_trans a b c h1 h2
      · rw [if_neg e2] at h2 ⊢; exact h2
    · rw [if_neg e1] at h1
      simp at h1
      by_cases e2 : y = z
      · subst e2
        rw [if_neg e1]; simpa using h1
      · rw [if_neg e2] at h2
        simp at h2
        rw [if_neg (by omega)]; simp; omega
theorem lx_asymm {a b : List Int} (h : lx a b = true) : lx b a = false := by
  cases h2 : lx b a with
  | false => rfl
  | true => have := lx_trans a b a h h2; rw [lx_self] at this; cases this
/-- The ends, as places. -/
def endsN (l : List Int) : List Nat := ((List.finRange l.length).mergeSort fun x y => !decide (cmpE l y.val x.val < 0)).map fun i => i.val
theorem endsOf_eq (l : List Int) : endsOf l = (endsN l).map fun i : Nat => (i : Int) := by
  unfold endsOf endsN
  rw [List.map_map]; rfl
def isBytes (l : List Int) : Prop := ∀ x ∈ l, 0 ≤ x ∧ x ≤ 255
theorem cmpE_lx {l : List Int} (hl : isBytes l) (x y : Nat) : cmpE l x y < 0 ↔ lx (l.drop x) (l.drop y) = true :=
  cmp_lx _ _ (fun z hz => hl z (List.mem_of_mem_drop hz)) (fun z hz => hl z (List.mem_of_mem_drop hz))
theorem endsN_perm (l : List Int) : (endsN l).Perm (List.range l.length) := by
  unfold endsN
  have h := (List.mergeSort_perm (List.finRange l.length) fun x y => !decide (cmpE l y.val x.val < 0)).map fun i => i.val
  refine h.trans ?_
  have e : (List.finRange l.length).map (fun i => i.val) = List.range l.length := by
    apply List.ext_getElem
    · simp
    · intro i h1 h2; simp
  rw [e]
theorem endsN_len (l : List Int) : (endsN l).length = l.length := by rw [(endsN_perm l).length_eq, List.length_range]
theorem endsN_lt {l : List Int} {i : Nat} (h : i ∈ endsN l) : i < l.length := List.mem_range.1 ((endsN_perm l).mem_iff.1 h)
theorem endsN_mem {l : List Int} {i : Nat} (h : i < l.length) : i ∈ endsN l := (endsN_perm l).mem_iff.2 (List.mem_range.2 h)
theorem drop_inj {l : List Int} {i j : Nat} (hi : i ≤ l.length) (hj : j ≤ l.length) (h : l.drop i = l.drop j) : i = j := by
  have := congrArg List.length h
  rw [List.length_drop, List.length_drop] at this
  omega
theorem endsN_sorted {l : List Int} (hl : isBytes l) : (endsN l).Pairwise fun x y => lx (l.drop x) (l.drop y) = true := by
  have h1 : ((List.finRange l.length).mergeSort fun x y => !decide (cmpE l y.val x.val < 0)).Pairwise fun x y => (!decide (cmpE l y.val x.val < 0)) = true := by
    refine List.pairwise_mergeSort ?_ ?_ _
    · intro a b c hab hbc
      simp only [Bool.not_eq_true', decide_eq_false_iff_not, cmpE_lx hl, Bool.not_eq_true] at hab hbc ⊢
      cases hca : lx (l.drop c.val) (l.drop a.val) with
      | false => rfl
      | true =>
        cases hba : lx (l.drop a.val) (l.drop b.val) with
        | true => rw [lx_trans _ _ _ hca hba] at hbc; cases hbc
        | false => rw [lx_total _ _ hba hab] at hca; rw [hca] at hbc; cases hbc
    · intro a b
      simp only [Bool.or_eq_true, Bool.not_eq_true', decide_eq_false_iff_not, cmpE_lx hl, Bool.not_eq_true]
      cases h : lx (l.drop b.val) (l.drop a.val) with
      | false => exact .inl rfl
      | true => exact .inr (lx_asymm h)
  have h2 : (endsN l).Nodup := (endsN_perm l).nodup_iff.2 List.nodup_range
  have h3 : (endsN l).Pairwise fun x y => lx (l.drop y) (l.drop x) = false := by
    unfold endsN
    rw [List.pairwise_map]
    refine h1.imp ?_
    intro a b h
    simpa only [Bool.not_eq_true', decide_eq_false_iff_not, cmpE_lx hl, Bool.not_eq_true] using h
  refine ((List.pairwise_and_iff.2 ⟨h2, h3⟩).imp_of_mem ?_)
  intro a b ha hb ⟨hne, hba⟩
  cases hab : lx (l.drop a) (l.drop b) with
  | true => rfl
  | false => exact absurd (drop_inj (by have := endsN_lt ha; omega) (by have := endsN_lt hb; omega) (lx_total _ _ hab hba)) hne
theorem countP_sorted {α : Type} (R : α → α → Bool) (irr : ∀ x, R x x = false) (asy : ∀ x y, R x y = true → R y x = false) : ∀ (S : List α), S.Pairwise (fun x y => R x y = true) → ∀ (k : Nat) (x : α), S[k]? = some x → S.countP (fun y => R y x) = k
  | [], _, _, _, h => by simp at h
  | a :: S, hp, 0, x, h => by
    simp at h
    subst h
    have hp := List.pairwise_cons.1 hp
    rw [List.countP_cons_of_neg (by simp [irr])]
    exact List.countP_eq_zero.2 (fun y hy => by simp [asy _ _ (hp.1 y hy)])
  | a :: S, hp, k + 1, x, h => by
    have hp := List.pairwise_cons.1 hp
    have h' : S[k]? = some x := by simpa using h
    rw [List.countP_cons_of_pos (p := fun y => R y x) (hp.1 x (List.mem_of_getElem? h')), countP_sorted R irr asy S hp.2 k x h']
/-- How many ends are less. -/
def rk (l : List Int) (i : Nat) : Nat := (List.range l.length).countP fun j => lx (l.drop j) (l.drop i)
theorem rk_of {l : List Int} (hl : isBytes l) {k i : Nat} (h : (endsN l)[k]? = some i) : rk l i = k := by
  unfold rk
  rw [← (endsN_perm l).countP_eq]
  exact countP_sorted (fun x y => lx (l.drop x) (l.drop y)) (fun x => lx_self _) (fun x y h => lx_asymm h) _ (endsN_sorted hl) k i h
theorem rk_at {l : List Int} (hl : isBytes l) {i : Nat} (h : i < l.length) : (endsN l)[rk l i]? = some i := by
  obtain ⟨k, hk⟩ := List.mem_iff_getElem?.1 (endsN_mem h)
  rw [rk_of hl hk]; exact hk
theorem rk_lt {l : List Int} (hl : isBytes l) {i : Nat} (h : i < l.length) : rk l i < l.length := by
  have := (List.getElem?_eq_some_iff.1 (rk_at hl h)).1
  rw [endsN_len] at this; exact this
theorem rk_inj {l : List Int} (hl : isBytes l) {i j : Nat} (hi : i < l.length) (hj : j < l.length) (h : rk l i = rk l j) : i = j := by
  have h1 := rk_at hl hi
  rw [h, rk_at hl hj] at h1
  injection h1 with h1; exact h1.symm
theorem set_toNat (t : List Int) (k : Nat) (v : Int) (j : Nat) (hk : k < t.length) : (t.set k v)[j]? = if k = j then some v else t[j]? := by
  rw [List.getElem?_set]
  by_cases e : k = j
  · subst e; simp [hk]
  · simp [e]

/-! ### how far two words begin alike -/
def lcp : List Int → List Int → Nat
  | a :: x, b :: y => if a = b then lcp x y + 1 else 0
  | _, _ => 0
theorem lcp_nil_r (a : List Int) : lcp a [] = 0 := by cases a <;> rfl
theorem lcp_comm : ∀ a b : List Int, lcp a b = lcp b a
  | [], [] => rfl
  | [], _ :: _ => rfl
  | _ :: _, [] => rfl
  | a :: x, b :: y => by
    unfold lcp
    by_cases h : a = b
    · rw [if_pos h, if_pos h.symm, lcp_comm x y]
    · rw [if_neg h, if_neg (fun e => h e.symm)]
theorem lcp_le : ∀ a b : List Int, lcp a b ≤ a.length ∧ lcp a b ≤ b.length
  | [], _ => by simp [lcp]
  | _ :: _, [] => by simp [lcp]
  | a :: x, b :: y => by
    unfold lcp
    have := lcp_le x y
    split <;> simp <;> omega
/-- Behind h that are alike: the next are alike, or it ends. -/
theorem lcp_next : ∀ (a b : List Int) (h : Nat), h ≤ lcp a b → ((h < a.length ∧ h < b.length ∧ a.getD h 0 = b.getD h 0) ↔ h < lcp a b)
  | [], b, h, hh => by simp [lcp] at hh ⊢
  | _ :: _, [], h, hh => by simp [lcp] at hh ⊢
  | a :: x, b :: y, 0, _ => by
    unfold lcp
    by_cases e : a = b
    · rw [if_pos e]; simp [e]
    · rw [if_neg e]; simp [e]
  | a :: x, b :: y, h + 1, hh => by
    unfold lcp at hh ⊢
    by_cases e : a = b
    · rw [if_pos e] at hh ⊢
      have := lcp_next x y h (by omega)
      simp at this ⊢
      exact this
    · rw [if_neg e] at hh; omega
/-- What lies between begins alike at least as far. -/
theorem lcp_between : ∀ (a b c : List Int), lx a b = true → lx b c = true → lcp a c ≤ lcp b c
  | [], _, _, _, _ => by simp [lcp]
  | _ :: _, [], _, h1, _ => by rw [lx_nil] at h1; cases h1
  | _ :: _, _ :: _, [], _, h2 => by rw [lx_nil] at h2; cases h2
  | a :: x, b :: y, c :: z, h1, h2 => by
    rw [lx_cons] at h1 h2
    unfold lcp
    by_cases e : a = c
    · subst e
      by_cases e1 : a = b
      · subst e1
        rw [if_pos rfl] at h1 h2
        rw [if_pos rfl, if_pos rfl]
        have := lcp_between x y z h1 h2
        omega
      · rw [if_neg e1] at h1
        rw [if_neg (fun q => e1 q.symm)] at h2
        simp at h1 h2
        omega
    · rw [if_neg e]; omega
theorem w64_succ {h : Nat} (hh : h ≤ 1000000) : wrap64 ((h : Int) + 1) = ((h + 1 : Nat) : Int) := by rw [w64 (by omega) (by omega)]; omega
theorem w64_pred {h : Nat} (h1 : 1 ≤ h) (hh : h ≤ 1000000) : wrap64 ((h : Int) - 1) = ((h - 1 : Nat) : Int) := by rw [w64 (by omega) (by omega)]; omega
theorem w64_plus {a b : Nat} (ha : a ≤ 1000000) (hb : b ≤ 1000000) : wrap64 ((a : Int) + (b : Int)) = (a : Int) + (b : Int) := w64 (by omega) (by omega)
def cm (l : List Int) (i j : Nat) : Nat := lcp (l.drop i) (l.drop j)
theorem rd_drop' (l : List Int) (i h : Nat) : (l.drop i).getD h 0 = rd l ((i : Int) + (h : Int)) := by
  unfold rd
  rw [List.getD_eq_getElem?_getD, List.getElem?_drop, List.getD_eq_getElem?_getD]
  congr 2
theorem cm_next (l : List Int) (i j h : Nat) (hh : h ≤ cm l i j) : (((i : Int) + h < l.length ∧ (j : Int) + h < l.length) ∧ rd l ((i : Int) + h) = rd l ((j : Int) + h)) ↔ h < cm l i j := by
  have := lcp_next (l.drop i) (l.drop j) h hh
  rw [rd_drop', rd_drop', List.length_drop, List.length_drop] at this
  unfold cm
  rw [← this]
  omega
/-- one step on, both -/
theorem cm_step (l : List Int) (i j : Nat) (h : 1 ≤ cm l i j) (hx : lx (l.drop j) (l.drop i) = true) : cm l (i + 1) (j + 1) + 1 = cm l i j ∧ lx (l.drop (j + 1)) (l.drop (i + 1)) = true := by
  have h1 := lcp_le (l.drop i) (l.drop j)
  unfold cm at *
  rw [List.length_drop, List.length_drop] at h1
  have hi : i < l.length := by omega
  have hj : j < l.length := by omega
  rw [List.drop_eq_getElem_cons hi, List.drop_eq_getElem_cons hj] at h hx ⊢
  by_cases e : l[i] = l[j]
  · rw [lx_cons, if_pos e.symm] at hx
    refine ⟨?_, hx⟩
    conv => rhs; unfold lcp
    rw [if_pos e]
  · unfold lcp at h
    rw [if_neg e] at h; omega
/-- The end ahead of it. -/
def ahd (l : List Int) (i : Nat) : Nat := (endsN l).getD (rk l i - 1) 0
theorem ahd_at {l : List Int} (hl : isBytes l) {i : Nat} (hi : i < l.length) (hr : rk l i ≠ 0) : (endsN l)[rk l i - 1]? = some (ahd l i) := by
  have h := rk_lt hl hi
  unfold ahd
  rw [List.getD_eq_getElem?_getD, List.getElem?_eq_getElem (by rw [endsN_len]; omega)]; rfl
theorem ends_lt {l : List Int} (hl : isBytes l) {a b i j : Nat} (ha : (endsN l)[a]? = some i) (hb : (endsN l)[b]? = some j) (h : a < b) : lx (l.drop i) (l.drop j) = true := by
  have hp := endsN_sorted hl
  obtain ⟨ha1, rfl⟩ := List.getElem?_eq_some_iff.1 ha
  obtain ⟨hb1, rfl⟩ := List.getElem?_eq_some_iff.1 hb
  exact List.pairwise_iff_getElem.1 hp a b ha1 hb1 h
theorem rk_lt_of {l : List Int} (hl : isBytes l) {i j : Nat} (hi : i < l.length) (hj : j < l.length) (h : lx (l.drop i) (l.drop j) = true) : rk l i < rk l j := by
  rcases Nat.lt_trichotomy (rk l i) (rk l j) with q | q | q
  · exact q
  · rw [rk_inj hl hi hj q, lx_self] at h; cases h
  · rw [lx_asymm (ends_lt hl (rk_at hl hj) (rk_at hl hi) q)] at h; cases h
theorem kasai {l : List Int} (hl : isBytes l) {i : Nat} (hi : i + 1 < l.length) (hr : rk l i ≠ 0) : cm l i (ahd l i) - 1 ≤ cm l (i + 1) (ahd l (i + 1)) ∨ rk l (i + 1) = 0 := by
  by_cases h2 : cm l i (ahd l i) ≤ 1
  · exact .inl (by omega)
  have ha := ahd_at hl (show i < l.length by omega) hr
  have hlt := ends_lt hl ha (rk_at hl (show i < l.length by omega)) (by omega)
  have hs := cm_step l i (ahd l i) (by omega) hlt
  have hle := lcp_le (l.drop i) (l.drop (ahd l i))
  have hle' : cm l i (ahd l i) ≤ l.length - ahd l i := by have := hle.2; rw [List.length_drop] at this; exact this
  have hrr := rk_lt_of hl (show ahd l i + 1 < l.length by omega) hi hs.2
  left
  have hr1 : rk l (i + 1) ≠ 0 := by omega
  have hb := ahd_at hl hi hr1
  have hj := rk_at hl (show ahd l i + 1 < l.length by omega)
  rcases Nat.lt_or_ge (rk l (ahd l i + 1)) (rk l (i + 1) - 1) with q | q
  · have h3 := ends_lt hl hj hb q
    have h4 := ends_lt hl hb (rk_at hl hi) (by omega)
    have h5 := lcp_between _ _ _ h3 h4
    have e1 := lcp_comm (l.drop (ahd l i + 1)) (l.drop (i + 1))
    have e2 := lcp_comm (l.drop (ahd l (i + 1))) (l.drop (i + 1))
    unfold cm at *
    omega
  · have e : rk l (ahd l i + 1) = rk l (i + 1) - 1 := by omega
    rw [e, hb] at hj
    injection hj with hj
    rw [hj]; omega
/-! ### ends.common -/
def commonOf (l : List Int) : List Int := (List.range (l.length - 1)).map fun k => ((cm l ((endsN l).getD (k + 1) 0) ((endsN l).getD k 0) : Nat) : Int)
theorem common_out {l : List Int} (hl : isBytes l) {out : List Int} (hlen : out.length = l.length - 1) (h : ∀ i, i < l.length → rk l i ≠ 0 → out[rk l i - 1]? = some ((cm l i (ahd l i) : Nat) : Int)) : out = commonOf l := by
  unfold commonOf
  apply List.ext_getElem?
  intro k
  by_cases hk : k < l.length - 1
  · have hx : (endsN l)[k + 1]? = some ((endsN l)[k + 1]'(by rw [endsN_len]; omega)) := List.getElem?_eq_getElem _
    generalize (endsN l)[k + 1]'(by rw [endsN_len]; omega) = x at hx
    have hxl := endsN_lt (List.mem_of_getElem? hx)
    have hr := rk_of hl hx
    have := h x hxl (by omega)
    unfold ahd at this
    rw [hr, Nat.add_sub_cancel] at this
    rw [this, List.getElem?_map, List.getElem?_range hk]
    simp only [Option.map_some]
    rw [List.getD_eq_getElem?_getD (i := k + 1), hx]; rfl
  · rw [List.getElem?_eq_none (by omega), List.getElem?_eq_none (by rw [List.length_map, List.length_range]; omega)]
def rks (l : List Int) : List Int := (List.range l.length).map fun i => ((rk l i : Nat) : Int)
theorem rks_len (l : List Int) : (rks l).length = l.length := by simp [rks]
theorem rd_rks {l : List Int} {i : Nat} (h : i < l.length) : rd (rks l) (i : Int) = ((rk l i : Nat) : Int) := by
  unfold rd rks
  rw [Int.toNat_natCast, List.getD_eq_getElem?_getD, List.getElem?_map, List.getElem?_range h]; rfl
theorem rd_ends {l : List Int} {k i : Nat} (h : (endsN l)[k]? = some i) : rd (endsOf l) (k : Int) = (i : Int) := by
  unfold rd
  rw [Int.toNat_natCast, List.getD_eq_getElem?_getD, endsOf_eq, List.getElem?_map, h]; rfl
theorem mx_eq (a b : Int) : mx a b = max a b := by unfold mx; rcases Int.le_total a b with h | h <;> (split <;> omega)
theorem common_l2 {l : List Int} (hl : isBytes l) (hn : l.length ≤ 60) (out : List Int) (hlen : out.length = l.length - 1) (i : Nat) (hi : i < l.length) (hr : rk l i ≠ 0) (j : Nat) (hal : j < l.length) (R : List Int)
    (hR : Ev (fun k => ends_common.l1 k l (endsOf l) (out.set (rk l i - 1) ((cm l i j : Nat) : Int)) (rks l) (((cm l i j - 1 : Nat)) : Int) (l.length : Int) ((i + 1 : Nat) : Int)) R) (d : Nat) :
    ∀ h : Nat, h + d = cm l i j → Ev (fun k => ends_common.l2 k l (endsOf l) out (rks l) (h : Int) (i : Int) (j : Int) (l.length : Int) (i : Int)) R := by
  have hrl := rk_lt hl hi
  have hcl := lcp_le (l.drop i) (l.drop j)
  rw [List.length_drop, List.length_drop] at hcl
  have hcl' : cm l i j ≤ 60 := by unfold cm; omega
  induction d with
  | zero =>
    intro h hh
    refine Ev.step (fun k => ends_common.l2.eq_2 _ _ _ _ _ _ _ _ _ k) ?_
    have hb : h ≤ 60 := Nat.le_trans (Nat.le_of_eq (by omega)) hcl'
    have z1 : (0 : Int) ≤ (i : Int) + (h : Int) := Int.add_nonneg (Int.natCast_nonneg _) (Int.natCast_nonneg _)
    have z2 : (0 : Int) ≤ (j : Int) + (h : Int) := Int.add_nonneg (Int.natCast_nonneg _) (Int.natCast_nonneg _)
    have hnl : ¬ h < cm l i j := by omega
    have e0 : h = cm l i j := by omega
    have ew : ((rk l i : Nat) : Int) - 1 = ((rk l i - 1 : Nat) : Int) := by omega
    have em : mx ((h : Int) - 1) 0 = ((cm l i j - 1 : Nat) : Int) := by rw [mx_eq]; omega
    have ei : (i : Int) + 1 = ((i + 1 : Nat) : Int) := by omega
    have goal : ∀ k, (if (0 : Int) ≤ (i : Int) then (if (i : Int) < ((rks l).length : Int) then (if 0 ≤ (wrap64 ((rd (rks l) (i : Int)) - 1)) then (if (wrap64 ((rd (rks l) (i : Int)) - 1)) < (out.length : Int) then (ends_common.l1 k l (endsOf l) (out.set ((wrap64 ((rd (rks l) (i : Int)) - 1)) : Int).toNat (h : Int)) (rks l) (mx (wrap64 ((h : Int) - 1)) 0) (l.length : Int) (wrap64 ((i : Int) + 1))) else (none)) else (none)) else (none)) else (none)) = ends_common.l1 k l (endsOf l) (out.set (rk l i - 1) ((cm l i j : Nat) : Int)) (rks l) (((cm l i j - 1 : Nat)) : Int) (l.length : Int) ((i + 1 : Nat) : Int) := by
      intro k
      rw [rks_len, rd_rks hi, w64 (by omega) (by omega), w64 (by omega) (by omega), w64 (by omega) (by omega), em, ew, ei, Int.toNat_natCast, if_pos (by omega), if_pos (by omega), if_pos (by omega), if_pos (by omega), ← e0]
    have w1 : wrap64 ((i : Int) + (h : Int)) = (i : Int) + (h : Int) := w64_plus (Nat.le_trans (Nat.le_of_lt hi) (Nat.le_trans hn (by decide))) (Nat.le_trans hb (by decide))
    have w2 : wrap64 ((j : Int) + (h : Int)) = (j : Int) + (h : Int) := w64_plus (Nat.le_trans (Nat.le_of_lt hal) (Nat.le_trans hn (by decide))) (Nat.le_trans hb (by decide))
    have hx := fun q => hnl ((cm_next l i j h (Nat.le_of_eq e0)).1 q)
    simp only [w1, w2]
    by_cases c1 : (i : Int) + (h : Int) < (l.length : Int)
    · by_cases c2 : (j : Int) + (h : Int) < (l.length : Int)
      · have c3 : ¬ rd l ((i : Int) + (h : Int)) = rd l ((j : Int) + (h : Int)) := fun e => hx ⟨⟨c1, c2⟩, e⟩
        simp only [if_pos c1, if_pos c2, if_pos z1, if_pos z2, if_neg c3]
        exact Ev.congr goal hR
      · simp only [if_pos c1, if_neg c2]
        exact Ev.congr goal hR
    · simp only [if_neg c1]
      exact Ev.congr goal hR
  | succ d ih =>
    intro h hh
    refine Ev.step (fun k => ends_common.l2.eq_2 _ _ _ _ _ _ _ _ _ k) ?_
    have hlt : h < cm l i j := by omega
    have hd : h + 1 + d = cm l i j := by omega
    have hb : h ≤ 60 := Nat.le_trans (Nat.le_of_lt hlt) hcl'
    have z1 : (0 : Int) ≤ (i : Int) + (h : Int) := Int.add_nonneg (Int.natCast_nonneg _) (Int.natCast_nonneg _)
    have z2 : (0 : Int) ≤ (j : Int) + (h : Int) := Int.add_nonneg (Int.natCast_nonneg _) (Int.natCast_nonneg _)
    have w3 : wrap64 ((h : Int) + 1) = ((h + 1 : Nat) : Int) := w64_succ (Nat.le_trans hb (by decide))
    have w1 : wrap64 ((i : Int) + (h : Int)) = (i : Int) + (h : Int) := w64_plus (Nat.le_trans (Nat.le_of_lt hi) (Nat.le_trans hn (by decide))) (Nat.le_trans hb (by decide))
    have w2 : wrap64 ((j : Int) + (h : Int)) = (j : Int) + (h : Int) := w64_plus (Nat.le_trans (Nat.le_of_lt hal) (Nat.le_trans hn (by decide))) (Nat.le_trans hb (by decide))
    have hx := (cm_next l i j h (Nat.le_of_lt hlt)).2 hlt
    simp only [w1, w2, w3, if_pos hx.1.1, if_pos hx.1.2, if_pos z1, if_pos z2, if_pos hx.2]
    exact ih (h + 1) hd
theorem common_l1 {l : List Int} (hl : isBytes l) (hn : l.length ≤ 60) (d : Nat) : ∀ (i h : Nat) (out : List Int), i + d = l.length → out.length = l.length - 1 → (∀ j, j < i → rk l j ≠ 0 → out[rk l j - 1]? = some ((cm l j (ahd l j) : Nat) : Int)) → (i < l.length → rk l i ≠ 0 → h ≤ cm l i (ahd l i)) →
    Ev (fun k => ends_common.l1 k l (endsOf l) out (rks l) (h : Int) (l.length : Int) (i : Int)) (commonOf l) := by
  induction d with
  | zero =>
    intro i h out hi hlen ho _
    refine Ev.step (fun k => ends_common.l1.eq_2 _ _ _ _ _ _ _ k) ?_
    simp only [if_neg (show ¬ (i : Int) < (l.length : Int) by omega)]
    exact Ev.val (common_out hl hlen (fun j hj hr => ho j (by omega) hr))
  | succ d ih =>
    intro i h out hi hlen ho hh
    refine Ev.step (fun k => ends_common.l1.eq_2 _ _ _ _ _ _ _ k) ?_
    have hil : i < l.length := by omega
    have hrl := rk_lt hl hil
    have ei : wrap64 ((i : Int) + 1) = ((i + 1 : Nat) : Int) := w64_succ (by omega)
    simp only [if_pos (show (i : Int) < (l.length : Int) by omega), if_pos (show (0 : Int) ≤ (i : Int) by omega), rks_len, rd_rks hil]
    by_cases c : rk l i = 0
    · simp only [if_pos (show ((rk l i : Nat) : Int) = 0 by omega), ei]
      exact ih (i + 1) 0 out (by omega) hlen (fun j hj hr => ho j (by
        rcases Nat.lt_or_ge j i with q | q
        · exact q
        · exact absurd (show rk l j = 0 by rw [show j = i by omega]; exact c) hr) hr) (fun _ _ => Nat.zero_le _)
    · have ew : wrap64 (((rk l i : Nat) : Int) - 1) = ((rk l i - 1 : Nat) : Int) := w64_pred (by omega) (by omega)
      have el : ((endsOf l).length : Int) = (l.length : Int) := by rw [endsOf_eq, List.length_map, endsN_len]
      simp only [if_neg (show ¬ ((rk l i : Nat) : Int) = 0 by omega), ew, if_pos (show (0 : Int) ≤ ((rk l i - 1 : Nat) : Int) by omega), el, if_pos (show ((rk l i - 1 : Nat) : Int) < (l.length : Int) by omega), rd_ends (ahd_at hl hil c)]
      have hh' := hh hil c
      refine common_l2 hl hn out hlen i hil c (ahd l i) (endsN_lt (List.mem_of_getElem? (ahd_at hl hil c))) _ ?_ (cm l i (ahd l i) - h) h (by omega)
      refine ih (i + 1) (cm l i (ahd l i) - 1) _ (by omega) (by rw [List.length_set]; exact hlen) (fun j hj hr => ?_) (fun h1 h2 => ?_)
      · rw [set_toNat _ _ _ _ (by omega)]
        by_cases e : rk l i - 1 = rk l j - 1
        · rw [if_pos e, rk_inj hl hil (by omega) (by omega : rk l i = rk l j)]
        · rw [if_neg e]
          exact ho j (by
            rcases Nat.lt_or_ge j i with q | q
            · exact q
            · exact absurd (by rw [show j = i by omega]) e) hr
      · rcases kasai hl h1 c with q | q
        · exact q
        · exact absurd q h2
theorem common_l0 {l : List Int} (hl : isBytes l) (hn : l.length ≤ 60) (d : Nat) : ∀ (k0 : Nat) (t : List Int), k0 + d = l.length → t.length = l.length → (∀ k i, k < k0 → (endsN l)[k]? = some i → t[i]? = some (k : Int)) →
    Ev (fun k => ends_common.l0 k l (endsOf l) (List.replicate (l.length - 1) 0) t (endsOf l) (l.length : Int) (k0 : Int)) (commonOf l) := by
  have el : ((endsOf l).length : Int) = (l.length : Int) := by rw [endsOf_eq, List.length_map, endsN_len]
  induction d with
  | zero =>
    intro k0 t hk ht h
    refine Ev.step (fun k => ends_common.l0.eq_2 _ _ _ _ _ _ _ k) ?_
    simp only [if_neg (show ¬ (k0 : Int) < (l.length : Int) by omega)]
    have e : t = rks l := by
      unfold rks
      apply List.ext_getElem?
      intro i
      by_cases hi : i < l.length
      · rw [h (rk l i) i (by have := rk_lt hl hi; omega) (rk_at hl hi), List.getElem?_map, List.getElem?_range hi]; rfl
      · rw [List.getElem?_eq_none (by omega), List.getElem?_eq_none (by rw [List.length_map, List.length_range]; omega)]
    rw [e]
    exact common_l1 hl hn l.length 0 0 _ (by omega) (by simp) (fun j hj => by omega) (fun _ _ => Nat.zero_le _)
  | succ d ih =>
    intro k0 t hk ht h
    refine Ev.step (fun k => ends_common.l0.eq_2 _ _ _ _ _ _ _ k) ?_
    have hx : (endsN l)[k0]? = some ((endsN l)[k0]'(by rw [endsN_len]; omega)) := List.getElem?_eq_getElem _
    generalize (endsN l)[k0]'(by rw [endsN_len]; omega) = x at hx
    have hxl := endsN_lt (List.mem_of_getElem? hx)
    have ek : wrap64 ((k0 : Int) + 1) = ((k0 + 1 : Nat) : Int) := w64_succ (by omega)
    simp only [if_pos (show (k0 : Int) < (l.length : Int) by omega), if_pos (show (0 : Int) ≤ (k0 : Int) by omega), el, rd_ends hx, if_pos (show (0 : Int) ≤ (x : Int) by omega), if_pos (show (x : Int) < (t.length : Int) by omega), Int.toNat_natCast, ek]
    refine ih (k0 + 1) _ (by omega) (by rw [List.length_set]; exact ht) (fun k i hk hi => ?_)
    rw [set_toNat _ _ _ _ (by omega)]
    by_cases e : x = i
    · subst e
      rw [if_pos rfl]
      have := rk_of hl hx
      have := rk_of hl hi
      congr 1; omega
    · rw [if_neg e]
      exact h k i (by
        rcases Nat.lt_or_ge k k0 with q | q
        · exact q
        · rw [show k = k0 by omega, hx] at hi
          injection hi with hi
          exact absurd hi e) hi
theorem common_ev {l : List Int} (hl : isBytes l) (hn : l.length ≤ 60) : Ev (fun k => ends_common.f k l (endsOf l)) (commonOf l) := by
  unfold ends_common.f
  have el : ((endsOf l).length : Int) = (l.length : Int) := by rw [endsOf_eq, List.length_map, endsN_len]
  have em : mx (wrap64 ((l.length : Int) - 1)) 0 = ((l.length - 1 : Nat) : Int) := by rw [w64 (by omega) (by omega), mx_eq]; omega
  simp only [el, em, Int.toNat_natCast, if_pos (show (0 : Int) ≤ ((l.length - 1 : Nat) : Int) by omega), if_pos (show l.length - 1 ≤ 35184372088832 by omega), if_pos (show (0 : Int) ≤ (l.length : Int) by omega), if_pos (show l.length ≤ 35184372088832 by omega)]
  exact common_l0 hl hn l.length 0 _ (by omega) (by simp) (fun k i hk => by omega)

/-! ### firsts of their kind: as many in whatever order -/
def la {β : Type} (E : β → β → Bool) : List β → Nat
  | [] => 0
  | a :: t => la E t + (if (E a a && !t.any (E a)) = true then 1 else 0)
theorem la_swap {β : Type} {E : β → β → Bool} (sym : ∀ a b, E a b = true → E b a = true) (tr : ∀ a b c, E a b = true → E b c = true → E a c = true) (a b : β) (t : List β) : la E (b :: a :: t) = la E (a :: b :: t) := by
  unfold la la
  by_cases h : E a b = true
  · have h' := sym _ _ h
    have haa := tr _ _ _ h h'
    have hbb := tr _ _ _ h' h
    have e : t.any (E a) = t.any (E b) := by
      rw [Bool.eq_iff_iff, List.any_eq_true, List.any_eq_true]
      exact ⟨fun ⟨x, hx, q⟩ => ⟨x, hx, tr _ _ _ h' q⟩, fun ⟨x, hx, q⟩ => ⟨x, hx, tr _ _ _ h q⟩⟩
    simp only [List.any_cons, h, h', haa, hbb, e, Bool.true_and, Bool.true_or, Bool.not_true, Bool.false_eq_true, if_false, Nat.add_zero]
  · have h1 : E a b = false := by simpa using h
    have h2 : E b a = false := by
      cases q : E b a with
      | false => rfl
      | true => exact absurd (sym _ _ q) h
    simp only [List.any_cons, h1, h2, Bool.false_or]
    exact Nat.add_right_comm _ _ _
theorem la_perm {β : Type} {E : β → β → Bool} (sym : ∀ a b, E a b = true → E b a = true) (tr : ∀ a b c, E a b = true → E b c = true → E a c = true) {x y : List β} (h : x.Perm y) : la E x = la E y := by
  induction h with
  | nil => rfl
  | cons a hp ih =>
    unfold la
    rw [ih, hp.any_eq]
  | swap a b t => exact la_swap sym tr a b t
  | trans _ _ i1 i2 => exact i1.trans i2
theorem la_block {E : Nat × Nat → Nat × Nat → Bool} (hE : ∀ p q, E p q = true → p.2 = q.2) (i : Nat) (t : List (Nat × Nat)) : ∀ ts : List Nat, ts.Nodup → la E (ts.map (fun L => (i, L)) ++ t) = la E t + ts.countP fun L => E (i, L) (i, L) && !t.any (E (i, L))
  | [], _ => by simp
  | a :: ts, hn => by
    have hn := List.nodup_cons.1 hn
    rw [List.map_cons, List.cons_append]
    show la E (ts.map (fun L => (i, L)) ++ t) + _ = _
    rw [la_block hE i t ts hn.2, List.any_append]
    have e : (ts.map fun L => (i, L)).any (E (i, a)) = false := by
      rw [List.any_eq_false]
      intro x hx hq
      obtain ⟨L, hL, rfl⟩ := List.mem_map.1 hx
      have := hE _ _ hq
      exact hn.1 (by rw [show a = L from this]; exact hL)
    rw [e, Bool.false_or, List.countP_cons]
    exact (Nat.add_assoc _ _ _)
theorem countP_interval (b c : Nat) : ∀ n, (List.range n).countP (fun L => decide (L < b) && !decide (L < c)) = min n b - c
  | 0 => by simp
  | n + 1 => by
    rw [List.range_succ, List.countP_append, countP_interval b c n, List.countP_cons, List.countP_nil]
    by_cases h1 : n < b <;> by_cases h2 : n < c <;> simp [h1, h2] <;> omega
theorem countP_more (p : Nat → Bool) (m : Nat) (h : ∀ L, m ≤ L → p L = false) : ∀ d, (List.range (m + d)).countP p = (List.range m).countP p
  | 0 => rfl
  | d + 1 => by
    rw [show m + (d + 1) = (m + d) + 1 by omega, List.range_succ, List.countP_append, countP_more p m h d]
    simp [h (m + d) (by omega)]
/-! ### the stretches of a word -/
theorem le_lcp : ∀ (L : Nat) (a b : List Int), L ≤ lcp a b ↔ (L ≤ a.length ∧ L ≤ b.length ∧ a.take L = b.take L)
  | 0, _, _ => by simp
  | L + 1, [], _ => by simp [lcp]
  | L + 1, _ :: _, [] => by simp [lcp]
  | L + 1, a :: x, b :: y => by
    unfold lcp
    by_cases h : a = b
    · rw [if_pos h]
      have := le_lcp L x y
      simp only [List.length_cons, List.take_succ_cons, List.cons.injEq, h, true_and]
      rw [← Nat.succ_le_succ_iff] at this
      simp only [Nat.succ_eq_add_one] at this
      rw [this]
      constructor
      · rintro ⟨h1, h2, h3⟩; exact ⟨by omega, by omega, h3⟩
      · rintro ⟨h1, h2, h3⟩; exact ⟨by omega, by omega, h3⟩
    · rw [if_neg h]
      simp [h]
theorem cm_comm (l : List Int) (i j : Nat) : cm l i j = cm l j i := lcp_comm _ _
theorem cm_trans {l : List Int} {i j k L : Nat} (h1 : L ≤ cm l i j) (h2 : L ≤ cm l j k) : L ≤ cm l i k := by
  unfold cm at *
  rw [le_lcp] at *
  exact ⟨h1.1, h2.2.1, h1.2.2.trans h2.2.2⟩
theorem lcp_self : ∀ a : List Int, lcp a a = a.length
  | [] => rfl
  | a :: x => by unfold lcp; rw [if_pos rfl, lcp_self x]; rfl
theorem cm_self (l : List Int) (i : Nat) : cm l i i = l.length - i := by unfold cm; rw [lcp_self, List.length_drop]
def EL (l : List Int) (p q : Nat × Nat) : Bool := decide (p.2 = q.2 ∧ p.2 < cm l p.1 q.1)
theorem EL_iff (l : List Int) (p q : Nat × Nat) : EL l p q = true ↔ p.2 = q.2 ∧ p.2 < cm l p.1 q.1 := decide_eq_true_iff
theorem EL_sym (l : List Int) (a b : Nat × Nat) (h : EL l a b = true) : EL l b a = true := by
  rw [EL_iff] at *
  exact ⟨h.1.symm, by rw [cm_comm, ← h.1]; exact h.2⟩
theorem EL_tr (l : List Int) (a b c : Nat × Nat) (h1 : EL l a b = true) (h2 : EL l b c = true) : EL l a c = true := by
  rw [EL_iff] at *
  exact ⟨h1.1.trans h2.1, cm_trans (L := a.2 + 1) h1.2 (by rw [h1.1]; exact h2.2)⟩
def blk (n : Nat) (i : Nat) : List (Nat × Nat) := (List.range n).map fun L => (i, L)
theorem blk_any (l : List Int) (n i j L : Nat) (hL : L < n) : (blk n j).any (EL l (i, L)) = decide (L < cm l i j) := by
  rw [Bool.eq_iff_iff, List.any_eq_true, decide_eq_true_iff]
  constructor
  · rintro ⟨x, hx, h⟩
    obtain ⟨M, _, rfl⟩ := List.mem_map.1 hx
    exact ((EL_iff _ _ _).1 h).2
  · intro h
    exact ⟨(j, L), List.mem_map.2 ⟨L, List.mem_range.2 hL, rfl⟩, (EL_iff _ _ _).2 ⟨rfl, h⟩⟩
/-- How many stretches begin first here, behind the places R. -/
def fresh (l : List Int) (R : List Nat) (i : Nat) (L : Nat) : Bool := decide (L < l.length - i) && !R.any fun j => decide (L < cm l i j)
theorem la_more (l : List Int) (R : List Nat) (i : Nat) : la (EL l) ((i :: R).flatMap (blk l.length)) = la (EL l) (R.flatMap (blk l.length)) + (List.range l.length).countP (fresh l R i) := by
  rw [List.flatMap_cons]
  unfold blk
  rw [la_block (fun p q h => ((EL_iff l p q).1 h).1) i _ _ List.nodup_range]
  congr 1
  apply List.countP_congr
  intro L hL
  have hL := List.mem_range.1 hL
  have e1 : EL l (i, L) (i, L) = decide (L < l.length - i) := by
    unfold EL
    simp [cm_self]
  have e2 : (R.flatMap fun i => (List.range l.length).map fun L => (i, L)).any (EL l (i, L)) = R.any fun j => decide (L < cm l i j) := by
    rw [List.any_flatMap]
    congr 1
    funext j
    exact blk_any l l.length i j L hL
  rw [e1, e2]
  rfl
def psum (f : Nat → Nat) : Nat → Nat
  | 0 => 0
  | k + 1 => psum f k + f k
theorem psum_list (f : Nat → Nat) (g : Nat → Nat) (S : List Nat) (h : ∀ k x, S[k]? = some x → f k = g x) : ∀ k, k ≤ S.length → psum f k = ((S.take k).map g).sum
  | 0, _ => by simp [psum]
  | k + 1, hk => by
    have hx : S[k]? = some S[k] := List.getElem?_eq_getElem _
    rw [List.take_add_one, hx, List.map_append, List.sum_append, psum, psum_list f g S h k (by omega), h k _ hx]
    simp
theorem perm_sum {x y : List Nat} (h : x.Perm y) : x.sum = y.sum := by
  induction h with
  | nil => rfl
  | cons a _ ih => simp [ih]
  | swap a b t => simp; omega
  | trans _ _ i1 i2 => exact i1.trans i2
theorem sum_down (n : Nat) : ∀ k, k ≤ n → 2 * psum (fun i => n - i) k + k * k = k * (2 * n + 1)
  | 0, _ => by simp [psum]
  | k + 1, hk => by
    have := sum_down n k (by omega)
    unfold psum
    have e1 : (k + 1) * (k + 1) = k * k + 2 * k + 1 := by rw [Nat.mul_add, Nat.add_mul]; omega
    have e2 : (k + 1) * (2 * n + 1) = k * (2 * n + 1) + (2 * n + 1) := by rw [Nat.add_mul]; omega
    omega
/-- what stands alike at neighbours -/
def cN (l : List Int) (k : Nat) : Nat := cm l ((endsN l).getD (k + 1) 0) ((endsN l).getD k 0)
theorem ends_sum (l : List Int) : psum (fun k => l.length - (endsN l).getD k 0) l.length = psum (fun i => l.length - i) l.length := by
  rw [psum_list _ (fun x => l.length - x) (endsN l) (fun k x hx => by rw [List.getD_eq_getElem?_getD, hx]; rfl) l.length (by rw [endsN_len]; exact Nat.le_refl _)]
  rw [psum_list (fun i => l.length - i) (fun x => l.length - x) (List.range l.length) (fun k x hx => by
    obtain ⟨h1, rfl⟩ := List.getElem?_eq_some_iff.1 hx
    simp) l.length (by rw [List.length_range]; exact Nat.le_refl _)]
  rw [List.take_of_length_le (by rw [endsN_len]; exact Nat.le_refl _), List.take_of_length_le (by rw [List.length_range]; exact Nat.le_refl _)]
  exact perm_sum ((endsN_perm l).map _)
theorem fresh_sorted {l : List Int} (hl : isBytes l) {k x : Nat} (hx : (endsN l)[k]? = some x) : (List.range l.length).countP (fresh l ((endsN l).take k).reverse x) + (if k = 0 then 0 else cN l (k - 1)) = l.length - x := by
  have hkl : k < l.length := by have := (List.getElem?_eq_some_iff.1 hx).1; rwa [endsN_len] at this
  obtain ⟨c, hc⟩ : ∃ c, (if k = 0 then 0 else cN l (k - 1)) = c := ⟨_, rfl⟩
  have hany : ∀ L, ((endsN l).take k).reverse.any (fun j => decide (L < cm l x j)) = decide (L < c) := by
    intro L
    rw [List.any_reverse, Bool.eq_iff_iff, List.any_eq_true, decide_eq_true_iff]
    constructor
    · rintro ⟨j, hj, h⟩
      have h := of_decide_eq_true h
      obtain ⟨m, hm, hmj⟩ := List.mem_take_iff_getElem.1 hj
      have hm1 : m < k := by omega
      have hmj' : (endsN l)[m]? = some j := by rw [← hmj]; exact List.getElem?_eq_getElem _
      rw [if_neg (by omega)] at hc
      rw [← hc]
      unfold cN
      rw [show k - 1 + 1 = k by omega, List.getD_eq_getElem?_getD, hx]
      have hp : (endsN l)[k - 1]? = some ((endsN l).getD (k - 1) 0) := by
        rw [List.getD_eq_getElem?_getD, List.getElem?_eq_getElem (by rw [endsN_len]; omega)]; rfl
      rw [Option.getD_some]
      generalize (endsN l).getD (k - 1) 0 = p at hp
      rcases Nat.lt_or_ge m (k - 1) with q | q
      · have h3 := lcp_between _ _ _ (ends_lt hl hmj' hp q) (ends_lt hl hp hx (by omega))
        have e1 : cm l x j = lcp (l.drop j) (l.drop x) := lcp_comm _ _
        have e2 : cm l x p = lcp (l.drop p) (l.drop x) := lcp_comm _ _
        rw [e1] at h
        rw [e2]
        exact Nat.lt_of_lt_of_le h h3
      · rw [show m = k - 1 by omega, hp] at hmj'
        injection hmj' with e
        rw [e]; exact h
    · intro h
      by_cases h0 : k = 0
      · rw [if_pos h0] at hc
        omega
      · rw [if_neg h0] at hc
        have hp : (endsN l)[k - 1]? = some ((endsN l).getD (k - 1) 0) := by
          rw [List.getD_eq_getElem?_getD, List.getElem?_eq_getElem (by rw [endsN_len]; omega)]; rfl
        refine ⟨(endsN l).getD (k - 1) 0, ?_, ?_⟩
        · rw [List.mem_take_iff_getElem]
          obtain ⟨h1, h2⟩ := List.getElem?_eq_some_iff.1 hp
          exact ⟨k - 1, by omega, h2⟩
        · rw [← hc] at h
          unfold cN at h
          rw [show k - 1 + 1 = k by omega, List.getD_eq_getElem?_getD (i := k), hx, Option.getD_some] at h
          exact decide_eq_true h
  have hcl : c ≤ l.length - x := by
    rw [← hc]
    split
    · omega
    · unfold cN
      rw [show k - 1 + 1 = k by omega, List.getD_eq_getElem?_getD (i := k), hx, Option.getD_some]
      have := (lcp_le (l.drop x) (l.drop ((endsN l).getD (k - 1) 0))).1
      rw [List.length_drop] at this
      exact this
  rw [hc]
  have : (List.range l.length).countP (fresh l ((endsN l).take k).reverse x) = min l.length (l.length - x) - c := by
    rw [← countP_interval]
    congr 1
    funext L
    unfold fresh
    rw [hany L]
  rw [this]
  omega
theorem la_sorted {l : List Int} (hl : isBytes l) : ∀ k, k ≤ l.length → la (EL l) (((endsN l).take k).reverse.flatMap (blk l.length)) + psum (cN l) (k - 1) = psum (fun m => l.length - (endsN l).getD m 0) k
  | 0, _ => by simp [la, psum]
  | k + 1, hk => by
    have hx : (endsN l)[k]? = some ((endsN l).getD k 0) := by
      rw [List.getD_eq_getElem?_getD, List.getElem?_eq_getElem (by rw [endsN_len]; omega)]; rfl
    have h1 := la_sorted hl k (by omega)
    have h2 := fresh_sorted hl hx
    rw [List.take_add_one, hx, Option.toList_some, List.reverse_append, List.reverse_singleton, List.singleton_append, la_more, psum, ← h1, Nat.add_sub_cancel]
    by_cases h0 : k = 0
    · subst h0
      rw [if_pos rfl] at h2
      simp only [psum] at *
      omega
    · rw [if_neg h0] at h2
      have e : psum (cN l) k = psum (cN l) (k - 1) + cN l (k - 1) := by
        conv => lhs; rw [show k = (k - 1) + 1 by omega]
        rfl
      rw [e]
      omega
/-- How many words stand in it. -/
def diffN (l : List Int) : Nat := la (EL l) ((List.range l.length).reverse.flatMap (blk l.length))
theorem diff_sum {l : List Int} (hl : isBytes l) : diffN l + psum (cN l) (l.length - 1) = psum (fun i => l.length - i) l.length := by
  have h := la_sorted hl l.length (Nat.le_refl _)
  rw [ends_sum, List.take_of_length_le (by rw [endsN_len]; exact Nat.le_refl _)] at h
  rw [← h]
  congr 1
  refine la_perm (EL_sym l) (EL_tr l) ?_
  exact (((List.reverse_perm _).trans (endsN_perm l).symm).trans (List.reverse_perm _).symm).flatMap_right _

/-! ### the program's -/
theorem common_rd {l : List Int} {k : Nat} (h : k < l.length - 1) : rd (commonOf l) (k : Int) = ((cN l k : Nat) : Int) := by
  unfold rd commonOf
  rw [Int.toNat_natCast, List.getD_eq_getElem?_getD, List.getElem?_map, List.getElem?_range h]; rfl
theorem psum_mono (f : Nat → Nat) (a : Nat) : ∀ d, psum f a ≤ psum f (a + d)
  | 0 => Nat.le_refl _
  | d + 1 => Nat.le_trans (psum_mono f a d) (by rw [show a + (d + 1) = (a + d) + 1 by omega, psum]; exact Nat.le_add_right _ _)
theorem diff_l0 (l : List Int) (T : Nat) (hT : T ≤ 1000000) (hle : psum (cN l) (l.length - 1) ≤ T) (hn : l.length ≤ 60) (d : Nat) : ∀ k0 : Nat, k0 + d = l.length - 1 →
    Ev (fun k => ends_Different.l0 k (((T - psum (cN l) k0 : Nat)) : Int) (commonOf l) ((l.length - 1 : Nat) : Int) (k0 : Int)) ((((T - psum (cN l) (l.length - 1) : Nat)) : Int), 0) := by
  have hcl : ((commonOf l).length : Int) = ((l.length - 1 : Nat) : Int) := by simp [commonOf]
  induction d with
  | zero =>
    intro k0 hk
    refine Ev.step (fun k => ends_Different.l0.eq_2 _ _ _ _ k) ?_
    simp only [if_neg (show ¬ (k0 : Int) < ((l.length - 1 : Nat) : Int) by omega)]
    exact Ev.val (by rw [show k0 = l.length - 1 by omega])
  | succ d ih =>
    intro k0 hk
    refine Ev.step (fun k => ends_Different.l0.eq_2 _ _ _ _ k) ?_
    have c1 : (k0 : Int) < ((l.length - 1 : Nat) : Int) := by omega
    have e1 : wrap64 ((k0 : Int) + 1) = ((k0 + 1 : Nat) : Int) := w64_succ (by omega)
    have hm := psum_mono (cN l) (k0 + 1) d
    rw [show k0 + 1 + d = l.length - 1 by omega] at hm
    have hs : psum (cN l) (k0 + 1) = psum (cN l) k0 + cN l k0 := rfl
    have e2 : wrap64 ((((T - psum (cN l) k0 : Nat)) : Int) - ((cN l k0 : Nat) : Int)) = (((T - psum (cN l) (k0 + 1) : Nat)) : Int) := by
      generalize psum (cN l) (k0 + 1) = a at *
      generalize psum (cN l) k0 = b at *
      generalize cN l k0 = c at *
      generalize psum (cN l) (l.length - 1) = e at *
      rw [w64 (by omega) (by omega)]
      omega
    have hi := ih (k0 + 1) (by omega)
    rw [hcl]
    simp only [if_pos c1, if_pos (Int.natCast_nonneg k0), common_rd (show k0 < l.length - 1 by omega), e2, e1]
    exact hi
/-! ### the document's -/
theorem Occ_cm {l : List Int} {i j L : Nat} (hi : i + L ≤ l.length) (hL : 1 ≤ L) : Occ l ((l.drop i).take L) (j : Int) ↔ L ≤ cm l i j := by
  unfold Occ cm
  rw [le_lcp, List.length_take, List.length_drop, List.length_drop, Int.toNat_natCast, Nat.min_eq_left (by omega)]
  constructor
  · rintro ⟨_, h2, h3⟩
    exact ⟨by omega, by omega, h3.symm⟩
  · rintro ⟨_, h2, h3⟩
    exact ⟨by omega, by omega, h3.symm⟩
theorem rdiff_l2 {l : List Int} (hn : l.length ≤ 60) (i L : Nat) (hi : i + L + 1 ≤ l.length) (x3 : Int) (R : Int)
    (h1 : fresh l (List.range i) i L = true → Ev (fun k => coppicerref_Different.l1 k l (wrap64 (x3 + 1)) (i : Int) (wrap64 (((i + L + 1 : Nat) : Int) + 1))) R)
    (h0 : fresh l (List.range i) i L = false → Ev (fun k => coppicerref_Different.l1 k l x3 (i : Int) (wrap64 (((i + L + 1 : Nat) : Int) + 1))) R) (d : Nat) : ∀ j : Nat, j + d = i →
    Ev (fun k => coppicerref_Different.l2 k l x3 (i : Int) ((i + L + 1 : Nat) : Int) (!(List.range j).any fun j => decide (L < cm l i j)) (j : Int)) R := by
  induction d with
  | zero =>
    intro j hj
    refine Ev.step (fun k => coppicerref_Different.l2.eq_2 _ _ _ _ _ _ k) ?_
    have e : j = i := by omega
    subst e
    have c1 : ¬ (j : Int) < (j : Int) := by omega
    have hf : fresh l (List.range j) j L = !(List.range j).any fun i => decide (L < cm l j i) := by
      unfold fresh
      rw [decide_eq_true (show L < l.length - j by omega), Bool.true_and]
    rw [hf] at h1 h0
    simp only [if_neg c1]
    cases hq : (!(List.range j).any fun i => decide (L < cm l j i)) with
    | true => simp only [if_true]; exact h1 hq
    | false => simp only [Bool.false_eq_true, if_false]; exact h0 hq
  | succ d ih =>
    intro j hj
    refine Ev.step (fun k => coppicerref_Different.l2.eq_2 _ _ _ _ _ _ k) ?_
    have c1 : (j : Int) < (i : Int) := by omega
    have c2 : (i : Int) ≤ ((i + L + 1 : Nat) : Int) := by omega
    have c3 : ((i + L + 1 : Nat) : Int) ≤ (l.length : Int) := by omega
    have e1 : wrap64 ((j : Int) + 1) = ((j + 1 : Nat) : Int) := w64_succ (by omega)
    have hi' := ih (j + 1) (by omega)
    rw [List.range_succ, List.any_append, List.any_cons, List.any_nil, Bool.or_false] at hi'
    have es : (l.take (i + L + 1)).drop i = (l.drop i).take (L + 1) := by rw [List.drop_take]; congr 1; omega
    have ho := Occ_cm (l := l) (i := i) (j := j) (L := L + 1) (by omega) (by omega)
    simp only [if_pos c1, e1, Int.toNat_natCast, es]
    cases hq : (List.range j).any fun j => decide (L < cm l i j) with
    | true =>
      rw [hq, Bool.true_or] at hi'
      simp only [Bool.not_true, Bool.false_eq_true, if_false]
      exact hi'
    | false =>
      rw [hq, Bool.false_or] at hi'
      simp only [Bool.not_false, if_true, if_pos (Int.natCast_nonneg i), if_pos c2, if_pos c3]
      refine Ev.bind (At_ev l _ (j : Int) (by omega) (by rw [List.length_take, List.length_drop]; omega)) ?_
      have e2 : decide (Occ l ((l.drop i).take (L + 1)) (j : Int)) = decide (L < cm l i j) := by
        rw [Bool.eq_iff_iff, decide_eq_true_iff, decide_eq_true_iff, ho]; rfl
      rw [e2]
      exact hi'
theorem rdiff_l1 {l : List Int} (hn : l.length ≤ 60) (i : Nat) (hi : i < l.length) (R : Int) (base : Nat) (hb : base ≤ 100000)
    (h : Ev (fun k => coppicerref_Different.l0 k l ((base + (List.range (l.length - i)).countP (fresh l (List.range i) i) : Nat) : Int) (wrap64 ((i : Int) + 1))) R) (d : Nat) : ∀ L : Nat, L + d = l.length - i →
    Ev (fun k => coppicerref_Different.l1 k l ((base + (List.range L).countP (fresh l (List.range i) i) : Nat) : Int) (i : Int) ((i + L + 1 : Nat) : Int)) R := by
  induction d with
  | zero =>
    intro L hL
    refine Ev.step (fun k => coppicerref_Different.l1.eq_2 _ _ _ _ k) ?_
    have c1 : ¬ ((i + L + 1 : Nat) : Int) ≤ (l.length : Int) := by omega
    simp only [if_neg c1]
    rw [show L = l.length - i by omega]
    exact h
  | succ d ih =>
    intro L hL
    refine Ev.step (fun k => coppicerref_Different.l1.eq_2 _ _ _ _ k) ?_
    have c1 : ((i + L + 1 : Nat) : Int) ≤ (l.length : Int) := by omega
    have e1 : wrap64 (((i + L + 1 : Nat) : Int) + 1) = ((i + (L + 1) + 1 : Nat) : Int) := by rw [w64_succ (by omega)]; rfl
    have hc : (List.range L).countP (fresh l (List.range i) i) ≤ L := by
      have := List.countP_le_length (p := fresh l (List.range i) i) (l := List.range L)
      rwa [List.length_range] at this
    have hi' := ih (L + 1) (by omega)
    rw [List.range_succ, List.countP_append, List.countP_cons, List.countP_nil] at hi'
    simp only [if_pos c1]
    have := rdiff_l2 hn i L (by omega) ((base + (List.range L).countP (fresh l (List.range i) i) : Nat) : Int) R ?_ ?_ i 0 (by omega)
    · simpa using this
    · intro hf
      rw [hf, if_pos rfl] at hi'
      have e2 : wrap64 (((base + (List.range L).countP (fresh l (List.range i) i) : Nat) : Int) + 1) = ((base + ((List.range L).countP (fresh l (List.range i) i) + (0 + 1)) : Nat) : Int) := by
        rw [w64_succ (by omega)]; rfl
      rw [e1, e2]
      exact hi'
    · intro hf
      rw [hf, if_neg (by simp)] at hi'
      rw [e1]
      exact hi'
theorem rdiff_l0 {l : List Int} (hn : l.length ≤ 60) (d : Nat) : ∀ i : Nat, i + d = l.length → la (EL l) ((List.range i).reverse.flatMap (blk l.length)) ≤ i * 60 →
    Ev (fun k => coppicerref_Different.l0 k l ((la (EL l) ((List.range i).reverse.flatMap (blk l.length)) : Nat) : Int) (i : Int)) ((diffN l : Nat) : Int) := by
  induction d with
  | zero =>
    intro i hi _
    refine Ev.step (fun k => coppicerref_Different.l0.eq_2 _ _ _ k) ?_
    have c1 : ¬ (i : Int) < (l.length : Int) := by omega
    simp only [if_neg c1]
    rw [show i = l.length by omega]
    exact Ev.val rfl
  | succ d ih =>
    intro i hi hle
    refine Ev.step (fun k => coppicerref_Different.l0.eq_2 _ _ _ k) ?_
    have c1 : (i : Int) < (l.length : Int) := by omega
    have e1 : wrap64 ((i : Int) + 1) = ((i + 1 : Nat) : Int) := w64_succ (by omega)
    have hstep : la (EL l) ((List.range (i + 1)).reverse.flatMap (blk l.length)) = la (EL l) ((List.range i).reverse.flatMap (blk l.length)) + (List.range (l.length - i)).countP (fresh l (List.range i) i) := by
      rw [List.range_succ, List.reverse_append, List.reverse_singleton, List.singleton_append, la_more]
      congr 1
      have e : ∀ L, fresh l (List.range i).reverse i L = fresh l (List.range i) i L := fun L => by unfold fresh; rw [List.any_reverse]
      rw [show fresh l (List.range i).reverse i = fresh l (List.range i) i from funext e]
      have := countP_more (fresh l (List.range i) i) (l.length - i) (fun L hL => by unfold fresh; rw [decide_eq_false (by omega), Bool.false_and]) i
      rw [show l.length - i + i = l.length by omega] at this
      exact this
    have hc : (List.range (l.length - i)).countP (fresh l (List.range i) i) ≤ l.length - i := by
      have := List.countP_le_length (p := fresh l (List.range i) i) (l := List.range (l.length - i))
      rwa [List.length_range] at this
    have hi' := ih (i + 1) (by omega) (by rw [hstep]; omega)
    rw [hstep] at hi'
    simp only [if_pos c1, e1]
    have := rdiff_l1 hn i (by omega) ((diffN l : Nat) : Int) (la (EL l) ((List.range i).reverse.flatMap (blk l.length))) (by omega) (by rw [e1]; exact hi') (l.length - i) 0 (by omega)
    simpa using this
theorem Different_ev {l : List Int} (hn : l.length ≤ 60) : Ev (fun k => coppicerref_Different.f k l) ((diffN l : Nat) : Int) := by
  unfold coppicerref_Different.f
  exact rdiff_l0 hn l.length 0 (by omega) (by simp [la])
theorem tri_le (n T : Nat) (hn : n ≤ 60) (h : 2 * T = n * n + n) : T ≤ 1000000 := by
  have := Nat.mul_le_mul hn hn
  omega
theorem EndsDifferents : coppicerlaw_EndsDifferents.Pure := by
  unfold coppicerlaw_EndsDifferents.Pure
  intro l _ _ hw
  have hl : isBytes l := fun x hx => wf_u8 (hw x hx)
  apply Ev.rounds
  unfold coppicerlaw_EndsDifferents.f ends_Different.f
  by_cases c : (l.length : Int) > 60
  · simp only [if_pos c, Option.bind_some, if_true]
    exact Ev.val (by simp)
  · have hn : l.length ≤ 60 := by omega
    unfold ends_order.f
    simp only [if_neg c, if_pos (show l.length ≤ 1000000 by omega), Option.bind_some]
    have hs := diff_sum hl
    have hd := sum_down l.length l.length (Nat.le_refl _)
    have hm : l.length * l.length ≤ 60 * 60 := Nat.mul_le_mul hn hn
    have hcl : ((commonOf l).length : Int) = ((l.length - 1 : Nat) : Int) := by simp [commonOf]
    obtain ⟨T, hT⟩ : ∃ T, psum (fun i => l.length - i) l.length = T := ⟨_, rfl⟩
    rw [hT] at hs hd
    have h2T : 2 * T = l.length * l.length + l.length := by
      rw [Nat.mul_add, Nat.mul_one, Nat.mul_left_comm] at hd
      omega
    have e0 : wrap64 (Int.tdiv (wrap64 ((l.length : Int) * (wrap64 ((l.length : Int) + 1)))) 2) = (T : Int) := by
      rw [w64_succ (by omega)]
      have e1 : (l.length : Int) * ((l.length + 1 : Nat) : Int) = ((2 * T : Nat) : Int) := by rw [h2T]; push_cast; rw [Int.mul_add, Int.mul_one]
      have e2 : wrap64 ((l.length : Int) * ((l.length + 1 : Nat) : Int)) = ((2 * T : Nat) : Int) := by rw [e1]; exact w64 (by omega) (by omega)
      rw [e2, td (by omega)]
      have e3 : ((2 * T : Nat) : Int) / 2 = (T : Int) := by omega
      rw [e3]
      exact w64 (by omega) (by omega)
    have hT6 := tri_le _ _ hn h2T
    have hle : psum (cN l) (l.length - 1) ≤ T := by rw [← hs]; exact Nat.le_add_left _ _
    have hx := diff_l0 l T hT6 hle hn (l.length - 1) 0 (Nat.zero_add _)
    rw [show psum (cN l) 0 = 0 from rfl, Nat.sub_zero] at hx
    refine Ev.bind (a := ((((T - psum (cN l) (l.length - 1) : Nat)) : Int), (0 : Int))) (Ev.bind (common_ev hl hn) ?_) ?_
    · rw [hcl, e0]
      exact hx
    · simp only [if_true]
      refine Ev.bind (Different_ev hn) ?_
      have e : T - psum (cN l) (l.length - 1) = diffN l := by rw [← hs]; exact Nat.add_sub_cancel _ _
      rw [e]
      exact Ev.val (by simp)

end Go.Proofs.Ytpcphfbjnaikhaa.Pure
