/- The law EditInsides as a statement over numbers and lists alone: it holds under the bounds that the statement names. -/
import Derived.Test.YtkhmjehjhjhpkaaPEditInsidesx1
set_option linter.unusedVariables false
set_option linter.unusedSimpArgs false
namespace Go.Proofs.Ytkhmjehjhjhpkaa.Pure
open Go.RowKit Go.Proofs.Ytkhmjehjhjhpkaa.PEditInsides Go.Proofs.YtkhmjehjhjhpkaaW.PrintWords Go.Proofs.YtkhmjehjhjhpkaaW.PrintLast Go.Proofs.YtkhmjehjhjhpkaaW.PrintMore

/-! ### base: words for every pure text -/
theorem w64 {x : Int} (h0 : -9223372036854775808 ≤ x) (h1 : x ≤ 9223372036854775807) : wrap64 x = x := by unfold wrap64; omega
theorem Ev.pos {α : Type} {c : Prop} [Decidable c] {g f : Nat → Option α} {r : α} (h : c) (e : Ev g r) : Ev (fun k => if c then g k else f k) r := Ev.congr (fun k => by rw [if_pos h]) e
theorem Ev.neg {α : Type} {c : Prop} [Decidable c] {g f : Nat → Option α} {r : α} (h : ¬ c) (e : Ev f r) : Ev (fun k => if c then g k else f k) r := Ev.congr (fun k => by rw [if_neg h]) e
theorem Ev.val {α : Type} {r q : α} (h : r = q) : Ev (fun _ => some r) q := by subst h; exact Ev.now r
theorem rd_getElem {l : List Int} {i : Int} (h1 : i.toNat < l.length) : rd l i = l[i.toNat] := by simp [rd, List.getD_eq_getElem?_getD, List.getElem?_eq_getElem h1]
theorem drop_rd {l : List Int} {i : Int} (h0 : 0 ≤ i) (h1 : i < l.length) : l.drop i.toNat = rd l i :: l.drop (i + 1).toNat := by
  have h : i.toNat < l.length := by omega
  rw [rd_getElem h, List.drop_eq_getElem_cons h]; congr 2; omega
theorem take_rd {l : List Int} {i : Int} (h0 : 0 ≤ i) (h1 : i < l.length) : l.take (i + 1).toNat = l.take i.toNat ++ [rd l i] := by
  have h : i.toNat < l.length := by omega
  have e : (i + 1).toNat = i.toNat + 1 := by omega
  rw [rd_getElem h, e, List.take_succ_eq_append_getElem h]
theorem rd_drop (l : List Int) (n : Nat) (i : Int) (h0 : 0 ≤ i) : rd (l.drop n) i = rd l (i + n) := by
  have e : (i + n).toNat = n + i.toNat := by omega
  simp only [rd, List.getD_eq_getElem?_getD, List.getElem?_drop, e]
theorem rd_take (l : List Int) (n : Nat) (i : Int) (h0 : 0 ≤ i) (h1 : i < n) : rd (l.take n) i = rd l i := by
  simp only [rd, List.getD_eq_getElem?_getD]; rw [List.getElem?_take_of_lt (by omega)]
theorem drop_all {α : Type} (l : List α) (n : Nat) (h : l.length ≤ n) : l.drop n = [] := List.drop_eq_nil_of_le h
theorem dec_ne {a b : Int} {l m : List Int} (h : a ≠ b) : decide (a :: l = b :: m) = false := decide_eq_false (fun q => h (List.cons.inj q).1)
theorem Ev.no {p : Prop} [Decidable p] (h : ¬ p) : Ev (fun _ => some false) (decide p) := Ev.val (decide_eq_false h).symm
theorem Ev.yes {p : Prop} [Decidable p] (h : p) : Ev (fun _ => some true) (decide p) := Ev.val (decide_eq_true h).symm
theorem ext_rd {a b : List Int} (hl : a.length = b.length) (h : ∀ i : Int, 0 ≤ i → i < a.length → rd a i = rd b i) : a = b := by
  apply List.ext_getElem hl
  intro i h1 h2
  have := h i (by omega) (by omega)
  rwa [rd_getElem (by simpa using h1), rd_getElem (by simpa using h2)] at this
theorem wf_u8 {x : Int} (h : (Lit.int .u8 x).wf = true) : 0 ≤ x ∧ x ≤ 255 := by simpa [Lit.wf, IntKind.min, IntKind.max, IntKind.signed, IntKind.bits] using h
theorem wf_u32 {x : Int} (h : (Lit.int .u32 x).wf = true) : 0 ≤ x ∧ x ≤ 4294967295 := by simpa [Lit.wf, IntKind.min, IntKind.max, IntKind.signed, IntKind.bits] using h
theorem wf_i64 {x : Int} (h : (Lit.int .i64 x).wf = true) : -9223372036854775808 ≤ x ∧ x ≤ 9223372036854775807 := by simpa [Lit.wf, IntKind.min, IntKind.max, IntKind.signed, IntKind.bits] using h
theorem rd_mem {l : List Int} {i : Int} (h0 : 0 ≤ i) (h1 : i < l.length) : rd l i ∈ l := by
  rw [rd_getElem (by omega)]; exact List.getElem_mem _
theorem rd_u8 {l : List Int} (hw : ∀ x ∈ l, (Lit.int .u8 x).wf = true) {i : Int} (h0 : 0 ≤ i) (h1 : i < l.length) : 0 ≤ rd l i ∧ rd l i ≤ 255 := wf_u8 (hw _ (rd_mem h0 h1))
theorem tm {a b : Int} (h : 0 ≤ a) : Int.tmod a b = a % b := Int.tmod_eq_emod_of_nonneg h
theorem td {a b : Int} (h : 0 ≤ a) : Int.tdiv a b = a / b := Int.tdiv_eq_ediv_of_nonneg h

def inside : List Int → List Int → Bool
  | u, [] => decide (u = [])
  | [], _ :: _ => true
  | a :: u, b :: v => if a = b then inside u v else inside (a :: u) v
theorem inside_nil (v : List Int) : inside [] v = true := by cases v <;> simp [inside]
theorem edit_l0 (v : List Int) (hn : v.length ≤ 60) (d : Nat) : ∀ (i : Int) (u : List Int), u.length ≤ 60 → 0 ≤ i → i + d = v.length → Ev (fun k => edit_Inside.l0 k u v (v.length : Int) i) (inside u (v.drop i.toNat), 0) := by
  induction d with
  | zero =>
    intro i u hu h0 hd
    refine Ev.step (fun k => edit_Inside.l0.eq_2 _ _ _ _ k) ?_
    simp (disch := omega) only [if_neg]
    refine Ev.val ?_
    rw [List.drop_eq_nil_of_le (by omega)]
    cases u with
    | nil => simp [inside]
    | cons a u => simp only [inside, List.length_cons, Prod.mk.injEq, and_true]; simp; omega
  | succ d ih =>
    intro i u hu h0 hd
    refine Ev.step (fun k => edit_Inside.l0.eq_2 _ _ _ _ k) ?_
    simp (disch := omega) only [if_pos, w64]
    rw [drop_rd h0 (by omega)]
    cases u with
    | nil =>
      simp only [List.length_nil]
      simp (disch := omega) only [if_neg]
      have r := ih (i + 1) [] (by simp) (by omega) (by omega)
      rw [inside_nil] at r
      simpa [inside] using r
    | cons a u =>
      simp only [List.length_cons] at hu ⊢
      simp (disch := omega) only [if_pos]
      have e : rd (a :: u) 0 = a := rfl
      rw [e]
      by_cases h : a = rd v i
      · have r := ih (i + 1) u (by omega) (by omega) (by omega)
        simp only [if_pos h]; simpa [inside, h] using r
      · have r := ih (i + 1) (a :: u) (by simpa using hu) (by omega) (by omega)
        simp only [if_neg h]; simpa [inside, h] using r
theorem ref_l0 (u v : List Int) (hu : u.length ≤ 60) (hn : v.length ≤ 60) (d : Nat) : ∀ i j : Int, 0 ≤ i → i + d = v.length → 0 ≤ j → j ≤ u.length →
    Ev (fun k => coppicerref_Inside.l0 k u v j i) (inside (u.drop j.toNat) (v.drop i.toNat)) := by
  induction d with
  | zero =>
    intro i j h0 hd hj0 hj1
    refine Ev.step (fun k => coppicerref_Inside.l0.eq_2 _ _ _ _ k) ?_
    simp (disch := omega) only [if_neg]
    refine Ev.step (fun k => coppicerref_Inside.j1.eq_2 _ _ _ _ _ k) ?_
    simp only [Bool.false_eq_true, if_false]
    refine Ev.val ?_
    rw [drop_all v _ (by omega)]
    by_cases h : j = u.length
    · rw [List.drop_eq_nil_of_le (by omega)]; simp [inside, h]
    · rw [drop_rd hj0 (by omega)]; simp [inside, h]
  | succ d ih =>
    intro i j h0 hd hj0 hj1
    refine Ev.step (fun k => coppicerref_Inside.l0.eq_2 _ _ _ _ k) ?_
    simp (disch := omega) only [if_pos]
    refine Ev.step (fun k => coppicerref_Inside.j1.eq_2 _ _ _ _ _ k) ?_
    by_cases hj : j < u.length
    · simp only [hj, decide_true, if_true]
      simp (disch := omega) only [if_pos, w64]
      rw [drop_rd h0 (by omega), drop_rd hj0 (by omega)]
      by_cases h : rd v i = rd u j
      · simp only [if_pos h]
        have r := ih (i + 1) (j + 1) (by omega) (by omega) (by omega) (by omega)
        simpa [inside, h] using r
      · simp only [if_neg h]
        have r := ih (i + 1) j (by omega) (by omega) (by omega) (by omega)
        rw [drop_rd hj0 (by omega)] at r
        simp only [inside]; rw [if_neg (fun q => h (Eq.symm q))]; exact r
    · simp only [hj, decide_false, Bool.false_eq_true, if_false]
      refine Ev.val ?_
      rw [drop_all u _ (by omega), inside_nil]
      simp; omega
theorem EditInsides : coppicerlaw_EditInsides.Pure := by
  intro u v hm hs hw hm' hs' hw'
  refine Ev.rounds (g := fun k => coppicerlaw_EditInsides.f k u v) ?_
  unfold coppicerlaw_EditInsides.f edit_Inside.f
  by_cases h : (u.length : Int) > 60
  · refine Ev.bind (a := (false, 1)) ?_ ?_
    · simp only [h, if_true]
      refine Ev.step (fun k => edit_Inside.j0.eq_2 _ _ _ k) ?_
      simp only [if_true]; exact Ev.now _
    · simp only [h, if_true]; exact Ev.val rfl
  by_cases h' : (v.length : Int) > 60
  · refine Ev.bind (a := (false, 1)) ?_ ?_
    · simp only [h, h', if_false, decide_true]
      refine Ev.step (fun k => edit_Inside.j0.eq_2 _ _ _ k) ?_
      simp only [if_true]; exact Ev.now _
    · simp only [h, h', if_true, if_false]; exact Ev.val rfl
  · refine Ev.bind (a := (inside u v, 0)) ?_ ?_
    · simp only [h, h', if_false, decide_false]
      refine Ev.step (fun k => edit_Inside.j0.eq_2 _ _ _ k) ?_
      simp only [Bool.false_eq_true, if_false]
      exact edit_l0 v (by omega) v.length 0 u (by omega) (by omega) (by omega)
    · simp only [h, h', if_true, if_false]
      refine Ev.bind (a := inside u v) ?_ (Ev.val (by simp))
      unfold coppicerref_Inside.f
      exact ref_l0 u v (by omega) (by omega) v.length 0 0 (by omega) (by omega) (by omega) (by omega)

end Go.Proofs.Ytkhmjehjhjhpkaa.Pure
