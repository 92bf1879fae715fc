/- The law EditFars as a statement over numbers and lists alone: it holds under the bounds that the statement names. -/
import Derived.Test.YtkhmjehjhjhpkaaPEditFarsx3
set_option linter.unusedVariables false
set_option linter.unusedSimpArgs false
namespace Go.Proofs.Ytkhmjehjhjhpkaa.Pure
open Go.RowKit Go.Proofs.Ytkhmjehjhjhpkaa.PEditFars Go.Proofs.YtkhmjehjhjhpkaaW.PrintWords Go.Proofs.YtkhmjehjhjhpkaaW.PrintLast Go.Proofs.YtkhmjehjhjhpkaaW.PrintMore

/-! ### base: words for every pure text -/
theorem w64 {x : Int} (h0 : -9223372036854775808 ≤ x) (h1 : x ≤ 9223372036854775807) : wrap64 x = x := by unfold wrap64; omega
theorem Ev.pos {α : Type} {c : Prop} [Decidable c] {g f : Nat → Option α} {r : α} (h : c) (e : Ev g r) : Ev (fun k => if c then g k else f k) r := Ev.congr (fun k => by rw [if_pos h]) e
theorem Ev.neg {α : Type} {c : Prop} [Decidable c] {g f : Nat → Option α} {r : α} (h : ¬ c) (e : Ev f r) : Ev (fun k => if c then g k else f k) r := Ev.congr (fun k => by rw [if_neg h]) e
theorem Ev.val {α : Type} {r q : α} (h : r = q) : Ev (fun _ => some r) q := by subst h; exact Ev.now r
theorem rd_getElem {l : List Int} {i : Int} (h1 : i.toNat < l.length) : rd l i = l[i.toNat] := by simp [rd, List.getD_eq_getElem?_getD, List.getElem?_eq_getElem h1]
theorem drop_rd {l : List Int} {i : Int} (h0 : 0 ≤ i) (h1 : i < l.length) : l.drop i.toNat = rd l i :: l.drop (i + 1).toNat := by
  have h : i.toNat < l.length := by omega
  rw [rd_getElem h, List.drop_eq_getElem_cons h]; congr 2; omega
theorem take_rd {l : List Int} {i : Int} (h0 : 0 ≤ i) (h1 : i < l.length) : l.take (i + 1).toNat = l.take i.toNat ++ [rd l i] := by
  have h : i.toNat < l.length := by omega
  have e : (i + 1).toNat = i.toNat + 1 := by omega
  rw [rd_getElem h, e, List.take_succ_eq_append_getElem h]
theorem rd_drop (l : List Int) (n : Nat) (i : Int) (h0 : 0 ≤ i) : rd (l.drop n) i = rd l (i + n) := by
  have e : (i + n).toNat = n + i.toNat := by omega
  simp only [rd, List.getD_eq_getElem?_getD, List.getElem?_drop, e]
theorem rd_take (l : List Int) (n : Nat) (i : Int) (h0 : 0 ≤ i) (h1 : i < n) : rd (l.take n) i = rd l i := by
  simp only [rd, List.getD_eq_getElem?_getD]; rw [List.getElem?_take_of_lt (by omega)]
theorem drop_all {α : Type} (l : List α) (n : Nat) (h : l.length ≤ n) : l.drop n = [] := List.drop_eq_nil_of_le h
theorem dec_ne {a b : Int} {l m : List Int} (h : a ≠ b) : decide (a :: l = b :: m) = false := decide_eq_false (fun q => h (List.cons.inj q).1)
theorem Ev.no {p : Prop} [Decidable p] (h : ¬ p) : Ev (fun _ => some false) (decide p) := Ev.val (decide_eq_false h).symm
theorem Ev.yes {p : Prop} [Decidable p] (h : p) : Ev (fun _ => some true) (decide p) := Ev.val (decide_eq_true h).symm
theorem ext_rd {a b : List Int} (hl : a.length = b.length) (h : ∀ i : Int, 0 ≤ i → i < a.length → rd a i = rd b i) : a = b := by
  apply List.ext_getElem hl
  intro i h1 h2
  have := h i (by omega) (by omega)
  rwa [rd_getElem (by simpa using h1), rd_getElem (by simpa using h2)] at this
theorem wf_u8 {x : Int} (h : (Lit.int .u8 x).wf = true) : 0 ≤ x ∧ x ≤ 255 := by simpa [Lit.wf, IntKind.min, IntKind.max, IntKind.signed, IntKind.bits] using h
theorem wf_u32 {x : Int} (h : (Lit.int .u32 x).wf = true) : 0 ≤ x ∧ x ≤ 4294967295 := by simpa [Lit.wf, IntKind.min, IntKind.max, IntKind.signed, IntKind.bits] using h
theorem wf_i64 {x : Int} (h : (Lit.int .i64 x).wf = true) : -9223372036854775808 ≤ x ∧ x ≤ 9223372036854775807 := by simpa [Lit.wf, IntKind.min, IntKind.max, IntKind.signed, IntKind.bits] using h
theorem rd_mem {l : List Int} {i : Int} (h0 : 0 ≤ i) (h1 : i < l.length) : rd l i ∈ l := by
  rw [rd_getElem (by omega)]; exact List.getElem_mem _
theorem rd_u8 {l : List Int} (hw : ∀ x ∈ l, (Lit.int .u8 x).wf = true) {i : Int} (h0 : 0 ≤ i) (h1 : i < l.length) : 0 ≤ rd l i ∧ rd l i ≤ 255 := wf_u8 (hw _ (rd_mem h0 h1))
theorem tm {a b : Int} (h : 0 ≤ a) : Int.tmod a b = a % b := Int.tmod_eq_emod_of_nonneg h
theorem td {a b : Int} (h : 0 ≤ a) : Int.tdiv a b = a / b := Int.tdiv_eq_ediv_of_nonneg h

theorem rd_set_eq (l : List Int) (i : Int) (v : Int) (h0 : 0 ≤ i) (h1 : i < l.length) : rd (l.set i.toNat v) i = v := by
  simp [rd, List.getD_eq_getElem?_getD, List.getElem?_set, show i.toNat < l.length by omega]
theorem rd_set_ne (l : List Int) (i j : Int) (v : Int) (h0 : 0 ≤ i) (hj : 0 ≤ j) (h : j ≠ i) : rd (l.set i.toNat v) j = rd l j := by
  simp only [rd, List.getD_eq_getElem?_getD]
  rw [List.getElem?_set_ne (by omega)]
theorem rd_replicate (n : Nat) (v : Int) (j : Int) (h0 : 0 ≤ j) (h1 : j < n) : rd (List.replicate n v) j = v := by
  simp [rd, List.getD_eq_getElem?_getD, List.getElem?_replicate, show j.toNat < n by omega]
theorem rd_append_left (l m : List Int) (j : Int) (h0 : 0 ≤ j) (h1 : j < l.length) : rd (l ++ m) j = rd l j := by
  simp only [rd, List.getD_eq_getElem?_getD]
  rw [List.getElem?_append_left (by omega)]
theorem rd_append_last (l : List Int) (v : Int) (j : Int) (h : j = l.length) : rd (l ++ [v]) j = v := by
  subst h
  simp [rd, List.getD_eq_getElem?_getD]

theorem mn_min (a b : Int) : mn a b = min a b := by unfold mn; split <;> omega
def cst (u v : List Int) (i j : Int) : Int := if rd u i = rd v j then 0 else 1
theorem cst_bd (u v : List Int) (i j : Int) : 0 ≤ cst u v i j ∧ cst u v i j ≤ 1 := by unfold cst; split <;> omega
def D (u v : List Int) : Nat → Nat → Int
  | 0, j => j
  | i + 1, 0 => i + 1
  | i + 1, j + 1 => min (min (D u v i j + cst u v i j) (D u v (i + 1) j + 1)) (D u v i (j + 1) + 1)
termination_by i j => (i, j)
theorem D0 (u v : List Int) (j : Nat) : D u v 0 j = j := by rw [D]
theorem Di0 (u v : List Int) (i : Nat) : D u v i 0 = i := by cases i <;> rw [D] <;> simp
theorem Dss (u v : List Int) (i j : Nat) : D u v (i + 1) (j + 1) = min (min (D u v i j + cst u v i j) (D u v (i + 1) j + 1)) (D u v i (j + 1) + 1) := by rw [D]
theorem D_bd (u v : List Int) : ∀ i j : Nat, 0 ≤ D u v i j ∧ D u v i j ≤ i + j := by
  intro i
  induction i with
  | zero => intro j; rw [D0]; omega
  | succ i ihi =>
    intro j
    induction j with
    | zero => rw [Di0]; omega
    | succ j ihj =>
      rw [Dss]
      have a := ihi j
      have b := ihi (j + 1)
      have c := cst_bd u v i j
      omega
def Dz (u v : List Int) (i j : Int) : Int := D u v i.toNat j.toNat
theorem Dz_bd (u v : List Int) (i j : Int) (h0 : 0 ≤ i) (h1 : 0 ≤ j) : 0 ≤ Dz u v i j ∧ Dz u v i j ≤ i + j := by
  have := D_bd u v i.toNat j.toNat
  unfold Dz; omega
theorem Dz0 (u v : List Int) (j : Int) (h : 0 ≤ j) : Dz u v 0 j = j := by unfold Dz; rw [show (0 : Int).toNat = 0 from rfl, D0]; omega
theorem Dzi (u v : List Int) (i : Int) (h : 0 ≤ i) : Dz u v i 0 = i := by unfold Dz; rw [show (0 : Int).toNat = 0 from rfl, Di0]; omega
theorem Dzs (u v : List Int) (i j : Int) (h0 : 0 ≤ i) (h1 : 0 ≤ j) : Dz u v (i + 1) (j + 1) = min (min (Dz u v i j + cst u v i j) (Dz u v (i + 1) j + 1)) (Dz u v i (j + 1) + 1) := by
  unfold Dz
  rw [show (i + 1).toNat = i.toNat + 1 by omega, show (j + 1).toNat = j.toNat + 1 by omega, Dss]
  rw [show ((i.toNat : Nat) : Int) = i by omega, show ((j.toNat : Nat) : Int) = j by omega]

theorem rdL_set_eq (t : List (List Int)) (i : Int) (r : List Int) (h0 : 0 ≤ i) (h1 : i < t.length) : rd_L2 (t.set i.toNat r) i = r := by
  simp [rd_L2, List.getD_eq_getElem?_getD, List.getElem?_set, show i.toNat < t.length by omega]
theorem rdL_set_ne (t : List (List Int)) (i j : Int) (r : List Int) (h0 : 0 ≤ i) (hj : 0 ≤ j) (h : j ≠ i) : rd_L2 (t.set i.toNat r) j = rd_L2 t j := by
  simp only [rd_L2, List.getD_eq_getElem?_getD]
  rw [List.getElem?_set_ne (by omega)]
section
variable (u v : List Int) (hu : u.length ≤ 60) (hv : v.length ≤ 60)
include hu hv
/-! the program: a row at a time -/
theorem far_l2 (R : Int × Int) (i : Int) (hi0 : 0 ≤ i) (hi1 : i < u.length) (next : ∀ r : List Int, r.length = v.length + 1 → (∀ q : Int, 0 ≤ q → q ≤ v.length → rd r q = Dz u v (i + 1) q) → Ev (fun k => edit_Far.l1 k v r u (u.length : Int) (i + 1)) R) (d : Nat) :
    ∀ (j : Int) (r : List Int), 0 ≤ j → j + d = v.length → r.length = v.length + 1 → (∀ q : Int, 0 ≤ q → q ≤ j → rd r q = Dz u v (i + 1) q) → (∀ q : Int, j < q → q ≤ v.length → rd r q = Dz u v i q) →
    Ev (fun k => edit_Far.l2 k v r (rd u i) (Dz u v i j) u (u.length : Int) i v (v.length : Int) j) R := by
  induction d with
  | zero =>
    intro j r h0 hd hl hA hB
    refine Ev.step (fun k => edit_Far.l2.eq_2 _ _ _ _ _ _ _ _ _ _ k) ?_
    simp (disch := omega) only [if_neg, w64]
    exact next r hl (fun q q0 q1 => hA q q0 (by omega))
  | succ d ih =>
    intro j r h0 hd hl hA hB
    have a := Dz_bd u v i j hi0 h0
    have b := Dz_bd u v (i + 1) j (by omega) h0
    have c := Dz_bd u v i (j + 1) hi0 (by omega)
    have e1 := hA j h0 (by omega)
    have e2 := hB (j + 1) (by omega) (by omega)
    have val : ∀ x, x = Dz u v (i + 1) (j + 1) → Ev (fun k => edit_Far.l2 k v (r.set (j + 1).toNat x) (rd u i) (Dz u v i (j + 1)) u (u.length : Int) i v (v.length : Int) (j + 1)) R := by
      rintro x rfl
      refine ih (j + 1) _ (by omega) (by omega) (by simpa using hl) ?_ ?_
      · intro q q0 q1
        by_cases p : q = j + 1
        · subst p; rw [rd_set_eq r (j + 1) _ (by omega) (by omega)]
        · rw [rd_set_ne r (j + 1) q _ (by omega) q0 p]; exact hA q q0 (by omega)
      · intro q q0 q1
        rw [rd_set_ne r (j + 1) q _ (by omega) (by omega) (by omega)]; exact hB q (by omega) q1
    refine Ev.step (fun k => edit_Far.l2.eq_2 _ _ _ _ _ _ _ _ _ _ k) ?_
    by_cases h : rd u i = rd v j
    · simp (disch := omega) only [if_pos h, if_pos, w64, e1, e2]
      exact val _ (by rw [Dzs u v i j hi0 h0, mn_min, mn_min]; simp [cst, h])
    · simp (disch := omega) only [if_neg h, if_pos, w64, e1, e2]
      exact val _ (by rw [Dzs u v i j hi0 h0, mn_min, mn_min]; simp [cst, h])
theorem far_l1 (d : Nat) : ∀ (i : Int) (r : List Int), 0 ≤ i → i + d = u.length → r.length = v.length + 1 → (∀ q : Int, 0 ≤ q → q ≤ v.length → rd r q = Dz u v i q) →
    Ev (fun k => edit_Far.l1 k v r u (u.length : Int) i) (Dz u v u.length v.length, 0) := by
  induction d with
  | zero =>
    intro i r h0 hd hl hA
    refine Ev.step (fun k => edit_Far.l1.eq_2 _ _ _ _ _ k) ?_
    simp (disch := omega) only [if_neg, if_pos]
    exact Ev.val (by rw [hA _ (by omega) (by omega), show i = (u.length : Int) by omega])
  | succ d ih =>
    intro i r h0 hd hl hA
    refine Ev.step (fun k => edit_Far.l1.eq_2 _ _ _ _ _ k) ?_
    simp (disch := omega) only [if_pos, w64]
    have e0 : rd r 0 = Dz u v i 0 := hA 0 (by omega) (by omega)
    rw [e0]
    refine far_l2 u v hu hv _ i h0 (by omega) (fun r' hl' hA' => ih (i + 1) r' (by omega) (by omega) hl' hA') v.length 0 _ (by omega) (by omega) (by simpa using hl) ?_ ?_
    · intro q q0 q1
      have : q = 0 := by omega
      subst this
      have := rd_set_eq r 0 (i + 1) (by omega) (by omega)
      rw [this, Dzi u v (i + 1) (by omega)]
    · intro q q0 q1
      have := rd_set_ne r 0 q (i + 1) (by omega) (by omega) (by omega)
      rw [this]; exact hA q (by omega) q1
theorem far_l0 (d : Nat) : ∀ (i : Int) (r : List Int), 0 ≤ i → i + d = v.length + 1 → r.length = v.length + 1 → (∀ q : Int, 0 ≤ q → q < i → rd r q = q) →
    Ev (fun k => edit_Far.l0 k u v r (r.length : Int) i) (Dz u v u.length v.length, 0) := by
  induction d with
  | zero =>
    intro i r h0 hd hl hA
    refine Ev.step (fun k => edit_Far.l0.eq_2 _ _ _ _ _ k) ?_
    simp (disch := omega) only [if_neg]
    exact far_l1 u v hu hv u.length 0 r (by omega) (by omega) hl (fun q q0 q1 => by rw [hA q q0 (by omega), Dz0 u v q q0])
  | succ d ih =>
    intro i r h0 hd hl hA
    refine Ev.step (fun k => edit_Far.l0.eq_2 _ _ _ _ _ k) ?_
    simp (disch := omega) only [if_pos, w64]
    have := ih (i + 1) (r.set i.toNat i) (by omega) (by omega) (by simpa using hl) (by
      intro q q0 q1
      by_cases p : q = i
      · subst p; exact rd_set_eq r q q q0 (by omega)
      · rw [rd_set_ne r i q i h0 q0 p]; exact hA q q0 (by omega))
    simpa using this
/-! the reference: a table -/
theorem ref_j6 (R : Int) (t : List (List Int)) (i j x : Int) (hi0 : 0 ≤ i) (hi1 : i ≤ u.length) (hj0 : 0 ≤ j) (hj1 : j ≤ v.length) (ht : t.length = u.length + 1) (hr : (rd_L2 t i).length = v.length + 1)
    (hp : 0 < i → (rd_L2 t (i - 1)).length = v.length + 1 ∧ rd (rd_L2 t (i - 1)) (j - 1) = Dz u v (i - 1) (j - 1) ∨ j = 0) (hx0 : 0 ≤ x) (hx1 : x ≤ 200)
    (next : ∀ y, y = (if 0 < i ∧ 0 < j ∧ Dz u v (i - 1) (j - 1) + cst u v (i - 1) (j - 1) < x then Dz u v (i - 1) (j - 1) + cst u v (i - 1) (j - 1) else x) → Ev (fun k => coppicerref_Far.l1 k u v (t.set i.toNat ((rd_L2 t i).set j.toNat y)) i (j + 1)) R) :
    Ev (fun k => coppicerref_Far.j5 k u v t i j x) R := by
  refine Ev.step (fun k => coppicerref_Far.j5.eq_2 _ _ _ _ _ _ k) ?_
  by_cases hi : i > 0
  · simp only [if_pos hi]
    refine Ev.step (fun k => coppicerref_Far.j6.eq_2 _ _ _ _ _ _ _ k) ?_
    by_cases hj : j > 0
    · simp only [hj, decide_true, if_true]
      rcases hp hi with ⟨hl, hc⟩ | hj'
      · have cb := Dz_bd u v (i - 1) (j - 1) (by omega) (by omega)
        by_cases e : rd u (i - 1) = rd v (j - 1)
        · have ec : cst u v (i - 1) (j - 1) = 0 := by simp [cst, e]
          rw [ec] at next
          simp (disch := omega) only [if_pos e, if_pos, w64, hc]
          by_cases g : Dz u v (i - 1) (j - 1) < x
          · simp (disch := omega) only [if_pos g, if_pos, w64]
            exact next _ (by rw [if_pos (by omega)]; omega)
          · simp (disch := omega) only [if_neg g, if_pos, w64]
            exact next _ (by rw [if_neg (by omega)])
        · have ec : cst u v (i - 1) (j - 1) = 1 := by simp [cst, e]
          rw [ec] at next
          simp (disch := omega) only [if_neg e, if_pos, w64, hc]
          by_cases g : Dz u v (i - 1) (j - 1) + 1 < x
          · simp (disch := omega) only [if_pos g, if_pos, w64]
            exact next _ (by rw [if_pos (by omega)])
          · simp (disch := omega) only [if_neg g, if_pos, w64]
            exact next _ (by rw [if_neg (by omega)])
      · omega
    · simp only [hj, decide_false, Bool.false_eq_true, if_false]
      simp (disch := omega) only [if_pos, w64]
      exact next _ (by rw [if_neg (by omega)])
  · simp only [if_neg hi]
    refine Ev.step (fun k => coppicerref_Far.j6.eq_2 _ _ _ _ _ _ _ k) ?_
    simp only [Bool.false_eq_true, if_false]
    simp (disch := omega) only [if_pos, w64]
    exact next _ (by rw [if_neg (by omega)])
theorem ref_j3 (R : Int) (t : List (List Int)) (i j x : Int) (hi0 : 0 ≤ i) (hi1 : i ≤ u.length) (hj0 : 0 ≤ j) (hj1 : j ≤ v.length) (ht : t.length = u.length + 1) (hr : (rd_L2 t i).length = v.length + 1)
    (hb : 0 < j → rd (rd_L2 t i) (j - 1) = Dz u v i (j - 1)) (hx0 : 0 ≤ x) (hx1 : x ≤ 200)
    (next : ∀ y, 0 ≤ y → y ≤ 200 → y = (if 0 < j ∧ Dz u v i (j - 1) + 1 < x then Dz u v i (j - 1) + 1 else x) → Ev (fun k => coppicerref_Far.j5 k u v t i j y) R) :
    Ev (fun k => coppicerref_Far.j3 k u v t i j x) R := by
  refine Ev.step (fun k => coppicerref_Far.j3.eq_2 _ _ _ _ _ _ k) ?_
  by_cases hj : j > 0
  · have bb := Dz_bd u v i (j - 1) (by omega) (by omega)
    have hb' := hb hj
    simp (disch := omega) only [if_pos, w64, hb']
    refine Ev.step (fun k => coppicerref_Far.j4.eq_2 _ _ _ _ _ _ _ k) ?_
    by_cases g : Dz u v i (j - 1) + 1 < x
    · simp only [g, decide_true, if_true]
      simp (disch := omega) only [if_pos, w64, hb']
      exact next _ (by omega) (by omega) (by rw [if_pos ⟨hj, g⟩])
    · simp only [g, decide_false, Bool.false_eq_true, if_false]
      exact next _ hx0 hx1 (by rw [if_neg (by omega)])
  · simp only [if_neg hj]
    refine Ev.step (fun k => coppicerref_Far.j4.eq_2 _ _ _ _ _ _ _ k) ?_
    simp only [Bool.false_eq_true, if_false]
    exact next _ hx0 hx1 (by rw [if_neg (by omega)])
theorem ref_l1 (R : Int) (i : Int) (hi0 : 0 ≤ i) (hi1 : i ≤ u.length)
    (next : ∀ t : List (List Int), t.length = u.length + 1 → (∀ a : Int, 0 ≤ a → a ≤ i → (rd_L2 t a).length = v.length + 1 ∧ ∀ q : Int, 0 ≤ q → q ≤ v.length → rd (rd_L2 t a) q = Dz u v a q) → Ev (fun k => coppicerref_Far.l0 k u v t (i + 1)) R) (d : Nat) :
    ∀ (j : Int) (t : List (List Int)), 0 ≤ j → j + d = v.length + 1 → t.length = u.length + 1 → (rd_L2 t i).length = v.length + 1 → (∀ q : Int, 0 ≤ q → q < j → rd (rd_L2 t i) q = Dz u v i q) →
    (∀ a : Int, 0 ≤ a → a < i → (rd_L2 t a).length = v.length + 1 ∧ ∀ q : Int, 0 ≤ q → q ≤ v.length → rd (rd_L2 t a) q = Dz u v a q) →
    Ev (fun k => coppicerref_Far.l1 k u v t i j) R := by
  induction d with
  | zero =>
    intro j t h0 hd ht hr hA hB
    refine Ev.step (fun k => coppicerref_Far.l1.eq_2 _ _ _ _ _ k) ?_
    simp (disch := omega) only [if_neg, w64]
    refine next t ht ?_
    intro a a0 a1
    by_cases p : a = i
    · subst p; exact ⟨hr, fun q q0 q1 => hA q q0 (by omega)⟩
    · exact hB a a0 (by omega)
  | succ d ih =>
    intro j t h0 hd ht hr hA hB
    have fin : ∀ y, y = Dz u v i j → Ev (fun k => coppicerref_Far.l1 k u v (t.set i.toNat ((rd_L2 t i).set j.toNat y)) i (j + 1)) R := by
      rintro y rfl
      refine ih (j + 1) _ (by omega) (by omega) (by simpa using ht) ?_ ?_ ?_
      · rw [rdL_set_eq t i _ hi0 (by omega)]; simpa using hr
      · intro q q0 q1
        rw [rdL_set_eq t i _ hi0 (by omega)]
        by_cases p : q = j
        · subst p; exact rd_set_eq _ q _ q0 (by omega)
        · rw [rd_set_ne _ j q _ h0 q0 p]; exact hA q q0 (by omega)
      · intro a a0 a1
        rw [rdL_set_ne t i a _ hi0 a0 (by omega)]
        exact hB a a0 a1
    have rest : ∀ x, 0 ≤ x → x ≤ 200 → x = (if 0 < i ∧ Dz u v (i - 1) j + 1 < i + j then Dz u v (i - 1) j + 1 else i + j) → Ev (fun k => coppicerref_Far.j3 k u v t i j x) R := by
      intro x hx0 hx1 hx
      refine ref_j3 u v hu hv R t i j x hi0 hi1 h0 (by omega) ht hr (fun hj => hA (j - 1) (by omega) (by omega)) hx0 hx1 ?_
      intro y hy0 hy1 hy
      refine ref_j6 u v hu hv R t i j y hi0 hi1 h0 (by omega) ht hr ?_ hy0 hy1 ?_
      · intro hi
        by_cases hj : j = 0
        · exact .inr hj
        · exact .inl ⟨(hB (i - 1) (by omega) (by omega)).1, (hB (i - 1) (by omega) (by omega)).2 (j - 1) (by omega) (by omega)⟩
      · intro z hz
        refine fin z ?_
        by_cases hi : i = 0
        · subst hi
          have e := Dz0 u v j h0
          have e2 : 0 < j → Dz u v 0 (j - 1) = j - 1 := fun h => Dz0 u v (j - 1) (by omega)
          rw [e]
          rw [if_neg (by omega)] at hx hz
          by_cases hj : 0 < j
          · rw [e2 hj] at hy; rw [if_neg (by omega)] at hy; omega
          · rw [if_neg (by omega)] at hy; omega
        · by_cases hj : j = 0
          · subst hj
            have e := Dzi u v i hi0
            have e2 := Dzi u v (i - 1) (by omega)
            rw [e2] at hx
            rw [if_neg (by omega)] at hx hy hz
            omega
          · have e := Dzs u v (i - 1) (j - 1) (by omega) (by omega)
            rw [show i - 1 + 1 = i by omega, show j - 1 + 1 = j by omega] at e
            have b1 := Dz_bd u v (i - 1) j (by omega) (by omega)
            have b2 := Dz_bd u v i (j - 1) (by omega) (by omega)
            rw [e, hz, hy, hx]
            split <;> split <;> split <;> omega
    refine Ev.step (fun k => coppicerref_Far.l1.eq_2 _ _ _ _ _ k) ?_
    by_cases hi : i > 0
    · have b1 := Dz_bd u v (i - 1) j (by omega) (by omega)
      obtain ⟨hl, hq⟩ := hB (i - 1) (by omega) (by omega)
      have hq' := hq j h0 (by omega)
      simp (disch := omega) only [if_pos, w64, hq']
      refine Ev.step (fun k => coppicerref_Far.j2.eq_2 _ _ _ _ _ _ _ k) ?_
      by_cases g : Dz u v (i - 1) j + 1 < i + j
      · simp only [g, decide_true, if_true]
        simp (disch := omega) only [if_pos, w64, hq']
        exact rest _ (by omega) (by omega) (by rw [if_pos ⟨hi, g⟩])
      · simp only [g, decide_false, Bool.false_eq_true, if_false]
        exact rest _ (by omega) (by omega) (by rw [if_neg (by omega)])
    · simp (disch := omega) only [if_pos (show j ≤ (v.length : Int) by omega), if_neg hi, w64]
      refine Ev.step (fun k => coppicerref_Far.j2.eq_2 _ _ _ _ _ _ _ k) ?_
      simp only [Bool.false_eq_true, if_false]
      exact rest _ (by omega) (by omega) (by rw [if_neg (by omega)])
theorem ref_l0 (d : Nat) : ∀ (i : Int) (t : List (List Int)), 0 ≤ i → i + d = u.length + 1 → t.length = u.length + 1 →
    (∀ a : Int, 0 ≤ a → a < i → (rd_L2 t a).length = v.length + 1 ∧ ∀ q : Int, 0 ≤ q → q ≤ v.length → rd (rd_L2 t a) q = Dz u v a q) →
    Ev (fun k => coppicerref_Far.l0 k u v t i) (Dz u v u.length v.length) := by
  induction d with
  | zero =>
    intro i t h0 hd ht hB
    obtain ⟨hl, hq⟩ := hB u.length (by omega) (by omega)
    have hq' := hq v.length (by omega) (by omega)
    refine Ev.step (fun k => coppicerref_Far.l0.eq_2 _ _ _ _ k) ?_
    simp (disch := omega) only [if_neg, if_pos, hq']
    exact Ev.now _
  | succ d ih =>
    intro i t h0 hd ht hB
    refine Ev.step (fun k => coppicerref_Far.l0.eq_2 _ _ _ _ k) ?_
    simp (disch := omega) only [if_pos, w64]
    refine ref_l1 u v hu hv _ i h0 (by omega) (fun t' ht' hB' => ih (i + 1) t' (by omega) (by omega) ht' (fun a a0 a1 => hB' a a0 (by omega))) (v.length + 1) 0 _ (by omega) (by omega) (by simpa using ht) ?_ (by intro q q0 q1; omega) ?_
    · rw [rdL_set_eq t i _ h0 (by omega)]; first | (simp; done) | (simp; omega)
    · intro a a0 a1
      rw [rdL_set_ne t i a _ h0 a0 (by omega)]
      exact hB a a0 a1
end
theorem EditFars : coppicerlaw_EditFars.Pure := by
  intro u v hm hs hw hm' hs' hw'
  refine Ev.rounds (g := fun k => coppicerlaw_EditFars.f k u v) ?_
  unfold coppicerlaw_EditFars.f edit_Far.f
  by_cases h : (u.length : Int) > 60
  · refine Ev.bind (a := (0, 1)) ?_ ?_
    · simp only [h, if_true]
      refine Ev.step (fun k => edit_Far.j0.eq_2 _ _ _ k) ?_
      simp only [if_true]; exact Ev.now _
    · simp only [h, if_true]; exact Ev.val rfl
  by_cases h' : (v.length : Int) > 60
  · refine Ev.bind (a := (0, 1)) ?_ ?_
    · simp only [h, h', if_false, decide_true]
      refine Ev.step (fun k => edit_Far.j0.eq_2 _ _ _ k) ?_
      simp only [if_true]; exact Ev.now _
    · simp only [h, h', if_true, if_false]; exact Ev.val rfl
  · refine Ev.bind (a := (Dz u v u.length v.length, 0)) ?_ ?_
    · simp only [h, h', if_false, decide_false]
      refine Ev.step (fun k => edit_Far.j0.eq_2 _ _ _ k) ?_
      simp only [Bool.false_eq_true, if_false]
      simp (disch := omega) only [if_pos, w64, Option.bind_some]
      exact far_l0 u v (by omega) (by omega) (v.length + 1) 0 _ (by omega) (by omega) (by first | (simp; done) | (simp; omega)) (by intro q q0 q1; omega)
    · simp only [h, h', if_true, if_false]
      refine Ev.bind (a := Dz u v u.length v.length) ?_ (Ev.val (by simp))
      unfold coppicerref_Far.f
      simp (disch := omega) only [if_pos, w64]
      exact ref_l0 u v (by omega) (by omega) (u.length + 1) 0 _ (by omega) (by omega) (by first | (simp; done) | (simp; omega)) (by intro a a0 a1; omega)

end Go.Proofs.Ytkhmjehjhjhpkaa.Pure
