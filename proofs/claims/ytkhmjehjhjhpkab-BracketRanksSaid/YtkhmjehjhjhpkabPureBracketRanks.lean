/- The law BracketRanks as a statement over numbers and lists alone: it holds under the bounds that the statement names. -/
import Derived.Test.YtkhmjehjhjhpkabStatBracketRanks
set_option linter.unusedVariables false
set_option linter.unusedSimpArgs false
namespace Go.Proofs.Ytkhmjehjhjhpkab.Pure
open Go.RowKit Go.Proofs.Ytkhmjehjhjhpkab.PBracketRanks Go.Proofs.YtkhmjehjhjhpkabW.PrintWords Go.Proofs.YtkhmjehjhjhpkabW.PrintLast Go.Proofs.YtkhmjehjhjhpkabW.PrintMore

/-! ### base: words for every pure text -/
theorem w64 {x : Int} (h0 : -9223372036854775808 ≤ x) (h1 : x ≤ 9223372036854775807) : wrap64 x = x := by unfold wrap64; omega
theorem Ev.pos {α : Type} {c : Prop} [Decidable c] {g f : Nat → Option α} {r : α} (h : c) (e : Ev g r) : Ev (fun k => if c then g k else f k) r := Ev.congr (fun k => by rw [if_pos h]) e
theorem Ev.neg {α : Type} {c : Prop} [Decidable c] {g f : Nat → Option α} {r : α} (h : ¬ c) (e : Ev f r) : Ev (fun k => if c then g k else f k) r := Ev.congr (fun k => by rw [if_neg h]) e
theorem Ev.val {α : Type} {r q : α} (h : r = q) : Ev (fun _ => some r) q := by subst h; exact Ev.now r
theorem rd_getElem {l : List Int} {i : Int} (h1 : i.toNat < l.length) : rd l i = l[i.toNat] := by simp [rd, List.getD_eq_getElem?_getD, List.getElem?_eq_getElem h1]
theorem drop_rd {l : List Int} {i : Int} (h0 : 0 ≤ i) (h1 : i < l.length) : l.drop i.toNat = rd l i :: l.drop (i + 1).toNat := by
  have h : i.toNat < l.length := by omega
  rw [rd_getElem h, List.drop_eq_getElem_cons h]; congr 2; omega
theorem take_rd {l : List Int} {i : Int} (h0 : 0 ≤ i) (h1 : i < l.length) : l.take (i + 1).toNat = l.take i.toNat ++ [rd l i] := by
  have h : i.toNat < l.length := by omega
  have e : (i + 1).toNat = i.toNat + 1 := by omega
  rw [rd_getElem h, e, List.take_succ_eq_append_getElem h]
theorem rd_drop (l : List Int) (n : Nat) (i : Int) (h0 : 0 ≤ i) : rd (l.drop n) i = rd l (i + n) := by
  have e : (i + n).toNat = n + i.toNat := by omega
  simp only [rd, List.getD_eq_getElem?_getD, List.getElem?_drop, e]
theorem rd_take (l : List Int) (n : Nat) (i : Int) (h0 : 0 ≤ i) (h1 : i < n) : rd (l.take n) i = rd l i := by
  simp only [rd, List.getD_eq_getElem?_getD]; rw [List.getElem?_take_of_lt (by omega)]
theorem drop_all {α : Type} (l : List α) (n : Nat) (h : l.length ≤ n) : l.drop n = [] := List.drop_eq_nil_of_le h
theorem dec_ne {a b : Int} {l m : List Int} (h : a ≠ b) : decide (a :: l = b :: m) = false := decide_eq_false (fun q => h (List.cons.inj q).1)
theorem Ev.no {p : Prop} [Decidable p] (h : ¬ p) : Ev (fun _ => some false) (decide p) := Ev.val (decide_eq_false h).symm
theorem Ev.yes {p : Prop} [Decidable p] (h : p) : Ev (fun _ => some true) (decide p) := Ev.val (decide_eq_true h).symm
theorem ext_rd {a b : List Int} (hl : a.length = b.length) (h : ∀ i : Int, 0 ≤ i → i < a.length → rd a i = rd b i) : a = b := by
  apply List.ext_getElem hl
  intro i h1 h2
  have := h i (by omega) (by omega)
  rwa [rd_getElem (by simpa using h1), rd_getElem (by simpa using h2)] at this
theorem wf_u8 {x : Int} (h : (Lit.int .u8 x).wf = true) : 0 ≤ x ∧ x ≤ 255 := by simpa [Lit.wf, IntKind.min, IntKind.max, IntKind.signed, IntKind.bits] using h
theorem wf_u32 {x : Int} (h : (Lit.int .u32 x).wf = true) : 0 ≤ x ∧ x ≤ 4294967295 := by simpa [Lit.wf, IntKind.min, IntKind.max, IntKind.signed, IntKind.bits] using h
theorem wf_i64 {x : Int} (h : (Lit.int .i64 x).wf = true) : -9223372036854775808 ≤ x ∧ x ≤ 9223372036854775807 := by simpa [Lit.wf, IntKind.min, IntKind.max, IntKind.signed, IntKind.bits] using h
theorem rd_mem {l : List Int} {i : Int} (h0 : 0 ≤ i) (h1 : i < l.length) : rd l i ∈ l := by
  rw [rd_getElem (by omega)]; exact List.getElem_mem _
theorem rd_u8 {l : List Int} (hw : ∀ x ∈ l, (Lit.int .u8 x).wf = true) {i : Int} (h0 : 0 ≤ i) (h1 : i < l.length) : 0 ≤ rd l i ∧ rd l i ≤ 255 := wf_u8 (hw _ (rd_mem h0 h1))
theorem tm {a b : Int} (h : 0 ≤ a) : Int.tmod a b = a % b := Int.tmod_eq_emod_of_nonneg h
theorem td {a b : Int} (h : 0 ≤ a) : Int.tdiv a b = a / b := Int.tdiv_eq_ediv_of_nonneg h

theorem rd_set_eq (l : List Int) (i : Int) (v : Int) (h0 : 0 ≤ i) (h1 : i < l.length) : rd (l.set i.toNat v) i = v := by
  simp [rd, List.getD_eq_getElem?_getD, List.getElem?_set, show i.toNat < l.length by omega]
theorem rd_set_ne (l : List Int) (i j : Int) (v : Int) (h0 : 0 ≤ i) (hj : 0 ≤ j) (h : j ≠ i) : rd (l.set i.toNat v) j = rd l j := by
  simp only [rd, List.getD_eq_getElem?_getD]
  rw [List.getElem?_set_ne (by omega)]
theorem rd_replicate (n : Nat) (v : Int) (j : Int) (h0 : 0 ≤ j) (h1 : j < n) : rd (List.replicate n v) j = v := by
  simp [rd, List.getD_eq_getElem?_getD, List.getElem?_replicate, show j.toNat < n by omega]
theorem rd_append_left (l m : List Int) (j : Int) (h0 : 0 ≤ j) (h1 : j < l.length) : rd (l ++ m) j = rd l j := by
  simp only [rd, List.getD_eq_getElem?_getD]
  rw [List.getElem?_append_left (by omega)]
theorem rd_append_last (l : List Int) (v : Int) (j : Int) (h : j = l.length) : rd (l ++ [v]) j = v := by
  subst h
  simp [rd, List.getD_eq_getElem?_getD]

/-! ### brackets: bracket_is, coppicerref_Closed -/
theorem rb_getElem {l : List Bool} {i : Int} (h1 : i.toNat < l.length) : rdOf false l i = l[i.toNat] := by simp [rdOf, List.getD_eq_getElem?_getD, List.getElem?_eq_getElem h1]
theorem drop_rb {l : List Bool} {i : Int} (h0 : 0 ≤ i) (h1 : i < l.length) : l.drop i.toNat = rdOf false l i :: l.drop (i + 1).toNat := by
  have h : i.toNat < l.length := by omega
  rw [rb_getElem h, List.drop_eq_getElem_cons h]; congr 2; omega
theorem take_rb {l : List Bool} {i : Int} (h0 : 0 ≤ i) (h1 : i < l.length) : l.take (i + 1).toNat = l.take i.toNat ++ [rdOf false l i] := by
  have h : i.toNat < l.length := by omega
  have e : (i + 1).toNat = i.toNat + 1 := by omega
  rw [rb_getElem h, e, List.take_succ_eq_append_getElem h]
def bal : Int → List Bool → Bool
  | d, [] => d == 0
  | d, true :: l => bal (d + 1) l
  | d, false :: l => if d - 1 < 0 then false else bal (d - 1) l
theorem bal_cut (post : List Bool) : ∀ (pre : List Bool) (d : Int), 0 ≤ d → bal d (pre ++ true :: false :: post) = bal d (pre ++ post)
  | [], d, h => by simp only [List.nil_append, bal]; rw [if_neg (by omega)]; congr 1; omega
  | true :: pre, d, h => by simp only [List.cons_append, bal]; exact bal_cut post pre (d + 1) (by omega)
  | false :: pre, d, h => by
    simp only [List.cons_append, bal]
    by_cases q : d - 1 < 0
    · simp [q]
    · rw [if_neg q, if_neg q]; exact bal_cut post pre (d - 1) (by omega)
/-- no opener stands right ahead of a closer -/
def noadj : List Bool → Prop
  | [] => True
  | [_] => True
  | a :: b :: l => ¬ (a = true ∧ b = false) ∧ noadj (b :: l)
theorem noadj_true : ∀ (l : List Bool) (d : Int), 0 ≤ d → noadj (true :: l) → bal d (true :: l) = false
  | [], d, h, _ => by simp [bal]; omega
  | true :: l, d, h, hn => by
    have := noadj_true l (d + 1) (by omega) hn.2
    simp only [bal] at this ⊢; exact this
  | false :: l, d, h, hn => by exact absurd ⟨rfl, rfl⟩ hn.1
theorem noadj_bal (l : List Bool) (h : noadj l) : bal 0 l = decide (l = []) := by
  cases l with
  | nil => rfl
  | cons a l =>
    cases a with
    | true => rw [noadj_true l 0 (by omega) h]; simp
    | false => simp [bal]
theorem noadj_of (l : List Bool) : (∀ j : Int, 0 ≤ j → j + 1 < l.length → ¬ (rdOf false l j = true ∧ rdOf false l (j + 1) = false)) → noadj l := by
  induction l with
  | nil => intro _; trivial
  | cons a l ih =>
    intro h
    cases l with
    | nil => trivial
    | cons b l =>
      refine ⟨?_, ih ?_⟩
      · have := h 0 (by omega) (by simp; omega)
        exact this
      · intro j j0 j1
        have := h (j + 1) (by omega) (by simp at j1 ⊢; omega)
        have e1 : rdOf false (a :: b :: l) (j + 1) = rdOf false (b :: l) j := by
          simp only [rdOf]; rw [show (j + 1).toNat = j.toNat + 1 by omega]; rfl
        have e2 : rdOf false (a :: b :: l) (j + 1 + 1) = rdOf false (b :: l) (j + 1) := by
          simp only [rdOf]; rw [show (j + 1 + 1).toNat = (j + 1).toNat + 1 by omega]; rfl
        rw [e1, e2] at this; exact this
theorem closed_l0 (n : Nat) : ∀ (l : List Bool), l.length ≤ n → l.length ≤ 1000 → ∀ (c : Nat) (i : Int), 0 ≤ i → i + c = l.length + 1 → (∀ j : Int, 0 ≤ j → j < i → j + 1 < l.length → ¬ (rdOf false l j = true ∧ rdOf false l (j + 1) = false)) →
    Ev (fun k => coppicerref_Closed.l0 k l i) (bal 0 l) := by
  induction n with
  | zero =>
    intro l hl hl2 c i h0 hc hj
    have : l = [] := List.eq_nil_of_length_eq_zero (by omega)
    subst this
    refine Ev.step (fun k => coppicerref_Closed.l0.eq_2 _ _ k) ?_
    simp only [List.length_nil]
    simp at hc
    simp (disch := omega) only [w64, if_neg]
    exact Ev.now _
  | succ n ihn =>
    intro l hl hl2 c
    induction c with
    | zero =>
      intro i h0 hc hj
      refine Ev.step (fun k => coppicerref_Closed.l0.eq_2 _ _ k) ?_
      simp (disch := omega) only [w64, if_neg]
      refine Ev.val ?_
      rw [noadj_bal l (noadj_of l (fun j j0 j1 => hj j j0 (by omega) j1))]
      cases l <;> simp; omega
    | succ c ihc =>
      intro i h0 hc hj
      refine Ev.step (fun k => coppicerref_Closed.l0.eq_2 _ _ k) ?_
      by_cases hi : i + 1 < l.length
      · have more : ¬ (rdOf false l i = true ∧ rdOf false l (i + 1) = false) → Ev (fun k => coppicerref_Closed.l0 k l (i + 1)) (bal 0 l) := by
          intro hne
          refine ihc (i + 1) (by omega) (by omega) ?_
          intro j j0 j1 j2
          by_cases p : j < i
          · exact hj j j0 p j2
          · have : j = i := by omega
            subst this; exact hne
        cases hb : rdOf false l i with
        | false =>
          simp (disch := omega) only [w64, if_pos, hb, Bool.false_eq_true, if_false]
          exact more (by simp [hb])
        | true =>
          cases hb2 : rdOf false l (i + 1) with
          | true =>
            simp (disch := omega) only [w64, if_pos, hb, hb2, if_true]
            exact more (by simp [hb2])
          | false =>
            have e : l = l.take i.toNat ++ true :: false :: l.drop (i + 2).toNat := by
              have e1 := drop_rb h0 (show i < l.length by omega)
              have e2 := drop_rb (l := l) (i := i + 1) (by omega) (by omega)
              rw [hb] at e1; rw [hb2, show i + 1 + 1 = i + 2 by omega] at e2
              rw [e2] at e1
              have := List.take_append_drop i.toNat l
              rw [e1] at this; exact this.symm
            simp (disch := omega) only [w64, if_pos, hb, hb2, Bool.false_eq_true, if_false, Option.bind_some, List.nil_append, List.length_nil]
            have l1 : (l.take i.toNat).length = i.toNat := by simp; omega
            have l2 : (l.drop (i + 2).toNat).length = l.length - (i + 2).toNat := by simp
            simp (disch := omega) only [if_pos (show 0 + (l.take i.toNat).length < 140737488355328 by omega), if_pos (show (l.take i.toNat).length + (l.drop (i + 2).toNat).length < 140737488355328 by omega)]
            have r := ihn (l.take i.toNat ++ l.drop (i + 2).toNat) (by rw [List.length_append, l1, l2]; omega) (by rw [List.length_append, l1, l2]; omega) ((l.take i.toNat ++ l.drop (i + 2).toNat).length + 1) 0 (by omega) (by omega) (by intro j a b; omega)
            rw [e, bal_cut _ _ 0 (by omega), ← e]
            exact r
      · simp (disch := omega) only [w64, if_neg]
        refine Ev.val ?_
        rw [noadj_bal l (noadj_of l (fun j j0 j1 => hj j j0 (by omega) j1))]
        cases l <;> simp; omega
theorem Closed_ev (l : List Bool) (hn : l.length ≤ 1000) : Ev (fun k => coppicerref_Closed.f k l) (bal 0 l) := by
  unfold coppicerref_Closed.f
  simp only [Option.bind_some, List.length_nil, List.nil_append]
  simp (disch := omega) only [if_pos (show 0 + l.length < 140737488355328 by omega)]
  exact closed_l0 l.length l (by omega) hn (l.length + 1) 0 (by omega) (by omega) (by intro j a b; omega)

/-! ### bracket_is -/
theorem is_l0 (l : List Bool) (hn : l.length ≤ 1000) (c : Nat) : ∀ i d : Int, 0 ≤ i → i + c = l.length → 0 ≤ d → d ≤ i → Ev (fun k => bracket_is.l0 k d l (l.length : Int) i) (bal d (l.drop i.toNat)) := by
  induction c with
  | zero =>
    intro i d h0 hc hd0 hd1
    refine Ev.step (fun k => bracket_is.l0.eq_2 _ _ _ _ k) ?_
    simp (disch := omega) only [if_neg]
    exact Ev.val (by rw [List.drop_eq_nil_of_le (by omega)]; rfl)
  | succ c ih =>
    intro i d h0 hc hd0 hd1
    refine Ev.step (fun k => bracket_is.l0.eq_2 _ _ _ _ k) ?_
    rw [drop_rb h0 (by omega)]
    cases hb : rdOf false l i with
    | true =>
      simp (disch := omega) only [if_pos, w64]
      exact ih (i + 1) (d + 1) (by omega) (by omega) (by omega) (by omega)
    | false =>
      simp only [Bool.false_eq_true, if_false]
      simp (disch := omega) only [if_pos (show i < (l.length : Int) by omega), if_pos (show 0 ≤ i by omega), w64]
      by_cases h : d - 1 < 0
      · simp only [if_pos h, bal]; exact Ev.now _
      · simp only [if_neg h, bal]
        exact ih (i + 1) (d - 1) (by omega) (by omega) (by omega) (by omega)
theorem is_ev (l : List Bool) (hn : l.length ≤ 1000) : Ev (fun k => bracket_is.f k l) (bal 0 l) := by
  unfold bracket_is.f
  exact is_l0 l hn l.length 0 0 (by omega) (by omega) (by omega) (by omega)

/-! ### coppicerref_Nest, bracket_ways -/
def Np : Nat → Int → Int
  | 0, d => if d = 0 then 1 else 0
  | t + 1, d => if d < 0 ∨ d > t + 1 then 0 else Np t (d + 1) + Np t (d - 1)
theorem Np_out (t : Nat) (d : Int) (h : d < 0 ∨ d > t) : Np t d = 0 := by
  cases t with
  | zero => simp only [Np]; rw [if_neg (by omega)]
  | succ t => simp only [Np]; rw [if_pos (by omega)]
theorem Np_bd (t : Nat) : ∀ d : Int, 0 ≤ Np t d ∧ Np t d ≤ 2 ^ t := by
  induction t with
  | zero => intro d; simp only [Np]; split <;> simp
  | succ t ih =>
    intro d
    simp only [Np]
    have a := ih (d + 1)
    have b := ih (d - 1)
    have e : (2 : Int) ^ (t + 1) = 2 ^ t + 2 ^ t := by rw [Int.pow_succ]; omega
    split
    · rw [e]; omega
    · rw [e]; omega
theorem Np_bd2 (t : Nat) (ht : t ≤ 17) (d : Int) : 0 ≤ Np t d ∧ Np t d ≤ 131072 := by
  have := Np_bd t d
  have h : (2 : Int) ^ t ≤ 2 ^ 17 := by
    have : (2 : Nat) ^ t ≤ 2 ^ 17 := Nat.pow_le_pow_right (by omega) ht
    exact_mod_cast this
  omega
theorem Nest_ev (t : Nat) : ∀ d : Int, t ≤ 17 → -20 ≤ d → d ≤ 40 → Ev (fun k => coppicerref_Nest.f k (t : Int) d) (Np t d) := by
  induction t with
  | zero =>
    intro d ht h0 h1
    refine Ev.step (fun k => coppicerref_Nest.f.eq_2 _ _ k) ?_
    by_cases q : d < 0
    · simp only [if_pos q]
      refine Ev.step (fun k => coppicerref_Nest.j0.eq_2 _ _ _ k) ?_
      simp only [if_true]; exact Ev.val (by rw [Np_out]; omega)
    · simp only [if_neg q]
      refine Ev.step (fun k => coppicerref_Nest.j0.eq_2 _ _ _ k) ?_
      by_cases q2 : d > ((0 : Nat) : Int)
      · simp only [q2, decide_true, if_true]; exact Ev.val (by rw [Np_out]; omega)
      · simp only [q2, decide_false, Bool.false_eq_true, if_false]
        simp only [show ((0 : Nat) : Int) = 0 from rfl, if_true]
        exact Ev.val (by simp only [Np]; rw [if_pos (by omega)])
  | succ t ih =>
    intro d ht h0 h1
    refine Ev.step (fun k => coppicerref_Nest.f.eq_2 _ _ k) ?_
    by_cases q : d < 0
    · simp only [if_pos q]
      refine Ev.step (fun k => coppicerref_Nest.j0.eq_2 _ _ _ k) ?_
      simp only [if_true]; exact Ev.val (by rw [Np_out]; omega)
    · simp only [if_neg q]
      refine Ev.step (fun k => coppicerref_Nest.j0.eq_2 _ _ _ k) ?_
      by_cases q2 : d > ((t + 1 : Nat) : Int)
      · simp only [q2, decide_true, if_true]; exact Ev.val (by rw [Np_out]; omega)
      · simp only [q2, decide_false, Bool.false_eq_true, if_false]
        have a := Np_bd2 t (by omega) (d + 1)
        have b := Np_bd2 t (by omega) (d - 1)
        simp (disch := omega) only [if_neg (show ¬ ((t + 1 : Nat) : Int) = 0 by omega), w64]
        rw [show ((t + 1 : Nat) : Int) - 1 = t by omega]
        refine Ev.bind (ih (d + 1) (by omega) (by omega) (by omega)) (Ev.bind (ih (d - 1) (by omega) (by omega) (by omega)) (Ev.val ?_))
        rw [w64 (by omega) (by omega)]
        simp only [Np]; rw [if_neg (by omega)]
theorem ways_l1 (R dp : Int) (t : Nat) (n : Int) (row : List Int) (ht : t < n) (hn : n ≤ 17) (hsz : n + 2 ≤ row.length) (hlen : row.length ≤ 60) (hrow : ∀ q : Int, 0 ≤ q → q < row.length → rd row q = Np t q)
    (next : ∀ r : List Int, r.length = row.length → (∀ q : Int, 0 ≤ q → q < row.length → rd r q = Np (t + 1) q) → Ev (fun k => bracket_ways.l0 k dp r n ((t : Int) + 1)) R) (c : Nat) :
    ∀ (d : Int) (nx : List Int), 0 ≤ d → d + c = row.length → nx.length = row.length → (∀ q : Int, 0 ≤ q → q < d → rd nx q = Np (t + 1) q) → (∀ q : Int, d ≤ q → q < row.length → rd nx q = 0) →
    Ev (fun k => bracket_ways.l1 k dp row nx n (t : Int) (row.length : Int) d) R := by
  induction c with
  | zero =>
    intro d nx h0 hc hl hA hB
    refine Ev.step (fun k => bracket_ways.l1.eq_2 _ _ _ _ _ _ _ k) ?_
    simp (disch := omega) only [if_neg (show ¬ d < (row.length : Int) by omega), w64]
    exact next nx hl (fun q q0 q1 => hA q q0 (by omega))
  | succ c ih =>
    intro d nx h0 hc hl hA hB
    have fin : ∀ nx' : List Int, nx'.length = row.length → rd nx' d = Np (t + 1) d → (∀ q : Int, 0 ≤ q → q ≠ d → rd nx' q = rd nx q) → Ev (fun k => bracket_ways.l1 k dp row nx' n (t : Int) (row.length : Int) (d + 1)) R := by
      intro nx' h1 h2 h3
      refine ih (d + 1) nx' (by omega) (by omega) h1 ?_ ?_
      · intro q q0 q1
        by_cases p : q = d
        · subst p; exact h2
        · rw [h3 q q0 p]; exact hA q q0 (by omega)
      · intro q q0 q1
        rw [h3 q (by omega) (by omega)]; exact hB q (by omega) q1
    have z := hB d (by omega) (by omega)
    have a := Np_bd2 t (by omega) (d - 1)
    have b := Np_bd2 t (by omega) (d + 1)
    have val : Np (t + 1) d = Np t (d + 1) + Np t (d - 1) := by
      simp only [Np]
      split
      · rw [Np_out t (d + 1) (by omega), Np_out t (d - 1) (by omega)]; rfl
      · rfl
    refine Ev.step (fun k => bracket_ways.l1.eq_2 _ _ _ _ _ _ _ k) ?_
    by_cases hd : d > 0
    · have e1 := hrow (d - 1) (by omega) (by omega)
      simp (disch := omega) only [if_pos (show d < (row.length : Int) by omega), if_pos hd, if_pos (show 0 ≤ d by omega), if_pos (show d < (nx.length : Int) by omega), w64, if_pos (show 0 ≤ d - 1 by omega), if_pos (show d - 1 < (row.length : Int) by omega), Option.bind_some, z, e1, Int.zero_add]
      have g1 : rd (nx.set d.toNat (Np t (d - 1))) d = Np t (d - 1) := rd_set_eq nx d _ h0 (by omega)
      by_cases hd2 : d + 1 < row.length
      · have e2 := hrow (d + 1) (by omega) (by omega)
        simp (disch := omega) only [if_pos hd2, if_pos (show 0 ≤ d + 1 by omega), w64, g1, e2]
        refine fin _ (by simpa using hl) ?_ ?_
        · rw [rd_set_eq _ d _ h0 (by simp; omega), val]; omega
        · intro q q0 p
          rw [rd_set_ne _ d q _ h0 q0 p, rd_set_ne _ d q _ h0 q0 p]
      · simp (disch := omega) only [if_neg hd2]
        refine fin _ (by simpa using hl) ?_ ?_
        · rw [g1, val, Np_out t (d + 1) (by omega)]; omega
        · intro q q0 p; rw [rd_set_ne _ d q _ h0 q0 p]
    · have d0 : d = 0 := by omega
      have e2 := hrow (d + 1) (by omega) (by omega)
      simp (disch := omega) only [if_pos (show d < (row.length : Int) by omega), if_neg hd, if_pos (show 0 ≤ d by omega), if_pos (show d < (nx.length : Int) by omega), w64, if_pos (show d + 1 < (row.length : Int) by omega), if_pos (show 0 ≤ d + 1 by omega), z, e2, Int.zero_add]
      refine fin _ (by simpa using hl) ?_ ?_
      · rw [rd_set_eq _ d _ h0 (by omega), val, Np_out t (d - 1) (by omega)]; omega
      · intro q q0 p; rw [rd_set_ne _ d q _ h0 q0 p]
theorem ways_l0 (n dp : Int) (hn : n ≤ 17) (hdp : 0 ≤ dp) (c : Nat) : ∀ (t : Nat) (row : List Int), (t : Int) + c = n → (row.length : Int) = n + dp + 2 → row.length ≤ 60 → (∀ q : Int, 0 ≤ q → q < row.length → rd row q = Np t q) →
    Ev (fun k => bracket_ways.l0 k dp row n (t : Int)) (Np n.toNat dp) := by
  induction c with
  | zero =>
    intro t row hc hl hl2 hr
    refine Ev.step (fun k => bracket_ways.l0.eq_2 _ _ _ _ k) ?_
    simp (disch := omega) only [if_neg (show ¬ (t : Int) < n by omega), if_pos]
    exact Ev.val (by rw [hr dp hdp (by omega), show n.toNat = t by omega])
  | succ c ih =>
    intro t row hc hl hl2 hr
    refine Ev.step (fun k => bracket_ways.l0.eq_2 _ _ _ _ k) ?_
    simp (disch := omega) only [if_pos]
    simp only [Int.toNat_natCast]
    refine ways_l1 _ dp t n row (by omega) hn (by omega) hl2 hr ?_ row.length 0 _ (by omega) (by omega) (by simp) (by intro q a b; omega) ?_
    · intro r hrl hrr
      have := ih (t + 1) r (by omega) (by omega) (by omega) (by rw [hrl]; exact hrr)
      simpa using this
    · intro q q0 q1; exact rd_replicate _ _ q q0 q1
theorem ways_ev (n dp : Int) (h0 : 0 ≤ n) (hn : n ≤ 17) (hdp : 0 ≤ dp) (hdp2 : dp ≤ 20) : Ev (fun k => bracket_ways.f k n dp) (Np n.toNat dp) := by
  unfold bracket_ways.f
  simp (disch := omega) only [if_pos, w64, Option.bind_some]
  have hl : ((List.replicate (n + dp + 2).toNat (0 : Int)).length : Int) = n + dp + 2 := by simp; omega
  simp (disch := omega) only [if_pos]
  have := ways_l0 n dp hn hdp n.toNat 0 ((List.replicate (n + dp + 2).toNat (0 : Int)).set (0 : Int).toNat 1) (by omega) (by rw [List.length_set]; exact hl) (by rw [List.length_set]; omega) (by
    intro q q0 q1
    rw [List.length_set] at q1
    by_cases p : q = 0
    · subst p; rw [rd_set_eq _ 0 _ (by omega) (by omega)]; rfl
    · rw [rd_set_ne _ 0 q _ (by omega) q0 p, rd_replicate _ _ q q0 (by omega)]; simp only [Np]; rw [if_neg p])
  exact this
/-! ### coppicerref_Nested: the sum on the way -/
def nested : Int → List Bool → Int
  | _, [] => 0
  | d, true :: l => nested (d + 1) l
  | d, false :: l => Np l.length (d + 1) + nested (d - 1) l
theorem nested_bd : ∀ (l : List Bool) (d : Int), l.length ≤ 17 → 0 ≤ nested d l ∧ nested d l ≤ 131072 * l.length
  | [], d, _ => by simp [nested]
  | true :: l, d, h => by
    have := nested_bd l (d + 1) (by simp at h; omega)
    simp only [nested, List.length_cons]; omega
  | false :: l, d, h => by
    have := nested_bd l (d - 1) (by simp at h; omega)
    have := Np_bd2 l.length (by simp at h; omega) (d + 1)
    simp only [nested, List.length_cons]; omega
theorem Nested_l0 (l : List Bool) (hn : l.length ≤ 16) (c : Nat) : ∀ i s d : Int, 0 ≤ i → i + c = l.length → 0 ≤ s → s ≤ i * 131072 → -i ≤ d → d ≤ i → Ev (fun k => coppicerref_Nested.l0 k l s d l (l.length : Int) i) (s + nested d (l.drop i.toNat)) := by
  induction c with
  | zero =>
    intro i s d h0 hc hs0 hs1 hd0 hd1
    refine Ev.step (fun k => coppicerref_Nested.l0.eq_2 _ _ _ _ _ _ k) ?_
    simp (disch := omega) only [if_neg]
    exact Ev.val (by rw [List.drop_eq_nil_of_le (by omega)]; simp [nested])
  | succ c ih =>
    intro i s d h0 hc hs0 hs1 hd0 hd1
    refine Ev.step (fun k => coppicerref_Nested.l0.eq_2 _ _ _ _ _ _ k) ?_
    rw [drop_rb h0 (by omega)]
    cases hb : rdOf false l i with
    | true =>
      simp (disch := omega) only [if_pos, w64]
      exact ih (i + 1) s (d + 1) (by omega) (by omega) (by omega) (by omega) (by omega) (by omega)
    | false =>
      simp only [Bool.false_eq_true, if_false]
      simp (disch := omega) only [if_pos (show i < (l.length : Int) by omega), if_pos (show 0 ≤ i by omega), w64]
      have hl : (l.drop (i + 1).toNat).length = c := by simp; omega
      rw [show (l.length : Int) - 1 - i = (c : Int) by omega]
      have nb := Np_bd2 c (by omega) (d + 1)
      refine Ev.bind (Nest_ev c (d + 1) (by omega) (by omega) (by omega)) ?_
      simp (disch := omega) only [w64]
      have := ih (i + 1) (s + Np c (d + 1)) (d - 1) (by omega) (by omega) (by omega) (by omega) (by omega) (by omega)
      simp only [nested, hl]
      rw [Int.add_assoc] at this
      exact this
theorem Nested_ev (l : List Bool) (hn : l.length ≤ 16) : Ev (fun k => coppicerref_Nested.f k l) (nested 0 l) := by
  unfold coppicerref_Nested.f
  have := Nested_l0 l hn l.length 0 0 0 (by omega) (by omega) (by omega) (by omega) (by omega) (by omega)
  simpa using this

theorem rank_l0 (l : List Bool) (hn : l.length ≤ 16) (c : Nat) : ∀ i s d : Int, 0 ≤ i → i + c = l.length → 0 ≤ s → s ≤ i * 131072 → 0 ≤ d → d ≤ i → bal d (l.drop i.toNat) = true → Ev (fun k => bracket_Rank.l0 k l s d l (l.length : Int) i) (s + nested d (l.drop i.toNat), 0) := by
  induction c with
  | zero =>
    intro i s d h0 hc hs0 hs1 hd0 hd1 hbal
    refine Ev.step (fun k => bracket_Rank.l0.eq_2 _ _ _ _ _ _ k) ?_
    simp (disch := omega) only [if_neg]
    exact Ev.val (by rw [List.drop_eq_nil_of_le (by omega)]; simp [nested])
  | succ c ih =>
    intro i s d h0 hc hs0 hs1 hd0 hd1 hbal
    refine Ev.step (fun k => bracket_Rank.l0.eq_2 _ _ _ _ _ _ k) ?_
    rw [drop_rb h0 (by omega)] at hbal ⊢
    cases hb : rdOf false l i with
    | true =>
      rw [hb] at hbal
      simp (disch := omega) only [if_pos, w64]
      exact ih (i + 1) s (d + 1) (by omega) (by omega) (by omega) (by omega) (by omega) (by omega) hbal
    | false =>
      rw [hb] at hbal
      have hbal2 : ¬ d - 1 < 0 ∧ bal (d - 1) (l.drop (i + 1).toNat) = true := by
        simp only [bal] at hbal
        split at hbal
        · exact absurd hbal (by simp)
        · exact ⟨by assumption, hbal⟩
      simp only [Bool.false_eq_true, if_false]
      simp (disch := omega) only [if_pos (show i < (l.length : Int) by omega), if_pos (show 0 ≤ i by omega), w64]
      have hl : (l.drop (i + 1).toNat).length = c := by simp; omega
      rw [show (l.length : Int) - 1 - i = (c : Int) by omega]
      have nb := Np_bd2 c (by omega) (d + 1)
      refine Ev.bind (ways_ev c (d + 1) (by omega) (by omega) (by omega) (by omega)) ?_
      simp (disch := omega) only [Int.toNat_natCast, w64]
      have := ih (i + 1) (s + Np c (d + 1)) (d - 1) (by omega) (by omega) (by omega) (by omega) (by omega) (by omega) hbal2.2
      simp only [nested, hl]
      rw [Int.add_assoc] at this
      exact this
theorem BracketRanks : coppicerlaw_BracketRanks.Pure := by
  intro l hm hs
  refine Ev.rounds (g := fun k => coppicerlaw_BracketRanks.f k l) ?_
  unfold coppicerlaw_BracketRanks.f bracket_Rank.f
  by_cases h : (l.length : Int) > 16
  · refine Ev.bind (a := (0, 1)) ?_ ?_
    · simp only [h, if_true]; exact Ev.now _
    · simp only [h, if_true]; exact Ev.val rfl
  cases hb : bal 0 l with
  | true =>
    refine Ev.bind (a := (nested 0 l, 0)) ?_ ?_
    · simp only [h, if_false]
      have hi := is_ev l (by omega)
      rw [hb] at hi
      refine Ev.bind hi ?_
      simp only [if_true]
      have := rank_l0 l (by omega) l.length 0 0 0 (by omega) (by omega) (by omega) (by omega) (by omega) (by omega) (by simpa using hb)
      simpa using this
    · simp only [h, if_false]
      have hc := Closed_ev l (by omega)
      rw [hb] at hc
      refine Ev.bind hc ?_
      simp only [if_true]
      exact Ev.bind (Nested_ev l (by omega)) (Ev.val (by simp))
  | false =>
    refine Ev.bind (a := (0, 3)) ?_ ?_
    · simp only [h, if_false]
      have hi := is_ev l (by omega)
      rw [hb] at hi
      refine Ev.bind hi ?_
      simp only [Bool.false_eq_true, if_false]; exact Ev.now _
    · simp only [h, if_false]
      have hc := Closed_ev l (by omega)
      rw [hb] at hc
      refine Ev.bind hc ?_
      simp only [Bool.false_eq_true, if_false]
      exact Ev.val rfl

end Go.Proofs.Ytkhmjehjhjhpkab.Pure
