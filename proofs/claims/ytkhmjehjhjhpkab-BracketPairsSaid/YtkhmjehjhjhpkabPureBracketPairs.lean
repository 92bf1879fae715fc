/- The law BracketPairs as a statement over numbers and lists alone: it holds under the bounds that the statement names. -/
import Derived.Test.YtkhmjehjhjhpkabStatBracketPairs
set_option linter.unusedVariables false
set_option linter.unusedSimpArgs false
namespace Go.Proofs.Ytkhmjehjhjhpkab.Pure
open Go.RowKit Go.Proofs.Ytkhmjehjhjhpkab.PBracketPairs Go.Proofs.YtkhmjehjhjhpkabW.PrintWords Go.Proofs.YtkhmjehjhjhpkabW.PrintLast Go.Proofs.YtkhmjehjhjhpkabW.PrintMore

/-! ### base: words for every pure text -/
theorem w64 {x : Int} (h0 : -9223372036854775808 ≤ x) (h1 : x ≤ 9223372036854775807) : wrap64 x = x := by unfold wrap64; omega
theorem Ev.pos {α : Type} {c : Prop} [Decidable c] {g f : Nat → Option α} {r : α} (h : c) (e : Ev g r) : Ev (fun k => if c then g k else f k) r := Ev.congr (fun k => by rw [if_pos h]) e
theorem Ev.neg {α : Type} {c : Prop} [Decidable c] {g f : Nat → Option α} {r : α} (h : ¬ c) (e : Ev f r) : Ev (fun k => if c then g k else f k) r := Ev.congr (fun k => by rw [if_neg h]) e
theorem Ev.val {α : Type} {r q : α} (h : r = q) : Ev (fun _ => some r) q := by subst h; exact Ev.now r
theorem rd_getElem {l : List Int} {i : Int} (h1 : i.toNat < l.length) : rd l i = l[i.toNat] := by simp [rd, List.getD_eq_getElem?_getD, List.getElem?_eq_getElem h1]
theorem drop_rd {l : List Int} {i : Int} (h0 : 0 ≤ i) (h1 : i < l.length) : l.drop i.toNat = rd l i :: l.drop (i + 1).toNat := by
  have h : i.toNat < l.length := by omega
  rw [rd_getElem h, List.drop_eq_getElem_cons h]; congr 2; omega
theorem take_rd {l : List Int} {i : Int} (h0 : 0 ≤ i) (h1 : i < l.length) : l.take (i + 1).toNat = l.take i.toNat ++ [rd l i] := by
  have h : i.toNat < l.length := by omega
  have e : (i + 1).toNat = i.toNat + 1 := by omega
  rw [rd_getElem h, e, List.take_succ_eq_append_getElem h]
theorem rd_drop (l : List Int) (n : Nat) (i : Int) (h0 : 0 ≤ i) : rd (l.drop n) i = rd l (i + n) := by
  have e : (i + n).toNat = n + i.toNat := by omega
  simp only [rd, List.getD_eq_getElem?_getD, List.getElem?_drop, e]
theorem rd_take (l : List Int) (n : Nat) (i : Int) (h0 : 0 ≤ i) (h1 : i < n) : rd (l.take n) i = rd l i := by
  simp only [rd, List.getD_eq_getElem?_getD]; rw [List.getElem?_take_of_lt (by omega)]
theorem drop_all {α : Type} (l : List α) (n : Nat) (h : l.length ≤ n) : l.drop n = [] := List.drop_eq_nil_of_le h
theorem dec_ne {a b : Int} {l m : List Int} (h : a ≠ b) : decide (a :: l = b :: m) = false := decide_eq_false (fun q => h (List.cons.inj q).1)
theorem Ev.no {p : Prop} [Decidable p] (h : ¬ p) : Ev (fun _ => some false) (decide p) := Ev.val (decide_eq_false h).symm
theorem Ev.yes {p : Prop} [Decidable p] (h : p) : Ev (fun _ => some true) (decide p) := Ev.val (decide_eq_true h).symm
theorem ext_rd {a b : List Int} (hl : a.length = b.length) (h : ∀ i : Int, 0 ≤ i → i < a.length → rd a i = rd b i) : a = b := by
  apply List.ext_getElem hl
  intro i h1 h2
  have := h i (by omega) (by omega)
  rwa [rd_getElem (by simpa using h1), rd_getElem (by simpa using h2)] at this
theorem wf_u8 {x : Int} (h : (Lit.int .u8 x).wf = true) : 0 ≤ x ∧ x ≤ 255 := by simpa [Lit.wf, IntKind.min, IntKind.max, IntKind.signed, IntKind.bits] using h
theorem wf_u32 {x : Int} (h : (Lit.int .u32 x).wf = true) : 0 ≤ x ∧ x ≤ 4294967295 := by simpa [Lit.wf, IntKind.min, IntKind.max, IntKind.signed, IntKind.bits] using h
theorem wf_i64 {x : Int} (h : (Lit.int .i64 x).wf = true) : -9223372036854775808 ≤ x ∧ x ≤ 9223372036854775807 := by simpa [Lit.wf, IntKind.min, IntKind.max, IntKind.signed, IntKind.bits] using h
theorem rd_mem {l : List Int} {i : Int} (h0 : 0 ≤ i) (h1 : i < l.length) : rd l i ∈ l := by
  rw [rd_getElem (by omega)]; exact List.getElem_mem _
theorem rd_u8 {l : List Int} (hw : ∀ x ∈ l, (Lit.int .u8 x).wf = true) {i : Int} (h0 : 0 ≤ i) (h1 : i < l.length) : 0 ≤ rd l i ∧ rd l i ≤ 255 := wf_u8 (hw _ (rd_mem h0 h1))
theorem tm {a b : Int} (h : 0 ≤ a) : Int.tmod a b = a % b := Int.tmod_eq_emod_of_nonneg h
theorem td {a b : Int} (h : 0 ≤ a) : Int.tdiv a b = a / b := Int.tdiv_eq_ediv_of_nonneg h

theorem rd_set_eq (l : List Int) (i : Int) (v : Int) (h0 : 0 ≤ i) (h1 : i < l.length) : rd (l.set i.toNat v) i = v := by
  simp [rd, List.getD_eq_getElem?_getD, List.getElem?_set, show i.toNat < l.length by omega]
theorem rd_set_ne (l : List Int) (i j : Int) (v : Int) (h0 : 0 ≤ i) (hj : 0 ≤ j) (h : j ≠ i) : rd (l.set i.toNat v) j = rd l j := by
  simp only [rd, List.getD_eq_getElem?_getD]
  rw [List.getElem?_set_ne (by omega)]
theorem rd_replicate (n : Nat) (v : Int) (j : Int) (h0 : 0 ≤ j) (h1 : j < n) : rd (List.replicate n v) j = v := by
  simp [rd, List.getD_eq_getElem?_getD, List.getElem?_replicate, show j.toNat < n by omega]
theorem rd_append_left (l m : List Int) (j : Int) (h0 : 0 ≤ j) (h1 : j < l.length) : rd (l ++ m) j = rd l j := by
  simp only [rd, List.getD_eq_getElem?_getD]
  rw [List.getElem?_append_left (by omega)]
theorem rd_append_last (l : List Int) (v : Int) (j : Int) (h : j = l.length) : rd (l ++ [v]) j = v := by
  subst h
  simp [rd, List.getD_eq_getElem?_getD]

/-! ### brackets: bracket_is, coppicerref_Closed -/
theorem rb_getElem {l : List Bool} {i : Int} (h1 : i.toNat < l.length) : rdOf false l i = l[i.toNat] := by simp [rdOf, List.getD_eq_getElem?_getD, List.getElem?_eq_getElem h1]
theorem drop_rb {l : List Bool} {i : Int} (h0 : 0 ≤ i) (h1 : i < l.length) : l.drop i.toNat = rdOf false l i :: l.drop (i + 1).toNat := by
  have h : i.toNat < l.length := by omega
  rw [rb_getElem h, List.drop_eq_getElem_cons h]; congr 2; omega
theorem take_rb {l : List Bool} {i : Int} (h0 : 0 ≤ i) (h1 : i < l.length) : l.take (i + 1).toNat = l.take i.toNat ++ [rdOf false l i] := by
  have h : i.toNat < l.length := by omega
  have e : (i + 1).toNat = i.toNat + 1 := by omega
  rw [rb_getElem h, e, List.take_succ_eq_append_getElem h]

/-! ### bal, coppicerref_Closed -/
def bal : Int → List Bool → Bool
  | d, [] => d == 0
  | d, true :: l => bal (d + 1) l
  | d, false :: l => if d - 1 < 0 then false else bal (d - 1) l
theorem bal_cut (post : List Bool) : ∀ (pre : List Bool) (d : Int), 0 ≤ d → bal d (pre ++ true :: false :: post) = bal d (pre ++ post)
  | [], d, h => by simp only [List.nil_append, bal]; rw [if_neg (by omega)]; congr 1; omega
  | true :: pre, d, h => by simp only [List.cons_append, bal]; exact bal_cut post pre (d + 1) (by omega)
  | false :: pre, d, h => by
    simp only [List.cons_append, bal]
    by_cases q : d - 1 < 0
    · simp [q]
    · rw [if_neg q, if_neg q]; exact bal_cut post pre (d - 1) (by omega)
/-- no opener stands right ahead of a closer -/
def noadj : List Bool → Prop
  | [] => True
  | [_] => True
  | a :: b :: l => ¬ (a = true ∧ b = false) ∧ noadj (b :: l)
theorem noadj_true : ∀ (l : List Bool) (d : Int), 0 ≤ d → noadj (true :: l) → bal d (true :: l) = false
  | [], d, h, _ => by simp [bal]; omega
  | true :: l, d, h, hn => by
    have := noadj_true l (d + 1) (by omega) hn.2
    simp only [bal] at this ⊢; exact this
  | false :: l, d, h, hn => by exact absurd ⟨rfl, rfl⟩ hn.1
theorem noadj_bal (l : List Bool) (h : noadj l) : bal 0 l = decide (l = []) := by
  cases l with
  | nil => rfl
  | cons a l =>
    cases a with
    | true => rw [noadj_true l 0 (by omega) h]; simp
    | false => simp [bal]
theorem noadj_of (l : List Bool) : (∀ j : Int, 0 ≤ j → j + 1 < l.length → ¬ (rdOf false l j = true ∧ rdOf false l (j + 1) = false)) → noadj l := by
  induction l with
  | nil => intro _; trivial
  | cons a l ih =>
    intro h
    cases l with
    | nil => trivial
    | cons b l =>
      refine ⟨?_, ih ?_⟩
      · have := h 0 (by omega) (by simp; omega)
        exact this
      · intro j j0 j1
        have := h (j + 1) (by omega) (by simp at j1 ⊢; omega)
        have e1 : rdOf false (a :: b :: l) (j + 1) = rdOf false (b :: l) j := by
          simp only [rdOf]; rw [show (j + 1).toNat = j.toNat + 1 by omega]; rfl
        have e2 : rdOf false (a :: b :: l) (j + 1 + 1) = rdOf false (b :: l) (j + 1) := by
          simp only [rdOf]; rw [show (j + 1 + 1).toNat = (j + 1).toNat + 1 by omega]; rfl
        rw [e1, e2] at this; exact this
theorem closed_l0 (n : Nat) : ∀ (l : List Bool), l.length ≤ n → l.length ≤ 1000 → ∀ (c : Nat) (i : Int), 0 ≤ i → i + c = l.length + 1 → (∀ j : Int, 0 ≤ j → j < i → j + 1 < l.length → ¬ (rdOf false l j = true ∧ rdOf false l (j + 1) = false)) →
    Ev (fun k => coppicerref_Closed.l0 k l i) (bal 0 l) := by
  induction n with
  | zero =>
    intro l hl hl2 c i h0 hc hj
    have : l = [] := List.eq_nil_of_length_eq_zero (by omega)
    subst this
    refine Ev.step (fun k => coppicerref_Closed.l0.eq_2 _ _ k) ?_
    simp only [List.length_nil]
    simp at hc
    simp (disch := omega) only [w64, if_neg]
    exact Ev.now _
  | succ n ihn =>
    intro l hl hl2 c
    induction c with
    | zero =>
      intro i h0 hc hj
      refine Ev.step (fun k => coppicerref_Closed.l0.eq_2 _ _ k) ?_
      simp (disch := omega) only [w64, if_neg]
      refine Ev.val ?_
      rw [noadj_bal l (noadj_of l (fun j j0 j1 => hj j j0 (by omega) j1))]
      cases l <;> simp; omega
    | succ c ihc =>
      intro i h0 hc hj
      refine Ev.step (fun k => coppicerref_Closed.l0.eq_2 _ _ k) ?_
      by_cases hi : i + 1 < l.length
      · have more : ¬ (rdOf false l i = true ∧ rdOf false l (i + 1) = false) → Ev (fun k => coppicerref_Closed.l0 k l (i + 1)) (bal 0 l) := by
          intro hne
          refine ihc (i + 1) (by omega) (by omega) ?_
          intro j j0 j1 j2
          by_cases p : j < i
          · exact hj j j0 p j2
          · have : j = i := by omega
            subst this; exact hne
        cases hb : rdOf false l i with
        | false =>
          simp (disch := omega) only [w64, if_pos, hb, Bool.false_eq_true, if_false]
          exact more (by simp [hb])
        | true =>
          cases hb2 : rdOf false l (i + 1) with
          | true =>
            simp (disch := omega) only [w64, if_pos, hb, hb2, if_true]
            exact more (by simp [hb2])
          | false =>
            have e : l = l.take i.toNat ++ true :: false :: l.drop (i + 2).toNat := by
              have e1 := drop_rb h0 (show i < l.length by omega)
              have e2 := drop_rb (l := l) (i := i + 1) (by omega) (by omega)
              rw [hb] at e1; rw [hb2, show i + 1 + 1 = i + 2 by omega] at e2
              rw [e2] at e1
              have := List.take_append_drop i.toNat l
              rw [e1] at this; exact this.symm
            simp (disch := omega) only [w64, if_pos, hb, hb2, Bool.false_eq_true, if_false, Option.bind_some, List.nil_append, List.length_nil]
            have l1 : (l.take i.toNat).length = i.toNat := by simp; omega
            have l2 : (l.drop (i + 2).toNat).length = l.length - (i + 2).toNat := by simp
            simp (disch := omega) only [if_pos (show 0 + (l.take i.toNat).length < 140737488355328 by omega), if_pos (show (l.take i.toNat).length + (l.drop (i + 2).toNat).length < 140737488355328 by omega)]
            have r := ihn (l.take i.toNat ++ l.drop (i + 2).toNat) (by rw [List.length_append, l1, l2]; omega) (by rw [List.length_append, l1, l2]; omega) ((l.take i.toNat ++ l.drop (i + 2).toNat).length + 1) 0 (by omega) (by omega) (by intro j a b; omega)
            rw [e, bal_cut _ _ 0 (by omega), ← e]
            exact r
      · simp (disch := omega) only [w64, if_neg]
        refine Ev.val ?_
        rw [noadj_bal l (noadj_of l (fun j j0 j1 => hj j j0 (by omega) j1))]
        cases l <;> simp; omega
theorem Closed_ev (l : List Bool) (hn : l.length ≤ 1000) : Ev (fun k => coppicerref_Closed.f k l) (bal 0 l) := by
  unfold coppicerref_Closed.f
  simp only [Option.bind_some, List.length_nil, List.nil_append]
  simp (disch := omega) only [if_pos (show 0 + l.length < 140737488355328 by omega)]
  exact closed_l0 l.length l (by omega) hn (l.length + 1) 0 (by omega) (by omega) (by intro j a b; omega)

/-! ### bracket_is -/
theorem is_l0 (l : List Bool) (hn : l.length ≤ 1000) (c : Nat) : ∀ i d : Int, 0 ≤ i → i + c = l.length → 0 ≤ d → d ≤ i → Ev (fun k => bracket_is.l0 k d l (l.length : Int) i) (bal d (l.drop i.toNat)) := by
  induction c with
  | zero =>
    intro i d h0 hc hd0 hd1
    refine Ev.step (fun k => bracket_is.l0.eq_2 _ _ _ _ k) ?_
    simp (disch := omega) only [if_neg]
    exact Ev.val (by rw [List.drop_eq_nil_of_le (by omega)]; rfl)
  | succ c ih =>
    intro i d h0 hc hd0 hd1
    refine Ev.step (fun k => bracket_is.l0.eq_2 _ _ _ _ k) ?_
    rw [drop_rb h0 (by omega)]
    cases hb : rdOf false l i with
    | true =>
      simp (disch := omega) only [if_pos, w64]
      exact ih (i + 1) (d + 1) (by omega) (by omega) (by omega) (by omega)
    | false =>
      simp only [Bool.false_eq_true, if_false]
      simp (disch := omega) only [if_pos (show i < (l.length : Int) by omega), if_pos (show 0 ≤ i by omega), w64]
      by_cases h : d - 1 < 0
      · simp only [if_pos h, bal]; exact Ev.now _
      · simp only [if_neg h, bal]
        exact ih (i + 1) (d - 1) (by omega) (by omega) (by omega) (by omega)
theorem is_ev (l : List Bool) (hn : l.length ≤ 1000) : Ev (fun k => bracket_is.f k l) (bal 0 l) := by
  unfold bracket_is.f
  exact is_l0 l hn l.length 0 0 (by omega) (by omega) (by omega) (by omega)

/-! ### depths on the way -/
/-- where a list leads: the depth behind it, if it never falls below -/
def endat : Int → List Bool → Int
  | d, [] => d
  | d, true :: l => endat (d + 1) l
  | d, false :: l => endat (d - 1) l
def never : Int → List Bool → Prop
  | _, [] => True
  | d, true :: l => never (d + 1) l
  | d, false :: l => 1 ≤ d ∧ never (d - 1) l
theorem endat_snoc (b : Bool) : ∀ (l : List Bool) (d : Int), endat d (l ++ [b]) = if b then endat d l + 1 else endat d l - 1
  | [], d => by cases b <;> rfl
  | true :: l, d => by simp only [List.cons_append, endat]; exact endat_snoc b l _
  | false :: l, d => by simp only [List.cons_append, endat]; exact endat_snoc b l _
theorem never_snoc (b : Bool) : ∀ (l : List Bool) (d : Int), never d l → (b = false → 1 ≤ endat d l) → never d (l ++ [b])
  | [], d, _, h => by cases b with | true => trivial | false => exact ⟨h rfl, trivial⟩
  | true :: l, d, hn, h => never_snoc b l (d + 1) hn h
  | false :: l, d, hn, h => ⟨hn.1, never_snoc b l (d - 1) hn.2 h⟩
theorem bal_of : ∀ (l : List Bool) (d : Int), never d l → bal d l = (endat d l == 0)
  | [], d, _ => rfl
  | true :: l, d, h => bal_of l (d + 1) h
  | false :: l, d, h => by simp only [bal, endat]; rw [if_neg (by have := h.1; omega)]; exact bal_of l (d - 1) h.2

theorem never_split : ∀ (a b : List Bool) (d : Int), never d (a ++ b) ↔ never d a ∧ never (endat d a) b
  | [], b, d => by simp [never, endat]
  | true :: a, b, d => by simp only [List.cons_append, never, endat]; exact never_split a b (d + 1)
  | false :: a, b, d => by simp only [List.cons_append, never, endat]; rw [never_split a b (d - 1)]; exact ⟨fun h => ⟨⟨h.1, h.2.1⟩, h.2.2⟩, fun h => ⟨h.1.1, h.1.2, h.2⟩⟩
def seg (l : List Bool) (p x : Int) : List Bool := (l.take x.toNat).drop (p + 1).toNat
theorem seg_succ (l : List Bool) (p x : Int) (hp : 0 ≤ p) (hx : p < x) (hn : x < l.length) : seg l p (x + 1) = seg l p x ++ [rdOf false l x] := by
  unfold seg
  rw [take_rb (by omega) hn, List.drop_append_of_le_length (by first | (simp; done) | (simp; omega))]
theorem seg_self (l : List Bool) (x : Int) (h : 0 ≤ x) : seg l x (x + 1) = [] := by
  unfold seg; apply List.drop_eq_nil_of_le; simp; omega
theorem seg_split (l : List Bool) (p j c : Int) (hp : 0 ≤ p) (hj : p < j) (hc : j < c) (hn : c ≤ l.length) : seg l p c = seg l p j ++ rdOf false l j :: (l.take c.toNat).drop (j + 1).toNat := by
  unfold seg
  have e : l.take c.toNat = l.take j.toNat ++ rdOf false l j :: (l.take c.toNat).drop (j + 1).toNat := by
    have h1 := List.take_append_drop j.toNat (l.take c.toNat)
    have h2 := drop_rb (l := l.take c.toNat) (i := j) (by omega) (by first | (simp; done) | (simp; omega))
    rw [h2, List.take_take, Nat.min_eq_left (by omega)] at h1
    have h3 : rdOf false (l.take c.toNat) j = rdOf false l j := by
      simp only [rdOf, List.getD_eq_getElem?_getD]; rw [List.getElem?_take_of_lt (by omega)]
    rw [h3] at h1
    exact h1.symm
  rw [e, List.drop_append_of_le_length (by first | (simp; done) | (simp; omega))]
  congr 2
  rw [← e]
structure Mt (l : List Bool) (i c : Int) : Prop where
  i0 : 0 ≤ i
  ic : i < c
  cn : c < l.length
  li : rdOf false l i = true
  lc : rdOf false l c = false
  nv : never 0 (seg l i c)
  ea : endat 0 (seg l i c) = 0
theorem Mt.free {l : List Bool} {i c j : Int} (hi : 0 ≤ i) (hj : i < j) (hc : j < c) (hn : c ≤ l.length) (nv : never 0 (seg l i c)) (hl : rdOf false l j = false) : bal 0 (seg l i j) = false := by
  rw [seg_split l i j c hi hj hc hn, hl, never_split] at nv
  rw [bal_of _ _ nv.1]
  have := nv.2.1
  simp; omega
theorem rd_take_last (s : List Int) (k : Int) (h0 : 0 ≤ k) (h1 : k < s.length - 1) : rd (s.take ((s.length : Int) - 1).toNat) k = rd s k := rd_take s _ k h0 (by omega)
theorem pairs_l0 (l : List Bool) (hn : l.length ≤ 60) (d : Nat) : ∀ (x : Int) (out s : List Int), 0 ≤ x → x + d = l.length → out.length = l.length → s.length ≤ 60 → bal s.length (l.drop x.toNat) = true → (s.length : Int) ≤ x →
    (∀ k : Int, 0 ≤ k → k < s.length → 0 ≤ rd s k ∧ rd s k < x ∧ rdOf false l (rd s k) = true ∧ never 0 (seg l (rd s k) x) ∧ endat 0 (seg l (rd s k) x) = s.length - 1 - k) →
    (∀ i : Int, 0 ≤ i → i < x → rdOf false l i = true → (∃ k : Int, 0 ≤ k ∧ k < s.length ∧ rd s k = i) ∨ ∃ c : Int, c < x ∧ Mt l i c ∧ rd out i = c ∧ rd out c = i) →
    ∃ r : List Int, r.length = l.length ∧ (∀ i : Int, 0 ≤ i → i < l.length → rdOf false l i = true → ∃ c : Int, Mt l i c ∧ rd r i = c ∧ rd r c = i) ∧ Ev (fun k => bracket_Pairs.l0 k out s l (l.length : Int) x) (r, 0) := by
  induction d with
  | zero =>
    intro x out s h0 hd ho hs hb hsx hS hO
    refine ⟨out, ho, ?_, Ev.step (fun k => bracket_Pairs.l0.eq_2 _ _ _ _ _ k) ?_⟩
    · intro i i0 i1 hi
      rw [drop_all l _ (by omega)] at hb
      have hs0 : (s.length : Int) = 0 := by simpa [bal] using hb
      rcases hO i i0 (by omega) hi with ⟨k, k0, k1, _⟩ | ⟨c, _, h1, h2, h3⟩
      · omega
      · exact ⟨c, h1, h2, h3⟩
    · simp (disch := omega) only [if_neg]; exact Ev.now _
  | succ d ih =>
    intro x out s h0 hd ho hs hb hsx hS hO
    rw [drop_rb h0 (by omega)] at hb
    cases hv : rdOf false l x with
    | true =>
      rw [hv] at hb
      obtain ⟨r, r1, r2, r3⟩ := ih (x + 1) out (s ++ [x]) (by omega) (by omega) ho (by first | (simp; done) | (simp; omega)) (by simpa [bal] using hb) (by first | (simp; done) | (simp; omega)) (by
        intro k k0 k1
        simp at k1
        by_cases p : k < s.length
        · obtain ⟨a, b, c, e, f⟩ := hS k k0 p
          rw [rd_append_left _ _ _ k0 p]
          refine ⟨a, by omega, c, ?_, ?_⟩
          · rw [seg_succ l _ x a b (by omega), hv]; exact never_snoc true _ 0 e (by simp)
          · rw [seg_succ l _ x a b (by omega), hv, endat_snoc, f]; simp; omega
        · rw [rd_append_last _ _ _ (by omega)]
          refine ⟨h0, by omega, hv, ?_, ?_⟩
          · rw [seg_self l x h0]; trivial
          · rw [seg_self l x h0]; first | (simp [endat]; done) | (simp [endat]; omega)) (by
        intro i i0 i1 hi
        by_cases p : i = x
        · exact .inl ⟨s.length, by omega, by simp; omega, by rw [rd_append_last _ _ _ rfl, p]⟩
        · rcases hO i i0 (by omega) hi with ⟨k, k0, k1, k2⟩ | ⟨c, h1, h2, h3⟩
          · exact .inl ⟨k, k0, by simp; omega, by rw [rd_append_left _ _ _ k0 k1]; exact k2⟩
          · exact .inr ⟨c, by omega, h2, h3⟩)
      refine ⟨r, r1, r2, Ev.step (fun k => bracket_Pairs.l0.eq_2 _ _ _ _ _ k) ?_⟩
      simp (disch := omega) only [if_pos, hv, w64]
      exact r3
    | false =>
      rw [hv] at hb
      have hb2 : 1 ≤ (s.length : Int) ∧ bal ((s.length : Int) - 1) (l.drop (x + 1).toNat) = true := by
        simp only [bal] at hb
        split at hb
        · exact absurd hb (by simp)
        · exact ⟨by omega, hb⟩
      obtain ⟨a, b, c, e, f⟩ := hS (s.length - 1) (by omega) (by omega)
      have hmt : Mt l (rd s (s.length - 1)) x := ⟨a, b, by omega, c, hv, e, by rw [f]; omega⟩
      have hlt : (s.take ((s.length : Int) - 1).toNat).length = s.length - 1 := by rw [List.length_take]; omega
      obtain ⟨r, r1, r2, r3⟩ := ih (x + 1) ((out.set x.toNat (rd s (s.length - 1))).set (rd s (s.length - 1)).toNat x) (s.take ((s.length : Int) - 1).toNat) (by omega) (by omega) (by simp [ho]) (by omega) (by rw [hlt]; rw [show ((s.length - 1 : Nat) : Int) = (s.length : Int) - 1 by omega]; exact hb2.2) (by omega) (by
        intro k k0 k1
        obtain ⟨a', b', c', e', f'⟩ := hS k k0 (by omega)
        rw [rd_take_last s k k0 (by omega)]
        refine ⟨a', by omega, c', ?_, ?_⟩
        · rw [seg_succ l _ x a' b' (by omega), hv]; exact never_snoc false _ 0 e' (fun _ => by omega)
        · rw [seg_succ l _ x a' b' (by omega), hv, endat_snoc, f']; simp; omega) (by
        intro i i0 i1 hi
        have ix : i ≠ x := fun q => by rw [q, hv] at hi; exact absurd hi (by simp)
        by_cases ip : i = rd s (s.length - 1)
        · refine .inr ⟨x, by omega, by rw [ip]; exact hmt, ?_, ?_⟩
          · rw [ip]; exact rd_set_eq _ _ _ a (by first | (simp; done) | (simp; omega))
          · rw [rd_set_ne _ _ _ _ a h0 (by omega), rd_set_eq _ _ _ h0 (by omega), ip]
        · rcases hO i i0 (by omega) hi with ⟨k, k0, k1, k2⟩ | ⟨c2, h1, h2, h3, h4⟩
          · refine .inl ⟨k, k0, ?_, ?_⟩
            · by_cases q : k = s.length - 1
              · rw [q] at k2; exact absurd k2.symm ip
              · omega
            · rw [rd_take_last s k k0 (by by_cases q : k = s.length - 1
                                          · rw [q] at k2; exact absurd k2.symm ip
                                          · omega)]; exact k2
          · have c2p : c2 ≠ rd s (s.length - 1) := fun q => by have := h2.lc; rw [q, c] at this; exact absurd this (by simp)
            have c20 : 0 ≤ c2 := by have := h2.ic; omega
            refine .inr ⟨c2, by omega, h2, ?_, ?_⟩
            · rw [rd_set_ne _ _ _ _ a i0 ip, rd_set_ne _ _ _ _ h0 i0 ix]; exact h3
            · rw [rd_set_ne _ _ _ _ a c20 c2p, rd_set_ne _ _ _ _ h0 c20 (by omega)]; exact h4)
      refine ⟨r, r1, r2, Ev.step (fun k => bracket_Pairs.l0.eq_2 _ _ _ _ _ k) ?_⟩
      simp only [hv, Bool.false_eq_true, if_false]
      simp (disch := omega) only [if_pos, w64]
      exact r3
theorem partner_l0 (l : List Bool) (hn : l.length ≤ 60) (i c : Int) (h : Mt l i c) (d : Nat) : ∀ j : Int, i < j → j + d = c → Ev (fun k => coppicerref_Partner.l0 k l i j) c := by
  have i0 := h.i0
  have cn := h.cn
  induction d with
  | zero =>
    intro j hj hd
    have e : j = c := by omega
    subst e
    refine Ev.step (fun k => coppicerref_Partner.l0.eq_2 _ _ _ k) ?_
    simp (disch := omega) only [if_pos, w64]
    have hc := Closed_ev (seg l i j) (by unfold seg; first | (simp; done) | (simp; omega))
    rw [bal_of _ _ h.nv, h.ea] at hc
    refine Ev.bind hc ?_
    simp only [beq_self_eq_true, if_true, h.lc, Bool.false_eq_true, if_false]
    exact Ev.now _
  | succ d ih =>
    intro j hj hd
    have r := ih (j + 1) (by omega) (by omega)
    refine Ev.step (fun k => coppicerref_Partner.l0.eq_2 _ _ _ k) ?_
    simp (disch := omega) only [if_pos, w64]
    have hc := Closed_ev (seg l i j) (by unfold seg; first | (simp; done) | (simp; omega))
    cases hv : rdOf false l j with
    | false =>
      rw [Mt.free i0 hj (by omega) (by omega) h.nv hv] at hc
      refine Ev.bind hc ?_
      simp only [Bool.false_eq_true, if_false]
      exact r
    | true =>
      refine Ev.bind hc ?_
      split
      · exact r
      · exact r
theorem law_l0 (l : List Bool) (hn : l.length ≤ 60) (r : List Int) (hr : r.length = l.length) (hR : ∀ i : Int, 0 ≤ i → i < l.length → rdOf false l i = true → ∃ c : Int, Mt l i c ∧ rd r i = c ∧ rd r c = i) (d : Nat) : ∀ x : Int, 0 ≤ x → x + d = l.length → Ev (fun k => coppicerlaw_BracketPairs.l0 k l r l (l.length : Int) x) true := by
  induction d with
  | zero =>
    intro x h0 hd
    refine Ev.step (fun k => coppicerlaw_BracketPairs.l0.eq_2 _ _ _ _ _ k) ?_
    simp (disch := omega) only [if_neg]; exact Ev.now _
  | succ d ih =>
    intro x h0 hd
    have rr := ih (x + 1) (by omega) (by omega)
    refine Ev.step (fun k => coppicerlaw_BracketPairs.l0.eq_2 _ _ _ _ _ k) ?_
    cases hv : rdOf false l x with
    | false =>
      simp only [Bool.false_eq_true, if_false]
      simp (disch := omega) only [if_pos, w64]; exact rr
    | true =>
      obtain ⟨c, hm, h1, h2⟩ := hR x h0 (by omega) hv
      have ic := hm.ic
      have cn := hm.cn
      simp (disch := omega) only [if_pos, w64]
      refine Ev.bind (a := c) ?_ ?_
      · unfold coppicerref_Partner.f
        simp (disch := omega) only [w64]
        exact partner_l0 l hn x c hm (c - x - 1).toNat (x + 1) (by omega) (by omega)
      · simp (disch := omega) only [h1, h2, if_pos]
        exact rr
theorem BracketPairs : coppicerlaw_BracketPairs.Pure := by
  intro l hm hs
  refine Ev.rounds (g := fun k => coppicerlaw_BracketPairs.f k l) ?_
  unfold coppicerlaw_BracketPairs.f bracket_Pairs.f
  by_cases h : (l.length : Int) > 60
  · refine Ev.bind (a := ([], 1)) ?_ ?_
    · simp only [h, if_true]; exact Ev.now _
    · simp only [h, if_true]
      refine Ev.step (fun k => coppicerlaw_BracketPairs.j0.eq_2 _ _ _ _ k) ?_
      exact Ev.val rfl
  cases hb : bal 0 l with
  | false =>
    have hi := is_ev l (by omega)
    have hc := Closed_ev l (by omega)
    rw [hb] at hi hc
    refine Ev.bind (a := ([], 3)) ?_ ?_
    · simp only [h, if_false]
      refine Ev.bind hi ?_
      simp only [Bool.false_eq_true, if_false]; exact Ev.now _
    · simp only [h, if_false]
      refine Ev.bind hc ?_
      simp only [Bool.false_eq_true, if_false]
      refine Ev.step (fun k => coppicerlaw_BracketPairs.j0.eq_2 _ _ _ _ k) ?_
      exact Ev.val rfl
  | true =>
    have hi := is_ev l (by omega)
    have hc := Closed_ev l (by omega)
    rw [hb] at hi hc
    obtain ⟨r, r1, r2, r3⟩ := pairs_l0 l (by omega) l.length 0 (List.replicate l.length 0) [] (by omega) (by omega) (by simp) (by simp) (by simpa using hb) (by simp) (by intro k k0 k1; simp at k1; omega) (by intro i i0 i1; omega)
    refine Ev.bind (a := (r, 0)) ?_ ?_
    · simp only [h, if_false]
      refine Ev.bind hi ?_
      simp only [if_true]
      simp (disch := omega) only [if_pos]
      simp only [Int.toNat_natCast]
      exact r3
    · simp only [h, if_false]
      refine Ev.bind hc ?_
      simp only [if_true]
      refine Ev.step (fun k => coppicerlaw_BracketPairs.j0.eq_2 _ _ _ _ k) ?_
      simp only [if_true]
      refine Ev.step (fun k => coppicerlaw_BracketPairs.j1.eq_2 _ _ _ k) ?_
      have e : ((r.length : Int) != (l.length : Int)) = false := by simp [r1]
      simp only [e, Bool.false_eq_true, if_false]
      exact law_l0 l (by omega) r r1 r2 l.length 0 (by omega) (by omega)

end Go.Proofs.Ytkhmjehjhjhpkab.Pure
