/- The law PickWords as a statement over numbers and lists alone: it holds under the bounds that the statement names. -/
import Derived.Test.YtenlcpakhpjlkaaStatPickWords
set_option linter.unusedVariables false
set_option linter.unusedSimpArgs false
set_option linter.unusedSectionVars false
namespace Go.Proofs.Ytenlcpakhpjlkaa.Pure
open Go.RowKit Go.Proofs.Ytenlcpakhpjlkaa.PPickWords Go.Proofs.YtenlcpakhpjlkaaW.PrintWords Go.Proofs.YtenlcpakhpjlkaaW.PrintLast Go.Proofs.YtenlcpakhpjlkaaW.PrintMore

/-! ### base: words for every pure text -/
theorem w64 {x : Int} (h0 : -9223372036854775808 ≤ x) (h1 : x ≤ 9223372036854775807) : wrap64 x = x := by unfold wrap64; omega
theorem Ev.pos {α : Type} {c : Prop} [Decidable c] {g f : Nat → Option α} {r : α} (h : c) (e : Ev g r) : Ev (fun k => if c then g k else f k) r := Ev.congr (fun k => by rw [if_pos h]) e
theorem Ev.neg {α : Type} {c : Prop} [Decidable c] {g f : Nat → Option α} {r : α} (h : ¬ c) (e : Ev f r) : Ev (fun k => if c then g k else f k) r := Ev.congr (fun k => by rw [if_neg h]) e
theorem Ev.val {α : Type} {r q : α} (h : r = q) : Ev (fun _ => some r) q := by subst h; exact Ev.now r
theorem rd_getElem {l : List Int} {i : Int} (h1 : i.toNat < l.length) : rd l i = l[i.toNat] := by simp [rd, List.getD_eq_getElem?_getD, List.getElem?_eq_getElem h1]
theorem drop_rd {l : List Int} {i : Int} (h0 : 0 ≤ i) (h1 : i < l.length) : l.drop i.toNat = rd l i :: l.drop (i + 1).toNat := by
  have h : i.toNat < l.length := by omega
  rw [rd_getElem h, List.drop_eq_getElem_cons h]; congr 2; omega
theorem take_rd {l : List Int} {i : Int} (h0 : 0 ≤ i) (h1 : i < l.length) : l.take (i + 1).toNat = l.take i.toNat ++ [rd l i] := by
  have h : i.toNat < l.length := by omega
  have e : (i + 1).toNat = i.toNat + 1 := by omega
  rw [rd_getElem h, e, List.take_succ_eq_append_getElem h]
theorem rd_drop (l : List Int) (n : Nat) (i : Int) (h0 : 0 ≤ i) : rd (l.drop n) i = rd l (i + n) := by
  have e : (i + n).toNat = n + i.toNat := by omega
  simp only [rd, List.getD_eq_getElem?_getD, List.getElem?_drop, e]
theorem rd_take (l : List Int) (n : Nat) (i : Int) (h0 : 0 ≤ i) (h1 : i < n) : rd (l.take n) i = rd l i := by
  simp only [rd, List.getD_eq_getElem?_getD]; rw [List.getElem?_take_of_lt (by omega)]
theorem drop_all {α : Type} (l : List α) (n : Nat) (h : l.length ≤ n) : l.drop n = [] := List.drop_eq_nil_of_le h
theorem dec_ne {a b : Int} {l m : List Int} (h : a ≠ b) : decide (a :: l = b :: m) = false := decide_eq_false (fun q => h (List.cons.inj q).1)
theorem Ev.no {p : Prop} [Decidable p] (h : ¬ p) : Ev (fun _ => some false) (decide p) := Ev.val (decide_eq_false h).symm
theorem Ev.yes {p : Prop} [Decidable p] (h : p) : Ev (fun _ => some true) (decide p) := Ev.val (decide_eq_true h).symm
theorem ext_rd {a b : List Int} (hl : a.length = b.length) (h : ∀ i : Int, 0 ≤ i → i < a.length → rd a i = rd b i) : a = b := by
  apply List.ext_getElem hl
  intro i h1 h2
  have := h i (by omega) (by omega)
  rwa [rd_getElem (by simpa using h1), rd_getElem (by simpa using h2)] at this
theorem wf_u8 {x : Int} (h : (Lit.int .u8 x).wf = true) : 0 ≤ x ∧ x ≤ 255 := by simpa [Lit.wf, IntKind.min, IntKind.max, IntKind.signed, IntKind.bits] using h
theorem wf_u32 {x : Int} (h : (Lit.int .u32 x).wf = true) : 0 ≤ x ∧ x ≤ 4294967295 := by simpa [Lit.wf, IntKind.min, IntKind.max, IntKind.signed, IntKind.bits] using h
theorem wf_i64 {x : Int} (h : (Lit.int .i64 x).wf = true) : -9223372036854775808 ≤ x ∧ x ≤ 9223372036854775807 := by simpa [Lit.wf, IntKind.min, IntKind.max, IntKind.signed, IntKind.bits] using h
theorem rd_mem {l : List Int} {i : Int} (h0 : 0 ≤ i) (h1 : i < l.length) : rd l i ∈ l := by
  rw [rd_getElem (by omega)]; exact List.getElem_mem _
theorem rd_u8 {l : List Int} (hw : ∀ x ∈ l, (Lit.int .u8 x).wf = true) {i : Int} (h0 : 0 ≤ i) (h1 : i < l.length) : 0 ≤ rd l i ∧ rd l i ≤ 255 := wf_u8 (hw _ (rd_mem h0 h1))
theorem tm {a b : Int} (h : 0 ≤ a) : Int.tmod a b = a % b := Int.tmod_eq_emod_of_nonneg h
theorem td {a b : Int} (h : 0 ≤ a) : Int.tdiv a b = a / b := Int.tdiv_eq_ediv_of_nonneg h

/-! ### loops, round by round -/
theorem anyO_some {α : Type} (p : α → Bool) : ∀ l : List α, anyO (fun x => some (p x)) l = some (l.any p)
  | [] => rfl
  | x :: l => by
    unfold anyO
    rw [Option.bind_some, anyO_some p l, List.any_cons]
    cases p x <;> simp
theorem anyO_of {α : Type} {f : α → Option Bool} {p : α → Bool} {l : List α} (h : ∀ x ∈ l, f x = some (p x)) : anyO f l = some (l.any p) := by
  induction l with
  | nil => rfl
  | cons x l ih =>
    unfold anyO
    rw [h x (by simp), Option.bind_some, ih (fun y hy => h y (by simp [hy])), List.any_cons]
    cases p x <;> simp
theorem Ev.loop {σ ρ : Type} {L : Nat → Int → σ → Option ρ} {n : Int} {r : ρ} (I : Int → σ → Prop)
    (hend : ∀ s, I n s → Ev (fun k => L k n s) r)
    (hstep : ∀ i s, 0 ≤ i → i < n → I i s → Ev (fun k => L k i s) r ∨ ∃ s', I (i + 1) s' ∧ (Ev (fun k => L k (i + 1) s') r → Ev (fun k => L k i s) r)) :
    ∀ (i : Int) (s : σ), 0 ≤ i → i ≤ n → I i s → Ev (fun k => L k i s) r := by
  have key : ∀ (d : Nat) (i : Int) (s : σ), 0 ≤ i → i + d = n → I i s → Ev (fun k => L k i s) r := by
    intro d
    induction d with
    | zero => intro i s h0 h1 hI; obtain rfl : i = n := by omega
              exact hend s hI
    | succ d ih =>
      intro i s h0 h1 hI
      rcases hstep i s h0 (by omega) hI with h | ⟨s', h', h⟩
      · exact h
      · exact h (ih (i + 1) s' (by omega) (by omega) h')
  intro i s h0 h1 hI
  exact key (n - i).toNat i s h0 (by omega) hI
/-- The first element that is bad ends a loop. -/
theorem Ev.firstBad {α ρ : Type} {L : Nat → Int → Option ρ} {l : List α} {rdf : Int → α} {bad : α → Bool} {c fin : ρ}
    (hrd : ∀ i : Int, 0 ≤ i → i < l.length → l.drop i.toNat = rdf i :: l.drop (i + 1).toNat)
    (hend : l.any bad = false → Ev (fun k => L k l.length) fin)
    (hbad : ∀ i : Int, 0 ≤ i → i < l.length → bad (rdf i) = true → Ev (fun k => L k i) c)
    (hgood : ∀ (i : Int) (r : ρ), 0 ≤ i → i < l.length → bad (rdf i) = false → Ev (fun k => L k (i + 1)) r → Ev (fun k => L k i) r) :
    Ev (fun k => L k 0) (if l.any bad = true then c else fin) := by
  refine Ev.loop (σ := Unit) (L := fun k i _ => L k i) (n := l.length) (fun i _ => l.any bad = (l.drop i.toNat).any bad) ?_ ?_ 0 () (Int.le_refl _) (by omega) rfl
  · intro _ h
    rw [Int.toNat_natCast, List.drop_length] at h
    have h : l.any bad = false := h
    rw [h]; exact hend h
  · intro i _ h0 h1 h
    rw [hrd i h0 h1, List.any_cons] at h
    cases hb : bad (rdf i) with
    | true => left; rw [h, hb]; exact hbad i h0 h1 hb
    | false => right; refine ⟨(), by rw [h, hb]; rfl, hgood i _ h0 h1 hb⟩
theorem rd_cons {l : List Int} {i : Int} (h0 : 0 ≤ i) (h1 : i < l.length) : l.drop i.toNat = rd l i :: l.drop (i + 1).toNat := drop_rd h0 h1

/-! ### loops, told by what follows -/
theorem Ev.loopc {σ ρ : Type} {L : Nat → Int → σ → Option ρ} {n : Int} {r : ρ} (I : Int → σ → Prop)
    (hend : ∀ s, I n s → Ev (fun k => L k n s) r)
    (hstep : ∀ i s, 0 ≤ i → i < n → I i s → (∀ s', I (i + 1) s' → Ev (fun k => L k (i + 1) s') r) → Ev (fun k => L k i s) r) :
    ∀ (i : Int) (s : σ), 0 ≤ i → i ≤ n → I i s → Ev (fun k => L k i s) r := by
  have key : ∀ (d : Nat) (i : Int) (s : σ), 0 ≤ i → i + d = n → I i s → Ev (fun k => L k i s) r := by
    intro d
    induction d with
    | zero => intro i s h0 h1 hI; obtain rfl : i = n := by omega
              exact hend s hI
    | succ d ih =>
      intro i s h0 h1 hI
      exact hstep i s h0 (by omega) hI (fun s' h' => ih (i + 1) s' (by omega) (by omega) h')
  intro i s h0 h1 hI
  exact key (n - i).toNat i s h0 (by omega) hI

/-! ### an answer of which something is known -/
def EvP {α : Type} (g : Nat → Option α) (J : α → Prop) : Prop := ∃ r, J r ∧ Ev g r
theorem EvP.of {α : Type} {g : Nat → Option α} {J : α → Prop} {r : α} (h : J r) (e : Ev g r) : EvP g J := ⟨r, h, e⟩
theorem EvP.now {α : Type} {J : α → Prop} {r : α} (h : J r) : EvP (fun _ => some r) J := ⟨r, h, Ev.now r⟩
theorem EvP.pos {α : Type} {c : Prop} [Decidable c] {g f : Nat → Option α} {J : α → Prop} (h : c) (e : EvP g J) : EvP (fun k => if c then g k else f k) J := let ⟨r, h1, h2⟩ := e; ⟨r, h1, Ev.pos h h2⟩
theorem EvP.neg {α : Type} {c : Prop} [Decidable c] {g f : Nat → Option α} {J : α → Prop} (h : ¬ c) (e : EvP f J) : EvP (fun k => if c then g k else f k) J := let ⟨r, h1, h2⟩ := e; ⟨r, h1, Ev.neg h h2⟩
theorem EvP.step {α : Type} {g f : Nat → Option α} {J : α → Prop} (h : ∀ k, g (k + 1) = f k) (e : EvP f J) : EvP g J := let ⟨r, h1, h2⟩ := e; ⟨r, h1, Ev.step h h2⟩
theorem EvP.congr {α : Type} {g f : Nat → Option α} {J : α → Prop} (h : ∀ k, g k = f k) (e : EvP f J) : EvP g J := let ⟨r, h1, h2⟩ := e; ⟨r, h1, Ev.congr h h2⟩
theorem EvP.bind {α β : Type} {g : Nat → Option α} {f : Nat → α → Option β} {a : α} {J : β → Prop} (h : Ev g a) (e : EvP (fun n => f n a) J) : EvP (fun n => (g n).bind (f n)) J := let ⟨r, h1, h2⟩ := e; ⟨r, h1, Ev.bind h h2⟩
theorem EvP.bindP {α β : Type} {g : Nat → Option α} {f : Nat → α → Option β} {I : α → Prop} {J : β → Prop} (h : EvP g I) (e : ∀ a, I a → EvP (fun n => f n a) J) : EvP (fun n => (g n).bind (f n)) J := let ⟨a, h1, h2⟩ := h; EvP.bind h2 (e a h1)
theorem EvP.ev {α β : Type} {g : Nat → Option α} {f : Nat → α → Option β} {I : α → Prop} {r : β} (h : EvP g I) (e : ∀ a, I a → Ev (fun n => f n a) r) : Ev (fun n => (g n).bind (f n)) r := let ⟨a, h1, h2⟩ := h; Ev.bind h2 (e a h1)
theorem EvP.mono {α : Type} {g : Nat → Option α} {I J : α → Prop} (h : EvP g I) (hi : ∀ a, I a → J a) : EvP g J := let ⟨a, h1, h2⟩ := h; ⟨a, hi a h1, h2⟩
theorem EvP.loop {σ ρ : Type} {L : Nat → Int → σ → Option ρ} {n : Int} {J : ρ → Prop} (I : Int → σ → Prop)
    (hend : ∀ s, I n s → EvP (fun k => L k n s) J)
    (hstep : ∀ i s, 0 ≤ i → i < n → I i s → (∀ s', I (i + 1) s' → EvP (fun k => L k (i + 1) s') J) → EvP (fun k => L k i s) J) :
    ∀ (i : Int) (s : σ), 0 ≤ i → i ≤ n → I i s → EvP (fun k => L k i s) J := by
  have key : ∀ (d : Nat) (i : Int) (s : σ), 0 ≤ i → i + d = n → I i s → EvP (fun k => L k i s) J := by
    intro d
    induction d with
    | zero => intro i s h0 h1 hI; obtain rfl : i = n := by omega
              exact hend s hI
    | succ d ih =>
      intro i s h0 h1 hI
      exact hstep i s h0 (by omega) hI (fun s' h' => ih (i + 1) s' (by omega) (by omega) h')
  intro i s h0 h1 hI
  exact key (n - i).toNat i s h0 (by omega) hI

/-! ### rows of rows -/
theorem drop_rdL {l : List (List Int)} {i : Int} (h0 : 0 ≤ i) (h1 : i < l.length) : l.drop i.toNat = rd_L1 l i :: l.drop (i + 1).toNat := by
  have h : i.toNat < l.length := by omega
  have e : rd_L1 l i = l[i.toNat] := by simp [rd_L1, List.getD_eq_getElem?_getD, List.getElem?_eq_getElem h]
  rw [e, List.drop_eq_getElem_cons h]; congr 2; omega
theorem rdL_mem {l : List (List Int)} {i : Int} (h0 : 0 ≤ i) (h1 : i < l.length) : rd_L1 l i ∈ l := by
  have h : i.toNat < l.length := by omega
  have e : rd_L1 l i = l[i.toNat] := by simp [rd_L1, List.getD_eq_getElem?_getD, List.getElem?_eq_getElem h]
  rw [e]; exact List.getElem_mem _

/-! ### coppicerref_Ints -/
theorem Ints_l0 (a b : List Int) (hl : a.length = b.length) (hb : (a.length : Int) ≤ 4611686018427387904) (d : Nat) : ∀ i : Int, 0 ≤ i → i + d = a.length → Ev (fun k => coppicerref_Ints.l0 k a b i) (decide (a.drop i.toNat = b.drop i.toNat)) := by
  induction d with
  | zero =>
    intro i h0 hd
    refine Ev.step (fun k => coppicerref_Ints.l0.eq_2 _ _ _ k) ?_
    simp (disch := omega) only [if_pos, if_neg]
    exact Ev.val (by rw [List.drop_eq_nil_of_le (by omega), List.drop_eq_nil_of_le (by omega)]; simp)
  | succ d ih =>
    intro i h0 hd
    refine Ev.step (fun k => coppicerref_Ints.l0.eq_2 _ _ _ k) ?_
    simp (disch := omega) only [if_pos, w64]
    rw [drop_rd h0 (by omega), drop_rd (l := b) h0 (by omega)]
    by_cases h : rd a i = rd b i
    · simp only [if_pos h]
      exact Ev.congr (fun _ => rfl) (by simpa [h] using ih (i + 1) (by omega) (by omega))
    · simp only [if_neg h]
      exact Ev.val (by simp [h])
theorem Ints_ev (a b : List Int) (hb : (a.length : Int) ≤ 4611686018427387904) : Ev (fun k => coppicerref_Ints.f k a b) (decide (a = b)) := by
  unfold coppicerref_Ints.f
  by_cases hl : a.length = b.length
  · simp (disch := omega) only [if_pos]
    simpa using Ints_l0 a b hl hb a.length 0 (by omega) (by omega)
  · simp (disch := omega) only [if_neg]
    exact Ev.val (by simp; intro h; exact hl (by rw [h]))

/-! ### grammars: what is wrong -/
theorem rd_rule {l : List S40} {i : Int} (h0 : 0 ≤ i) (h1 : i < l.length) : l.drop i.toNat = rd_T40 l i :: l.drop (i + 1).toNat := by
  have h : i.toNat < l.length := by omega
  have e : rd_T40 l i = l[i.toNat] := by simp [rd_T40, List.getD_eq_getElem?_getD, List.getElem?_eq_getElem h]
  rw [e, List.drop_eq_getElem_cons h]; congr 2; omega
theorem rule_mem {l : List S40} {i : Int} (h0 : 0 ≤ i) (h1 : i < l.length) : rd_T40 l i ∈ l := by
  have h : i.toNat < l.length := by omega
  have e : rd_T40 l i = l[i.toNat] := by simp [rd_T40, List.getD_eq_getElem?_getD, List.getElem?_eq_getElem h]
  rw [e]; exact List.getElem_mem _
def sgnBad (M x : Int) : Bool := decide (x < 0) || decide (x ≥ M)
def ruleBad (K N : Int) (r : S40) : Bool := decide (r.f0 < 0) || (decide (r.f0 ≥ N) || r.f1.any (sgnBad (K + N)))
def gcode (K N st : Int) (rs : List S40) : Int :=
  if K < 1 ∨ K > 3 ∨ N < 1 ∨ N > 5 ∨ (rs.length : Int) > 10 ∨ (rs.any fun r => decide ((r.f1.length : Int) > 4)) = true then 1
  else if st < 0 ∨ st ≥ N then 2 else if rs.any (ruleBad K N) = true then 2 else 0
theorem gcode_bad {K N st : Int} {rs : List S40} (h : K < 1 ∨ K > 3 ∨ N < 1 ∨ N > 5 ∨ (rs.length : Int) > 10 ∨ (rs.any fun r => decide ((r.f1.length : Int) > 4)) = true) : gcode K N st rs = 1 := by unfold gcode; rw [if_pos h]
section
variable (K N st : Int) (rs : List S40) (hK0 : 1 ≤ K) (hK1 : K ≤ 3) (hN0 : 1 ≤ N) (hN1 : N ≤ 5)
include hK0 hK1 hN0 hN1
theorem signs_eq (l : List Int) : grammar_signs.f K N st rs l = some (!(l.any (sgnBad (K + N)))) := by
  unfold grammar_signs.f grammar_signs_1_any.f
  have e : (fun x : Int => grammar_signs_1.f x K N st rs) = fun x => some (sgnBad (K + N) x) := by
    funext x
    unfold grammar_signs_1.f sgnBad
    rw [w64 (by omega) (by omega)]
    by_cases h : x < 0
    · rw [if_pos h]; simp [h]
    · rw [if_neg h]; simp [h]
  rw [e, anyO_some]; rfl
theorem refSigns_ev (l : List Int) (hl : l.length ≤ 140737488351232) : Ev (fun k => coppicerref_Signs.f k K N st rs l) (!(l.any (sgnBad (K + N)))) := by
  unfold coppicerref_Signs.f
  have := Ev.firstBad (L := fun k i => coppicerref_Signs.l0 k l (l.length : Int) i K N st rs) (l := l) (rdf := rd l) (bad := sgnBad (K + N)) (c := false) (fin := true) (fun i h0 h1 => rd_cons h0 h1) ?_ ?_ ?_
  · cases h : l.any (sgnBad (K + N)) <;> rw [h] at this <;> exact this
  · intro _
    refine Ev.step (fun k => coppicerref_Signs.l0.eq_2 _ _ _ _ _ _ _ k) ?_
    simp (disch := omega) only [if_neg]; exact Ev.now _
  · intro i h0 h1 hb
    refine Ev.step (fun k => coppicerref_Signs.l0.eq_2 _ _ _ _ _ _ _ k) ?_
    simp (disch := omega) only [if_pos, w64]
    unfold sgnBad at hb
    by_cases h : rd l i < 0
    · simp only [if_pos h]; exact Ev.now _
    · have h2 : rd l i ≥ K + N := by simpa [h] using hb
      simp only [if_neg h, if_pos h2]; exact Ev.now _
  · intro i r h0 h1 hb hr
    refine Ev.step (fun k => coppicerref_Signs.l0.eq_2 _ _ _ _ _ _ _ k) ?_
    unfold sgnBad at hb
    simp only [Bool.or_eq_false_iff, decide_eq_false_iff_not] at hb
    simp (disch := omega) only [if_pos, if_neg, w64]
    exact hr
theorem gcheck_l0 (hl : rs.length ≤ 10) : Ev (fun k => grammar_Check.l0 k rs (rs.length : Int) 0 K N st rs) (if rs.any (ruleBad K N) = true then 2 else 0) := by
  refine Ev.firstBad (L := fun k i => grammar_Check.l0 k rs (rs.length : Int) i K N st rs) (rdf := rd_T40 rs) (fun i h0 h1 => rd_rule h0 h1) ?_ ?_ ?_
  · intro _
    refine Ev.step (fun k => grammar_Check.l0.eq_2 _ _ _ _ _ _ _ k) ?_
    simp (disch := omega) only [if_neg]; exact Ev.now _
  · intro i h0 h1 hb
    refine Ev.step (fun k => grammar_Check.l0.eq_2 _ _ _ _ _ _ _ k) ?_
    simp (disch := omega) only [if_pos, signs_eq K N st rs hK0 hK1 hN0 hN1, Option.bind_some]
    unfold ruleBad at hb
    by_cases c1 : (rd_T40 rs i).f0 < 0
    · simp only [if_pos c1]; exact Ev.now _
    by_cases c2 : (rd_T40 rs i).f0 ≥ N
    · simp only [if_neg c1, if_pos c2]; exact Ev.now _
    have c3 : (rd_T40 rs i).f1.any (sgnBad (K + N)) = true := by simpa [c1, c2] using hb
    simp only [if_neg c1, if_neg c2, c3, Bool.not_true, Bool.false_eq_true, if_false]; exact Ev.now _
  · intro i r h0 h1 hb hr
    refine Ev.step (fun k => grammar_Check.l0.eq_2 _ _ _ _ _ _ _ k) ?_
    simp (disch := omega) only [if_pos, signs_eq K N st rs hK0 hK1 hN0 hN1, Option.bind_some, w64]
    unfold ruleBad at hb
    simp only [Bool.or_eq_false_iff, decide_eq_false_iff_not] at hb
    simp only [if_neg hb.1, if_neg hb.2.1, hb.2.2, Bool.not_false, if_true]
    exact hr
theorem rcheck_l1 (hl : rs.length ≤ 10) (hr : (rs.any fun r => decide ((r.f1.length : Int) > 4)) = false) : Ev (fun k => coppicerref_GrammarCheck.l1 k rs (rs.length : Int) 0 K N st rs) (if rs.any (ruleBad K N) = true then 2 else 0) := by
  have hs : ∀ i : Int, 0 ≤ i → i < rs.length → (rd_T40 rs i).f1.length ≤ 4 := by
    intro i h0 h1
    have := (List.any_eq_false.1 hr) _ (rule_mem h0 h1)
    simp only [decide_eq_true_eq] at this; omega
  refine Ev.firstBad (L := fun k i => coppicerref_GrammarCheck.l1 k rs (rs.length : Int) i K N st rs) (rdf := rd_T40 rs) (fun i h0 h1 => rd_rule h0 h1) ?_ ?_ ?_
  · intro _
    refine Ev.step (fun k => coppicerref_GrammarCheck.l1.eq_2 _ _ _ _ _ _ _ k) ?_
    simp (disch := omega) only [if_neg]; exact Ev.now _
  · intro i h0 h1 hb
    refine Ev.step (fun k => coppicerref_GrammarCheck.l1.eq_2 _ _ _ _ _ _ _ k) ?_
    simp (disch := omega) only [if_pos]
    unfold ruleBad at hb
    by_cases c1 : (rd_T40 rs i).f0 < 0
    · simp only [if_pos c1]; exact Ev.now _
    by_cases c2 : (rd_T40 rs i).f0 ≥ N
    · simp only [if_neg c1, if_pos c2]; exact Ev.now _
    have c3 : (rd_T40 rs i).f1.any (sgnBad (K + N)) = true := by simpa [c1, c2] using hb
    simp only [if_neg c1, if_neg c2]
    refine Ev.bind (refSigns_ev K N st rs hK0 hK1 hN0 hN1 _ (by have := hs i h0 h1; omega)) ?_
    simp only [c3, Bool.not_true, Bool.false_eq_true, if_false]; exact Ev.now _
  · intro i r h0 h1 hb hr
    refine Ev.step (fun k => coppicerref_GrammarCheck.l1.eq_2 _ _ _ _ _ _ _ k) ?_
    simp (disch := omega) only [if_pos, w64]
    unfold ruleBad at hb
    simp only [Bool.or_eq_false_iff, decide_eq_false_iff_not] at hb
    simp only [if_neg hb.1, if_neg hb.2.1]
    refine Ev.bind (refSigns_ev K N st rs hK0 hK1 hN0 hN1 _ (by have := hs i h0 h1; omega)) ?_
    simp only [hb.2.2, Bool.not_false, if_true]
    exact hr
end
theorem gcheck_ev (K N st : Int) (rs : List S40) : Ev (fun k => grammar_Check.f k K N st rs) (gcode K N st rs) := by
  unfold grammar_Check.f
  have bad : (K < 1 ∨ K > 3 ∨ N < 1 ∨ N > 5 ∨ (rs.length : Int) > 10 ∨ (rs.any fun r => decide ((r.f1.length : Int) > 4)) = true) → Ev (fun k => grammar_Check.j0 k true K N st rs) (gcode K N st rs) := by
    intro h
    rw [gcode_bad h]
    refine Ev.step (fun k => grammar_Check.j0.eq_2 _ _ _ _ _ k) ?_
    simp only [if_true]; exact Ev.now _
  by_cases c1 : K < 1
  · simp only [if_pos c1]; exact bad (by omega)
  by_cases c2 : K > 3
  · simp only [if_neg c1, if_pos c2]; exact bad (by omega)
  by_cases c3 : N < 1
  · simp only [if_neg c1, if_neg c2, if_pos c3]; exact bad (by omega)
  by_cases c4 : N > 5
  · simp only [if_neg c1, if_neg c2, if_neg c3, if_pos c4]; exact bad (by omega)
  by_cases c5 : (rs.length : Int) > 10
  · simp only [if_neg c1, if_neg c2, if_neg c3, if_neg c4, if_pos c5]; exact bad (by omega)
  simp only [if_neg c1, if_neg c2, if_neg c3, if_neg c4, if_neg c5]
  have e : grammar_Check_1_any.f rs = some (rs.any fun r => decide ((r.f1.length : Int) > 4)) := anyO_some _ rs
  simp only [e, Option.bind_some]
  cases c6 : (rs.any fun r => decide ((r.f1.length : Int) > 4)) with
  | true => exact bad (.inr (.inr (.inr (.inr (.inr c6)))))
  | false =>
    refine Ev.step (fun k => grammar_Check.j0.eq_2 _ _ _ _ _ k) ?_
    have hg : gcode K N st rs = if st < 0 ∨ st ≥ N then 2 else if rs.any (ruleBad K N) = true then 2 else 0 := by
      unfold gcode; rw [if_neg (by rw [c6]; simp; omega)]
    have j1t : (st < 0 ∨ st ≥ N) → Ev (fun k => grammar_Check.j1 k true K N st rs) (gcode K N st rs) := by
      intro h
      rw [hg, if_pos h]
      refine Ev.step (fun k => grammar_Check.j1.eq_2 _ _ _ _ _ k) ?_
      simp only [if_true]; exact Ev.now _
    simp only [Bool.false_eq_true, if_false]
    by_cases d1 : st < 0
    · simp only [if_pos d1]; exact j1t (.inl d1)
    by_cases d2 : st ≥ N
    · simp only [if_neg d1, decide_eq_true d2]; exact j1t (.inr d2)
    · simp only [if_neg d1, decide_eq_false d2]
      rw [hg, if_neg (by omega)]
      refine Ev.step (fun k => grammar_Check.j1.eq_2 _ _ _ _ _ k) ?_
      simp only [Bool.false_eq_true, if_false]
      exact gcheck_l0 K N st rs (by omega) (by omega) (by omega) (by omega) (by omega)
theorem rcheck_ev (K N st : Int) (rs : List S40) : Ev (fun k => coppicerref_GrammarCheck.f k K N st rs) (gcode K N st rs) := by
  unfold coppicerref_GrammarCheck.f
  have bad : (K < 1 ∨ K > 3 ∨ N < 1 ∨ N > 5 ∨ (rs.length : Int) > 10 ∨ (rs.any fun r => decide ((r.f1.length : Int) > 4)) = true) → Ev (fun k => coppicerref_GrammarCheck.j0 k true K N st rs) (gcode K N st rs) := by
    intro h
    rw [gcode_bad h]
    refine Ev.step (fun k => coppicerref_GrammarCheck.j0.eq_2 _ _ _ _ _ k) ?_
    simp only [if_true]; exact Ev.now _
  by_cases c1 : K < 1
  · simp only [if_pos c1]; exact bad (by omega)
  by_cases c2 : K > 3
  · simp only [if_neg c1, if_pos c2]; exact bad (by omega)
  by_cases c3 : N < 1
  · simp only [if_neg c1, if_neg c2, if_pos c3]; exact bad (by omega)
  by_cases c4 : N > 5
  · simp only [if_neg c1, if_neg c2, if_neg c3, if_pos c4]; exact bad (by omega)
  simp only [if_neg c1, if_neg c2, if_neg c3, if_neg c4]
  by_cases c5 : (rs.length : Int) > 10
  · simp only [c5, decide_true]; exact bad (by omega)
  simp only [c5, decide_false]
  refine Ev.step (fun k => coppicerref_GrammarCheck.j0.eq_2 _ _ _ _ _ k) ?_
  simp only [Bool.false_eq_true, if_false]
  have hg : gcode K N st rs = if (rs.any fun r => decide ((r.f1.length : Int) > 4)) = true then 1 else if st < 0 ∨ st ≥ N then 2 else if rs.any (ruleBad K N) = true then 2 else 0 := by
    unfold gcode
    cases c6 : (rs.any fun r => decide ((r.f1.length : Int) > 4)) with
    | true => rw [if_pos (by simp), if_pos rfl]
    | false => rw [if_neg (by simp; omega)]; simp only [Bool.false_eq_true, if_false]
  rw [hg]
  refine Ev.firstBad (L := fun k i => coppicerref_GrammarCheck.l0 k rs (rs.length : Int) i K N st rs) (rdf := rd_T40 rs) (fun i h0 h1 => rd_rule h0 h1) ?_ ?_ ?_
  · intro c6
    refine Ev.step (fun k => coppicerref_GrammarCheck.l0.eq_2 _ _ _ _ _ _ _ k) ?_
    simp (disch := omega) only [if_neg]
    have j2t : (st < 0 ∨ st ≥ N) → Ev (fun k => coppicerref_GrammarCheck.j2 k true K N st rs) (if st < 0 ∨ st ≥ N then 2 else if rs.any (ruleBad K N) = true then 2 else 0) := by
      intro h
      rw [if_pos h]
      refine Ev.step (fun k => coppicerref_GrammarCheck.j2.eq_2 _ _ _ _ _ k) ?_
      simp only [if_true]; exact Ev.now _
    by_cases d1 : st < 0
    · simp only [if_pos d1]; exact j2t (.inl d1)
    by_cases d2 : st ≥ N
    · simp only [if_neg d1, decide_eq_true d2]; exact j2t (.inr d2)
    · simp only [if_neg d1, decide_eq_false d2]
      rw [if_neg (by omega)]
      refine Ev.step (fun k => coppicerref_GrammarCheck.j2.eq_2 _ _ _ _ _ k) ?_
      simp only [Bool.false_eq_true, if_false]
      exact rcheck_l1 K N st rs (by omega) (by omega) (by omega) (by omega) (by omega) c6
  · intro i h0 h1 hb
    refine Ev.step (fun k => coppicerref_GrammarCheck.l0.eq_2 _ _ _ _ _ _ _ k) ?_
    simp only [decide_eq_true_eq] at hb
    simp (disch := omega) only [if_pos]; exact Ev.now _
  · intro i r h0 h1 hb hr
    refine Ev.step (fun k => coppicerref_GrammarCheck.l0.eq_2 _ _ _ _ _ _ _ k) ?_
    simp only [decide_eq_false_iff_not] at hb
    simp (disch := omega) only [if_pos, if_neg, w64]; exact hr

/-! ### grammars that may be -/
structure GOK (K N st : Int) (rs : List S40) : Prop where
  K0 : 1 ≤ K
  K1 : K ≤ 3
  N0 : 1 ≤ N
  N1 : N ≤ 5
  len : rs.length ≤ 10
  s0 : 0 ≤ st
  s1 : st < N
  rl : ∀ r ∈ rs, r.f1.length ≤ 4
  r0 : ∀ r ∈ rs, 0 ≤ r.f0
  r1 : ∀ r ∈ rs, r.f0 < N
  x0 : ∀ r ∈ rs, ∀ x ∈ r.f1, 0 ≤ x
  x1 : ∀ r ∈ rs, ∀ x ∈ r.f1, x < K + N
theorem gcode_ok {K N st : Int} {rs : List S40} (h : gcode K N st rs = 0) : GOK K N st rs := by
  unfold gcode at h
  split at h
  · omega
  rename_i h1
  split at h
  · omega
  rename_i h2
  split at h
  · omega
  rename_i h3
  simp only [not_or] at h1 h2
  have h4 : (rs.any fun r => decide ((r.f1.length : Int) > 4)) = false := by simpa using h1.2.2.2.2.2
  have h5 : rs.any (ruleBad K N) = false := by simpa using h3
  rw [List.any_eq_false] at h4 h5
  have h6 : ∀ r ∈ rs, 0 ≤ r.f0 ∧ r.f0 < N ∧ ∀ x ∈ r.f1, 0 ≤ x ∧ x < K + N := by
    intro r hr
    have h7 : ruleBad K N r = false := by simpa using h5 r hr
    unfold ruleBad at h7
    simp only [Bool.or_eq_false_iff, decide_eq_false_iff_not, List.any_eq_false] at h7
    refine ⟨by omega, by omega, fun x hx => ?_⟩
    have h8 := h7.2.2 x hx
    unfold sgnBad at h8
    simp only [Bool.or_eq_true, decide_eq_true_eq, not_or] at h8
    omega
  refine ⟨by omega, by omega, by omega, by omega, by omega, by omega, by omega, ?_, fun r hr => (h6 r hr).1, fun r hr => (h6 r hr).2.1, fun r hr x hx => ((h6 r hr).2.2 x hx).1, fun r hr x hx => ((h6 r hr).2.2 x hx).2⟩
  intro r hr
  have := h4 r hr
  simp only [decide_eq_true_eq] at this; omega

/-! ### steps, one by one -/
def splitK (K : Int) : List Int → Option (List Int × Int × List Int)
  | [] => none
  | x :: l => if x < K then (splitK K l).map (fun p => (x :: p.1, p.2)) else some ([], x, l)
theorem splitK_app {K : Int} : ∀ (T : List Int) (x : Int) (S : List Int), (∀ y ∈ T, y < K) → ¬ x < K → splitK K (T ++ x :: S) = some (T, x, S)
  | [], x, S, _, hx => by show splitK K (x :: S) = _; unfold splitK; rw [if_neg hx]
  | y :: T, x, S, h, hx => by
    show splitK K (y :: (T ++ x :: S)) = _
    unfold splitK
    rw [if_pos (h y (by simp)), splitK_app T x S (fun z hz => h z (by simp [hz])) hx]; rfl
theorem splitK_none {K : Int} : ∀ (T : List Int), (∀ y ∈ T, y < K) → splitK K T = none
  | [], _ => rfl
  | y :: T, h => by
    unfold splitK
    rw [if_pos (h y (by simp)), splitK_none T (fun z hz => h z (by simp [hz]))]; rfl
theorem splitK_some {K : Int} : ∀ {l T : List Int} {x : Int} {S : List Int}, splitK K l = some (T, x, S) → l = T ++ x :: S ∧ (∀ y ∈ T, y < K) ∧ ¬ x < K
  | [], _, _, _, h => by cases h
  | y :: l, T, x, S, h => by
    unfold splitK at h
    by_cases c : y < K
    · rw [if_pos c] at h
      obtain ⟨⟨T', x', S'⟩, h1, h2⟩ := Option.map_eq_some_iff.1 h
      simp only [Prod.mk.injEq] at h2
      obtain ⟨rfl, rfl, rfl⟩ := h2
      obtain ⟨e, a, b⟩ := splitK_some h1
      refine ⟨by rw [e]; rfl, fun z hz => ?_, b⟩
      rcases List.mem_cons.1 hz with rfl | hz
      · exact c
      · exact a z hz
    · rw [if_neg c] at h
      simp only [Option.some.injEq, Prod.mk.injEq] at h
      obtain ⟨rfl, rfl, rfl⟩ := h
      exact ⟨rfl, fun z hz => by simp at hz, c⟩
theorem splitK_no {K : Int} : ∀ {l : List Int}, splitK K l = none → ∀ y ∈ l, y < K
  | [], _, y, hy => by simp at hy
  | x :: l, h, y, hy => by
    unfold splitK at h
    by_cases c : x < K
    · rw [if_pos c, Option.map_eq_none_iff] at h
      rcases List.mem_cons.1 hy with rfl | hy
      · exact c
      · exact splitK_no h y hy
    · rw [if_neg c] at h; cases h
def follow (K : Int) (rs : List S40) : List Int → List Int → Option (List Int)
  | [], l => some l
  | r :: s, l => match splitK K l with
    | none => none
    | some p => if r < 0 ∨ r ≥ rs.length ∨ p.2.1 ≠ K + (rd_T40 rs r).f0 then none else follow K rs s (p.1 ++ ((rd_T40 rs r).f1 ++ p.2.2))
def FBad (K : Int) (rs : List S40) (s l : List Int) : Prop := follow K rs s l = none ∨ ∃ m, follow K rs s l = some m ∧ ∃ x ∈ m, ¬ x < K
/-- What reading comes to. -/
def RO (K : Int) (rs : List S40) (front s y : List Int) (o : Option (List Int × List Int)) : Prop := match o with
  | none => ∀ S, FBad K rs s (y ++ (front ++ S))
  | some p => p.1.length ≤ s.length ∧ (∀ x ∈ p.2, x < K) ∧ p.2.length + 4 * p.1.length ≤ y.length + 4 * s.length + front.length ∧ ∀ S, follow K rs s (y ++ (front ++ S)) = follow K rs p.1 (p.2 ++ S)
section
variable {K N st : Int} {rs : List S40} (G : GOK K N st rs)
include G
theorem readL_ev {n : Nat} (ih : ∀ (name : Int) (s y : List Int), s.length ≤ n → 0 ≤ name → name < N → (∀ x ∈ y, x < K) → y.length + 4 * s.length ≤ 1000 → EvP (fun k => readF K rs k name s y) (fun o => RO K rs [K + name] s y o ∧ ∀ p, o = some p → p.2.length + 4 * p.1.length ≤ y.length + 4 * s.length)) :
    ∀ (t s y : List Int), s.length ≤ n → (∀ x ∈ t, 0 ≤ x ∧ x < K + N) → (∀ x ∈ y, x < K) → y.length + 4 * s.length + t.length ≤ 1000 → EvP (fun k => readL K (readF K rs k) t s y) (RO K rs t s y) := by
  have k1 := G.K1
  have n1 := G.N1
  intro t
  induction t with
  | nil => intro s y _ _ hy hl; exact EvP.now ⟨Nat.le_refl _, hy, by simp, fun S => by simp⟩
  | cons x t iht =>
    intro s y hs ht hy hl
    have hx := ht x (by simp)
    have ht2 : ∀ z ∈ t, 0 ≤ z ∧ z < K + N := fun z hz => ht z (by simp [hz])
    rw [List.length_cons] at hl
    by_cases c : x < K
    · refine EvP.congr (f := fun k => readL K (readF K rs k) t s (y ++ [x])) (fun k => by conv => lhs; unfold readL; rw [if_pos c, if_pos (by omega)]) ?_
      refine (iht s (y ++ [x]) hs ht2 (fun z hz => ?_) (by rw [List.length_append, List.length_singleton]; omega)).mono (fun o ho => ?_)
      · rcases List.mem_append.1 hz with hz | hz
        · exact hy z hz
        · rw [List.mem_singleton] at hz; rw [hz]; exact c
      · have e : ∀ S, (y ++ [x]) ++ (t ++ S) = y ++ ((x :: t) ++ S) := fun S => by simp
        cases o with
        | none => intro S; rw [← e]; exact ho S
        | some p =>
          obtain ⟨a, b, d, f⟩ := ho
          rw [List.length_append, List.length_singleton] at d
          exact ⟨a, b, by rw [List.length_cons]; omega, fun S => by rw [← e]; exact f S⟩
    · have hw : wrap64 (x - K) = x - K := w64 (by have := G.K0; omega) (by omega)
      refine EvP.congr (f := fun k => (readF K rs k (x - K) s y).bind fun o => match o with | none => some none | some p => readL K (readF K rs k) t p.1 p.2) (fun k => by (conv => lhs; unfold readL; rw [if_neg c, hw]); rfl) ?_
      refine EvP.bindP (ih (x - K) s y hs (by omega) (by omega) hy (by omega)) ?_
      rintro o ⟨ho, ho2⟩
      have e : ∀ S, y ++ ([K + (x - K)] ++ (t ++ S)) = y ++ ((x :: t) ++ S) := fun S => by rw [show K + (x - K) = x by omega]; rfl
      cases o with
      | none => exact EvP.now (fun S => by rw [← e]; exact ho (t ++ S))
      | some p =>
        obtain ⟨a, b, d, f⟩ := ho
        have d2 := ho2 p rfl
        refine (iht p.1 p.2 (by omega) ht2 b (by omega)).mono (fun o ho => ?_)
        cases o with
        | none =>
          intro S
          have := ho S
          unfold FBad at this ⊢
          rw [← e, f]; exact this
        | some q =>
          obtain ⟨a2, b2, d3, f2⟩ := ho
          exact ⟨by omega, b2, by rw [List.length_cons]; omega, fun S => by rw [← e, f, f2]⟩
theorem readF_ev : ∀ (n : Nat) (name : Int) (s y : List Int), s.length ≤ n → 0 ≤ name → name < N → (∀ x ∈ y, x < K) → y.length + 4 * s.length ≤ 1000 → EvP (fun k => readF K rs k name s y) (fun o => RO K rs [K + name] s y o ∧ ∀ p, o = some p → p.2.length + 4 * p.1.length ≤ y.length + 4 * s.length) := by
  intro n
  have base : ∀ (name : Int) (s y : List Int), 0 ≤ name → (s.length : Int) = 0 → EvP (fun k => readF K rs k name s y) (fun o => RO K rs [K + name] s y o ∧ ∀ p, o = some p → p.2.length + 4 * p.1.length ≤ y.length + 4 * s.length) := by
    intro name s y h0 hs
    refine EvP.step (fun k => readF.eq_2 K rs name s y k) ?_
    have : s = [] := List.eq_nil_of_length_eq_zero (by omega)
    subst this
    exact EvP.pos rfl (EvP.now ⟨fun S => .inr ⟨_, rfl, K + name, by simp, by omega⟩, fun p hp => by cases hp⟩)
  induction n with
  | zero => intro name s y hs h0 h1 hy hl; exact base name s y h0 (by omega)
  | succ n ih =>
    intro name s y hs h0 h1 hy hl
    by_cases c : (s.length : Int) = 0
    · exact base name s y h0 c
    · obtain ⟨r, s, rfl⟩ : ∃ r t, s = r :: t := by
        cases s with
        | nil => exact absurd rfl c
        | cons r t => exact ⟨r, t, rfl⟩
      have hfr : ∀ S, follow K rs (r :: s) (y ++ ([K + name] ++ S)) = if r < 0 ∨ r ≥ rs.length ∨ K + name ≠ K + (rd_T40 rs r).f0 then none else follow K rs s (y ++ ((rd_T40 rs r).f1 ++ S)) := by
        intro S
        conv => lhs; unfold follow
        rw [show y ++ ([K + name] ++ S) = y ++ (K + name) :: S from rfl, splitK_app y (K + name) S hy (by omega)]
      have er : rd (r :: s) 0 = r := rfl
      refine EvP.step (fun k => readF.eq_2 K rs name (r :: s) y k) ?_
      refine EvP.neg c ?_
      rw [er]
      have bad : (r < 0 ∨ r ≥ rs.length ∨ K + name ≠ K + (rd_T40 rs r).f0) → EvP (fun _ => (some none : Option (Option (List Int × List Int)))) (fun o => RO K rs [K + name] (r :: s) y o ∧ ∀ p, o = some p → p.2.length + 4 * p.1.length ≤ y.length + 4 * (r :: s).length) := fun q =>
        EvP.now ⟨fun S => .inl (by rw [hfr, if_pos q]), fun p hp => by cases hp⟩
      by_cases c1 : r < 0
      · exact EvP.pos c1 (bad (.inl c1))
      by_cases c2 : r ≥ (rs.length : Int)
      · exact EvP.neg c1 (EvP.pos c2 (bad (.inr (.inl c2))))
      by_cases c3 : (rd_T40 rs r).f0 ≠ name
      · exact EvP.neg c1 (EvP.neg c2 (EvP.pos c3 (bad (.inr (.inr (by omega))))))
      · have hm := rule_mem (l := rs) (i := r) (by omega) (by omega)
        have hrl := G.rl _ hm
        have hx0 := G.x0 _ hm
        have hx1 := G.x1 _ hm
        refine EvP.neg c1 (EvP.neg c2 (EvP.neg c3 (EvP.pos (by omega) ?_)))
        have hno : ¬ (r < 0 ∨ r ≥ rs.length ∨ K + name ≠ K + (rd_T40 rs r).f0) := by omega
        rw [List.length_cons] at hl hs
        refine (readL_ev G ih (rd_T40 rs r).f1 s y (by omega) (fun x hx => ⟨hx0 x hx, hx1 x hx⟩) hy (by omega)).mono (fun o ho => ?_)
        cases o with
        | none =>
          refine ⟨fun S => ?_, fun p hp => by cases hp⟩
          have := ho S
          unfold FBad at this ⊢
          rw [hfr, if_neg hno]; exact this
        | some p =>
          obtain ⟨a, b, d, f⟩ := ho
          refine ⟨⟨by rw [List.length_cons]; omega, b, by rw [List.length_cons]; omega, fun S => by rw [hfr, if_neg hno, f]⟩, fun q hq => ?_⟩
          cases hq
          rw [List.length_cons]; omega
/-! the document's -/
def resF (o : Option (List Int)) : List Int × Bool := match o with
  | none => ([], false)
  | some m => (m, true)
def sres (rs : List S40) (w : List Int) (p r : Int) : List Int := w.take p.toNat ++ ((rd_T40 rs r).f1 ++ w.drop (p + 1).toNat)
theorem rstep_eq {w : List Int} {p r : Int} (hw : w.length ≤ 1000) (p0 : 0 ≤ p) (p1 : p < w.length) (r0 : 0 ≤ r) (r1 : r < rs.length) (hl : (rd_T40 rs r).f1.length ≤ 4) : coppicerref_Step.f K N st rs w p r = some (sres rs w p r) := by
  have h1 : (w.take p.toNat).length ≤ 1000 := by rw [List.length_take]; omega
  have h2 : (w.drop (p + 1).toNat).length ≤ 1000 := by rw [List.length_drop]; omega
  unfold coppicerref_Step.f sres
  simp (disch := omega) only [Option.bind_some, if_pos, w64, List.nil_append, List.length_nil, List.length_append, List.append_assoc]
theorem rd_app_l {T S : List Int} {i : Int} (i0 : 0 ≤ i) (i1 : i < T.length) : rd (T ++ S) i = rd T i := by
  simp only [rd, List.getD_eq_getElem?_getD]
  rw [List.getElem?_append_left (by omega)]
theorem follows_l0 (s : List Int) (hs : s.length ≤ 60) : ∀ (d : Nat) (i : Int) (l : List Int), 0 ≤ i → i + d = s.length → l.length + 4 * d ≤ 1000 →
    Ev (fun k => coppicerref_Follows.l0 k l s (s.length : Int) i K N st rs) (resF (follow K rs (s.drop i.toNat) l)) := by
  have k1 := G.K1
  have n1 := G.N1
  intro d
  induction d with
  | zero =>
    intro i l i0 hi hl
    refine Ev.step (fun k => coppicerref_Follows.l0.eq_2 _ _ _ _ _ _ _ _ k) ?_
    rw [List.drop_eq_nil_of_le (by omega)]
    exact Ev.neg (by omega) (Ev.now _)
  | succ d ih =>
    intro i l i0 hi hl
    refine Ev.step (fun k => coppicerref_Follows.l0.eq_2 _ _ _ _ _ _ _ _ k) ?_
    refine Ev.pos (by omega) (Ev.pos i0 (Ev.pos (by omega) ?_))
    rw [drop_rd i0 (by omega)]
    generalize rd s i = r
    cases hsp : splitK K l with
    | none =>
      have hall := splitK_no hsp
      have e : resF (follow K rs (r :: s.drop (i + 1).toNat) l) = ([], false) := by
        unfold follow
        rw [hsp]; rfl
      rw [e]
      refine Ev.loopc (σ := Unit) (L := fun k at_ _ => coppicerref_Follows.l1 k l r at_ s (s.length : Int) i K N st rs) (n := (l.length : Int)) (fun _ _ => True) ?_ ?_ 0 () (Int.le_refl _) (by omega) trivial
      · intro _ _
        refine Ev.step (fun k => coppicerref_Follows.l1.eq_2 _ _ _ _ _ _ _ _ _ _ k) ?_
        exact Ev.neg (by omega) (Ev.pos rfl (Ev.now _))
      · intro a _ a0 a1 _ hn
        refine Ev.step (fun k => coppicerref_Follows.l1.eq_2 _ _ _ _ _ _ _ _ _ _ k) ?_
        rw [w64 (x := a + 1) (by omega) (by omega)]
        exact Ev.pos a1 (Ev.pos a0 (Ev.pos (hall _ (rd_mem a0 a1)) (hn () trivial)))
    | some p =>
      obtain ⟨T, x, S⟩ := p
      obtain ⟨el, hT, hx⟩ := splitK_some hsp
      have hlen : l.length = T.length + (1 + S.length) := by rw [el, List.length_append, List.length_cons]; omega
      have e : follow K rs (r :: s.drop (i + 1).toNat) l = if r < 0 ∨ r ≥ rs.length ∨ x ≠ K + (rd_T40 rs r).f0 then none else follow K rs (s.drop (i + 1).toNat) (T ++ ((rd_T40 rs r).f1 ++ S)) := by
        conv => lhs; unfold follow
        rw [hsp]
      rw [e]
      have erd : rd l (T.length : Int) = x := by
        rw [el]
        simp [rd, List.getD_eq_getElem?_getD]
      refine Ev.loopc (σ := Unit) (L := fun k at_ _ => coppicerref_Follows.l1 k l r at_ s (s.length : Int) i K N st rs) (n := (T.length : Int)) (fun _ _ => True) ?_ ?_ 0 () (Int.le_refl _) (by omega) trivial
      · intro _ _
        refine Ev.step (fun k => coppicerref_Follows.l1.eq_2 _ _ _ _ _ _ _ _ _ _ k) ?_
        rw [erd, w64 (x := i + 1) (by omega) (by omega)]
        refine Ev.pos (by omega) (Ev.pos (by omega) (Ev.neg hx (Ev.neg (by omega) ?_)))
        by_cases c1 : r < 0
        · rw [if_pos (.inl c1)]; exact Ev.pos c1 (Ev.now _)
        by_cases c2 : r ≥ (rs.length : Int)
        · rw [if_pos (.inr (.inl c2))]; exact Ev.neg c1 (Ev.pos c2 (Ev.now _))
        have hm := rule_mem (l := rs) (i := r) (by omega) (by omega)
        have hrl := G.rl _ hm
        have hr0 := G.r0 _ hm
        have hr1 := G.r1 _ hm
        refine Ev.neg c1 (Ev.neg c2 (Ev.pos (by omega) (Ev.pos (by omega) ?_)))
        rw [w64 (x := K + (rd_T40 rs r).f0) (by have := G.K0; omega) (by omega)]
        by_cases c3 : x = K + (rd_T40 rs r).f0
        · rw [if_neg (by omega)]
          refine Ev.pos c3 ?_
          rw [rstep_eq G (by omega) (by omega) (by omega) (by omega) (by omega) hrl]
          have es : sres rs l (T.length : Int) r = T ++ ((rd_T40 rs r).f1 ++ S) := by
            unfold sres
            rw [el, Int.toNat_natCast, List.take_left, show ((T.length : Int) + 1).toNat = T.length + 1 by omega, List.drop_append, List.drop_eq_nil_of_le (by omega), show T.length + 1 - T.length = 1 by omega]
            rfl
          rw [es]
          simp only [Option.bind_some]
          refine ih (i + 1) _ (by omega) (by omega) ?_
          rw [List.length_append, List.length_append]; omega
        · rw [if_pos (.inr (.inr c3))]
          exact Ev.neg c3 (Ev.now _)
      · intro a _ a0 a1 _ hn
        have hra : rd l a = rd T a := by rw [el]; exact rd_app_l G a0 a1
        refine Ev.step (fun k => coppicerref_Follows.l1.eq_2 _ _ _ _ _ _ _ _ _ _ k) ?_
        rw [w64 (x := a + 1) (by omega) (by omega), hra]
        exact Ev.pos (by omega) (Ev.pos a0 (Ev.pos (hT _ (rd_mem a0 a1)) (hn () trivial)))
theorem follows_ev (s : List Int) (hs : s.length ≤ 60) : Ev (fun k => coppicerref_Follows.f k K N st rs s) (resF (follow K rs s [K + st])) := by
  have k1 := G.K1
  have n1 := G.N1
  have s0 := G.s0
  have s1 := G.s1
  have k0 := G.K0
  unfold coppicerref_Follows.f
  rw [w64 (x := K + st) (by omega) (by omega)]
  exact follows_l0 G s hs s.length 0 [K + st] (Int.le_refl _) (by omega) (by simp; omega)
end
theorem wany_eq (K N st : Int) (rs : List S40) (l : List Int) : pick_Word_1_any.f l K N st rs = some (l.any fun i => decide (i < 0) || decide (i ≥ (rs.length : Int))) := by
  unfold pick_Word_1_any.f
  refine anyO_of (fun x _ => ?_)
  unfold pick_Word_1.f
  by_cases h : x < 0
  · rw [if_pos h]; simp [h]
  · rw [if_neg h]; simp [h]
/-- The law's look at each step. -/
theorem steps_l0 {K N st : Int} {rs : List S40} {s w : List Int} {c x : Int} {R : Bool} (hs : s.length ≤ 9223372036854775807)
    (h0 : ∀ y, (y = if x = 0 ∧ (s.any fun i => decide (i < 0) || decide (i ≥ (rs.length : Int))) = true then 4 else x) → Ev (fun k => coppicerlaw_PickWords.l0 k s w c y s (s.length : Int) (s.length : Int) K N st rs) R) :
    Ev (fun k => coppicerlaw_PickWords.l0 k s w c x s (s.length : Int) 0 K N st rs) R := by
  refine Ev.loopc (σ := Int) (L := fun k i y => coppicerlaw_PickWords.l0 k s w c y s (s.length : Int) i K N st rs) (n := (s.length : Int)) (fun i y => y = if x = 0 ∧ ((s.take i.toNat).any fun i => decide (i < 0) || decide (i ≥ (rs.length : Int))) = true then 4 else x) ?_ ?_ 0 x (Int.le_refl _) (by omega) (by simp)
  · rintro y rfl
    rw [Int.toNat_natCast, List.take_length]
    exact h0 _ rfl
  · rintro i y i0 i1 rfl hn
    have hs2 := hn _ rfl
    rw [take_rd i0 i1, List.any_append] at hs2
    simp only [List.any_cons, List.any_nil, Bool.or_false] at hs2
    refine Ev.step (fun k => coppicerlaw_PickWords.l0.eq_2 _ _ _ _ _ _ _ _ _ _ _ k) ?_
    rw [w64 (x := i + 1) (by omega) (by omega)]
    refine Ev.pos i1 (Ev.pos i0 (Ev.pos i1 ?_))
    generalize rd s i = r at hs2 ⊢
    cases ha : ((s.take i.toNat).any fun i => decide (i < 0) || decide (i ≥ (rs.length : Int))) with
    | true =>
      rw [ha] at hs2
      by_cases hx : x = 0
      · subst hx
        simp only [Bool.true_or, and_self, if_true] at hs2 ⊢
        exact Ev.neg (by decide) hs2
      · simp only [hx, false_and, if_false] at hs2 ⊢
        exact hs2
    | false =>
      rw [ha] at hs2
      by_cases hx : x = 0
      · subst hx
        simp only [Bool.false_or, true_and, Bool.false_eq_true, if_false] at hs2 ⊢
        refine Ev.pos trivial ?_
        by_cases c1 : r < 0
        · simp only [c1, decide_true, Bool.true_or, if_true] at hs2
          exact Ev.pos c1 hs2
        · by_cases c2 : r ≥ (rs.length : Int)
          · simp only [c2, decide_true, Bool.or_true, if_true] at hs2
            exact Ev.neg c1 (Ev.pos c2 hs2)
          · simp only [c1, c2, decide_false, Bool.or_false, Bool.false_eq_true, if_false] at hs2
            exact Ev.neg c1 (Ev.neg c2 hs2)
      · simp only [hx, false_and, if_false] at hs2 ⊢
        exact hs2
theorem law_l1 {K N st : Int} {rs : List S40} {w m : List Int} {c : Int} {b R : Bool} (hm : m.length ≤ 2000)
    (h : ∀ b2, (b2 = true ↔ b = true ∧ ∀ x ∈ m, x < K) → Ev (fun k => coppicerlaw_PickWords.l1 k w c 0 m b2 (m.length : Int) (m.length : Int) K N st rs) R) :
    Ev (fun k => coppicerlaw_PickWords.l1 k w c 0 m b (m.length : Int) 0 K N st rs) R := by
  refine Ev.loopc (σ := Bool) (L := fun k i b => coppicerlaw_PickWords.l1 k w c 0 m b (m.length : Int) i K N st rs) (n := (m.length : Int)) (fun i b2 => b2 = true ↔ b = true ∧ ∀ x ∈ m.take i.toNat, x < K) ?_ ?_ 0 b (Int.le_refl _) (by omega) (by simp)
  · intro b2 hb
    rw [Int.toNat_natCast, List.take_length] at hb
    exact h b2 hb
  · intro i b2 i0 i1 hb hn
    refine Ev.step (fun k => coppicerlaw_PickWords.l1.eq_2 _ _ _ _ _ _ _ _ _ _ _ k) ?_
    rw [w64 (x := i + 1) (by omega) (by omega)]
    refine Ev.pos i1 (Ev.pos i0 (Ev.pos i1 ?_))
    have step : ∀ b3 : Bool, (b3 = true ↔ b2 = true ∧ rd m i < K) → Ev (fun k => coppicerlaw_PickWords.l1 k w c 0 m b3 (m.length : Int) (i + 1) K N st rs) R := by
      intro b3 h3
      refine hn b3 ?_
      rw [take_rd i0 i1, h3, hb]
      simp only [List.mem_append, List.mem_singleton]
      constructor
      · rintro ⟨⟨a, b⟩, q⟩
        exact ⟨a, fun x hx => hx.elim (b x) (fun e => by rw [e]; exact q)⟩
      · rintro ⟨a, b⟩
        exact ⟨⟨a, fun x hx => b x (.inl hx)⟩, b _ (.inr rfl)⟩
    by_cases d : b2 = true
    · exact Ev.pos d (step _ (by rw [decide_eq_true_iff]; exact ⟨fun q => ⟨d, q⟩, fun q => q.2⟩))
    · exact Ev.neg d (step false ⟨fun q => (by cases q), fun q => absurd q.1 d⟩)
theorem follow_len {K N st : Int} {rs : List S40} (G : GOK K N st rs) : ∀ (s l m : List Int), follow K rs s l = some m → m.length ≤ l.length + 4 * s.length
  | [], l, m, h => by cases h; simp
  | r :: s, l, m, h => by
    unfold follow at h
    cases hsp : splitK K l with
    | none => rw [hsp] at h; cases h
    | some p =>
      rw [hsp] at h
      dsimp only at h
      by_cases c : r < 0 ∨ r ≥ rs.length ∨ p.2.1 ≠ K + (rd_T40 rs r).f0
      · rw [if_pos c] at h; cases h
      · rw [if_neg c] at h
        have := follow_len G s _ m h
        obtain ⟨T, x, S⟩ := p
        obtain ⟨el, _, _⟩ := splitK_some hsp
        have hrl := G.rl _ (rule_mem (l := rs) (i := r) (by omega) (by omega))
        rw [el, List.length_cons, List.length_append, List.length_cons]
        rw [List.length_append, List.length_append] at this
        dsimp only at this
        omega
theorem PickWords : coppicerlaw_PickWords.Pure := by
  unfold coppicerlaw_PickWords.Pure
  intro K N st rs s hK hN hst hrs hs hs8
  have hs63 : s.length ≤ 9223372036854775807 := by have := hs.1; unfold maxLen at this; omega
  apply Ev.rounds
  unfold coppicerlaw_PickWords.f pick_Word.f
  have g1 := gcheck_ev K N st rs
  have g2 := rcheck_ev K N st rs
  have j01 : ∀ (w : List Int) (c x : Int) (R : Bool), Ev (fun k => coppicerlaw_PickWords.l0 k s w c x s (s.length : Int) 0 K N st rs) R → Ev (fun k => coppicerlaw_PickWords.j1 k s w c x K N st rs) R := by
    intro w c x R h
    exact Ev.step (fun k => coppicerlaw_PickWords.j1.eq_2 _ _ _ _ _ _ _ _ k) h
  have done : ∀ (c : Int), c ≠ 0 → Ev (fun k => coppicerlaw_PickWords.l0 k s [] c c s (s.length : Int) (s.length : Int) K N st rs) true := by
    intro c hc
    refine Ev.step (fun k => coppicerlaw_PickWords.l0.eq_2 _ _ _ _ _ _ _ _ _ _ _ k) ?_
    exact Ev.neg (by omega) (Ev.neg hc (Ev.pos rfl (Ev.val (by simp))))
  by_cases c : gcode K N st rs = 0
  · have G := gcode_ok c
    rw [c] at g1 g2
    by_cases c2 : (s.length : Int) > 60
    · refine Ev.bind (Ev.bind g1 (Ev.pos rfl (Ev.pos c2 (Ev.now _)))) (Ev.bind g2 (Ev.pos rfl ?_))
      refine Ev.step (fun k => coppicerlaw_PickWords.j0.eq_2 _ _ _ _ _ _ _ _ _ k) ?_
      refine Ev.pos (decide_eq_true c2) (j01 _ _ _ _ (steps_l0 hs63 (fun y hy => ?_)))
      rw [if_neg (by simp)] at hy
      subst hy
      exact done 1 (by decide)
    · have hj0 : ∀ (w : List Int) (e : Int) (R : Bool), Ev (fun k => coppicerlaw_PickWords.l0 k s w e 0 s (s.length : Int) 0 K N st rs) R → Ev (fun k => coppicerlaw_PickWords.j0 k s w e 0 (decide ((s.length : Int) > 60)) K N st rs) R := by
        intro w e R h
        refine Ev.step (fun k => coppicerlaw_PickWords.j0.eq_2 _ _ _ _ _ _ _ _ _ k) ?_
        exact Ev.neg (by simp; omega) (j01 _ _ _ _ h)
      cases ha : (s.any fun i => decide (i < 0) || decide (i ≥ (rs.length : Int))) with
      | true =>
        refine Ev.bind (Ev.bind (a := (0 : Int)) g1 (Ev.pos rfl (Ev.neg c2 (Ev.bind (a := true) (Ev.congr (f := fun _ => some true) (fun k => by rw [wany_eq, ha]) (Ev.now _)) (Ev.pos rfl (Ev.now _)))))) (Ev.bind g2 (Ev.pos rfl (hj0 _ _ _ (steps_l0 hs63 (fun y hy => ?_)))))
        rw [ha, if_pos ⟨rfl, rfl⟩] at hy
        subst hy
        exact done 4 (by decide)
      | false =>
        have s0 := G.s0
        have s1 := G.s1
        obtain ⟨o, ⟨ho, ho2⟩, ev⟩ := readF_ev G s.length st s [] (Nat.le_refl _) s0 s1 (fun x hx => by simp at hx) (by simp; omega)
        have fw := follows_ev G s (by omega)
        refine Ev.bind (Ev.bind (a := (0 : Int)) g1 (Ev.pos rfl (Ev.neg c2 (Ev.bind (a := false) (Ev.congr (f := fun _ => some false) (fun k => by rw [wany_eq, ha]) (Ev.now _)) (Ev.neg (by simp) (Ev.bind ev (Ev.now _))))))) (Ev.bind g2 (Ev.pos rfl (hj0 _ _ _ (steps_l0 hs63 (fun y hy => ?_)))))
        rw [ha, if_neg (by simp)] at hy
        subst hy
        refine Ev.step (fun k => coppicerlaw_PickWords.l0.eq_2 _ _ _ _ _ _ _ _ _ _ _ k) ?_
        refine Ev.neg (by omega) (Ev.pos rfl (Ev.bind fw ?_))
        have hml : (resF (follow K rs s [K + st])).1.length ≤ 2000 := by
          cases hf : follow K rs s [K + st] with
          | none => simp [resF]
          | some m =>
            have := follow_len G s _ m hf
            simp only [List.length_singleton] at this
            show m.length ≤ _
            omega
        have e0 : ([] : List Int) ++ ([K + st] ++ []) = [K + st] := rfl
        have bad3 : ∀ b2 : Bool, b2 = false → Ev (fun k => coppicerlaw_PickWords.l1 k [] 3 0 (resF (follow K rs s [K + st])).1 b2 ((resF (follow K rs s [K + st])).1.length : Int) ((resF (follow K rs s [K + st])).1.length : Int) K N st rs) true := by
          rintro b2 rfl
          refine Ev.step (fun k => coppicerlaw_PickWords.l1.eq_2 _ _ _ _ _ _ _ _ _ _ _ k) ?_
          exact Ev.neg (by omega) (Ev.neg (by simp) (Ev.pos rfl (Ev.val (by simp))))
        cases o with
        | none =>
          have hb := ho []
          rw [e0] at hb
          refine law_l1 hml (fun b2 hb2 => bad3 b2 (Bool.eq_false_iff.2 (fun q => ?_)))
          obtain ⟨q1, q2⟩ := hb2.1 q
          rcases hb with hb | ⟨m, hb, x, hx, hx2⟩
          · rw [hb] at q1; cases q1
          · rw [hb] at q2; exact hx2 (q2 x hx)
        | some p =>
          obtain ⟨p1, p2⟩ := p
          obtain ⟨a, b, d, f⟩ := ho
          have hf := f []
          rw [e0, List.append_nil] at hf
          dsimp only at hf b
          cases p1 with
          | cons r t =>
            have hn : follow K rs s [K + st] = none := by
              rw [hf]
              unfold follow
              rw [splitK_none p2 b]
            have e1 : endW (some (r :: t, p2)) = ([], 3) := by unfold endW; dsimp only; rw [if_pos (by simp)]
            rw [e1]
            refine law_l1 hml (fun b2 hb2 => bad3 b2 (Bool.eq_false_iff.2 (fun q => ?_)))
            have q1 := (hb2.1 q).1
            rw [hn] at q1; cases q1
          | nil =>
            have hs : follow K rs s [K + st] = some p2 := hf
            rw [hs]
            have hml2 : p2.length ≤ 2000 := by rw [hs] at hml; exact hml
            refine law_l1 hml2 (fun b2 hb2 => ?_)
            have hb3 : b2 = true := hb2.2 ⟨rfl, b⟩
            subst hb3
            refine Ev.step (fun k => coppicerlaw_PickWords.l1.eq_2 _ _ _ _ _ _ _ _ _ _ _ k) ?_
            refine Ev.neg (by omega) (Ev.pos rfl ?_)
            by_cases c6 : (p2.length : Int) > 60
            · have e1 : endW (some ([], p2)) = ([], 1) := by unfold endW; dsimp only; rw [if_neg (by simp), if_pos c6]
              rw [e1]
              exact Ev.pos c6 (Ev.pos rfl (Ev.val (by simp)))
            · have e1 : endW (some ([], p2)) = (p2, 0) := by unfold endW; dsimp only; rw [if_neg (by simp), if_neg c6]
              rw [e1]
              exact Ev.neg c6 (Ev.pos rfl (Ev.pos rfl (Ev.bind (Ints_ev p2 p2 (by omega)) (Ev.val (by simp)))))
  · refine Ev.bind (Ev.bind g1 (Ev.neg c (Ev.now _))) (Ev.bind g2 (Ev.neg c ?_))
    refine Ev.step (fun k => coppicerlaw_PickWords.j0.eq_2 _ _ _ _ _ _ _ _ _ k) ?_
    refine Ev.neg (by simp) (j01 _ _ _ _ (steps_l0 hs63 (fun y hy => ?_)))
    rw [if_neg (fun q => c q.1)] at hy
    subst hy
    exact done _ c

end Go.Proofs.Ytenlcpakhpjlkaa.Pure
