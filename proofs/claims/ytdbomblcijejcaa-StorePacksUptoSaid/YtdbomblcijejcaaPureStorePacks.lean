/- The law StorePacks as a statement over numbers and lists alone: it holds under the bounds that the statement names. -/
import Derived.Test.YtdbomblcijejcaaStatStorePacks
set_option linter.unusedVariables false
set_option linter.unusedSimpArgs false
set_option linter.unusedSectionVars false
namespace Go.Proofs.Ytdbomblcijejcaa.Pure
open Go.RowKit Go.Proofs.Ytdbomblcijejcaa.PStorePacks Go.Proofs.YtdbomblcijejcaaW.PrintWords Go.Proofs.YtdbomblcijejcaaW.PrintLast Go.Proofs.YtdbomblcijejcaaW.PrintMore

/-! ### base: words for every pure text -/
theorem w64 {x : Int} (h0 : -9223372036854775808 ≤ x) (h1 : x ≤ 9223372036854775807) : wrap64 x = x := by unfold wrap64; omega
theorem Ev.pos {α : Type} {c : Prop} [Decidable c] {g f : Nat → Option α} {r : α} (h : c) (e : Ev g r) : Ev (fun k => if c then g k else f k) r := Ev.congr (fun k => by rw [if_pos h]) e
theorem Ev.neg {α : Type} {c : Prop} [Decidable c] {g f : Nat → Option α} {r : α} (h : ¬ c) (e : Ev f r) : Ev (fun k => if c then g k else f k) r := Ev.congr (fun k => by rw [if_neg h]) e
theorem Ev.val {α : Type} {r q : α} (h : r = q) : Ev (fun _ => some r) q := by subst h; exact Ev.now r
theorem rd_getElem {l : List Int} {i : Int} (h1 : i.toNat < l.length) : rd l i = l[i.toNat] := by simp [rd, List.getD_eq_getElem?_getD, List.getElem?_eq_getElem h1]
theorem drop_rd {l : List Int} {i : Int} (h0 : 0 ≤ i) (h1 : i < l.length) : l.drop i.toNat = rd l i :: l.drop (i + 1).toNat := by
  have h : i.toNat < l.length := by omega
  rw [rd_getElem h, List.drop_eq_getElem_cons h]; congr 2; omega
theorem take_rd {l : List Int} {i : Int} (h0 : 0 ≤ i) (h1 : i < l.length) : l.take (i + 1).toNat = l.take i.toNat ++ [rd l i] := by
  have h : i.toNat < l.length := by omega
  have e : (i + 1).toNat = i.toNat + 1 := by omega
  rw [rd_getElem h, e, List.take_succ_eq_append_getElem h]
theorem rd_drop (l : List Int) (n : Nat) (i : Int) (h0 : 0 ≤ i) : rd (l.drop n) i = rd l (i + n) := by
  have e : (i + n).toNat = n + i.toNat := by omega
  simp only [rd, List.getD_eq_getElem?_getD, List.getElem?_drop, e]
theorem rd_take (l : List Int) (n : Nat) (i : Int) (h0 : 0 ≤ i) (h1 : i < n) : rd (l.take n) i = rd l i := by
  simp only [rd, List.getD_eq_getElem?_getD]; rw [List.getElem?_take_of_lt (by omega)]
theorem drop_all {α : Type} (l : List α) (n : Nat) (h : l.length ≤ n) : l.drop n = [] := List.drop_eq_nil_of_le h
theorem dec_ne {a b : Int} {l m : List Int} (h : a ≠ b) : decide (a :: l = b :: m) = false := decide_eq_false (fun q => h (List.cons.inj q).1)
theorem Ev.no {p : Prop} [Decidable p] (h : ¬ p) : Ev (fun _ => some false) (decide p) := Ev.val (decide_eq_false h).symm
theorem Ev.yes {p : Prop} [Decidable p] (h : p) : Ev (fun _ => some true) (decide p) := Ev.val (decide_eq_true h).symm
theorem ext_rd {a b : List Int} (hl : a.length = b.length) (h : ∀ i : Int, 0 ≤ i → i < a.length → rd a i = rd b i) : a = b := by
  apply List.ext_getElem hl
  intro i h1 h2
  have := h i (by omega) (by omega)
  rwa [rd_getElem (by simpa using h1), rd_getElem (by simpa using h2)] at this
theorem wf_u8 {x : Int} (h : (Lit.int .u8 x).wf = true) : 0 ≤ x ∧ x ≤ 255 := by simpa [Lit.wf, IntKind.min, IntKind.max, IntKind.signed, IntKind.bits] using h
theorem wf_u32 {x : Int} (h : (Lit.int .u32 x).wf = true) : 0 ≤ x ∧ x ≤ 4294967295 := by simpa [Lit.wf, IntKind.min, IntKind.max, IntKind.signed, IntKind.bits] using h
theorem wf_i64 {x : Int} (h : (Lit.int .i64 x).wf = true) : -9223372036854775808 ≤ x ∧ x ≤ 9223372036854775807 := by simpa [Lit.wf, IntKind.min, IntKind.max, IntKind.signed, IntKind.bits] using h
theorem rd_mem {l : List Int} {i : Int} (h0 : 0 ≤ i) (h1 : i < l.length) : rd l i ∈ l := by
  rw [rd_getElem (by omega)]; exact List.getElem_mem _
theorem rd_u8 {l : List Int} (hw : ∀ x ∈ l, (Lit.int .u8 x).wf = true) {i : Int} (h0 : 0 ≤ i) (h1 : i < l.length) : 0 ≤ rd l i ∧ rd l i ≤ 255 := wf_u8 (hw _ (rd_mem h0 h1))
theorem tm {a b : Int} (h : 0 ≤ a) : Int.tmod a b = a % b := Int.tmod_eq_emod_of_nonneg h
theorem td {a b : Int} (h : 0 ≤ a) : Int.tdiv a b = a / b := Int.tdiv_eq_ediv_of_nonneg h

theorem rd_set_eq (l : List Int) (i : Int) (v : Int) (h0 : 0 ≤ i) (h1 : i < l.length) : rd (l.set i.toNat v) i = v := by
  simp [rd, List.getD_eq_getElem?_getD, List.getElem?_set, show i.toNat < l.length by omega]
theorem rd_set_ne (l : List Int) (i j : Int) (v : Int) (h0 : 0 ≤ i) (hj : 0 ≤ j) (h : j ≠ i) : rd (l.set i.toNat v) j = rd l j := by
  simp only [rd, List.getD_eq_getElem?_getD]
  rw [List.getElem?_set_ne (by omega)]
theorem rd_replicate (n : Nat) (v : Int) (j : Int) (h0 : 0 ≤ j) (h1 : j < n) : rd (List.replicate n v) j = v := by
  simp [rd, List.getD_eq_getElem?_getD, List.getElem?_replicate, show j.toNat < n by omega]
theorem rd_append_left (l m : List Int) (j : Int) (h0 : 0 ≤ j) (h1 : j < l.length) : rd (l ++ m) j = rd l j := by
  simp only [rd, List.getD_eq_getElem?_getD]
  rw [List.getElem?_append_left (by omega)]
theorem rd_append_last (l : List Int) (v : Int) (j : Int) (h : j = l.length) : rd (l ++ [v]) j = v := by
  subst h
  simp [rd, List.getD_eq_getElem?_getD]

/-! ### rows of rows -/
theorem drop_rdL {l : List (List Int)} {i : Int} (h0 : 0 ≤ i) (h1 : i < l.length) : l.drop i.toNat = rd_L1 l i :: l.drop (i + 1).toNat := by
  have h : i.toNat < l.length := by omega
  have e : rd_L1 l i = l[i.toNat] := by simp [rd_L1, List.getD_eq_getElem?_getD, List.getElem?_eq_getElem h]
  rw [e, List.drop_eq_getElem_cons h]; congr 2; omega
theorem rdL_mem {l : List (List Int)} {i : Int} (h0 : 0 ≤ i) (h1 : i < l.length) : rd_L1 l i ∈ l := by
  have h : i.toNat < l.length := by omega
  have e : rd_L1 l i = l[i.toNat] := by simp [rd_L1, List.getD_eq_getElem?_getD, List.getElem?_eq_getElem h]
  rw [e]; exact List.getElem_mem _

/-! ### loops, round by round -/
theorem anyO_some {α : Type} (p : α → Bool) : ∀ l : List α, anyO (fun x => some (p x)) l = some (l.any p)
  | [] => rfl
  | x :: l => by
    unfold anyO
    rw [Option.bind_some, anyO_some p l, List.any_cons]
    cases p x <;> simp
theorem anyO_of {α : Type} {f : α → Option Bool} {p : α → Bool} {l : List α} (h : ∀ x ∈ l, f x = some (p x)) : anyO f l = some (l.any p) := by
  induction l with
  | nil => rfl
  | cons x l ih =>
    unfold anyO
    rw [h x (by simp), Option.bind_some, ih (fun y hy => h y (by simp [hy])), List.any_cons]
    cases p x <;> simp
theorem Ev.loop {σ ρ : Type} {L : Nat → Int → σ → Option ρ} {n : Int} {r : ρ} (I : Int → σ → Prop)
    (hend : ∀ s, I n s → Ev (fun k => L k n s) r)
    (hstep : ∀ i s, 0 ≤ i → i < n → I i s → Ev (fun k => L k i s) r ∨ ∃ s', I (i + 1) s' ∧ (Ev (fun k => L k (i + 1) s') r → Ev (fun k => L k i s) r)) :
    ∀ (i : Int) (s : σ), 0 ≤ i → i ≤ n → I i s → Ev (fun k => L k i s) r := by
  have key : ∀ (d : Nat) (i : Int) (s : σ), 0 ≤ i → i + d = n → I i s → Ev (fun k => L k i s) r := by
    intro d
    induction d with
    | zero => intro i s h0 h1 hI; obtain rfl : i = n := by omega
              exact hend s hI
    | succ d ih =>
      intro i s h0 h1 hI
      rcases hstep i s h0 (by omega) hI with h | ⟨s', h', h⟩
      · exact h
      · exact h (ih (i + 1) s' (by omega) (by omega) h')
  intro i s h0 h1 hI
  exact key (n - i).toNat i s h0 (by omega) hI
/-- The first element that is bad ends a loop. -/
theorem Ev.firstBad {α ρ : Type} {L : Nat → Int → Option ρ} {l : List α} {rdf : Int → α} {bad : α → Bool} {c fin : ρ}
    (hrd : ∀ i : Int, 0 ≤ i → i < l.length → l.drop i.toNat = rdf i :: l.drop (i + 1).toNat)
    (hend : l.any bad = false → Ev (fun k => L k l.length) fin)
    (hbad : ∀ i : Int, 0 ≤ i → i < l.length → bad (rdf i) = true → Ev (fun k => L k i) c)
    (hgood : ∀ (i : Int) (r : ρ), 0 ≤ i → i < l.length → bad (rdf i) = false → Ev (fun k => L k (i + 1)) r → Ev (fun k => L k i) r) :
    Ev (fun k => L k 0) (if l.any bad = true then c else fin) := by
  refine Ev.loop (σ := Unit) (L := fun k i _ => L k i) (n := l.length) (fun i _ => l.any bad = (l.drop i.toNat).any bad) ?_ ?_ 0 () (Int.le_refl _) (by omega) rfl
  · intro _ h
    rw [Int.toNat_natCast, List.drop_length] at h
    have h : l.any bad = false := h
    rw [h]; exact hend h
  · intro i _ h0 h1 h
    rw [hrd i h0 h1, List.any_cons] at h
    cases hb : bad (rdf i) with
    | true => left; rw [h, hb]; exact hbad i h0 h1 hb
    | false => right; refine ⟨(), by rw [h, hb]; rfl, hgood i _ h0 h1 hb⟩
theorem rd_cons {l : List Int} {i : Int} (h0 : 0 ≤ i) (h1 : i < l.length) : l.drop i.toNat = rd l i :: l.drop (i + 1).toNat := drop_rd h0 h1

/-! ### loops, told by what follows -/
theorem Ev.loopc {σ ρ : Type} {L : Nat → Int → σ → Option ρ} {n : Int} {r : ρ} (I : Int → σ → Prop)
    (hend : ∀ s, I n s → Ev (fun k => L k n s) r)
    (hstep : ∀ i s, 0 ≤ i → i < n → I i s → (∀ s', I (i + 1) s' → Ev (fun k => L k (i + 1) s') r) → Ev (fun k => L k i s) r) :
    ∀ (i : Int) (s : σ), 0 ≤ i → i ≤ n → I i s → Ev (fun k => L k i s) r := by
  have key : ∀ (d : Nat) (i : Int) (s : σ), 0 ≤ i → i + d = n → I i s → Ev (fun k => L k i s) r := by
    intro d
    induction d with
    | zero => intro i s h0 h1 hI; obtain rfl : i = n := by omega
              exact hend s hI
    | succ d ih =>
      intro i s h0 h1 hI
      exact hstep i s h0 (by omega) hI (fun s' h' => ih (i + 1) s' (by omega) (by omega) h')
  intro i s h0 h1 hI
  exact key (n - i).toNat i s h0 (by omega) hI

/-! ### an answer of which something is known -/
def EvP {α : Type} (g : Nat → Option α) (J : α → Prop) : Prop := ∃ r, J r ∧ Ev g r
theorem EvP.of {α : Type} {g : Nat → Option α} {J : α → Prop} {r : α} (h : J r) (e : Ev g r) : EvP g J := ⟨r, h, e⟩
theorem EvP.now {α : Type} {J : α → Prop} {r : α} (h : J r) : EvP (fun _ => some r) J := ⟨r, h, Ev.now r⟩
theorem EvP.pos {α : Type} {c : Prop} [Decidable c] {g f : Nat → Option α} {J : α → Prop} (h : c) (e : EvP g J) : EvP (fun k => if c then g k else f k) J := let ⟨r, h1, h2⟩ := e; ⟨r, h1, Ev.pos h h2⟩
theorem EvP.neg {α : Type} {c : Prop} [Decidable c] {g f : Nat → Option α} {J : α → Prop} (h : ¬ c) (e : EvP f J) : EvP (fun k => if c then g k else f k) J := let ⟨r, h1, h2⟩ := e; ⟨r, h1, Ev.neg h h2⟩
theorem EvP.step {α : Type} {g f : Nat → Option α} {J : α → Prop} (h : ∀ k, g (k + 1) = f k) (e : EvP f J) : EvP g J := let ⟨r, h1, h2⟩ := e; ⟨r, h1, Ev.step h h2⟩
theorem EvP.congr {α : Type} {g f : Nat → Option α} {J : α → Prop} (h : ∀ k, g k = f k) (e : EvP f J) : EvP g J := let ⟨r, h1, h2⟩ := e; ⟨r, h1, Ev.congr h h2⟩
theorem EvP.bind {α β : Type} {g : Nat → Option α} {f : Nat → α → Option β} {a : α} {J : β → Prop} (h : Ev g a) (e : EvP (fun n => f n a) J) : EvP (fun n => (g n).bind (f n)) J := let ⟨r, h1, h2⟩ := e; ⟨r, h1, Ev.bind h h2⟩
theorem EvP.bindP {α β : Type} {g : Nat → Option α} {f : Nat → α → Option β} {I : α → Prop} {J : β → Prop} (h : EvP g I) (e : ∀ a, I a → EvP (fun n => f n a) J) : EvP (fun n => (g n).bind (f n)) J := let ⟨a, h1, h2⟩ := h; EvP.bind h2 (e a h1)
theorem EvP.ev {α β : Type} {g : Nat → Option α} {f : Nat → α → Option β} {I : α → Prop} {r : β} (h : EvP g I) (e : ∀ a, I a → Ev (fun n => f n a) r) : Ev (fun n => (g n).bind (f n)) r := let ⟨a, h1, h2⟩ := h; Ev.bind h2 (e a h1)
theorem EvP.mono {α : Type} {g : Nat → Option α} {I J : α → Prop} (h : EvP g I) (hi : ∀ a, I a → J a) : EvP g J := let ⟨a, h1, h2⟩ := h; ⟨a, hi a h1, h2⟩
theorem EvP.loop {σ ρ : Type} {L : Nat → Int → σ → Option ρ} {n : Int} {J : ρ → Prop} (I : Int → σ → Prop)
    (hend : ∀ s, I n s → EvP (fun k => L k n s) J)
    (hstep : ∀ i s, 0 ≤ i → i < n → I i s → (∀ s', I (i + 1) s' → EvP (fun k => L k (i + 1) s') J) → EvP (fun k => L k i s) J) :
    ∀ (i : Int) (s : σ), 0 ≤ i → i ≤ n → I i s → EvP (fun k => L k i s) J := by
  have key : ∀ (d : Nat) (i : Int) (s : σ), 0 ≤ i → i + d = n → I i s → EvP (fun k => L k i s) J := by
    intro d
    induction d with
    | zero => intro i s h0 h1 hI; obtain rfl : i = n := by omega
              exact hend s hI
    | succ d ih =>
      intro i s h0 h1 hI
      exact hstep i s h0 (by omega) hI (fun s' h' => ih (i + 1) s' (by omega) (by omega) h')
  intro i s h0 h1 hI
  exact key (n - i).toNat i s h0 (by omega) hI

/-! ### coppicerref_Bytes -/
theorem Bytes_l0 (a b : List Int) (hl : a.length = b.length) (hb : (a.length : Int) ≤ 4611686018427387904) (d : Nat) : ∀ i : Int, 0 ≤ i → i + d = a.length → Ev (fun k => coppicerref_Bytes.l0 k a b i) (decide (a.drop i.toNat = b.drop i.toNat)) := by
  induction d with
  | zero =>
    intro i h0 hd
    refine Ev.step (fun k => coppicerref_Bytes.l0.eq_2 _ _ _ k) ?_
    simp (disch := omega) only [if_pos, if_neg]
    exact Ev.val (by rw [List.drop_eq_nil_of_le (by omega), List.drop_eq_nil_of_le (by omega)]; simp)
  | succ d ih =>
    intro i h0 hd
    refine Ev.step (fun k => coppicerref_Bytes.l0.eq_2 _ _ _ k) ?_
    simp (disch := omega) only [if_pos, w64]
    rw [drop_rd h0 (by omega), drop_rd (l := b) h0 (by omega)]
    by_cases h : rd a i = rd b i
    · simp only [if_pos h]
      exact Ev.congr (fun _ => rfl) (by simpa [h] using ih (i + 1) (by omega) (by omega))
    · simp only [if_neg h]
      exact Ev.val (by simp [h])
theorem Bytes_ev (a b : List Int) (hb : (a.length : Int) ≤ 4611686018427387904) : Ev (fun k => coppicerref_Bytes.f k a b) (decide (a = b)) := by
  unfold coppicerref_Bytes.f
  by_cases hl : a.length = b.length
  · simp (disch := omega) only [if_pos]
    simpa using Bytes_l0 a b hl hb a.length 0 (by omega) (by omega)
  · simp (disch := omega) only [if_neg]
    exact Ev.val (by simp; intro h; exact hl (by rw [h]))

/-! ### numbers without repeats -/
theorem nodupI_le : ∀ (n : Nat) (l : List Int), l.Nodup → (∀ x ∈ l, 0 ≤ x ∧ x < n) → l.length ≤ n
  | 0, l, _, h => by
    cases l with
    | nil => simp
    | cons x l => exact absurd (h x (by simp)) (by omega)
  | n + 1, l, hd, h => by
    have := nodupI_le n (l.erase (n : Int)) (hd.erase _) (fun x hx => by
      have hx2 := (hd.mem_erase_iff).1 hx
      have := h x hx2.2
      have := hx2.1
      omega)
    rw [List.length_erase] at this
    split at this <;> omega

/-! ### rows of Bools -/
theorem rdB_set (r : List Bool) (p p' : Int) (b : Bool) (h0 : 0 ≤ p) (h1 : p < r.length) (h2 : 0 ≤ p') : rdOf false (r.set p.toNat b) p' = if p' = p then b else rdOf false r p' := by
  simp only [rdOf, List.getD_eq_getElem?_getD]
  by_cases c : p' = p
  · subst c; rw [if_pos rfl, List.getElem?_set_self (by omega)]; rfl
  · rw [if_neg c, List.getElem?_set_ne (by omega)]
theorem rdB_rep (n : Nat) (b : Int) : rdOf false (List.replicate n false) b = false := by
  simp only [rdOf, List.getD_eq_getElem?_getD, List.getElem?_replicate]
  split <;> rfl

/-! ### spots and what lies below them -/
def chl (ws : List (List Int)) : List Int := ws.flatMap (fun w => w.drop 1)
def ch (sp : List S40) (i : Int) : List Int := chl (rd_T40 sp i).f3
inductive Good (sp : List S40) : Int → Prop
  | mk (i : Int) : (∀ j ∈ ch sp i, 0 ≤ j ∧ j < (sp.length : Int)) → (∀ j ∈ ch sp i, Good sp j) → Good sp i
inductive RT (sp : List S40) : Int → Int → Prop
  | refl (i : Int) : RT sp i i
  | step (i j g : Int) : j ∈ ch sp i → RT sp j g → RT sp i g
theorem RT.snoc {sp : List S40} {i j g : Int} (h : RT sp i j) (hg : g ∈ ch sp j) : RT sp i g := by
  induction h with
  | refl i => exact .step _ _ _ hg (.refl _)
  | step i j k hj _ ih => exact .step _ _ _ hj (ih hg)
theorem Good.acyc {sp : List S40} {i : Int} (h : Good sp i) : ∀ j ∈ ch sp i, ¬ RT sp j i := by
  induction h with
  | mk i h1 h2 ih =>
    intro j hj r
    cases r with
    | refl => exact ih i hj i hj (.refl _)
    | step _ k _ hk r => exact ih j hj k hk (r.snoc hj)
/-- How large it is. -/
structure Sz (sp : List S40) : Prop where
  each : ∀ x ∈ sp, x.f3.length ≤ 1048576 ∧ (chl x.f3).length ≤ 1048576 ∧ ∀ w ∈ x.f3, w.length ≤ 1048576
theorem mem_sum {α : Type} {m : α → Nat} : ∀ {l : List α} {x : α}, x ∈ l → m x ≤ (l.map m).sum
  | y :: l, x, h => by
    rw [List.map_cons, List.sum_cons]
    rcases List.mem_cons.1 h with rfl | h
    · omega
    · have := mem_sum (m := m) h; omega
theorem ones_sum (l : List Int) : (l.map fun _ => 1).sum = l.length := by
  induction l with
  | nil => rfl
  | cons x l ih => rw [List.map_cons, List.sum_cons, ih, List.length_cons]; omega
theorem chl_le (ws : List (List Int)) : ws.length ≤ (ws.map fun l : List Int => (l.map fun _ => 1).sum + 1).sum ∧ (chl ws).length ≤ (ws.map fun l : List Int => (l.map fun _ => 1).sum + 1).sum := by
  induction ws with
  | nil => exact ⟨Nat.le_refl _, Nat.le_refl _⟩
  | cons w ws ih =>
    rw [List.map_cons, List.sum_cons, ones_sum]
    unfold chl at ih ⊢
    rw [List.flatMap_cons, List.length_append, List.length_drop, List.length_cons]
    omega
def bulkS (sp : List S40) : Nat := (sp.map fun x : S40 => (1 + (1 + (1 + ((x.f3.map fun l : List Int => (l.map fun _ => 1).sum + 1).sum + 1)))) + 1).sum + 1 + 1 + 1
theorem Sz.of {sp : List S40} (h : bulkS sp ≤ 1048576) : Sz sp := by
  refine ⟨fun x hx => ?_⟩
  have h1 := mem_sum (m := fun x : S40 => (1 + (1 + (1 + ((x.f3.map fun l : List Int => (l.map fun _ => 1).sum + 1).sum + 1)))) + 1) hx
  have h2 := chl_le x.f3
  unfold bulkS at h
  refine ⟨by omega, by omega, fun w hw => ?_⟩
  have h3 := mem_sum (m := fun l : List Int => (l.map fun _ => 1).sum + 1) hw
  rw [ones_sum] at h3
  omega
theorem rdS_mem {sp : List S40} {i : Int} (h0 : 0 ≤ i) (h1 : i < sp.length) : rd_T40 sp i ∈ sp := by
  have h : i.toNat < sp.length := by omega
  have e : rd_T40 sp i = sp[i.toNat] := by simp [rd_T40, List.getD_eq_getElem?_getD, List.getElem?_eq_getElem h]
  rw [e]; exact List.getElem_mem _
theorem mn1 (w : List Int) (hw : w.length ≤ 1048576) : 0 ≤ mn 1 (w.length : Int) ∧ mn 1 (w.length : Int) ≤ (w.length : Int) ∧ w.drop (mn 1 (w.length : Int)).toNat = w.drop 1 := by
  unfold mn
  by_cases c : (w.length : Int) < 1
  · rw [if_pos c]
    have : w = [] := List.eq_nil_of_length_eq_zero (by omega)
    subst this; exact ⟨by simp, by simp, rfl⟩
  · rw [if_neg c]; exact ⟨by omega, by omega, rfl⟩
theorem chl_take {ws : List (List Int)} {i : Int} (h0 : 0 ≤ i) (h1 : i < ws.length) : chl (ws.take (i + 1).toNat) = chl (ws.take i.toNat) ++ (rd_L1 ws i).drop 1 := by
  have h : i.toNat < ws.length := by omega
  have e : rd_L1 ws i = ws[i.toNat] := by simp [rd_L1, List.getD_eq_getElem?_getD, List.getElem?_eq_getElem h]
  rw [show (i + 1).toNat = i.toNat + 1 by omega, List.take_succ_eq_append_getElem h, e]
  unfold chl
  rw [List.flatMap_append, List.flatMap_singleton]
theorem chl_take_len (ws : List (List Int)) (n : Nat) : (chl (ws.take n)).length ≤ (chl ws).length := by
  have : chl ws = chl (ws.take n) ++ chl (ws.drop n) := by
    unfold chl
    rw [← List.flatMap_append, List.take_append_drop]
  rw [this, List.length_append]; omega
theorem below_ev (a b c : Int) {ws : List (List Int)} (h1 : ws.length ≤ 1048576) (h2 : (chl ws).length ≤ 1048576) (h3 : ∀ w ∈ ws, w.length ≤ 1048576) : Ev (fun k => thicket_below.f k a b c ws) (chl ws) := by
  unfold thicket_below.f
  refine Ev.loopc (σ := List Int) (L := fun k i o => thicket_below.l0 k o ws (ws.length : Int) i) (n := (ws.length : Int)) (fun i o => o = chl (ws.take i.toNat)) ?_ ?_ 0 [] (Int.le_refl _) (by omega) rfl
  · rintro o rfl
    refine Ev.step (fun k => thicket_below.l0.eq_2 _ _ _ _ k) ?_
    exact Ev.neg (by omega) (Ev.val (by rw [Int.toNat_natCast, List.take_length]))
  · rintro i o i0 i1 rfl hn
    have hw := h3 _ (rdL_mem i0 i1)
    have q := mn1 _ hw
    have l1 := chl_take_len ws (i + 1).toNat
    rw [chl_take i0 i1, List.length_append] at l1
    refine Ev.step (fun k => thicket_below.l0.eq_2 _ _ _ _ k) ?_
    rw [w64 (x := i + 1) (by omega) (by omega), q.2.2]
    refine Ev.pos i1 (Ev.pos i0 (Ev.pos i1 (Ev.pos q.1 (Ev.pos q.2.1 ?_))))
    simp only [Option.bind_some]
    refine Ev.pos (by omega) (hn _ ?_)
    rw [chl_take i0 i1]
/-! ### thicket.order -/
structure DI (sp : List S40) (st l : List Int) : Prop where
  len : (st.length : Int) = sp.length
  val : ∀ x : Int, 0 ≤ x → x < sp.length → rd st x = 0 ∨ rd st x = 1 ∨ rd st x = 2
  blk : ∀ x : Int, 0 ≤ x → x < sp.length → (rd st x = 2 ↔ x ∈ l)
  rng : ∀ x ∈ l, 0 ≤ x ∧ x < (sp.length : Int)
  nd : l.Nodup
  top : ∀ a i b, l = a ++ i :: b → ∀ j ∈ ch sp i, j ∈ a
theorem top_add {sp : List S40} {l : List Int} {i : Int} (h : ∀ a i b, l = a ++ i :: b → ∀ j ∈ ch sp i, j ∈ a) (hi : ∀ j ∈ ch sp i, j ∈ l) : ∀ a x b, l ++ [i] = a ++ x :: b → ∀ j ∈ ch sp x, j ∈ a := by
  intro a x b e
  rcases List.eq_nil_or_concat b with rfl | ⟨b', y, rfl⟩
  · have := List.append_inj' e rfl
    obtain ⟨rfl, e2⟩ := this
    cases e2
    exact hi
  · rw [List.concat_eq_append] at e
    have e2 : l ++ [i] = (a ++ x :: b') ++ [y] := by rw [e]; simp
    have := (List.append_inj' e2 rfl).1
    exact h a x b' this
theorem DI.gray {sp : List S40} {st l : List Int} {i : Int} (h : DI sp st l) (i0 : 0 ≤ i) (i1 : i < sp.length) (hz : rd st i = 0) : DI sp (st.set i.toNat 1) l := by
  have hl := h.len
  refine ⟨by rw [List.length_set]; exact hl, fun x x0 x1 => ?_, fun x x0 x1 => ?_, h.rng, h.nd, h.top⟩
  · by_cases e : x = i
    · subst e; rw [rd_set_eq _ _ _ x0 (by omega)]; exact .inr (.inl rfl)
    · rw [rd_set_ne _ _ _ _ i0 x0 e]; exact h.val x x0 x1
  · by_cases e : x = i
    · subst e; rw [rd_set_eq _ _ _ x0 (by omega)]
      have := h.blk x x0 x1
      rw [hz] at this
      exact ⟨fun q => by omega, fun q => absurd (this.2 q) (by omega)⟩
    · rw [rd_set_ne _ _ _ _ i0 x0 e]; exact h.blk x x0 x1
theorem DI.black {sp : List S40} {st l : List Int} {i : Int} (h : DI sp st l) (i0 : 0 ≤ i) (i1 : i < sp.length) (hz : rd st i ≠ 2) (hc : ∀ j ∈ ch sp i, j ∈ l) : DI sp (st.set i.toNat 2) (l ++ [i]) := by
  have hl := h.len
  have hni : i ∉ l := fun q => hz ((h.blk i i0 i1).2 q)
  refine ⟨by rw [List.length_set]; exact hl, fun x x0 x1 => ?_, fun x x0 x1 => ?_, fun x hx => ?_, ?_, top_add h.top hc⟩
  · by_cases e : x = i
    · subst e; rw [rd_set_eq _ _ _ x0 (by omega)]; exact .inr (.inr rfl)
    · rw [rd_set_ne _ _ _ _ i0 x0 e]; exact h.val x x0 x1
  · by_cases e : x = i
    · subst e; rw [rd_set_eq _ _ _ x0 (by omega)]; simp
    · rw [rd_set_ne _ _ _ _ i0 x0 e, h.blk x x0 x1]; simp [e]
  · rcases List.mem_append.1 hx with hx | hx
    · exact h.rng x hx
    · rw [List.mem_singleton] at hx; subst hx; exact ⟨i0, i1⟩
  · rw [List.nodup_append]
    refine ⟨h.nd, by simp, fun a ha b hb => ?_⟩
    rw [List.mem_singleton] at hb; subst hb
    intro q; subst q; exact hni ha
theorem topo_good {sp : List S40} : ∀ (n : Nat) (l : List Int), l.length ≤ n → (∀ x ∈ l, 0 ≤ x ∧ x < (sp.length : Int)) → (∀ a i b, l = a ++ i :: b → ∀ j ∈ ch sp i, j ∈ a) → ∀ i ∈ l, Good sp i
  | 0, l, hn, _, _, i, hi => by
    have := List.length_pos_of_mem hi; omega
  | n + 1, l, hn, hr, ht, i, hi => by
    obtain ⟨a, b, rfl⟩ := List.append_of_mem hi
    have hc := ht a i b rfl
    refine .mk i (fun j hj => hr j (List.mem_append.2 (.inl (hc j hj)))) (fun j hj => ?_)
    refine topo_good n a (by rw [List.length_append, List.length_cons] at hn; omega) (fun x hx => hr x (List.mem_append.2 (.inl hx))) (fun a' x b' e => ?_) j (hc j hj)
    subst e
    exact ht a' x (b' ++ i :: b) (by simp)
def c0 (st : List Int) : Nat := st.countP (fun x => x == 0)
theorem c0_set {st : List Int} {i : Int} {v : Int} (i0 : 0 ≤ i) (i1 : i < st.length) (hv : v ≠ 0) : c0 (st.set i.toNat v) = c0 st - (if rd st i = 0 then 1 else 0) := by
  unfold c0
  rw [List.countP_set (by omega), rd_getElem (by omega)]
  simp [hv]
theorem c0_pos {st : List Int} {i : Int} (i0 : 0 ≤ i) (i1 : i < st.length) (h : rd st i = 0) : 1 ≤ c0 st := by
  unfold c0
  exact List.countP_pos_iff.2 ⟨rd st i, rd_mem i0 i1, by simp [h]⟩
section
variable {sp : List S40} (hsz : Sz sp) (hn : sp.length ≤ 200)
include hsz hn
/-- What a visit leaves. -/
structure VP (sp : List S40) (i : Int) (st l : List Int) (r : Bool × List Int × List Int) : Prop where
  yes : r.1 = true → DI sp r.2.1 r.2.2 ∧ (∀ x ∈ l, x ∈ r.2.2) ∧ i ∈ r.2.2 ∧ (∀ x : Int, 0 ≤ x → x < sp.length → (rd r.2.1 x = 1 ↔ rd st x = 1)) ∧ c0 r.2.1 ≤ c0 st
  no : Good sp i → (∀ g : Int, 0 ≤ g → g < sp.length → rd st g = 1 → ¬ RT sp i g) → r.1 = true
theorem vis_ev : ∀ (d : Nat) (i : Int) (st l : List Int), c0 st ≤ d → DI sp st l → 0 ≤ i → i < sp.length → EvP (fun k => visF sp k st l i) (VP sp i st l) := by
  intro d
  induction d with
  | zero =>
    intro i st l hd h i0 i1
    have hl := h.len
    refine EvP.step (fun k => visF.eq_2 sp st l i k) ?_
    refine EvP.pos i0 (EvP.pos i1 (EvP.pos ?_ (EvP.now ?_)))
    · rcases h.val i i0 i1 with q | q | q
      · have := c0_pos i0 (by omega) q; omega
      · omega
      · omega
    · refine ⟨fun q => ?_, fun g hg => ?_⟩
      · have q : rd st i = 2 := by simpa using q
        exact ⟨h, fun x hx => hx, (h.blk i i0 i1).1 q, fun x _ _ => Iff.rfl, Nat.le_refl _⟩
      · rcases h.val i i0 i1 with q | q | q
        · have := c0_pos i0 (by omega) q; omega
        · exact absurd (.refl i) (hg i i0 i1 q)
        · show (rd st i == 2) = true
          rw [q]; rfl
  | succ d ih =>
    intro i st l hd h i0 i1
    have hl := h.len
    have hx := hsz.each _ (rdS_mem i0 i1)
    refine EvP.step (fun k => visF.eq_2 sp st l i k) ?_
    refine EvP.pos i0 (EvP.pos i1 ?_)
    by_cases c : rd st i > 0
    · refine EvP.pos c (EvP.now ⟨fun q => ?_, fun g hg => ?_⟩)
      · have q : rd st i = 2 := by simpa using q
        exact ⟨h, fun x hx => hx, (h.blk i i0 i1).1 q, fun x _ _ => Iff.rfl, Nat.le_refl _⟩
      · rcases h.val i i0 i1 with q | q | q
        · omega
        · exact absurd (.refl i) (hg i i0 i1 q)
        · show (rd st i == 2) = true
          rw [q]; rfl
    · have hz : rd st i = 0 := by
        rcases h.val i i0 i1 with q | q | q <;> omega
      have hp := c0_pos i0 (by omega) hz
      have hc := c0_set (v := 1) i0 (by omega) (by decide) (st := st)
      rw [if_pos hz] at hc
      refine EvP.neg c (EvP.bind (below_ev _ _ _ hx.1 hx.2.1 hx.2.2) (EvP.pos (by omega) ?_))
      -- the spots below, one by one
      have loop : ∀ (t : List Int) (st1 l1 : List Int), (∀ j ∈ t, j ∈ ch sp i) → DI sp st1 l1 → (∀ x ∈ l, x ∈ l1) → (∀ x : Int, 0 ≤ x → x < sp.length → (rd st1 x = 1 ↔ rd (st.set i.toNat 1) x = 1)) → c0 st1 ≤ d →
          EvP (fun k => visL (visF sp k) (sp.length : Int) t st1 l1) (fun r => (r.1 = true → DI sp r.2.1 r.2.2 ∧ (∀ x ∈ l1, x ∈ r.2.2) ∧ (∀ j ∈ t, j ∈ r.2.2) ∧ (∀ x : Int, 0 ≤ x → x < sp.length → (rd r.2.1 x = 1 ↔ rd (st.set i.toNat 1) x = 1)) ∧ c0 r.2.1 ≤ c0 st1) ∧
            ((∀ j ∈ t, 0 ≤ j ∧ j < (sp.length : Int) ∧ Good sp j ∧ ∀ g : Int, 0 ≤ g → g < sp.length → rd (st.set i.toNat 1) g = 1 → ¬ RT sp j g) → r.1 = true)) := by
        intro t
        induction t with
        | nil =>
          intro st1 l1 _ h1 h2 h3 h4
          exact EvP.now ⟨fun _ => ⟨h1, fun x hx => hx, fun j hj => by simp at hj, h3, Nat.le_refl _⟩, fun _ => rfl⟩
        | cons j t iht =>
          intro st1 l1 hm h1 h2 h3 h4
          by_cases cj : j < 0
          · refine EvP.congr (fun k => by unfold visL; rw [if_pos cj]) (EvP.now ⟨fun q => (by cases q), fun q => ?_⟩)
            have := q j (by simp); omega
          · by_cases cj2 : j ≥ (sp.length : Int)
            · refine EvP.congr (fun k => by unfold visL; rw [if_neg cj, if_pos cj2]) (EvP.now ⟨fun q => (by cases q), fun q => ?_⟩)
              have := q j (by simp); omega
            · refine EvP.congr (f := fun k => (visF sp k st1 l1 j).bind fun r => if r.1 = true then visL (visF sp k) (sp.length : Int) t r.2.1 r.2.2 else some (false, r.2.1, r.2.2)) (fun k => by conv => lhs; unfold visL; rw [if_neg cj, if_neg cj2]) ?_
              refine EvP.bindP (ih j st1 l1 h4 h1 (by omega) (by omega)) (fun r hr => ?_)
              by_cases cr : r.1 = true
              · obtain ⟨y1, y2, y3, y4, y5⟩ := hr.yes cr
                refine EvP.pos cr ((iht r.2.1 r.2.2 (fun x hx => hm x (by simp [hx])) y1 (fun x hx => y2 x (h2 x hx)) (fun x x0 x1 => (y4 x x0 x1).trans (h3 x x0 x1)) (by omega)).mono ?_)
                rintro r2 ⟨z1, z2⟩
                refine ⟨fun q => ?_, fun q => z2 (fun x hx => q x (by simp [hx]))⟩
                obtain ⟨w1, w2, w3, w4, w5⟩ := z1 q
                refine ⟨w1, fun x hx => w2 x (y2 x hx), fun x hx => ?_, w4, by omega⟩
                rcases List.mem_cons.1 hx with rfl | hx
                · exact w2 _ y3
                · exact w3 x hx
              · refine EvP.neg cr (EvP.now ⟨fun q => (by cases q), fun q => ?_⟩)
                obtain ⟨_, _, q3, q4⟩ := q j (by simp)
                exact absurd (hr.no q3 (fun g g0 g1 hg => q4 g g0 g1 ((h3 g g0 g1).1 hg))) cr
      have hg1 : ∀ x : Int, 0 ≤ x → x < sp.length → (rd (st.set i.toNat 1) x = 1 ↔ rd st x = 1 ∨ x = i) := by
        intro x x0 x1
        by_cases e : x = i
        · subst e; rw [rd_set_eq _ _ _ x0 (by omega)]; simp
        · rw [rd_set_ne _ _ _ _ i0 x0 e]; simp [e]
      refine EvP.bindP (loop (ch sp i) (st.set i.toNat 1) l (fun j hj => hj) (h.gray i0 i1 hz) (fun x hx => hx) (fun x _ _ => Iff.rfl) (by omega)) (fun r hr => ?_)
      have good : Good sp i → (∀ g : Int, 0 ≤ g → g < sp.length → rd st g = 1 → ¬ RT sp i g) → r.1 = true := by
        intro hg hgr
        refine hr.2 (fun j hj => ?_)
        cases hg with
        | mk _ a b =>
          refine ⟨(a j hj).1, (a j hj).2, b j hj, fun g g0 g1 hq hrt => ?_⟩
          rcases (hg1 g g0 g1).1 hq with q | q
          · exact hgr g g0 g1 q (.step _ _ _ hj hrt)
          · subst q; exact (Good.mk g a b).acyc j hj hrt
      by_cases cr : r.1 = true
      · obtain ⟨y1, y2, y3, y4, y5⟩ := hr.1 cr
        have hl2 := y1.len
        have hgi : rd r.2.1 i = 1 := (y4 i i0 i1).2 ((hg1 i i0 i1).2 (.inr rfl))
        have hlen : r.2.2.length ≤ 200 := by
          have := nodupI_le sp.length r.2.2 y1.nd (fun x hx => y1.rng x hx); omega
        refine EvP.pos cr (EvP.pos (by omega) (EvP.now ⟨fun _ => ⟨y1.black i0 i1 (by omega) y3, fun x hx => List.mem_append.2 (.inl (y2 x hx)), by simp, fun x x0 x1 => ?_, ?_⟩, fun _ _ => rfl⟩))
        · by_cases e : x = i
          · subst e
            show rd (r.2.1.set x.toNat 2) x = 1 ↔ _
            rw [rd_set_eq _ _ _ x0 (by omega)]; omega
          · show rd (r.2.1.set i.toNat 2) x = 1 ↔ _
            rw [rd_set_ne _ _ _ _ i0 x0 e, y4 x x0 x1, hg1 x x0 x1]; simp [e]
        · have := c0_set (v := 2) i0 (by omega) (by decide) (st := r.2.1)
          show c0 (r.2.1.set i.toNat 2) ≤ _
          omega
      · exact EvP.neg cr (EvP.now ⟨fun q => (by cases q), fun a b => absurd (good a b) cr⟩)
/-- All of them, each behind those below it. -/
structure Topo (sp : List S40) (l : List Int) : Prop where
  rng : ∀ x ∈ l, 0 ≤ x ∧ x < (sp.length : Int)
  nd : l.Nodup
  top : ∀ a i b, l = a ++ i :: b → ∀ j ∈ ch sp i, j ∈ a
  all : ∀ i : Int, 0 ≤ i → i < sp.length → i ∈ l
def AllG (sp : List S40) (root : Int) : Prop := sp.length ≤ 200 ∧ 0 ≤ root ∧ root < (sp.length : Int) ∧ ∀ i : Int, 0 ≤ i → i < sp.length → Good sp i
theorem ordL_ev : ∀ (t : List Int) (st l : List Int), DI sp st l → (∀ i ∈ t, 0 ≤ i ∧ i < (sp.length : Int)) → (∀ x : Int, 0 ≤ x → x < sp.length → rd st x ≠ 1) → EvP (fun k => ordL (visF sp k) t st l)
    (fun r => (r.2 = true → (∀ x ∈ l, x ∈ r.1) ∧ (∀ i ∈ t, i ∈ r.1) ∧ (∀ x ∈ r.1, 0 ≤ x ∧ x < (sp.length : Int)) ∧ r.1.Nodup ∧ ∀ a i b, r.1 = a ++ i :: b → ∀ j ∈ ch sp i, j ∈ a) ∧ (r.2 = false → r.1 = []) ∧ ((∀ i ∈ t, Good sp i) → r.2 = true)) := by
  intro t
  induction t with
  | nil => intro st l h _ _; exact EvP.now ⟨fun _ => ⟨fun x hx => hx, fun i hi => by simp at hi, h.rng, h.nd, h.top⟩, fun q => (by cases q), fun _ => rfl⟩
  | cons i t iht =>
    intro st l h hr hg
    have ri := hr i (by simp)
    refine EvP.bindP (vis_ev hsz hn (c0 st) i st l (Nat.le_refl _) h ri.1 ri.2) (fun r hv => ?_)
    by_cases cr : r.1 = true
    · obtain ⟨y1, y2, y3, y4, y5⟩ := hv.yes cr
      refine EvP.pos cr ((iht r.2.1 r.2.2 y1 (fun x hx => hr x (by simp [hx])) (fun x x0 x1 q => hg x x0 x1 ((y4 x x0 x1).1 q))).mono ?_)
      rintro q ⟨z1, z2, z3⟩
      refine ⟨fun a => ?_, z2, fun a => z3 (fun x hx => a x (by simp [hx]))⟩
      obtain ⟨w1, w2, w3, w4, w5⟩ := z1 a
      refine ⟨fun x hx => w1 x (y2 x hx), fun x hx => ?_, w3, w4, w5⟩
      rcases List.mem_cons.1 hx with rfl | hx
      · exact w1 _ y3
      · exact w2 x hx
    · exact EvP.neg cr (EvP.now ⟨fun q => (by cases q), fun _ => rfl, fun a => absurd (hv.no (a i (by simp)) (fun g g0 g1 q => absurd q (hg g g0 g1))) cr⟩)
end
theorem ints_mem {n : Nat} {i : Int} : i ∈ ints_ n ↔ 0 ≤ i ∧ i < n := by
  unfold ints_
  rw [List.mem_map]
  constructor
  · rintro ⟨a, ha, rfl⟩
    have := List.mem_range.1 ha
    omega
  · rintro ⟨h0, h1⟩
    exact ⟨i.toNat, List.mem_range.2 (by omega), by omega⟩
theorem order_ev {sp : List S40} (hsz : Sz sp) (root : Int) : EvP (fun k => thicket_order.f k sp root) (fun r => (r.2 = true ↔ AllG sp root) ∧ (r.2 = true → Topo sp r.1) ∧ (r.2 = false → r.1 = [])) := by
  unfold thicket_order.f
  by_cases c1 : (sp.length : Int) > 200
  · exact EvP.pos c1 (EvP.now ⟨⟨fun q => (by cases q), fun q => by have := q.1; omega⟩, fun q => (by cases q), fun _ => rfl⟩)
  · by_cases c2 : root < 0
    · exact EvP.neg c1 (EvP.pos c2 (EvP.now ⟨⟨fun q => (by cases q), fun q => by have := q.2.1; omega⟩, fun q => (by cases q), fun _ => rfl⟩))
    · by_cases c3 : root ≥ (sp.length : Int)
      · exact EvP.neg c1 (EvP.neg c2 (EvP.pos c3 (EvP.now ⟨⟨fun q => (by cases q), fun q => by have := q.2.2.1; omega⟩, fun q => (by cases q), fun _ => rfl⟩)))
      · have hz : ∀ x : Int, rd (List.replicate sp.length 0) x = 0 := fun x => by
          simp only [rd, List.getD_eq_getElem?_getD, List.getElem?_replicate]; split <;> rfl
        have start : DI sp (List.replicate sp.length 0) [] := ⟨by simp, fun x _ _ => .inl (hz x), fun x _ _ => by rw [hz]; simp, fun x hx => by simp at hx, by simp, fun a i b e => by simp at e⟩
        refine EvP.neg c1 (EvP.neg c2 (EvP.neg c3 ((ordL_ev hsz (by omega) (ints_ sp.length) _ [] start (fun i hi => ints_mem.1 hi) (fun x _ _ => by rw [hz]; decide)).mono ?_)))
        rintro r ⟨a, b, c⟩
        refine ⟨⟨fun q => ?_, fun q => c (fun i hi => q.2.2.2 i (ints_mem.1 hi).1 (ints_mem.1 hi).2)⟩, fun q => ?_, b⟩
        · obtain ⟨_, w2, w3, w4, w5⟩ := a q
          exact ⟨by omega, by omega, by omega, fun i i0 i1 => topo_good _ r.1 (Nat.le_refl _) w3 w5 i (w2 i (ints_mem.2 ⟨i0, i1⟩))⟩
        · obtain ⟨_, w2, w3, w4, w5⟩ := a q
          exact ⟨w3, w4, w5, fun i i0 i1 => w2 i (ints_mem.2 ⟨i0, i1⟩)⟩

/-! ### coppicerref.Sound -/
theorem nodupS_le : ∀ (a b : List Int), a.Nodup → (∀ x ∈ a, x ∈ b) → a.length ≤ b.length
  | [], b, _, _ => Nat.zero_le _
  | x :: a, b, hd, h => by
    have hd2 := List.nodup_cons.1 hd
    have hx := h x (by simp)
    have := nodupS_le a (b.erase x) hd2.2 (fun y hy => (List.mem_erase_of_ne (fun q => hd2.1 (by rw [← q]; exact hy))).2 (h y (by simp [hy])))
    rw [List.length_erase_of_mem hx] at this
    have := List.length_pos_of_mem hx
    rw [List.length_cons]; omega
theorem ints_nodup (n : Nat) : (ints_ n).Nodup := by
  unfold List.Nodup
  rw [List.pairwise_iff_getElem]
  intro i j hi hj hlt
  simp only [ints_, List.getElem_map, List.getElem_range]
  omega
theorem ints_len (n : Nat) : (ints_ n).length = n := by simp [ints_]
theorem full_iff {n : Nat} {l : List Int} (hd : l.Nodup) (hr : ∀ x ∈ l, 0 ≤ x ∧ x < (n : Int)) : l.length = n ↔ ∀ i : Int, 0 ≤ i → i < n → i ∈ l := by
  constructor
  · intro h i i0 i1
    apply Classical.byContradiction
    intro q
    have := nodupI_le n (l ++ [i]) (by
      rw [List.nodup_append]
      refine ⟨hd, by simp, fun a ha b hb => ?_⟩
      rw [List.mem_singleton] at hb; subst hb
      intro e; subst e; exact q ha) (fun x hx => by
      rcases List.mem_append.1 hx with hx | hx
      · exact hr x hx
      · rw [List.mem_singleton] at hx; subst hx; exact ⟨i0, i1⟩)
    rw [List.length_append, List.length_singleton] at this
    omega
  · intro h
    have h1 := nodupS_le (ints_ n) l (ints_nodup n) (fun x hx => h x (ints_mem.1 hx).1 (ints_mem.1 hx).2)
    have h2 := nodupI_le n l hd hr
    rw [ints_len] at h1
    omega
structure SI (sp : List S40) (out : List Bool) (l : List Int) : Prop where
  len : (out.length : Int) = sp.length
  mem : ∀ x : Int, 0 ≤ x → x < sp.length → (rdOf false out x = true ↔ x ∈ l)
  rng : ∀ x ∈ l, 0 ≤ x ∧ x < (sp.length : Int)
  nd : l.Nodup
  top : ∀ a i b, l = a ++ i :: b → ∀ j ∈ ch sp i, j ∈ a
def okB (sp : List S40) (out : List Bool) (j : Int) : Prop := 0 ≤ j ∧ j < (sp.length : Int) ∧ rdOf false out j = true
theorem SI.add {sp : List S40} {out : List Bool} {l : List Int} {i : Int} (h : SI sp out l) (i0 : 0 ≤ i) (i1 : i < sp.length) (hi : ¬ rdOf false out i = true) (hc : ∀ j ∈ ch sp i, okB sp out j) : SI sp (out.set i.toNat true) (l ++ [i]) := by
  have hl := h.len
  have hni : i ∉ l := fun q => hi ((h.mem i i0 i1).2 q)
  refine ⟨by rw [List.length_set]; exact hl, fun x x0 x1 => ?_, fun x hx => ?_, ?_, top_add h.top (fun j hj => (h.mem j (hc j hj).1 (hc j hj).2.1).1 (hc j hj).2.2)⟩
  · rw [rdB_set _ _ _ _ i0 (by omega) x0]
    by_cases e : x = i
    · simp [e]
    · rw [if_neg e, h.mem x x0 x1]; simp [e]
  · rcases List.mem_append.1 hx with hx | hx
    · exact h.rng x hx
    · rw [List.mem_singleton] at hx; subst hx; exact ⟨i0, i1⟩
  · rw [List.nodup_append]
    refine ⟨h.nd, by simp, fun a ha b hb => ?_⟩
    rw [List.mem_singleton] at hb; subst hb
    intro q; subst q; exact hni ha
theorem tail_eq (w : List Int) : coppicerref_tail.f w = some (w.drop 1) := by
  unfold coppicerref_tail.f
  by_cases c : (w.length : Int) = 0
  · have : w = [] := List.eq_nil_of_length_eq_zero (by omega)
    subst this; rfl
  · rw [if_neg c, if_pos (by omega)]
section
variable {sp : List S40} (hsz : Sz sp) (hn : sp.length ≤ 200) (root : Int)
include hsz hn
theorem sound_l3 {J : List Int × Bool → Prop} {out : List Bool} {l : List Int} {more : Bool} {i : Int} {ws : List (List Int)} {c : Int} {t : List Int} (ht : t.length ≤ 1048576) (hout : (out.length : Int) = sp.length) (B : Bool)
    (hk : ∀ B', (B' = true ↔ B = true ∧ ∀ j ∈ t, okB sp out j) → EvP (fun k => coppicerref_Sound.l2 k out l more i B' sp (sp.length : Int) i ws (ws.length : Int) (wrap64 (c + 1)) sp root) J) :
    EvP (fun k => coppicerref_Sound.l3 k out l more i B sp (sp.length : Int) i ws (ws.length : Int) c t (t.length : Int) 0 sp root) J := by
  refine EvP.loop (σ := Bool) (L := fun k x B => coppicerref_Sound.l3 k out l more i B sp (sp.length : Int) i ws (ws.length : Int) c t (t.length : Int) x sp root) (n := (t.length : Int)) (fun x B' => B' = true ↔ B = true ∧ ∀ j ∈ t.take x.toNat, okB sp out j) ?_ ?_ 0 B (Int.le_refl _) (by omega) (by simp)
  · intro B' hB
    rw [Int.toNat_natCast, List.take_length] at hB
    refine EvP.step (fun k => coppicerref_Sound.l3.eq_2 _ _ _ _ _ _ _ _ _ _ _ _ _ _ _ _ k) ?_
    exact EvP.neg (by omega) (hk B' hB)
  · intro x B' x0 x1 hB hn2
    refine EvP.step (fun k => coppicerref_Sound.l3.eq_2 _ _ _ _ _ _ _ _ _ _ _ _ _ _ _ _ k) ?_
    rw [w64 (x := x + 1) (by omega) (by omega)]
    refine EvP.pos x1 (EvP.pos x0 (EvP.pos x1 ?_))
    have step : ∀ B2 : Bool, (B2 = true ↔ B' = true ∧ okB sp out (rd t x)) → EvP (fun k => coppicerref_Sound.l3 k out l more i B2 sp (sp.length : Int) i ws (ws.length : Int) c t (t.length : Int) (x + 1) sp root) J := by
      intro B2 h2
      refine hn2 B2 ?_
      rw [take_rd x0 x1, h2, hB]
      simp only [List.mem_append, List.mem_singleton]
      constructor
      · rintro ⟨⟨a, b⟩, q⟩
        exact ⟨a, fun j hj => hj.elim (b j) (fun e => by rw [e]; exact q)⟩
      · rintro ⟨a, b⟩
        exact ⟨⟨a, fun j hj => b j (.inl hj)⟩, b _ (.inr rfl)⟩
    by_cases cb : B' = true
    · refine EvP.pos cb ?_
      by_cases c1 : rd t x ≥ 0
      · refine EvP.pos c1 ?_
        by_cases c2 : rd t x < (sp.length : Int)
        · refine EvP.pos c2 (EvP.pos c1 (EvP.pos (by omega) (step _ ?_)))
          unfold okB
          exact ⟨fun q => ⟨cb, c1, c2, q⟩, fun q => q.2.2.2⟩
        · refine EvP.neg c2 (step _ ⟨fun q => (by cases q), fun q => absurd q.2.2.1 c2⟩)
      · refine EvP.neg c1 (step _ ⟨fun q => (by cases q), fun q => absurd q.2.1 c1⟩)
    · refine EvP.neg cb (step _ ⟨fun q => (by cases q), fun q => absurd q.1 cb⟩)
theorem sound_l2 {J : List Int × Bool → Prop} {out : List Bool} {l : List Int} {more : Bool} {i : Int} (i0 : 0 ≤ i) (i1 : i < sp.length) (h : SI sp out l)
    (hy : ¬ rdOf false out i = true → (∀ j ∈ ch sp i, okB sp out j) → EvP (fun k => coppicerref_Sound.l1 k (out.set i.toNat true) (l ++ [i]) true sp (sp.length : Int) (i + 1) sp root) J)
    (hno : ¬ (¬ rdOf false out i = true ∧ ∀ j ∈ ch sp i, okB sp out j) → EvP (fun k => coppicerref_Sound.l1 k out l more sp (sp.length : Int) (i + 1) sp root) J) :
    EvP (fun k => coppicerref_Sound.l2 k out l more i (!(rdOf false out i)) sp (sp.length : Int) i (rd_T40 sp i).f3 (((rd_T40 sp i).f3).length : Int) 0 sp root) J := by
  have hx := hsz.each _ (rdS_mem i0 i1)
  have hl := h.len
  obtain ⟨ws, hws⟩ : ∃ ws, ws = (rd_T40 sp i).f3 := ⟨_, rfl⟩
  have hch : ch sp i = chl ws := by rw [hws]; rfl
  rw [hch] at hy hno
  rw [← hws] at hx ⊢
  have hlen : l.length ≤ 200 := by have := nodupI_le sp.length l h.nd h.rng; omega
  refine EvP.loop (σ := Bool) (L := fun k c B => coppicerref_Sound.l2 k out l more i B sp (sp.length : Int) i ws (ws.length : Int) c sp root) (n := (ws.length : Int)) (fun c B => B = true ↔ ¬ rdOf false out i = true ∧ ∀ j ∈ chl (ws.take c.toNat), okB sp out j) ?_ ?_ 0 _ (Int.le_refl _) (by omega) ?_
  · intro B hB
    rw [Int.toNat_natCast, List.take_length] at hB
    refine EvP.step (fun k => coppicerref_Sound.l2.eq_2 _ _ _ _ _ _ _ _ _ _ _ _ _ k) ?_
    rw [w64 (x := i + 1) (by omega) (by omega)]
    refine EvP.neg (by omega) ?_
    by_cases cb : B = true
    · exact EvP.pos cb (EvP.pos i0 (EvP.pos (by omega) (EvP.pos (by omega) (hy (hB.1 cb).1 (hB.1 cb).2))))
    · exact EvP.neg cb (hno (fun q => cb (hB.2 q)))
  · intro c B c0 c1 hB hn2
    refine EvP.step (fun k => coppicerref_Sound.l2.eq_2 _ _ _ _ _ _ _ _ _ _ _ _ _ k) ?_
    refine EvP.pos c1 (EvP.pos c0 (EvP.pos c1 ?_))
    have hw := hx.2.2 _ (rdL_mem c0 c1)
    simp only [tail_eq, Option.bind_some]
    refine sound_l3 hsz hn root (t := (rd_L1 ws c).drop 1) (by rw [List.length_drop]; omega) hl B (fun B' hB' => ?_)
    rw [w64 (x := c + 1) (by omega) (by omega)]
    refine hn2 B' ?_
    rw [chl_take c0 c1, hB', hB]
    simp only [List.mem_append]
    constructor
    · rintro ⟨⟨a, b⟩, q⟩
      exact ⟨a, fun j hj => hj.elim (b j) (q j)⟩
    · rintro ⟨a, b⟩
      exact ⟨⟨a, fun j hj => b j (.inl hj)⟩, fun j hj => b j (.inr hj)⟩
  · have e : chl (ws.take (0 : Int).toNat) = [] := rfl
    rw [e]; simp
theorem sound_l0 : ∀ (d : Nat) (out : List Bool) (l : List Int), SI sp out l → sp.length ≤ l.length + d →
    EvP (fun k => coppicerref_Sound.l0 k out l true sp root) (fun r => (r.2 = true ↔ ∀ i : Int, 0 ≤ i → i < sp.length → Good sp i) ∧ (r.2 = true → Topo sp r.1)) := by
  intro d
  induction d with
  | zero =>
    intro out l h hd
    refine EvP.step (fun k => coppicerref_Sound.l0.eq_2 _ _ _ _ _ k) ?_
    refine EvP.pos rfl ?_
    have hl := h.len
    have hfull : ∀ x : Int, 0 ≤ x → x < sp.length → x ∈ l := (full_iff h.nd h.rng).1 (by have := nodupI_le sp.length l h.nd h.rng; omega)
    refine EvP.loop (σ := Unit) (L := fun k i _ => coppicerref_Sound.l1 k out l false sp (sp.length : Int) i sp root) (n := (sp.length : Int)) (fun _ _ => True) ?_ ?_ 0 () (Int.le_refl _) (by omega) trivial
    · intro _ _
      refine EvP.step (fun k => coppicerref_Sound.l1.eq_2 _ _ _ _ _ _ _ _ k) ?_
      refine EvP.neg (by omega) ?_
      refine EvP.step (fun k => coppicerref_Sound.l0.eq_2 _ _ _ _ _ k) ?_
      have e := (full_iff h.nd h.rng).2 hfull
      refine EvP.neg (by simp) (EvP.now ⟨⟨fun _ i i0 i1 => topo_good _ l (Nat.le_refl _) h.rng h.top i (hfull i i0 i1), fun _ => ?_⟩, fun _ => ⟨h.rng, h.nd, h.top, hfull⟩⟩)
      show ((l.length : Int) == (sp.length : Int)) = true
      rw [e]; simp
    · intro i _ i0 i1 _ hn2
      refine EvP.step (fun k => coppicerref_Sound.l1.eq_2 _ _ _ _ _ _ _ _ k) ?_
      refine EvP.pos i1 (EvP.pos i0 (EvP.pos i1 (EvP.pos (by omega) ?_)))
      refine sound_l2 hsz hn root i0 i1 h (fun q _ => absurd ((h.mem i i0 i1).2 (hfull i i0 i1)) q) (fun _ => hn2 () trivial)
  | succ d ih =>
    intro out l h hd
    refine EvP.step (fun k => coppicerref_Sound.l0.eq_2 _ _ _ _ _ k) ?_
    refine EvP.pos rfl ?_
    have hl := h.len
    refine EvP.loop (σ := List Bool × List Int × Bool) (L := fun k i p => coppicerref_Sound.l1 k p.1 p.2.1 p.2.2 sp (sp.length : Int) i sp root) (n := (sp.length : Int))
      (fun i p => SI sp p.1 p.2.1 ∧ (p.2.2 = true → l.length < p.2.1.length) ∧ (p.2.2 = false → p.1 = out ∧ p.2.1 = l ∧ ∀ x : Int, 0 ≤ x → x < i → ¬ (¬ rdOf false out x = true ∧ ∀ j ∈ ch sp x, okB sp out j))) ?_ ?_ 0 (out, l, false) (Int.le_refl _) (by omega) ⟨h, fun q => (by cases q), fun _ => ⟨rfl, rfl, fun x a b => by omega⟩⟩
    · rintro ⟨o2, l2, m2⟩ ⟨a, b, c⟩
      dsimp only at a b c ⊢
      refine EvP.step (fun k => coppicerref_Sound.l1.eq_2 _ _ _ _ _ _ _ _ k) ?_
      refine EvP.neg (by omega) ?_
      cases m2 with
      | true => exact ih o2 l2 a (by have := b rfl; omega)
      | false =>
        obtain ⟨rfl, rfl, cl⟩ := c rfl
        refine EvP.step (fun k => coppicerref_Sound.l0.eq_2 _ _ _ _ _ k) ?_
        have key : (∀ i : Int, 0 ≤ i → i < sp.length → Good sp i) → ∀ i : Int, 0 ≤ i → i < sp.length → i ∈ l2 := by
          intro hg i i0 i1
          have q : ∀ x, Good sp x → 0 ≤ x → x < (sp.length : Int) → x ∈ l2 := by
            intro x hx
            induction hx with
            | mk x h1 h2 ihx =>
              intro x0 x1
              apply Classical.byContradiction
              intro z
              exact cl x x0 x1 ⟨fun q => z ((a.mem x x0 x1).1 q), fun j hj => ⟨(h1 j hj).1, (h1 j hj).2, (a.mem j (h1 j hj).1 (h1 j hj).2).2 (ihx j hj (h1 j hj).1 (h1 j hj).2)⟩⟩
          exact q i (hg i i0 i1) i0 i1
        refine EvP.neg (by simp) (EvP.now ⟨⟨fun q i i0 i1 => ?_, fun q => ?_⟩, fun q => ?_⟩)
        · have e : l2.length = sp.length := by
            have q : ((l2.length : Int) == (sp.length : Int)) = true := q
            rw [beq_iff_eq] at q; omega
          exact topo_good _ l2 (Nat.le_refl _) a.rng a.top i ((full_iff a.nd a.rng).1 e i i0 i1)
        · have e := (full_iff a.nd a.rng).2 (key q)
          show ((l2.length : Int) == (sp.length : Int)) = true
          rw [e]; simp
        · have e : l2.length = sp.length := by
            have q : ((l2.length : Int) == (sp.length : Int)) = true := q
            rw [beq_iff_eq] at q; omega
          exact ⟨a.rng, a.nd, a.top, (full_iff a.nd a.rng).1 e⟩
    · rintro i ⟨o2, l2, m2⟩ i0 i1 ⟨a, b, c⟩ hn2
      dsimp only at a b c ⊢
      have hl2 := a.len
      refine EvP.step (fun k => coppicerref_Sound.l1.eq_2 _ _ _ _ _ _ _ _ k) ?_
      refine EvP.pos i1 (EvP.pos i0 (EvP.pos i1 (EvP.pos (by omega) ?_)))
      refine sound_l2 hsz hn root i0 i1 a (fun q1 q2 => hn2 (_, _, true) ⟨a.add i0 i1 q1 q2, fun _ => ?_, fun q => (by cases q)⟩) (fun q => hn2 (o2, l2, m2) ⟨a, b, fun z => ?_⟩)
      · show l.length < (l2 ++ [i]).length
        rw [List.length_append, List.length_singleton]
        cases m2 with
        | true => have := b rfl; omega
        | false => rw [(c rfl).2.1]; omega
      · obtain ⟨e1, e2, e3⟩ := c z
        refine ⟨e1, e2, fun x x0 x1 => ?_⟩
        by_cases e : x = i
        · subst e; rw [← e1]; exact q
        · exact e3 x x0 (by omega)
end
theorem sound_ev {sp : List S40} (hsz : Sz sp) (root : Int) : EvP (fun k => coppicerref_Sound.f k sp root) (fun r => (r.2 = true ↔ AllG sp root) ∧ (r.2 = true → Topo sp r.1)) := by
  unfold coppicerref_Sound.f
  have bad : ¬ AllG sp root → ∀ b : Bool, b = true → EvP (fun k => coppicerref_Sound.j0 k b sp root) (fun r => (r.2 = true ↔ AllG sp root) ∧ (r.2 = true → Topo sp r.1)) := by
    rintro h b rfl
    refine EvP.step (fun k => coppicerref_Sound.j0.eq_2 _ _ _ k) ?_
    exact EvP.pos rfl (EvP.now ⟨⟨fun q => (by cases q), fun q => absurd q h⟩, fun q => (by cases q)⟩)
  by_cases c1 : (sp.length : Int) > 200
  · exact EvP.pos c1 (bad (fun q => by have := q.1; omega) _ rfl)
  · by_cases c2 : root < 0
    · exact EvP.neg c1 (EvP.pos c2 (bad (fun q => by have := q.2.1; omega) _ rfl))
    · by_cases c3 : root ≥ (sp.length : Int)
      · exact EvP.neg c1 (EvP.neg c2 (bad (fun q => by have := q.2.2.1; omega) _ (decide_eq_true c3)))
      · refine EvP.neg c1 (EvP.neg c2 ?_)
        rw [decide_eq_false c3]
        refine EvP.step (fun k => coppicerref_Sound.j0.eq_2 _ _ _ k) ?_
        have start : SI sp (List.replicate (sp.length : Int).toNat false) [] := ⟨by rw [List.length_replicate]; omega, fun x _ _ => by rw [rdB_rep]; simp, fun x hx => by simp at hx, by simp, fun a i b e => by simp at e⟩
        refine EvP.neg (by simp) (EvP.pos (by omega) (EvP.pos (by omega) ((sound_l0 hsz (by omega) root sp.length _ [] start (by simp)).mono ?_)))
        rintro r ⟨a, b⟩
        refine ⟨a.trans ⟨fun q => ⟨by omega, by omega, by omega, q⟩, fun q => q.2.2.2⟩, b⟩

/-! ### how many trees -/
def capV (n m : Int) : Int := if n = 0 ∨ m = 0 then 0 else if n > 1099511627777 / m then 1099511627777 else n * m
def wayV (f : Int → Int) (t : List Int) : Int := t.foldl (fun n j => capV n (f j)) 1
def minV (a : Int) : Int := if a > 1099511627776 then 1099511627777 else a
def waysV (f : Int → Int) (ws : List (List Int)) (z : Int) : Int := ws.foldl (fun a w => minV (a + wayV f (w.drop 1))) z
def spotV (sp : List S40) (f : Int → Int) (i : Int) : Int := waysV f (rd_T40 sp i).f3 (if (rd_T40 sp i).f3.length = 0 then 1 else 0)
theorem capV_rng {n m : Int} (n0 : 0 ≤ n) (n1 : n ≤ 1099511627777) (m0 : 0 ≤ m) (m1 : m ≤ 1099511627777) : 0 ≤ capV n m ∧ capV n m ≤ 1099511627777 := by
  unfold capV
  by_cases c : n = 0 ∨ m = 0
  · rw [if_pos c]; omega
  · rw [if_neg c]
    by_cases d : n > 1099511627777 / m
    · rw [if_pos d]; omega
    · rw [if_neg d]
      have h1 : n ≤ 1099511627777 / m := by omega
      have h2 : n * m ≤ 1099511627777 / m * m := Int.mul_le_mul_of_nonneg_right h1 m0
      have h3 : 1099511627777 / m * m ≤ 1099511627777 := Int.ediv_mul_le _ (by omega)
      exact ⟨Int.mul_nonneg n0 m0, by omega⟩
theorem wayV_rng {f : Int → Int} : ∀ (t : List Int) (n : Int), 0 ≤ n → n ≤ 1099511627777 → (∀ j ∈ t, 0 ≤ f j ∧ f j ≤ 1099511627777) → 0 ≤ t.foldl (fun n j => capV n (f j)) n ∧ t.foldl (fun n j => capV n (f j)) n ≤ 1099511627777
  | [], n, h0, h1, _ => ⟨h0, h1⟩
  | j :: t, n, h0, h1, h => by
    have hj := h j (by simp)
    have := capV_rng h0 h1 hj.1 hj.2
    exact wayV_rng t _ this.1 this.2 (fun x hx => h x (by simp [hx]))
theorem wayV_congr {f g : Int → Int} : ∀ (t : List Int) (n : Int), (∀ j ∈ t, f j = g j) → t.foldl (fun n j => capV n (f j)) n = t.foldl (fun n j => capV n (g j)) n
  | [], _, _ => rfl
  | j :: t, n, h => by
    rw [List.foldl_cons, List.foldl_cons, h j (by simp)]
    exact wayV_congr t _ (fun x hx => h x (by simp [hx]))
theorem waysV_congr {f g : Int → Int} : ∀ (ws : List (List Int)) (z : Int), (∀ j ∈ chl ws, f j = g j) → waysV f ws z = waysV g ws z
  | [], _, _ => rfl
  | w :: ws, z, h => by
    unfold waysV wayV
    rw [List.foldl_cons, List.foldl_cons, wayV_congr (w.drop 1) 1 (fun j hj => h j (by unfold chl; rw [List.flatMap_cons]; exact List.mem_append.2 (.inl hj)))]
    exact waysV_congr ws _ (fun j hj => h j (by unfold chl at hj ⊢; rw [List.flatMap_cons]; exact List.mem_append.2 (.inr hj)))
theorem spotV_congr {sp : List S40} {f g : Int → Int} {i : Int} (h : ∀ j ∈ ch sp i, f j = g j) : spotV sp f i = spotV sp g i := waysV_congr _ _ h
theorem minV_rng {a : Int} (h : 0 ≤ a) : 0 ≤ minV a ∧ minV a ≤ 1099511627777 := by unfold minV; split <;> omega
/-- What is counted, as far as it is counted. -/
structure CA (sp : List S40) (m : List Int) (P : Int → Prop) : Prop where
  len : (m.length : Int) = sp.length
  rng : ∀ x : Int, 0 ≤ x → x < sp.length → 0 ≤ rd m x ∧ rd m x ≤ 1099511627777
  fix : ∀ x : Int, 0 ≤ x → x < sp.length → P x → rd m x = spotV sp (rd m) x
  zero : ∀ x : Int, 0 ≤ x → x < sp.length → ¬ P x → rd m x = 0
theorem CA.uniq {sp : List S40} {a b : List Int} (h : CA sp a (fun _ => True)) (g : CA sp b (fun _ => True)) : ∀ i : Int, Good sp i → 0 ≤ i → i < sp.length → rd a i = rd b i := by
  intro i hi
  induction hi with
  | mk i h1 h2 ih =>
    intro i0 i1
    rw [h.fix i i0 i1 trivial, g.fix i i0 i1 trivial]
    exact spotV_congr (fun j hj => ih j hj (h1 j hj).1 (h1 j hj).2)
/-- One of them is set. -/
structure U (m2 m : List Int) (i v : Int) : Prop where
  len : m2.length = m.length
  at_ : rd m2 i = v
  other : ∀ x : Int, 0 ≤ x → x ≠ i → rd m2 x = rd m x
theorem U.set {m2 m : List Int} {i v w : Int} (h : U m2 m i v) (i0 : 0 ≤ i) (i1 : i < m.length) : U (m2.set i.toNat w) m i w := by
  have hl := h.len
  exact ⟨by rw [List.length_set]; exact hl, rd_set_eq _ _ _ i0 (by omega), fun x x0 hx => by rw [rd_set_ne _ _ _ _ i0 x0 hx]; exact h.other x x0 hx⟩
theorem CA.put {sp : List S40} {m m2 : List Int} {P : Int → Prop} {i v : Int} (h : CA sp m P) (i0 : 0 ≤ i) (i1 : i < sp.length) (hi : ¬ P i) (hr : ∀ x, P x → 0 ≤ x) (hP : ∀ x, P x → ∀ j ∈ ch sp x, P j) (hc : ∀ j ∈ ch sp i, P j) (u : U m2 m i v) (hv : v = spotV sp (rd m) i) (v0 : 0 ≤ v) (v1 : v ≤ 1099511627777) :
    CA sp m2 (fun x => P x ∨ x = i) := by
  have hl := h.len
  have ul := u.len
  have ec : ∀ x : Int, (∀ j ∈ ch sp x, P j) → spotV sp (rd m2) x = spotV sp (rd m) x := fun x hx =>
    spotV_congr (fun j hj => u.other j (hr j (hx j hj)) (fun q => hi (q ▸ hx j hj)))
  refine ⟨by omega, fun x x0 x1 => ?_, fun x x0 x1 hx => ?_, fun x x0 x1 hx => ?_⟩
  · by_cases e : x = i
    · rw [e, u.at_]; exact ⟨v0, v1⟩
    · rw [u.other x x0 e]; exact h.rng x x0 x1
  · by_cases e : x = i
    · rw [e, u.at_, ec i hc]; exact hv
    · have px : P x := hx.elim id (fun q => absurd q e)
      rw [u.other x x0 e, ec x (hP x px)]; exact h.fix x x0 x1 px
  · rw [u.other x x0 (fun q => hx (.inr q))]
    exact h.zero x x0 x1 (fun q => hx (.inl q))
theorem wayV_take {f : Int → Int} {t : List Int} {x : Int} (x0 : 0 ≤ x) (x1 : x < t.length) : wayV f (t.take (x + 1).toNat) = capV (wayV f (t.take x.toNat)) (f (rd t x)) := by
  unfold wayV
  rw [take_rd x0 x1, List.foldl_append]; rfl
theorem waysV_take {f : Int → Int} {ws : List (List Int)} {c z : Int} (c0 : 0 ≤ c) (c1 : c < ws.length) : waysV f (ws.take (c + 1).toNat) z = minV (waysV f (ws.take c.toNat) z + wayV f ((rd_L1 ws c).drop 1)) := by
  have h : c.toNat < ws.length := by omega
  have e : rd_L1 ws c = ws[c.toNat] := by simp [rd_L1, List.getD_eq_getElem?_getD, List.getElem?_eq_getElem h]
  unfold waysV
  rw [show (c + 1).toNat = c.toNat + 1 by omega, List.take_succ_eq_append_getElem h, List.foldl_append, e]; rfl
theorem mem_chl {ws : List (List Int)} {c : Int} (c0 : 0 ≤ c) (c1 : c < ws.length) : ∀ j ∈ (rd_L1 ws c).drop 1, j ∈ chl ws := by
  intro j hj
  unfold chl
  exact List.mem_flatMap.2 ⟨_, rdL_mem c0 c1, hj⟩
theorem waysV_rng {f : Int → Int} : ∀ (ws : List (List Int)) (z : Int), 0 ≤ z → z ≤ 1099511627777 → (∀ j ∈ chl ws, 0 ≤ f j ∧ f j ≤ 1099511627777) → 0 ≤ waysV f ws z ∧ waysV f ws z ≤ 1099511627777
  | [], z, h0, h1, _ => ⟨h0, h1⟩
  | w :: ws, z, h0, h1, h => by
    have a := wayV_rng (f := f) (w.drop 1) 1 (by omega) (by omega) (fun j hj => h j (by unfold chl; rw [List.flatMap_cons]; exact List.mem_append.2 (.inl hj)))
    have b := minV_rng (a := z + wayV f (w.drop 1)) (by unfold wayV; omega)
    exact waysV_rng ws _ b.1 b.2 (fun j hj => h j (by unfold chl at hj ⊢; rw [List.flatMap_cons]; exact List.mem_append.2 (.inr hj)))
section
variable {sp : List S40} (hsz : Sz sp) (hn : sp.length ≤ 200) {root : Int} (r0 : 0 ≤ root) (r1 : root < sp.length) {l : List Int} (hl : Topo sp l)
include hsz hn r0 r1 hl
/-- What a place in the order tells. -/
theorem at_l {q : Int} (q0 : 0 ≤ q) (q1 : q < l.length) : (0 ≤ rd l q ∧ rd l q < (sp.length : Int)) ∧ rd l q ∉ l.take q.toNat ∧ (∀ j ∈ ch sp (rd l q), j ∈ l.take q.toNat) ∧ l.take (q + 1).toNat = l.take q.toNat ++ [rd l q] := by
  have e : l = l.take q.toNat ++ rd l q :: l.drop (q + 1).toNat := by
    rw [← drop_rd q0 q1, List.take_append_drop]
  have nd := hl.nd
  rw [e, List.nodup_append] at nd
  exact ⟨hl.rng _ (rd_mem q0 q1), fun h => nd.2.2 _ h _ (by simp) rfl, hl.top _ _ _ e, take_rd q0 q1⟩
theorem take_closed {n : Nat} : ∀ x ∈ l.take n, ∀ j ∈ ch sp x, j ∈ l.take n := by
  intro x hx j hj
  obtain ⟨a, b, e⟩ := List.append_of_mem hx
  have e2 : l = a ++ x :: (b ++ l.drop n) := by
    have h := (List.take_append_drop n l).symm
    rw [e] at h
    exact h.trans (by simp)
  rw [e]
  exact List.mem_append.2 (.inl (hl.top a x _ e2 j hj))
theorem llen : l.length ≤ 200 := by
  have := nodupI_le sp.length l hl.nd hl.rng; omega
theorem pcnt_l2 {J : Int × Int → Prop} {m m2 : List Int} {i v q c : Int} {ws : List (List Int)} {t : List Int} (hm : CA sp m (fun x => x ∈ l.take q.toNat)) (i0 : 0 ≤ i) (i1 : i < sp.length) (hi : i ∉ l.take q.toNat) (u : U m2 m i v) (v0 : 0 ≤ v) (v1 : v ≤ 1099511627777) (ht : t.length ≤ 1048576) (hj : ∀ j ∈ t, j ∈ l.take q.toNat)
    (hk : EvP (fun k => thicket_Count.l1 k l (m2.set i.toNat (minV (v + wayV (rd m) t))) i (l.length : Int) q ws (ws.length : Int) (wrap64 (c + 1)) sp root) J) :
    EvP (fun k => thicket_Count.l2 k l m2 i 1 (l.length : Int) q ws (ws.length : Int) c t (t.length : Int) 0 sp root) J := by
  have ul := u.len
  have ml := hm.len
  have vals : ∀ j ∈ t, 0 ≤ j ∧ j < (sp.length : Int) ∧ rd m2 j = rd m j ∧ 0 ≤ rd m j ∧ rd m j ≤ 1099511627777 := by
    intro j hjt
    have h1 := hj j hjt
    have h2 := hl.rng j (List.mem_of_mem_take h1)
    have h3 := hm.rng j h2.1 h2.2
    exact ⟨h2.1, h2.2, u.other j h2.1 (fun e => hi (e ▸ h1)), h3.1, h3.2⟩
  refine EvP.loop (σ := Int) (L := fun k x n => thicket_Count.l2 k l m2 i n (l.length : Int) q ws (ws.length : Int) c t (t.length : Int) x sp root) (n := (t.length : Int)) (fun x n => n = wayV (rd m) (t.take x.toNat)) ?_ ?_ 0 1 (Int.le_refl _) (by omega) rfl
  · rintro n rfl
    rw [Int.toNat_natCast, List.take_length]
    have w := wayV_rng (f := rd m) t 1 (by omega) (by omega) (fun j hjt => (vals j hjt).2.2.2)
    refine EvP.step (fun k => thicket_Count.l2.eq_2 _ _ _ _ _ _ _ _ _ _ _ _ _ _ k) ?_
    refine EvP.neg (by omega) (EvP.pos i0 (EvP.pos (by omega) ?_))
    have e : mn (wrap64 (rd m2 i + wayV (rd m) t)) 1099511627777 = minV (v + wayV (rd m) t) := by
      have w' : 0 ≤ wayV (rd m) t ∧ wayV (rd m) t ≤ 1099511627777 := w
      rw [u.at_, w64 (by omega) (by omega)]
      unfold mn minV
      split <;> split <;> omega
    rw [e]; exact hk
  · rintro x n x0 x1 rfl hn2
    have hx := vals _ (rd_mem x0 x1)
    have w := wayV_rng (f := rd m) (t.take x.toNat) 1 (by omega) (by omega) (fun j hjt => (vals j (List.mem_of_mem_take hjt)).2.2.2)
    have w' : 0 ≤ wayV (rd m) (t.take x.toNat) ∧ wayV (rd m) (t.take x.toNat) ≤ 1099511627777 := w
    have hst := hn2 (wayV (rd m) (t.take (x + 1).toNat)) rfl
    rw [wayV_take x0 x1] at hst
    refine EvP.step (fun k => thicket_Count.l2.eq_2 _ _ _ _ _ _ _ _ _ _ _ _ _ _ k) ?_
    rw [w64 (x := x + 1) (by omega) (by omega), hx.2.2.1]
    refine EvP.pos x1 (EvP.pos x0 (EvP.pos x1 (EvP.pos hx.1 (EvP.pos (by omega) ?_))))
    generalize wayV (rd m) (t.take x.toNat) = n at hst w' ⊢
    have hmj := hx.2.2.2
    generalize rd m (rd t x) = b at hst hmj ⊢
    by_cases b0 : b > 0
    · have e : wrap64 (Int.tdiv 1099511627777 b) = 1099511627777 / b := by
        rw [td (by omega)]
        have h1 := Int.ediv_nonneg (a := 1099511627777) (b := b) (by omega) (by omega)
        have h2 := Int.ediv_le_self (a := 1099511627777) b (by omega)
        exact w64 (by omega) (by omega)
      refine EvP.pos b0 (EvP.neg (by omega) ?_)
      rw [e]
      by_cases c2 : n > 1099511627777 / b
      · refine EvP.pos c2 ?_
        have n0 : n ≠ 0 := by
          have h1 := Int.ediv_nonneg (a := 1099511627777) (b := b) (by omega) (by omega)
          omega
        have e2 : capV n b = 1099511627777 := by unfold capV; rw [if_neg (by omega), if_pos c2]
        rw [e2] at hst; exact hst
      · refine EvP.neg c2 ?_
        have r := capV_rng w'.1 w'.2 hmj.1 hmj.2
        have e2 : capV n b = n * b := by
          unfold capV
          by_cases n0 : n = 0
          · rw [if_pos (.inl n0), n0]; simp
          · rw [if_neg (by omega), if_neg c2]
        rw [e2] at hst r
        rw [w64 (x := n * b) (by omega) (by omega)]; exact hst
    · have hb : b = 0 := by omega
      subst hb
      refine EvP.neg b0 ?_
      have e2 : capV n 0 = 0 := by unfold capV; rw [if_pos (.inr rfl)]
      rw [e2] at hst
      rw [Int.mul_zero, w64 (x := 0) (by omega) (by omega)]; exact hst
theorem pcnt_l1 {J : Int × Int → Prop} {m m2 : List Int} {i q : Int} {z : Int} (hm : CA sp m (fun x => x ∈ l.take q.toNat)) (q0 : 0 ≤ q) (q1 : q < l.length) (ei : i = rd l q) (u : U m2 m i z) (hz : z = if (rd_T40 sp i).f3.length = 0 then 1 else 0)
    (hk : ∀ m3, CA sp m3 (fun x => x ∈ l.take (q + 1).toNat) → EvP (fun k => thicket_Count.l0 k l m3 (l.length : Int) (q + 1) sp root) J) :
    EvP (fun k => thicket_Count.l1 k l m2 i (l.length : Int) q (rd_T40 sp i).f3 ((rd_T40 sp i).f3.length : Int) 0 sp root) J := by
  obtain ⟨hr, hi, hc, et⟩ := at_l hsz hn r0 r1 hl q0 q1
  have hll := llen hsz hn r0 r1 hl
  rw [← ei] at hr hi hc et
  have hx := hsz.each _ (rdS_mem hr.1 hr.2)
  have hch : ch sp i = chl (rd_T40 sp i).f3 := rfl
  have hsv : spotV sp (rd m) i = waysV (rd m) (rd_T40 sp i).f3 z := by rw [hz]; rfl
  have hzr : 0 ≤ z ∧ z ≤ 1099511627777 := by rw [hz]; split <;> omega
  generalize (rd_T40 sp i).f3 = ws at hx hch hsv ⊢
  rw [hch] at hc
  have vals : ∀ j ∈ chl ws, 0 ≤ rd m j ∧ rd m j ≤ 1099511627777 := fun j hj => by
    have h2 := hl.rng j (List.mem_of_mem_take (hc j hj))
    exact hm.rng j h2.1 h2.2
  refine EvP.loop (σ := List Int) (L := fun k c m2 => thicket_Count.l1 k l m2 i (l.length : Int) q ws (ws.length : Int) c sp root) (n := (ws.length : Int)) (fun c m2 => U m2 m i (waysV (rd m) (ws.take c.toNat) z)) ?_ ?_ 0 m2 (Int.le_refl _) (by omega) u
  · intro m3 u3
    rw [Int.toNat_natCast, List.take_length] at u3
    refine EvP.step (fun k => thicket_Count.l1.eq_2 _ _ _ _ _ _ _ _ _ _ k) ?_
    rw [w64 (x := q + 1) (by omega) (by omega)]
    have rg := waysV_rng (f := rd m) ws z hzr.1 hzr.2 vals
    refine EvP.neg (by omega) (hk m3 ?_)
    have := hm.put hr.1 hr.2 hi (fun x hx => (hl.rng x (List.mem_of_mem_take hx)).1) (take_closed hsz hn r0 r1 hl) (by rw [hch]; exact hc) u3 hsv.symm rg.1 rg.2
    rw [et]
    refine ⟨this.len, this.rng, fun x x0 x1 hx => this.fix x x0 x1 ?_, fun x x0 x1 hx => this.zero x x0 x1 ?_⟩
    · simpa using hx
    · simpa using hx
  · intro c m3 c0 c1 u3 hn2
    have rg : 0 ≤ waysV (rd m) (ws.take c.toNat) z ∧ waysV (rd m) (ws.take c.toNat) z ≤ 1099511627777 := waysV_rng (f := rd m) _ z hzr.1 hzr.2 (fun j hj => vals j (by
      unfold chl at hj ⊢
      obtain ⟨w, hw, hj⟩ := List.mem_flatMap.1 hj
      exact List.mem_flatMap.2 ⟨w, List.mem_of_mem_take hw, hj⟩))
    have hw := hx.2.2 _ (rdL_mem c0 c1)
    have mq := mn1 _ hw
    refine EvP.step (fun k => thicket_Count.l1.eq_2 _ _ _ _ _ _ _ _ _ _ k) ?_
    rw [mq.2.2]
    refine EvP.pos c1 (EvP.pos c0 (EvP.pos c1 (EvP.pos mq.1 (EvP.pos mq.2.1 ?_))))
    simp only [Option.bind_some]
    refine pcnt_l2 hsz hn r0 r1 hl hm hr.1 hr.2 hi u3 rg.1 rg.2 (by rw [List.length_drop]; omega) (fun j hj => hc j (mem_chl c0 c1 j hj)) ?_
    rw [w64 (x := c + 1) (by omega) (by omega)]
    refine hn2 _ ?_
    rw [waysV_take c0 c1]
    exact u3.set hr.1 (by have := hm.len; omega)
theorem pcnt_l0 : EvP (fun k => thicket_Count.l0 k l (List.replicate sp.length 0) (l.length : Int) 0 sp root) (fun r => ∃ m, CA sp m (fun _ => True) ∧ r = if rd m root > 1099511627776 then (0, 1) else (rd m root, 0)) := by
  have hll := llen hsz hn r0 r1 hl
  have hz : ∀ x : Int, rd (List.replicate sp.length 0) x = 0 := fun x => by
    simp only [rd, List.getD_eq_getElem?_getD, List.getElem?_replicate]; split <;> rfl
  refine EvP.loop (σ := List Int) (L := fun k q m => thicket_Count.l0 k l m (l.length : Int) q sp root) (n := (l.length : Int)) (fun q m => CA sp m (fun x => x ∈ l.take q.toNat)) ?_ ?_ 0 _ (Int.le_refl _) (by omega) ?_
  · intro m hm
    rw [Int.toNat_natCast, List.take_length] at hm
    have hml := hm.len
    have hT : CA sp m (fun _ => True) := ⟨hm.len, hm.rng, fun x x0 x1 _ => hm.fix x x0 x1 (hl.all x x0 x1), fun x x0 x1 h => absurd trivial h⟩
    refine EvP.step (fun k => thicket_Count.l0.eq_2 _ _ _ _ _ _ k) ?_
    refine EvP.neg (by omega) (EvP.pos r0 (EvP.pos (by omega) ?_))
    by_cases c : rd m root > 1099511627776
    · exact EvP.pos c (EvP.now ⟨m, hT, by rw [if_pos c]⟩)
    · exact EvP.neg c (EvP.now ⟨m, hT, by rw [if_neg c]⟩)
  · intro q m q0 q1 hm hn2
    have hml := hm.len
    obtain ⟨hr, hi, hc, et⟩ := at_l hsz hn r0 r1 hl q0 q1
    have m0 := hm.zero _ hr.1 hr.2 hi
    have u0 : U m m (rd l q) 0 := ⟨rfl, m0, fun _ _ _ => rfl⟩
    refine EvP.step (fun k => thicket_Count.l0.eq_2 _ _ _ _ _ _ k) ?_
    refine EvP.pos q1 (EvP.pos q0 (EvP.pos q1 (EvP.pos hr.1 (EvP.pos hr.2 ?_))))
    by_cases c : ((rd_T40 sp (rd l q)).f3.length : Int) = 0
    · refine EvP.pos c (EvP.pos (by omega) ?_)
      refine EvP.step (fun k => thicket_Count.j1.eq_2 _ _ _ _ _ _ _ k) ?_
      exact EvP.pos hr.1 (EvP.pos hr.2 (pcnt_l1 hsz hn r0 r1 hl hm q0 q1 rfl (u0.set hr.1 (by omega)) (by rw [if_pos (by omega)]) (fun m3 h3 => hn2 m3 h3)))
    · refine EvP.neg c ?_
      refine EvP.step (fun k => thicket_Count.j1.eq_2 _ _ _ _ _ _ _ k) ?_
      exact EvP.pos hr.1 (EvP.pos hr.2 (pcnt_l1 hsz hn r0 r1 hl hm q0 q1 rfl u0 (by rw [if_neg (by omega)]) (fun m3 h3 => hn2 m3 h3)))
  · exact ⟨by rw [List.length_replicate], fun x _ _ => by rw [hz]; omega, fun x _ _ hx => by simp at hx, fun x _ _ _ => hz x⟩
end
theorem pcount_ev {sp : List S40} (hsz : Sz sp) (root : Int) : EvP (fun k => thicket_Count.f k sp root) (fun r => (AllG sp root → ∃ m, CA sp m (fun _ => True) ∧ r = if rd m root > 1099511627776 then (0, 1) else (rd m root, 0)) ∧ (¬ AllG sp root → r = (0, 3))) := by
  unfold thicket_Count.f
  refine EvP.bindP (order_ev hsz root) (fun r hr => ?_)
  by_cases c : r.2 = true
  · have hg := hr.1.1 c
    have hn := hg.1
    refine EvP.pos c (EvP.pos (by omega) (EvP.pos (by omega) ?_))
    rw [Int.toNat_natCast]
    exact (pcnt_l0 hsz hn hg.2.1 hg.2.2.1 (hr.2.1 c)).mono (fun q hq => ⟨fun _ => hq, fun z => absurd hg z⟩)
  · exact EvP.neg c (EvP.now ⟨fun z => absurd (hr.1.2 z) c, fun _ => rfl⟩)

/-! ### all numbers of a thicket -/
def numsW (ws : List (List Int)) : List Int := ws.flatMap (fun w => (w.length : Int) :: w)
def numS (s : S40) : List Int := [s.f0, s.f1, s.f2, (s.f3.length : Int)] ++ numsW s.f3
def numsS (sp : List S40) : List Int := sp.flatMap numS
def numF (sp : List S40) (root : Int) : List Int := [root, (sp.length : Int)] ++ numsS sp
theorem numsW_len (ws : List (List Int)) : (numsW ws).length = (ws.map fun l : List Int => (l.map fun _ => 1).sum + 1).sum := by
  induction ws with
  | nil => rfl
  | cons w ws ih =>
    rw [List.map_cons, List.sum_cons, ones_sum, ← ih]
    unfold numsW
    rw [List.flatMap_cons, List.length_append, List.length_cons]
theorem numsS_len (sp : List S40) : (numsS sp).length ≤ (sp.map fun x : S40 => (1 + (1 + (1 + ((x.f3.map fun l : List Int => (l.map fun _ => 1).sum + 1).sum + 1)))) + 1).sum := by
  induction sp with
  | nil => exact Nat.le_refl _
  | cons s sp ih =>
    rw [List.map_cons, List.sum_cons]
    unfold numsS at ih ⊢
    rw [List.flatMap_cons, List.length_append]
    have : (numS s).length = 4 + (numsW s.f3).length := by unfold numS; rw [List.length_append]; rfl
    rw [this, numsW_len]
    omega
theorem numF_len {sp : List S40} (h : bulkS sp ≤ 1048576) (root : Int) : (numF sp root).length ≤ 1048576 := by
  have := numsS_len sp
  unfold bulkS at h
  unfold numF
  rw [List.length_append]
  show 2 + _ ≤ _
  omega
theorem flat_take {α β : Type} (f : α → List β) (l : List α) (n : Nat) : (l.take n).flatMap f ++ (l.drop n).flatMap f = l.flatMap f := by
  rw [← List.flatMap_append, List.take_append_drop]
theorem flat_take_len {α β : Type} (f : α → List β) (l : List α) (n : Nat) : ((l.take n).flatMap f).length ≤ (l.flatMap f).length := by
  rw [← flat_take f l n, List.length_append]; omega
theorem numsW_take {ws : List (List Int)} {c : Int} (c0 : 0 ≤ c) (c1 : c < ws.length) : numsW (ws.take (c + 1).toNat) = numsW (ws.take c.toNat) ++ (((rd_L1 ws c).length : Int) :: rd_L1 ws c) := by
  have h : c.toNat < ws.length := by omega
  have e : rd_L1 ws c = ws[c.toNat] := by simp [rd_L1, List.getD_eq_getElem?_getD, List.getElem?_eq_getElem h]
  unfold numsW
  rw [show (c + 1).toNat = c.toNat + 1 by omega, List.take_succ_eq_append_getElem h, List.flatMap_append, List.flatMap_singleton, e]
theorem numsS_take {sp : List S40} {i : Int} (i0 : 0 ≤ i) (i1 : i < sp.length) : numsS (sp.take (i + 1).toNat) = numsS (sp.take i.toNat) ++ numS (rd_T40 sp i) := by
  have h : i.toNat < sp.length := by omega
  have e : rd_T40 sp i = sp[i.toNat] := by simp [rd_T40, List.getD_eq_getElem?_getD, List.getElem?_eq_getElem h]
  unfold numsS
  rw [show (i + 1).toNat = i.toNat + 1 by omega, List.take_succ_eq_append_getElem h, List.flatMap_append, List.flatMap_singleton, e]
section
variable {sp : List S40} (hb : bulkS sp ≤ 1048576) (root : Int)
include hb
theorem store_numbers_ev : Ev (fun k => store_numbers.f k sp root) (numF sp root) := by
  have hF := numF_len hb root
  have hlen : (numF sp root).length = 2 + (numsS sp).length := by unfold numF; rw [List.length_append]; rfl
  have hsp : sp.length ≤ 1048576 := by
    have : sp.length ≤ (numsS sp).length := by
      clear hF hlen hb
      induction sp with
      | nil => exact Nat.le_refl _
      | cons s sp ih =>
        unfold numsS at ih ⊢
        rw [List.flatMap_cons, List.length_append, List.length_cons]
        have : 4 ≤ (numS s).length := by unfold numS; rw [List.length_append]; show 4 ≤ 4 + _; omega
        omega
    omega
  unfold store_numbers.f
  refine Ev.loopc (σ := List Int) (L := fun k i o => store_numbers.l0 k o sp (sp.length : Int) i) (n := (sp.length : Int)) (fun i o => o = [root, (sp.length : Int)] ++ numsS (sp.take i.toNat)) ?_ ?_ 0 _ (Int.le_refl _) (by omega) rfl
  · rintro o rfl
    refine Ev.step (fun k => store_numbers.l0.eq_2 _ _ _ _ k) ?_
    exact Ev.neg (by omega) (Ev.val (by rw [Int.toNat_natCast, List.take_length]; rfl))
  · rintro i o i0 i1 rfl hn
    have hx := (Sz.of hb).each _ (rdS_mem i0 i1)
    have l1 : (numsS (sp.take (i + 1).toNat)).length ≤ (numsS sp).length := flat_take_len _ _ _
    have hw1 : ∀ c : Nat, (numsW ((rd_T40 sp i).f3.take c)).length ≤ (numsW (rd_T40 sp i).f3).length := fun c => flat_take_len _ _ _
    have hs1 : (numS (rd_T40 sp i)).length = 4 + (numsW (rd_T40 sp i).f3).length := by unfold numS; rw [List.length_append]; rfl
    have hst := hn ([root, (sp.length : Int)] ++ numsS (sp.take (i + 1).toNat)) rfl
    rw [numsS_take i0 i1] at l1 hst
    rw [List.length_append] at l1
    obtain ⟨A, hA⟩ : ∃ A, numsS (sp.take i.toNat) = A := ⟨_, rfl⟩
    rw [hA] at l1 hst
    have hr : numS (rd_T40 sp i) = [(rd_T40 sp i).f0, (rd_T40 sp i).f1, (rd_T40 sp i).f2, ((rd_T40 sp i).f3.length : Int)] ++ numsW (rd_T40 sp i).f3 := rfl
    rw [hr] at hst
    refine Ev.step (fun k => store_numbers.l0.eq_2 _ _ _ _ k) ?_
    rw [hA]
    generalize rd_T40 sp i = s at hx hw1 hs1 l1 hst ⊢
    refine Ev.pos i1 (Ev.pos i0 (Ev.pos i1 ?_))
    simp only [Option.bind_some]
    refine Ev.pos (by simp only [List.length_append, List.length_cons, List.length_nil]; omega) ?_
    refine Ev.loopc (σ := List Int) (L := fun k c o => store_numbers.l1 k o sp (sp.length : Int) i s.f3 (s.f3.length : Int) c) (n := (s.f3.length : Int)) (fun c o => o = ([root, (sp.length : Int)] ++ A ++ [s.f0, s.f1, s.f2, (s.f3.length : Int)]) ++ numsW (s.f3.take c.toNat)) ?_ ?_ 0 ([root, (sp.length : Int)] ++ A ++ [s.f0, s.f1, s.f2, (s.f3.length : Int)]) (Int.le_refl _) (by omega) (by simp [numsW])
    · rintro o rfl
      rw [Int.toNat_natCast, List.take_length]
      refine Ev.step (fun k => store_numbers.l1.eq_2 _ _ _ _ _ _ _ k) ?_
      rw [w64 (x := i + 1) (by omega) (by omega)]
      refine Ev.neg (by omega) ?_
      rw [List.append_assoc, List.append_assoc]; exact hst
    · rintro c o c0 c1 rfl hn2
      have h2 := hw1 (c + 1).toNat
      have hst2 := hn2 (([root, (sp.length : Int)] ++ A ++ [s.f0, s.f1, s.f2, (s.f3.length : Int)]) ++ numsW (s.f3.take (c + 1).toNat)) rfl
      rw [numsW_take c0 c1] at h2 hst2
      rw [List.length_append, List.length_cons] at h2
      refine Ev.step (fun k => store_numbers.l1.eq_2 _ _ _ _ _ _ _ k) ?_
      rw [w64 (x := c + 1) (by omega) (by omega)]
      refine Ev.pos c1 (Ev.pos c0 (Ev.pos c1 ?_))
      simp only [Option.bind_some]
      refine Ev.pos (by simp only [List.length_append, List.length_cons, List.length_nil]; omega) (Ev.pos (by simp only [List.length_append, List.length_cons, List.length_nil]; omega) ?_)
      have e : ∀ X W : List Int, ∀ z : Int, X ++ W ++ [z] ++ rd_L1 s.f3 c = X ++ (W ++ z :: rd_L1 s.f3 c) := fun X W z => by simp
      rw [e]; exact hst2
theorem coppicerref_Numbers_ev : Ev (fun k => coppicerref_Numbers.f k sp root) (numF sp root) := by
  have hF := numF_len hb root
  have hlen : (numF sp root).length = 2 + (numsS sp).length := by unfold numF; rw [List.length_append]; rfl
  have hsp : sp.length ≤ 1048576 := by
    have : sp.length ≤ (numsS sp).length := by
      clear hF hlen hb
      induction sp with
      | nil => exact Nat.le_refl _
      | cons s sp ih =>
        unfold numsS at ih ⊢
        rw [List.flatMap_cons, List.length_append, List.length_cons]
        have : 4 ≤ (numS s).length := by unfold numS; rw [List.length_append]; show 4 ≤ 4 + _; omega
        omega
    omega
  unfold coppicerref_Numbers.f
  refine Ev.loopc (σ := List Int) (L := fun k i o => coppicerref_Numbers.l0 k o sp (sp.length : Int) i) (n := (sp.length : Int)) (fun i o => o = [root, (sp.length : Int)] ++ numsS (sp.take i.toNat)) ?_ ?_ 0 _ (Int.le_refl _) (by omega) rfl
  · rintro o rfl
    refine Ev.step (fun k => coppicerref_Numbers.l0.eq_2 _ _ _ _ k) ?_
    exact Ev.neg (by omega) (Ev.val (by rw [Int.toNat_natCast, List.take_length]; rfl))
  · rintro i o i0 i1 rfl hn
    have hx := (Sz.of hb).each _ (rdS_mem i0 i1)
    have l1 : (numsS (sp.take (i + 1).toNat)).length ≤ (numsS sp).length := flat_take_len _ _ _
    have hw1 : ∀ c : Nat, (numsW ((rd_T40 sp i).f3.take c)).length ≤ (numsW (rd_T40 sp i).f3).length := fun c => flat_take_len _ _ _
    have hs1 : (numS (rd_T40 sp i)).length = 4 + (numsW (rd_T40 sp i).f3).length := by unfold numS; rw [List.length_append]; rfl
    have hst := hn ([root, (sp.length : Int)] ++ numsS (sp.take (i + 1).toNat)) rfl
    rw [numsS_take i0 i1] at l1 hst
    rw [List.length_append] at l1
    obtain ⟨A, hA⟩ : ∃ A, numsS (sp.take i.toNat) = A := ⟨_, rfl⟩
    rw [hA] at l1 hst
    have hr : numS (rd_T40 sp i) = [(rd_T40 sp i).f0, (rd_T40 sp i).f1, (rd_T40 sp i).f2, ((rd_T40 sp i).f3.length : Int)] ++ numsW (rd_T40 sp i).f3 := rfl
    rw [hr] at hst
    refine Ev.step (fun k => coppicerref_Numbers.l0.eq_2 _ _ _ _ k) ?_
    rw [hA]
    generalize rd_T40 sp i = s at hx hw1 hs1 l1 hst ⊢
    refine Ev.pos i1 (Ev.pos i0 (Ev.pos i1 ?_))
    simp only [Option.bind_some]
    refine Ev.pos (by simp only [List.length_append, List.length_cons, List.length_nil]; omega) ?_
    refine Ev.loopc (σ := List Int) (L := fun k c o => coppicerref_Numbers.l1 k o sp (sp.length : Int) i s.f3 (s.f3.length : Int) c) (n := (s.f3.length : Int)) (fun c o => o = ([root, (sp.length : Int)] ++ A ++ [s.f0, s.f1, s.f2, (s.f3.length : Int)]) ++ numsW (s.f3.take c.toNat)) ?_ ?_ 0 ([root, (sp.length : Int)] ++ A ++ [s.f0, s.f1, s.f2, (s.f3.length : Int)]) (Int.le_refl _) (by omega) (by simp [numsW])
    · rintro o rfl
      rw [Int.toNat_natCast, List.take_length]
      refine Ev.step (fun k => coppicerref_Numbers.l1.eq_2 _ _ _ _ _ _ _ k) ?_
      rw [w64 (x := i + 1) (by omega) (by omega)]
      refine Ev.neg (by omega) ?_
      rw [List.append_assoc, List.append_assoc]; exact hst
    · rintro c o c0 c1 rfl hn2
      have h2 := hw1 (c + 1).toNat
      have hst2 := hn2 (([root, (sp.length : Int)] ++ A ++ [s.f0, s.f1, s.f2, (s.f3.length : Int)]) ++ numsW (s.f3.take (c + 1).toNat)) rfl
      rw [numsW_take c0 c1] at h2 hst2
      rw [List.length_append, List.length_cons] at h2
      refine Ev.step (fun k => coppicerref_Numbers.l1.eq_2 _ _ _ _ _ _ _ k) ?_
      rw [w64 (x := c + 1) (by omega) (by omega)]
      refine Ev.pos c1 (Ev.pos c0 (Ev.pos c1 ?_))
      simp only [Option.bind_some]
      refine Ev.pos (by simp only [List.length_append, List.length_cons, List.length_nil]; omega) (Ev.pos (by simp only [List.length_append, List.length_cons, List.length_nil]; omega) ?_)
      have e : ∀ X W : List Int, ∀ z : Int, X ++ W ++ [z] ++ rd_L1 s.f3 c = X ++ (W ++ z :: rd_L1 s.f3 c) := fun X W z => by simp
      rw [e]; exact hst2
end
/-! ### two bytes each -/
def packF (l : List Int) : List Int := l.flatMap (fun a => [a % 256, (a / 256) % 256])
theorem packF_len (l : List Int) : (packF l).length = 2 * l.length := by
  induction l with
  | nil => rfl
  | cons a l ih =>
    unfold packF at ih ⊢
    rw [List.flatMap_cons, List.length_append, ih]
    simp only [List.length_cons, List.length_nil]
    omega
theorem packF_take {l : List Int} {i : Int} (i0 : 0 ≤ i) (i1 : i < l.length) : packF (l.take (i + 1).toNat) = packF (l.take i.toNat) ++ [rd l i % 256, (rd l i / 256) % 256] := by
  unfold packF
  rw [take_rd i0 i1, List.flatMap_append, List.flatMap_singleton]
theorem packF_byte {l : List Int} : ∀ x ∈ packF l, 0 ≤ x ∧ x ≤ 255 := by
  intro x hx
  unfold packF at hx
  obtain ⟨a, _, h⟩ := List.mem_flatMap.1 hx
  simp only [List.mem_cons, List.not_mem_nil, or_false] at h
  rcases h with rfl | rfl <;> omega
theorem two_eq {b : List Int} (h : b.length ≤ 1000000) (a : Int) : store_two.f b a = some (b ++ [a % 256, (a / 256) % 256]) := by
  unfold store_two.f
  rw [Option.bind_some, if_pos (by show b.length + 2 < _; omega)]
/-! ### their sum -/
def sT : List Int → Int × Int → Int × Int
  | [], p => p
  | c :: l, p => sT l (p.1 + c, p.2 + (p.1 + c))
theorem sT_app : ∀ (a : List Int) (c : Int) (p : Int × Int), sT (a ++ [c]) p = ((sT a p).1 + c, (sT a p).2 + ((sT a p).1 + c))
  | [], _, _ => rfl
  | x :: a, c, p => by
    show sT (a ++ [c]) _ = _
    rw [sT_app a c]; rfl
theorem sT_take {b : List Int} {i : Int} (i0 : 0 ≤ i) (i1 : i < b.length) : sT (b.take (i + 1).toNat) (0, 0) = ((sT (b.take i.toNat) (0, 0)).1 + rd b i, (sT (b.take i.toNat) (0, 0)).2 + ((sT (b.take i.toNat) (0, 0)).1 + rd b i)) := by
  rw [take_rd i0 i1, sT_app]
theorem sT_rng : ∀ (b : List Int) (p : Int × Int) (n : Int), (∀ x ∈ b, 0 ≤ x ∧ x ≤ 255) → 0 ≤ p.1 → p.1 ≤ 255 * n → 0 ≤ p.2 → p.2 ≤ 255 * 5000 * n → 0 ≤ n → n + b.length ≤ 5000 → 0 ≤ (sT b p).1 ∧ (sT b p).1 ≤ 255 * 5000 ∧ 0 ≤ (sT b p).2 ∧ (sT b p).2 ≤ 255 * 5000 * 5000
  | [], p, n, _, h1, h2, h3, h4, h5, h6 => by
    simp only [List.length_nil] at h6
    exact ⟨h1, by show p.1 ≤ _; omega, h3, by show p.2 ≤ _; omega⟩
  | c :: b, p, n, hb, h1, h2, h3, h4, h5, h6 => by
    have hc := hb c (by simp)
    rw [List.length_cons] at h6
    exact sT_rng b (p.1 + c, p.2 + (p.1 + c)) (n + 1) (fun x hx => hb x (by simp [hx])) (by show 0 ≤ p.1 + c; omega) (by show p.1 + c ≤ _; omega) (by show 0 ≤ p.2 + (p.1 + c); omega) (by show p.2 + (p.1 + c) ≤ _; omega) (by omega) (by omega)
def sumF (b : List Int) : List Int := [(sT b (0, 0)).1 % 257 % 256, ((sT b (0, 0)).1 % 257 / 256) % 256, (sT b (0, 0)).2 % 257 % 256, ((sT b (0, 0)).2 % 257 / 256) % 256]
theorem sum_ev {b : List Int} (hl : b.length ≤ 4000) (hb : ∀ x ∈ b, 0 ≤ x ∧ x ≤ 255) : Ev (fun k => store_Sum.f k b) (sumF b) := by
  unfold store_Sum.f
  refine Ev.loopc (σ := Int × Int) (L := fun k i p => store_Sum.l0 k p.1 p.2 b (b.length : Int) i) (n := (b.length : Int)) (fun i p => p = ((sT (b.take i.toNat) (0, 0)).1 % 257, (sT (b.take i.toNat) (0, 0)).2 % 257)) ?_ ?_ 0 (0, 0) (Int.le_refl _) (by omega) rfl
  · rintro p rfl
    rw [Int.toNat_natCast, List.take_length]
    refine Ev.step (fun k => store_Sum.l0.eq_2 _ _ _ _ _ k) ?_
    refine Ev.neg (by omega) ?_
    simp only [two_eq (b := []) (by simp), Option.bind_some, List.nil_append]
    rw [two_eq (by simp)]
    exact Ev.now _
  · rintro i p i0 i1 rfl hn
    have hx := hb _ (rd_mem i0 i1)
    refine Ev.step (fun k => store_Sum.l0.eq_2 _ _ _ _ _ k) ?_
    dsimp only
    have hs := hn (_, _) rfl
    rw [sT_take i0 i1] at hs
    generalize sT (b.take i.toNat) (0, 0) = p at hs ⊢
    generalize rd b i = c at hs hx ⊢
    rw [w64 (x := i + 1) (by omega) (by omega), w64 (x := c) (by omega) (by omega), w64 (x := p.1 % 257 + c) (by omega) (by omega), tm (a := p.1 % 257 + c) (by omega), w64 (x := p.2 % 257 + (p.1 % 257 + c) % 257) (by omega) (by omega), tm (a := p.2 % 257 + (p.1 % 257 + c) % 257) (by omega)]
    refine Ev.pos i1 (Ev.pos i0 (Ev.pos i1 ?_))
    have e1 : (p.1 % 257 + c) % 257 = (p.1 + c) % 257 := by omega
    have e2 : (p.2 % 257 + (p.1 % 257 + c) % 257) % 257 = (p.2 + (p.1 + c)) % 257 := by omega
    rw [e1] at e2 ⊢
    rw [e2]; exact hs
theorem rsum_ev {b : List Int} (hl : b.length ≤ 4000) (hb : ∀ x ∈ b, 0 ≤ x ∧ x ≤ 255) : Ev (fun k => coppicerref_Sum.f k b) (sumF b) := by
  unfold coppicerref_Sum.f
  have rng : ∀ n : Nat, 0 ≤ (sT (b.take n) (0, 0)).1 ∧ (sT (b.take n) (0, 0)).1 ≤ 255 * 5000 ∧ 0 ≤ (sT (b.take n) (0, 0)).2 ∧ (sT (b.take n) (0, 0)).2 ≤ 255 * 5000 * 5000 := fun n =>
    sT_rng (b.take n) (0, 0) 0 (fun x hx => hb x (List.mem_of_mem_take hx)) (by omega) (by omega) (by omega) (by omega) (by omega) (by rw [List.length_take]; omega)
  refine Ev.loopc (σ := Int × Int) (L := fun k i p => coppicerref_Sum.l0 k b p.1 p.2 i) (n := (b.length : Int)) (fun i p => p = ((sT (b.take i.toNat) (0, 0)).1, (sT (b.take i.toNat) (0, 0)).2 + ((b.length : Int) - i) * (sT (b.take i.toNat) (0, 0)).1)) ?_ ?_ 0 (0, 0) (Int.le_refl _) (by omega) (by simp [sT])
  · rintro p rfl
    rw [Int.toNat_natCast, List.take_length]
    refine Ev.step (fun k => coppicerref_Sum.l0.eq_2 _ _ _ _ k) ?_
    refine Ev.neg (by omega) (Ev.val ?_)
    have r := rng b.length
    rw [List.take_length] at r
    unfold sumF
    generalize sT b (0, 0) = p at r ⊢
    have e : p.2 + ((b.length : Int) - (b.length : Int)) * p.1 = p.2 := by rw [Int.sub_self, Int.zero_mul, Int.add_zero]
    rw [e, tm (a := p.1) r.1, tm (a := p.2) r.2.2.1, tm (a := p.1 % 257) (by omega), tm (a := p.2 % 257) (by omega), td (a := p.1 % 257) (by omega), td (a := p.2 % 257) (by omega), w64 (x := p.1 % 257 / 256) (by omega) (by omega), w64 (x := p.2 % 257 / 256) (by omega) (by omega)]
    rw [show p.1 % 257 % 256 % 256 = p.1 % 257 % 256 by omega, show p.2 % 257 % 256 % 256 = p.2 % 257 % 256 by omega]
  · rintro i p i0 i1 rfl hn
    have hx := hb _ (rd_mem i0 i1)
    have r := rng i.toNat
    refine Ev.step (fun k => coppicerref_Sum.l0.eq_2 _ _ _ _ k) ?_
    dsimp only
    have hs := hn (_, _) rfl
    rw [sT_take i0 i1] at hs
    generalize sT (b.take i.toNat) (0, 0) = p at hs r ⊢
    generalize rd b i = c at hs hx ⊢
    have b1 : 0 ≤ ((b.length : Int) - i) * p.1 := Int.mul_nonneg (by omega) r.1
    have b2 : ((b.length : Int) - i) * p.1 ≤ 4000 * (255 * 5000) := Int.mul_le_mul (by omega) r.2.1 r.1 (by omega)
    have b3 : 0 ≤ ((b.length : Int) - i) * c := Int.mul_nonneg (by omega) hx.1
    have b4 : ((b.length : Int) - i) * c ≤ 4000 * 255 := Int.mul_le_mul (by omega) hx.2 hx.1 (by omega)
    rw [w64 (x := i + 1) (by omega) (by omega), w64 (x := c) (by omega) (by omega), w64 (x := p.1 + c) (by omega) (by omega), w64 (x := (b.length : Int) - i) (by omega) (by omega), w64 (x := ((b.length : Int) - i) * c) (by omega) (by omega), w64 (x := p.2 + ((b.length : Int) - i) * p.1 + ((b.length : Int) - i) * c) (by omega) (by omega)]
    refine Ev.pos i1 (Ev.pos i0 ?_)
    have e : p.2 + ((b.length : Int) - i) * p.1 + ((b.length : Int) - i) * c = p.2 + (p.1 + c) + ((b.length : Int) - (i + 1)) * (p.1 + c) := by
      obtain ⟨d, hd⟩ : ∃ d, d = (b.length : Int) - i := ⟨_, rfl⟩
      rw [show (b.length : Int) - (i + 1) = d - 1 by omega, ← hd, Int.sub_mul, Int.one_mul, Int.mul_add]
      omega
    rw [e]; exact hs
/-! ### packed, both ways -/
def OkP (sp : List S40) (root : Int) : Prop := AllG sp root ∧ ∀ a ∈ numF sp root, 0 ≤ a ∧ a ≤ 65535
structure PR (sp : List S40) (root : Int) (r : List Int × Int) : Prop where
  large : OkP sp root → 2 * ((numF sp root).length : Int) + 4 > 4000 → r = ([], 1)
  ok : OkP sp root → ¬ 2 * ((numF sp root).length : Int) + 4 > 4000 → r = (packF (numF sp root) ++ sumF (packF (numF sp root)), 0)
  bad : ¬ OkP sp root → r = ([], 3)
theorem sound_is {sp : List S40} (hsz : Sz sp) (root : Int) : EvP (fun k => store_sound.f k sp root) (fun b => b = true ↔ AllG sp root) := by
  unfold store_sound.f
  refine EvP.bindP (pcount_ev hsz root) (fun r hr => EvP.now ?_)
  constructor
  · intro q
    apply Classical.byContradiction
    intro z
    rw [hr.2 z] at q
    simp at q
  · intro q
    obtain ⟨m, _, e⟩ := hr.1 q
    rw [e]
    by_cases d : rd m root > 1099511627776
    · rw [if_pos d]; rfl
    · rw [if_neg d]; rfl
theorem any_eq (l : List Int) : store_Pack_1_any.f l = some (l.any fun x => decide (x < 0) || decide (x > 65535)) := by
  unfold store_Pack_1_any.f
  refine anyO_of (fun x _ => ?_)
  unfold store_Pack_1.f
  by_cases h : x < 0
  · rw [if_pos h]; simp [h]
  · rw [if_neg h]; simp [h]
theorem any_iff (l : List Int) : (l.any fun x => decide (x < 0) || decide (x > 65535)) = false ↔ ∀ a ∈ l, 0 ≤ a ∧ a ≤ 65535 := by
  rw [List.any_eq_false]
  simp only [Bool.or_eq_true, decide_eq_true_eq, not_or]
  exact ⟨fun h a ha => by have := h a ha; omega, fun h a ha => by have := h a ha; omega⟩
theorem pack_l0 {l : List Int} (hl : l.length ≤ 1998) : Ev (fun k => store_Pack.l0 k l [] (l.length : Int) 0) (packF l ++ sumF (packF l), 0) := by
  have hp := packF_len l
  refine Ev.loopc (σ := List Int) (L := fun k i b => store_Pack.l0 k l b (l.length : Int) i) (n := (l.length : Int)) (fun i b => b = packF (l.take i.toNat)) ?_ ?_ 0 [] (Int.le_refl _) (by omega) rfl
  · rintro b rfl
    rw [Int.toNat_natCast, List.take_length]
    refine Ev.step (fun k => store_Pack.l0.eq_2 _ _ _ _ k) ?_
    exact Ev.neg (by omega) (Ev.bind (sum_ev (by omega) packF_byte) (Ev.pos (by show (packF l).length + 4 < _; omega) (Ev.now _)))
  · rintro i b i0 i1 rfl hn
    have h1 := packF_len (l.take i.toNat)
    rw [List.length_take] at h1
    refine Ev.step (fun k => store_Pack.l0.eq_2 _ _ _ _ k) ?_
    rw [w64 (x := i + 1) (by omega) (by omega)]
    refine Ev.pos i1 (Ev.pos i0 (Ev.pos i1 ?_))
    rw [two_eq (by omega)]
    simp only [Option.bind_some]
    exact hn _ (packF_take i0 i1).symm
theorem rpack_l1 {l : List Int} (hl : l.length ≤ 1998) (hr : ∀ a ∈ l, 0 ≤ a ∧ a ≤ 65535) : Ev (fun k => coppicerref_Packed.l1 k l [] (l.length : Int) 0) (packF l ++ sumF (packF l), 0) := by
  have hp := packF_len l
  refine Ev.loopc (σ := List Int) (L := fun k i b => coppicerref_Packed.l1 k l b (l.length : Int) i) (n := (l.length : Int)) (fun i b => b = packF (l.take i.toNat)) ?_ ?_ 0 [] (Int.le_refl _) (by omega) rfl
  · rintro b rfl
    rw [Int.toNat_natCast, List.take_length]
    refine Ev.step (fun k => coppicerref_Packed.l1.eq_2 _ _ _ _ k) ?_
    exact Ev.neg (by omega) (Ev.bind (rsum_ev (by omega) packF_byte) (Ev.pos (by show (packF l).length + 4 < _; omega) (Ev.now _)))
  · rintro i b i0 i1 rfl hn
    have h1 := packF_len (l.take i.toNat)
    rw [List.length_take] at h1
    have hx := hr _ (rd_mem i0 i1)
    have hs := hn _ (packF_take i0 i1).symm
    refine Ev.step (fun k => coppicerref_Packed.l1.eq_2 _ _ _ _ k) ?_
    generalize rd l i = a at hs hx ⊢
    rw [w64 (x := i + 1) (by omega) (by omega), tm (a := a) hx.1, td (a := a) hx.1, w64 (x := a / 256) (by omega) (by omega)]
    refine Ev.pos i1 (Ev.pos i0 (Ev.pos i1 ?_))
    simp only [Option.bind_some]
    refine Ev.pos (by show (packF (l.take i.toNat)).length + 2 < _; omega) ?_
    rw [show a % 256 % 256 = a % 256 by omega]
    exact hs
theorem pack_ev {sp : List S40} (hb : bulkS sp ≤ 1048576) (root : Int) : EvP (fun k => store_Pack.f k sp root) (PR sp root) := by
  have hsz := Sz.of hb
  have hF := numF_len hb root
  unfold store_Pack.f
  refine EvP.bind (store_numbers_ev hb root) (EvP.bindP (sound_is hsz root) (fun s hs => ?_))
  have j0 : ∀ b : Bool, (b = false ↔ OkP sp root) → EvP (fun k => store_Pack.j0 k (numF sp root) b) (PR sp root) := by
    intro b hbb
    refine EvP.step (fun k => store_Pack.j0.eq_2 _ _ k) ?_
    by_cases c : b = true
    · have nk : ¬ OkP sp root := fun q => by have := hbb.2 q; rw [c] at this; cases this
      exact EvP.pos c (EvP.now ⟨fun q => absurd q nk, fun q => absurd q nk, fun _ => rfl⟩)
    · have hk := hbb.1 (Bool.eq_false_iff.2 c)
      refine EvP.neg c ?_
      rw [w64 (x := 2 * ((numF sp root).length : Int)) (by omega) (by omega), w64 (x := 2 * ((numF sp root).length : Int) + 4) (by omega) (by omega)]
      by_cases d : 2 * ((numF sp root).length : Int) + 4 > 4000
      · exact EvP.pos d (EvP.now ⟨fun _ _ => rfl, fun _ q => absurd d q, fun q => absurd hk q⟩)
      · exact EvP.neg d (EvP.of ⟨fun _ q => absurd q d, fun _ _ => rfl, fun q => absurd hk q⟩ (pack_l0 (by omega)))
  by_cases c : s = true
  · refine EvP.pos c ?_
    rw [any_eq]
    simp only [Option.bind_some]
    refine j0 _ ?_
    rw [any_iff]
    exact ⟨fun q => ⟨hs.1 c, q⟩, fun q => q.2⟩
  · exact EvP.neg c (j0 true ⟨fun q => (by cases q), fun q => absurd (hs.2 q.1) c⟩)
theorem rpack_ev {sp : List S40} (hb : bulkS sp ≤ 1048576) (root : Int) : EvP (fun k => coppicerref_Packed.f k sp root) (PR sp root) := by
  have hsz := Sz.of hb
  have hF := numF_len hb root
  unfold coppicerref_Packed.f
  refine EvP.bindP (sound_ev hsz root) (fun s hs => EvP.bind (coppicerref_Numbers_ev hb root) ?_)
  obtain ⟨l, hl⟩ : ∃ l, l = numF sp root := ⟨_, rfl⟩
  rw [← hl] at hF ⊢
  refine EvP.loop (σ := Bool) (L := fun k i b => coppicerref_Packed.l0 k b l (l.length : Int) i) (n := (l.length : Int)) (fun i b => b = true ↔ AllG sp root ∧ ∀ a ∈ l.take i.toNat, 0 ≤ a ∧ a ≤ 65535) ?_ ?_ 0 s.2 (Int.le_refl _) (by omega) ?_
  · intro b hbb
    rw [Int.toNat_natCast, List.take_length] at hbb
    have hk : b = true ↔ OkP sp root := by unfold OkP; rw [← hl]; exact hbb
    refine EvP.step (fun k => coppicerref_Packed.l0.eq_2 _ _ _ _ k) ?_
    refine EvP.neg (by omega) ?_
    by_cases c : b = true
    · have ho := hk.1 c
      refine EvP.pos c ?_
      rw [w64 (x := 2 * (l.length : Int)) (by omega) (by omega), w64 (x := 2 * (l.length : Int) + 4) (by omega) (by omega)]
      by_cases d : 2 * (l.length : Int) + 4 > 4000
      · exact EvP.pos d (EvP.now ⟨fun _ _ => rfl, fun _ q => absurd (hl ▸ d) q, fun q => absurd ho q⟩)
      · refine EvP.neg d (EvP.of ⟨fun _ q => absurd q (hl ▸ d), fun _ _ => ?_, fun q => absurd ho q⟩ (rpack_l1 (by omega) (by rw [hl]; exact ho.2)))
        rw [hl]
    · exact EvP.neg c (EvP.now ⟨fun q => absurd (hk.2 q) c, fun q => absurd (hk.2 q) c, fun _ => rfl⟩)
  · intro i b i0 i1 hbb hn
    refine EvP.step (fun k => coppicerref_Packed.l0.eq_2 _ _ _ _ k) ?_
    rw [w64 (x := i + 1) (by omega) (by omega)]
    refine EvP.pos i1 (EvP.pos i0 (EvP.pos i1 ?_))
    have step : ∀ b2 : Bool, (b2 = true ↔ b = true ∧ 0 ≤ rd l i ∧ rd l i ≤ 65535) → EvP (fun k => coppicerref_Packed.l0 k b2 l (l.length : Int) (i + 1)) (PR sp root) := by
      intro b2 h2
      refine hn b2 ?_
      rw [take_rd i0 i1, h2, hbb]
      simp only [List.mem_append, List.mem_singleton]
      constructor
      · rintro ⟨⟨a, b⟩, q⟩
        exact ⟨a, fun x hx => hx.elim (b x) (fun e => by rw [e]; exact q)⟩
      · rintro ⟨a, b⟩
        exact ⟨⟨a, fun x hx => b x (.inl hx)⟩, b _ (.inr rfl)⟩
    by_cases c : b = true
    · refine EvP.pos c ?_
      by_cases d : rd l i ≥ 0
      · exact EvP.pos d (step _ (by rw [decide_eq_true_iff]; exact ⟨fun q => ⟨c, d, q⟩, fun q => q.2.2⟩))
      · exact EvP.neg d (step false ⟨fun q => (by cases q), fun q => absurd q.2.1 d⟩)
    · exact EvP.neg c (step false ⟨fun q => (by cases q), fun q => absurd q.1 c⟩)
  · have e : l.take (0 : Int).toNat = [] := rfl
    rw [e, hs.1]; simp
theorem StorePacks : coppicerlaw_StorePacks.Pure := by
  unfold coppicerlaw_StorePacks.Pure
  intro sp root hwf hroot hbulk
  have hb : bulkS sp ≤ 1048576 := hbulk
  have hF := numF_len hb root
  apply Ev.rounds
  unfold coppicerlaw_StorePacks.f
  refine EvP.ev (pack_ev hb root) (fun p hp => EvP.ev (rpack_ev hb root) (fun q hq => ?_))
  have e : p = q := by
    by_cases c : OkP sp root
    · by_cases d : 2 * ((numF sp root).length : Int) + 4 > 4000
      · rw [hp.large c d, hq.large c d]
      · rw [hp.ok c d, hq.ok c d]
    · rw [hp.bad c, hq.bad c]
  have hlen : (p.1.length : Int) ≤ 4611686018427387904 := by
    by_cases c : OkP sp root
    · by_cases d : 2 * ((numF sp root).length : Int) + 4 > 4000
      · rw [hp.large c d]; simp
      · rw [hp.ok c d]
        have h1 := packF_len (numF sp root)
        show ((packF (numF sp root) ++ sumF _).length : Int) ≤ _
        rw [List.length_append]
        have h2 : (sumF (packF (numF sp root))).length = 4 := rfl
        omega
    · rw [hp.bad c]; simp
  subst e
  exact Ev.pos rfl (Ev.bind (Bytes_ev _ _ hlen) (Ev.val (by simp)))

end Go.Proofs.Ytdbomblcijejcaa.Pure
