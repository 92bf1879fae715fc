/- The law BorderFinds as a statement over numbers and lists alone: it holds under the bounds that the statement names. -/
import Derived.Test.YtkhmjehjhjhpkabPBorderFindsx2
set_option linter.unusedVariables false
set_option linter.unusedSimpArgs false
namespace Go.Proofs.Ytkhmjehjhjhpkab.Pure
open Go.RowKit Go.Proofs.Ytkhmjehjhjhpkab.PBorderFinds Go.Proofs.YtkhmjehjhjhpkabW.PrintWords Go.Proofs.YtkhmjehjhjhpkabW.PrintLast Go.Proofs.YtkhmjehjhjhpkabW.PrintMore

/-! ### base: words for every pure text -/
theorem w64 {x : Int} (h0 : -9223372036854775808 ≤ x) (h1 : x ≤ 9223372036854775807) : wrap64 x = x := by unfold wrap64; omega
theorem Ev.pos {α : Type} {c : Prop} [Decidable c] {g f : Nat → Option α} {r : α} (h : c) (e : Ev g r) : Ev (fun k => if c then g k else f k) r := Ev.congr (fun k => by rw [if_pos h]) e
theorem Ev.neg {α : Type} {c : Prop} [Decidable c] {g f : Nat → Option α} {r : α} (h : ¬ c) (e : Ev f r) : Ev (fun k => if c then g k else f k) r := Ev.congr (fun k => by rw [if_neg h]) e
theorem Ev.val {α : Type} {r q : α} (h : r = q) : Ev (fun _ => some r) q := by subst h; exact Ev.now r
theorem rd_getElem {l : List Int} {i : Int} (h1 : i.toNat < l.length) : rd l i = l[i.toNat] := by simp [rd, List.getD_eq_getElem?_getD, List.getElem?_eq_getElem h1]
theorem drop_rd {l : List Int} {i : Int} (h0 : 0 ≤ i) (h1 : i < l.length) : l.drop i.toNat = rd l i :: l.drop (i + 1).toNat := by
  have h : i.toNat < l.length := by omega
  rw [rd_getElem h, List.drop_eq_getElem_cons h]; congr 2; omega
theorem take_rd {l : List Int} {i : Int} (h0 : 0 ≤ i) (h1 : i < l.length) : l.take (i + 1).toNat = l.take i.toNat ++ [rd l i] := by
  have h : i.toNat < l.length := by omega
  have e : (i + 1).toNat = i.toNat + 1 := by omega
  rw [rd_getElem h, e, List.take_succ_eq_append_getElem h]
theorem rd_drop (l : List Int) (n : Nat) (i : Int) (h0 : 0 ≤ i) : rd (l.drop n) i = rd l (i + n) := by
  have e : (i + n).toNat = n + i.toNat := by omega
  simp only [rd, List.getD_eq_getElem?_getD, List.getElem?_drop, e]
theorem rd_take (l : List Int) (n : Nat) (i : Int) (h0 : 0 ≤ i) (h1 : i < n) : rd (l.take n) i = rd l i := by
  simp only [rd, List.getD_eq_getElem?_getD]; rw [List.getElem?_take_of_lt (by omega)]
theorem drop_all {α : Type} (l : List α) (n : Nat) (h : l.length ≤ n) : l.drop n = [] := List.drop_eq_nil_of_le h
theorem dec_ne {a b : Int} {l m : List Int} (h : a ≠ b) : decide (a :: l = b :: m) = false := decide_eq_false (fun q => h (List.cons.inj q).1)
theorem Ev.no {p : Prop} [Decidable p] (h : ¬ p) : Ev (fun _ => some false) (decide p) := Ev.val (decide_eq_false h).symm
theorem Ev.yes {p : Prop} [Decidable p] (h : p) : Ev (fun _ => some true) (decide p) := Ev.val (decide_eq_true h).symm
theorem ext_rd {a b : List Int} (hl : a.length = b.length) (h : ∀ i : Int, 0 ≤ i → i < a.length → rd a i = rd b i) : a = b := by
  apply List.ext_getElem hl
  intro i h1 h2
  have := h i (by omega) (by omega)
  rwa [rd_getElem (by simpa using h1), rd_getElem (by simpa using h2)] at this
theorem wf_u8 {x : Int} (h : (Lit.int .u8 x).wf = true) : 0 ≤ x ∧ x ≤ 255 := by simpa [Lit.wf, IntKind.min, IntKind.max, IntKind.signed, IntKind.bits] using h
theorem wf_u32 {x : Int} (h : (Lit.int .u32 x).wf = true) : 0 ≤ x ∧ x ≤ 4294967295 := by simpa [Lit.wf, IntKind.min, IntKind.max, IntKind.signed, IntKind.bits] using h
theorem wf_i64 {x : Int} (h : (Lit.int .i64 x).wf = true) : -9223372036854775808 ≤ x ∧ x ≤ 9223372036854775807 := by simpa [Lit.wf, IntKind.min, IntKind.max, IntKind.signed, IntKind.bits] using h
theorem rd_mem {l : List Int} {i : Int} (h0 : 0 ≤ i) (h1 : i < l.length) : rd l i ∈ l := by
  rw [rd_getElem (by omega)]; exact List.getElem_mem _
theorem rd_u8 {l : List Int} (hw : ∀ x ∈ l, (Lit.int .u8 x).wf = true) {i : Int} (h0 : 0 ≤ i) (h1 : i < l.length) : 0 ≤ rd l i ∧ rd l i ≤ 255 := wf_u8 (hw _ (rd_mem h0 h1))
theorem tm {a b : Int} (h : 0 ≤ a) : Int.tmod a b = a % b := Int.tmod_eq_emod_of_nonneg h
theorem td {a b : Int} (h : 0 ≤ a) : Int.tdiv a b = a / b := Int.tdiv_eq_ediv_of_nonneg h

theorem rd_set_eq (l : List Int) (i : Int) (v : Int) (h0 : 0 ≤ i) (h1 : i < l.length) : rd (l.set i.toNat v) i = v := by
  simp [rd, List.getD_eq_getElem?_getD, List.getElem?_set, show i.toNat < l.length by omega]
theorem rd_set_ne (l : List Int) (i j : Int) (v : Int) (h0 : 0 ≤ i) (hj : 0 ≤ j) (h : j ≠ i) : rd (l.set i.toNat v) j = rd l j := by
  simp only [rd, List.getD_eq_getElem?_getD]
  rw [List.getElem?_set_ne (by omega)]
theorem rd_replicate (n : Nat) (v : Int) (j : Int) (h0 : 0 ≤ j) (h1 : j < n) : rd (List.replicate n v) j = v := by
  simp [rd, List.getD_eq_getElem?_getD, List.getElem?_replicate, show j.toNat < n by omega]
theorem rd_append_left (l m : List Int) (j : Int) (h0 : 0 ≤ j) (h1 : j < l.length) : rd (l ++ m) j = rd l j := by
  simp only [rd, List.getD_eq_getElem?_getD]
  rw [List.getElem?_append_left (by omega)]
theorem rd_append_last (l : List Int) (v : Int) (j : Int) (h : j = l.length) : rd (l ++ [v]) j = v := by
  subst h
  simp [rd, List.getD_eq_getElem?_getD]

theorem ba_toList (s : ByteArray) : s.toList = s.data.toList := by
  have h : ∀ (n i : Nat) (r : List UInt8), s.size - i = n → ByteArray.toList.loop s i r = r.reverse ++ s.data.toList.drop i := by
    intro n
    induction n with
    | zero =>
      intro i r h
      unfold ByteArray.toList.loop
      rw [if_neg (by omega), List.drop_eq_nil_of_le (by simp; exact Nat.le_of_sub_eq_zero h)]
      simp
    | succ n ih =>
      intro i r h
      unfold ByteArray.toList.loop
      rw [if_pos (by omega), ih (i + 1) _ (by omega)]
      have hi : i < s.data.toList.length := by simp; exact (show i < s.size by omega)
      rw [List.drop_eq_getElem_cons hi]
      have hi' : i < s.data.size := by simpa using hi
      have e : s.get! i = s.data.toList[i] := by
        cases s with | mk d => simp only [ByteArray.get!, Array.getElem_toList]; exact getElem!_pos d i hi'
      simp [e]
  have := h s.size 0 [] (by omega)
  simpa [ByteArray.toList] using this
theorem u8_inj : ∀ {a b : List Int}, (∀ x ∈ a, 0 ≤ x ∧ x ≤ 255) → (∀ x ∈ b, 0 ≤ x ∧ x ≤ 255) → a.map (fun n => UInt8.ofNat n.toNat) = b.map (fun n => UInt8.ofNat n.toNat) → a = b
  | [], [], _, _, _ => rfl
  | [], _ :: _, _, _, h => by simp at h
  | _ :: _, [], _, _, h => by simp at h
  | x :: a, y :: b, ha, hb, h => by
    simp only [List.map_cons, List.cons.injEq] at h
    have h1 := ha x (by simp)
    have h2 := hb y (by simp)
    have h3 : x = y := by
      have := congrArg UInt8.toNat h.1
      simp only [UInt8.toNat_ofNat'] at this
      omega
    rw [h3, u8_inj (fun z hz => ha z (by simp [hz])) (fun z hz => hb z (by simp [hz])) h.2]
theorem strEq {a b : List Int} (ha : ∀ x ∈ a, 0 ≤ x ∧ x ≤ 255) (hb : ∀ x ∈ b, 0 ≤ x ∧ x ≤ 255) : ((strOfNums a).toList == (strOfNums b).toList) = decide (a = b) := by
  rw [ba_toList, ba_toList]
  simp only [strOfNums]
  by_cases h : a = b
  · simp [h]
  · have : ¬ a.map (fun n => UInt8.ofNat n.toNat) = b.map (fun n => UInt8.ofNat n.toNat) := fun e => h (u8_inj ha hb e)
    simp [h, this]
theorem mem_u8 {l : List Int} (hw : ∀ x ∈ l, (Lit.int .u8 x).wf = true) : ∀ x ∈ l, 0 ≤ x ∧ x ≤ 255 := fun x hx => wf_u8 (hw x hx)
theorem u8_drop {l : List Int} (h : ∀ x ∈ l, 0 ≤ x ∧ x ≤ 255) (n : Nat) : ∀ x ∈ l.drop n, 0 ≤ x ∧ x ≤ 255 := fun x hx => h x (List.mem_of_mem_drop hx)
theorem u8_take {l : List Int} (h : ∀ x ∈ l, 0 ≤ x ∧ x ≤ 255) (n : Nat) : ∀ x ∈ l.take n, 0 ≤ x ∧ x ≤ 255 := fun x hx => h x (List.mem_of_mem_take hx)

/-! ### coppicerref_Bytes -/
theorem Bytes_l0 (a b : List Int) (hl : a.length = b.length) (hb : (a.length : Int) ≤ 4611686018427387904) (d : Nat) : ∀ i : Int, 0 ≤ i → i + d = a.length → Ev (fun k => coppicerref_Bytes.l0 k a b i) (decide (a.drop i.toNat = b.drop i.toNat)) := by
  induction d with
  | zero =>
    intro i h0 hd
    refine Ev.step (fun k => coppicerref_Bytes.l0.eq_2 _ _ _ k) ?_
    simp (disch := omega) only [if_pos, if_neg]
    exact Ev.val (by rw [List.drop_eq_nil_of_le (by omega), List.drop_eq_nil_of_le (by omega)]; simp)
  | succ d ih =>
    intro i h0 hd
    refine Ev.step (fun k => coppicerref_Bytes.l0.eq_2 _ _ _ k) ?_
    simp (disch := omega) only [if_pos, w64]
    rw [drop_rd h0 (by omega), drop_rd (l := b) h0 (by omega)]
    by_cases h : rd a i = rd b i
    · simp only [if_pos h]
      exact Ev.congr (fun _ => rfl) (by simpa [h] using ih (i + 1) (by omega) (by omega))
    · simp only [if_neg h]
      exact Ev.val (by simp [h])
theorem Bytes_ev (a b : List Int) (hb : (a.length : Int) ≤ 4611686018427387904) : Ev (fun k => coppicerref_Bytes.f k a b) (decide (a = b)) := by
  unfold coppicerref_Bytes.f
  by_cases hl : a.length = b.length
  · simp (disch := omega) only [if_pos]
    simpa using Bytes_l0 a b hl hb a.length 0 (by omega) (by omega)
  · simp (disch := omega) only [if_neg]
    exact Ev.val (by simp; intro h; exact hl (by rw [h]))

/-! ### coppicerref_Ints -/
theorem Ints_l0 (a b : List Int) (hl : a.length = b.length) (hb : (a.length : Int) ≤ 4611686018427387904) (d : Nat) : ∀ i : Int, 0 ≤ i → i + d = a.length → Ev (fun k => coppicerref_Ints.l0 k a b i) (decide (a.drop i.toNat = b.drop i.toNat)) := by
  induction d with
  | zero =>
    intro i h0 hd
    refine Ev.step (fun k => coppicerref_Ints.l0.eq_2 _ _ _ k) ?_
    simp (disch := omega) only [if_pos, if_neg]
    exact Ev.val (by rw [List.drop_eq_nil_of_le (by omega), List.drop_eq_nil_of_le (by omega)]; simp)
  | succ d ih =>
    intro i h0 hd
    refine Ev.step (fun k => coppicerref_Ints.l0.eq_2 _ _ _ k) ?_
    simp (disch := omega) only [if_pos, w64]
    rw [drop_rd h0 (by omega), drop_rd (l := b) h0 (by omega)]
    by_cases h : rd a i = rd b i
    · simp only [if_pos h]
      exact Ev.congr (fun _ => rfl) (by simpa [h] using ih (i + 1) (by omega) (by omega))
    · simp only [if_neg h]
      exact Ev.val (by simp [h])
theorem Ints_ev (a b : List Int) (hb : (a.length : Int) ≤ 4611686018427387904) : Ev (fun k => coppicerref_Ints.f k a b) (decide (a = b)) := by
  unfold coppicerref_Ints.f
  by_cases hl : a.length = b.length
  · simp (disch := omega) only [if_pos]
    simpa using Ints_l0 a b hl hb a.length 0 (by omega) (by omega)
  · simp (disch := omega) only [if_neg]
    exact Ev.val (by simp; intro h; exact hl (by rw [h]))

/-! ### coppicerref_At: u stands in w at j -/
def Occ (w u : List Int) (j : Int) : Prop := 0 ≤ j ∧ j + u.length ≤ w.length ∧ (w.drop j.toNat).take u.length = u
instance (w u : List Int) (j : Int) : Decidable (Occ w u j) := by unfold Occ; infer_instance
theorem At_ev (w u : List Int) (j : Int) (hw : w.length ≤ 4611686018427387904) (hu : u.length ≤ 4611686018427387904) : Ev (fun k => coppicerref_At.f k w u j) (decide (Occ w u j)) := by
  unfold coppicerref_At.f
  by_cases h0 : j ≥ 0
  · by_cases h1 : j + u.length ≤ w.length
    · simp (disch := omega) only [if_pos, w64]
      have e : (w.take (j + u.length).toNat).drop j.toNat = (w.drop j.toNat).take u.length := by
        rw [List.drop_take]; congr 1; omega
      rw [e]
      refine Ev.bind (Bytes_ev _ u (by simp; omega)) (Ev.val ?_)
      simp [Occ, h0, h1]
    · simp (disch := omega) only [if_pos, w64, if_neg]
      exact Ev.no (fun q => h1 q.2.1)
  · simp only [h0, if_false]
    exact Ev.no (fun q => h0 q.1)

/-! ### border.next, border.borders -/
def Suf (w : List Int) (τ : Int → Int) (T k : Int) : Prop := 0 ≤ k ∧ k ≤ T ∧ k ≤ w.length ∧ ∀ q : Int, 0 ≤ q → q < k → rd w q = τ (T - k + q)
theorem Suf.fb {w : List Int} {τ : Int → Int} {T k j : Int} (h : Suf w τ T k) (hj : j ≤ k) : Suf w τ T j ↔ Suf w (rd w) k j := by
  obtain ⟨h0, h1, h2, h3⟩ := h
  constructor
  · rintro ⟨a, b, c, e⟩
    refine ⟨a, hj, c, fun q q0 q1 => ?_⟩
    rw [e q q0 q1, h3 (k - j + q) (by omega) (by omega)]; congr 1; omega
  · rintro ⟨a, b, c, e⟩
    refine ⟨a, by omega, c, fun q q0 q1 => ?_⟩
    rw [e q q0 q1, h3 (k - j + q) (by omega) (by omega)]; congr 1; omega
theorem Suf.ext {w : List Int} {τ : Int → Int} {T j : Int} (hj : 0 ≤ j) : Suf w τ (T + 1) (j + 1) ↔ Suf w τ T j ∧ j < w.length ∧ rd w j = τ T := by
  constructor
  · rintro ⟨a, b, c, e⟩
    refine ⟨⟨hj, by omega, by omega, fun q q0 q1 => ?_⟩, by omega, ?_⟩
    · rw [e q q0 (by omega)]; congr 1; omega
    · rw [e j hj (by omega)]; congr 1; omega
  · rintro ⟨⟨a, b, c, e⟩, f, g⟩
    refine ⟨by omega, by omega, by omega, fun q q0 q1 => ?_⟩
    by_cases p : q < j
    · rw [e q q0 p]; congr 1; omega
    · have : q = j := by omega
      subst this
      rw [g]; congr 1; omega
/-- the longest proper border of the first m -/
def IsB (w : List Int) (m b : Int) : Prop := Suf w (rd w) m b ∧ b < m ∧ ∀ j, j < m → Suf w (rd w) m j → j ≤ b
theorem IsB.uniq {w : List Int} {m b b' : Int} (h : IsB w m b) (h' : IsB w m b') : b = b' := Int.le_antisymm (h'.2.2 b h.2.1 h.1) (h.2.2 b' h'.2.1 h'.1)
theorem next_ev (w known : List Int) (hn : w.length ≤ 60) (hw : 0 < w.length) (τ : Int → Int) (T : Int) (hT : 0 ≤ T) (hk : ∀ m : Int, 1 ≤ m → m ≤ known.length → IsB w m (rd known (m - 1))) (hkl : known.length ≤ w.length) (d : Nat) :
    ∀ k : Int, k ≤ d → Suf w τ T k → k ≤ known.length → (∀ j, Suf w τ (T + 1) j → j ≤ k + 1) → ∃ r, Ev (fun q => border_next.f q w known k (τ T)) r ∧ Suf w τ (T + 1) r ∧ ∀ j, Suf w τ (T + 1) j → j ≤ r := by
  unfold border_next.f
  have hit : ∀ k, Suf w τ T k → k < w.length → rd w k = τ T → (∀ j, Suf w τ (T + 1) j → j ≤ k + 1) → Suf w τ (T + 1) (k + 1) ∧ ∀ j, Suf w τ (T + 1) j → j ≤ k + 1 := fun k h1 h2 h3 h4 => ⟨(Suf.ext h1.1).2 ⟨h1, h2, h3⟩, h4⟩
  induction d with
  | zero =>
    intro k hd hs hkk hmax
    have k0 : k = 0 := by have := hs.1; omega
    subst k0
    by_cases e : rd w 0 = τ T
    · refine ⟨1, Ev.step (fun k => border_next.l0.eq_2 _ _ _ _ k) ?_, hit 0 hs (by omega) e hmax⟩
      simp (disch := omega) only [if_pos e, if_pos, if_neg, w64]; exact Ev.now _
    · refine ⟨0, Ev.step (fun k => border_next.l0.eq_2 _ _ _ _ k) ?_, ⟨by omega, by omega, by omega, fun q q0 q1 => by omega⟩, ?_⟩
      · simp (disch := omega) only [if_neg e, if_pos, if_neg, w64]; exact Ev.now _
      · intro j hj
        have h1 := hmax j hj
        by_cases p : j ≤ 0
        · exact p
        · have : j = 0 + 1 := by omega
          subst this
          exact absurd ((Suf.ext (by omega)).1 hj).2.2 e
  | succ d ih =>
    intro k hd hs hkk hmax
    have back : 1 ≤ k → (k = w.length ∨ rd w k ≠ τ T) → ∃ r, Ev (fun q => border_next.l0 q w known (rd known (k - 1)) (τ T)) r ∧ Suf w τ (T + 1) r ∧ ∀ j, Suf w τ (T + 1) j → j ≤ r := by
      intro k1 hne
      obtain ⟨b1, b2, b3⟩ := hk k k1 hkk
      refine ih (rd known (k - 1)) (by omega) ((hs.fb (by omega)).2 b1) (by omega) ?_
      intro j hj
      by_cases p : j ≤ 0
      · have := b1.1; omega
      · have e : j = (j - 1) + 1 := by omega
        rw [e] at hj
        obtain ⟨c1, c2, c3⟩ := (Suf.ext (by omega)).1 hj
        rw [← e] at hj
        have := hmax j hj
        have hlt : j - 1 < k := by
          by_cases q : j - 1 = k
          · rcases hne with h | h
            · omega
            · rw [q] at c3; exact absurd c3 h
          · omega
        have := b3 (j - 1) hlt ((hs.fb (by omega)).1 c1)
        omega
    by_cases kn : k = w.length
    · obtain ⟨r, hr, h⟩ := back (by omega) (.inl kn)
      refine ⟨r, Ev.step (fun k => border_next.l0.eq_2 _ _ _ _ k) ?_, h⟩
      simp (disch := omega) only [if_pos, w64]; exact hr
    · have k0 := hs.1
      have k2 := hs.2.2.1
      by_cases e : rd w k = τ T
      · refine ⟨k + 1, Ev.step (fun k => border_next.l0.eq_2 _ _ _ _ k) ?_, hit k hs (by omega) e hmax⟩
        by_cases kp : k > 0
        · simp (disch := omega) only [if_pos e, if_neg kn, if_pos kp, if_pos, w64]; exact Ev.now _
        · simp (disch := omega) only [if_pos e, if_neg kn, if_neg kp, if_pos, w64]; exact Ev.now _
      · by_cases kp : k > 0
        · obtain ⟨r, hr, h⟩ := back (by omega) (.inr e)
          refine ⟨r, Ev.step (fun k => border_next.l0.eq_2 _ _ _ _ k) ?_, h⟩
          simp (disch := omega) only [if_neg e, if_neg kn, if_pos kp, if_pos, w64]; exact hr
        · refine ⟨k, Ev.step (fun k => border_next.l0.eq_2 _ _ _ _ k) ?_, ⟨by omega, by omega, by omega, fun q q0 q1 => by omega⟩, ?_⟩
          · simp (disch := omega) only [if_neg e, if_neg kn, if_neg kp, if_pos, w64]; exact Ev.now _
          · intro j hj
            have h1 := hmax j hj
            by_cases p : j ≤ k
            · exact p
            · have : j = k + 1 := by omega
              subst this
              exact absurd ((Suf.ext k0).1 hj).2.2 e
def AllB (w known : List Int) : Prop := ∀ m : Int, 1 ≤ m → m ≤ known.length → IsB w m (rd known (m - 1))
theorem borders_l0 (w : List Int) (hn : w.length ≤ 60) (d : Nat) : ∀ (i : Int) (known : List Int), 0 ≤ i → i + d = w.length → (known.length : Int) = i → AllB w known →
    ∃ l, l.length = w.length ∧ AllB w l ∧ Ev (fun k => border_borders.l0 k w known w (w.length : Int) i) l := by
  induction d with
  | zero =>
    intro i known h0 hd hl hk
    refine ⟨known, by omega, hk, Ev.step (fun k => border_borders.l0.eq_2 _ _ _ _ _ k) ?_⟩
    simp (disch := omega) only [if_neg]; exact Ev.now _
  | succ d ih =>
    intro i known h0 hd hl hk
    have more : ∀ b, IsB w (i + 1) b → AllB w (known ++ [b]) := by
      intro b hb m m0 m1
      by_cases p : m ≤ known.length
      · rw [rd_append_left _ _ _ (by omega) (by omega)]; exact hk m m0 p
      · simp at m1
        have : m = i + 1 := by omega
        subst this
        rw [rd_append_last _ _ _ (by omega)]; exact hb
    by_cases hi : i = 0
    · subst hi
      obtain ⟨l, h1, h2, h3⟩ := ih 1 (known ++ [0]) (by omega) (by omega) (by simp; omega) (more 0 ⟨⟨by omega, by omega, by omega, fun q q0 q1 => by omega⟩, by omega, fun j hj _ => by omega⟩)
      refine ⟨l, h1, h2, Ev.step (fun k => border_borders.l0.eq_2 _ _ _ _ _ k) ?_⟩
      simp (disch := omega) only [if_pos, w64]
      exact h3
    · obtain ⟨b1, b2, b3⟩ := hk i (by omega) (by omega)
      have tr : ∀ j m : Int, 0 ≤ m → j ≤ m → (Suf w (fun q => rd w (q + 1)) m j ↔ Suf w (rd w) (m + 1) j) := by
        intro j m hm hj
        constructor
        · rintro ⟨a, b, c, e⟩
          exact ⟨a, by omega, c, fun q q0 q1 => (e q q0 q1).trans (by show rd w (m - j + q + 1) = _; congr 1; omega)⟩
        · rintro ⟨a, b, c, e⟩
          exact ⟨a, hj, c, fun q q0 q1 => (e q q0 q1).trans (by show _ = rd w (m - j + q + 1); congr 1; omega)⟩
      obtain ⟨r, hr, hs, hmax⟩ := next_ev w known hn (by omega) (fun q => rd w (q + 1)) (i - 1) (by omega) hk (by omega) (rd known (i - 1)).toNat (rd known (i - 1)) (by omega) ((tr _ (i - 1) (by omega) (by omega)).2 (by rw [show i - 1 + 1 = i by omega]; exact b1)) (by omega) (by
        intro j hj
        by_cases p : j ≤ 0
        · have := b1.1; omega
        · have e : j = (j - 1) + 1 := by omega
          rw [e] at hj
          obtain ⟨c1, c2, c3⟩ := (Suf.ext (by omega)).1 hj
          have q := c1.2.1
          have := b3 (j - 1) (by omega) (by have := (tr (j - 1) (i - 1) (by omega) q).1 c1; rwa [show i - 1 + 1 = i by omega] at this)
          omega)
      rw [show i - 1 + 1 = i by omega] at hs hmax
      have e : rd w (i - 1 + 1) = rd w i := by congr 1; omega
      rw [e] at hr
      have hb : IsB w (i + 1) r := ⟨(tr r i h0 hs.2.1).1 hs, by have := hs.2.1; omega, fun j hj hjs => hmax j ((tr j i h0 (by omega)).2 hjs)⟩
      obtain ⟨l, h1, h2, h3⟩ := ih (i + 1) (known ++ [r]) (by omega) (by omega) (by simp; omega) (more r hb)
      refine ⟨l, h1, h2, Ev.step (fun k => border_borders.l0.eq_2 _ _ _ _ _ k) ?_⟩
      simp (disch := omega) only [if_pos, if_neg hi, w64]
      refine Ev.bind hr ?_
      exact h3
theorem borders_ev (w : List Int) (hn : w.length ≤ 60) : ∃ l, l.length = w.length ∧ AllB w l ∧ Ev (fun k => border_borders.f k w) l := by
  unfold border_borders.f
  exact borders_l0 w hn w.length 0 [] (by omega) (by omega) (by simp) (by intro m m0 m1; simp at m1; omega)

/-! ### coppicerref_Places -/
def occs (w u : List Int) (n : Nat) : List Int := ((List.range n).map fun (i : Nat) => (i : Int)).filter fun p => decide (Occ w u p)
theorem occs_succ (w u : List Int) (n : Nat) : occs w u (n + 1) = occs w u n ++ (if Occ w u n then [(n : Int)] else []) := by
  unfold occs
  rw [List.range_succ, List.map_append, List.filter_append]
  congr 1
  by_cases h : Occ w u n <;> simp [h]
theorem occs_len (w u : List Int) (n : Nat) : (occs w u n).length ≤ n := by
  unfold occs
  exact Nat.le_trans (List.length_filter_le _ _) (by simp)
theorem occs_far (w u : List Int) (n : Nat) (h : w.length < n + u.length) (d : Nat) : occs w u (n + d) = occs w u n := by
  induction d with
  | zero => rfl
  | succ d ih =>
    rw [← Nat.add_assoc, occs_succ, if_neg (by unfold Occ; omega), List.append_nil]; exact ih
theorem Places_l0 (u w : List Int) (hw : w.length ≤ 60) (hu : u.length ≤ 60) (d : Nat) : ∀ i : Nat, i + d = w.length + 1 → Ev (fun k => coppicerref_Places.l0 k u w (occs w u i) (i : Int)) (occs w u (w.length + 1)) := by
  induction d with
  | zero =>
    intro i hd
    refine Ev.step (fun k => coppicerref_Places.l0.eq_2 _ _ _ _ k) ?_
    simp (disch := omega) only [if_neg]
    exact Ev.val (by rw [show i = w.length + 1 by omega])
  | succ d ih =>
    intro i hd
    have hl := occs_len w u i
    have r := ih (i + 1) (by omega)
    rw [occs_succ] at r
    refine Ev.step (fun k => coppicerref_Places.l0.eq_2 _ _ _ _ k) ?_
    simp (disch := omega) only [if_pos (show (i : Int) ≤ (w.length : Int) by omega), w64]
    refine Ev.bind (At_ev w u i (by omega) (by omega)) ?_
    by_cases h : Occ w u i
    · simp only [h, decide_true, if_true]
      simp (disch := omega) only [if_pos (show (occs w u i).length < 17592186044416 by omega)]
      simpa [h] using r
    · simp only [h, decide_false, Bool.false_eq_true, if_false]
      simpa [h] using r
theorem Places_ev (u w : List Int) (hw : w.length ≤ 60) (hu : u.length ≤ 60) : Ev (fun k => coppicerref_Places.f k u w) (occs w u (w.length + 1)) := by
  unfold coppicerref_Places.f
  exact Places_l0 u w hw hu (w.length + 1) 0 (by omega)

theorem Occ_iff (w u : List Int) (j : Int) : Occ w u j ↔ 0 ≤ j ∧ j + u.length ≤ w.length ∧ ∀ q : Int, 0 ≤ q → q < u.length → rd u q = rd w (j + q) := by
  unfold Occ
  constructor
  · rintro ⟨a, b, c⟩
    refine ⟨a, b, fun q q0 q1 => ?_⟩
    have := congrArg (fun l => rd l q) c
    simp only [rd_take _ _ q q0 (show q < (u.length : Int) by omega), rd_drop w _ q q0] at this
    rw [← this]; congr 1; omega
  · rintro ⟨a, b, c⟩
    refine ⟨a, b, ext_rd (by simp; omega) (fun q q0 q1 => ?_)⟩
    have q2 : q < u.length := by simp at q1; omega
    rw [rd_take _ _ q q0 q2, rd_drop w _ q q0, c q q0 q2]; congr 1; omega
theorem find_l0 (d : Nat) (n : Nat) (hn : n ≤ 60) : ∀ i : Nat, i + d = n + 1 → Ev (fun k => border_Find.l0 k ((List.range i).map fun (i : Nat) => (i : Int)) ((n : Int) + 1) (i : Int)) ((List.range (n + 1)).map fun (i : Nat) => (i : Int), 0) := by
  induction d with
  | zero =>
    intro i hd
    refine Ev.step (fun k => border_Find.l0.eq_2 _ _ _ k) ?_
    simp (disch := omega) only [if_neg]
    exact Ev.val (by rw [show i = n + 1 by omega])
  | succ d ih =>
    intro i hd
    have r := ih (i + 1) (by omega)
    refine Ev.step (fun k => border_Find.l0.eq_2 _ _ _ k) ?_
    simp (disch := omega) only [if_pos (show (i : Int) < (n : Int) + 1 by omega), w64]
    have hl : (((List.range i).map fun (i : Nat) => (i : Int)).length) < 17592186044416 := by simp; omega
    simp only [if_pos hl]
    rw [List.range_succ, List.map_append] at r
    simpa using r
theorem find_l1 (u w known : List Int) (hu : u.length ≤ 60) (hw : w.length ≤ 60) (hu0 : 0 < u.length) (hkl : known.length = u.length) (hk : AllB u known) (d : Nat) : ∀ (i : Nat) (k : Int), i + d = w.length → Suf u (rd w) i k → (∀ j, Suf u (rd w) i j → j ≤ k) →
    Ev (fun q => border_Find.l1 q u (occs w u (i + 1 - u.length)) known k w (w.length : Int) (i : Int)) (occs w u (w.length + 1), 0) := by
  induction d with
  | zero =>
    intro i k hd hs hmax
    refine Ev.step (fun k => border_Find.l1.eq_2 _ _ _ _ _ _ _ k) ?_
    simp (disch := omega) only [if_neg]
    refine Ev.val ?_
    have hi : i = w.length := by omega
    by_cases h : u.length ≤ w.length + 1
    · have := occs_far w u (w.length + 1 - u.length) (by omega) u.length
      rw [show w.length + 1 - u.length + u.length = w.length + 1 by omega] at this
      rw [hi, this]
    · have := occs_far w u 0 (by omega) (w.length + 1)
      rw [hi, show w.length + 1 - u.length = 0 by omega, ← this]; simp
  | succ d ih =>
    intro i k hd hs hmax
    obtain ⟨r, hr, hsr, hmr⟩ := next_ev u known hu hu0 (rd w) i (by omega) hk (by omega) k.toNat k (by have := hs.1; omega) hs (by have := hs.2.2.1; omega) (by
      intro j hj
      by_cases p : j ≤ 0
      · have := hs.1; omega
      · have e : j = (j - 1) + 1 := by omega
        rw [e] at hj
        have := hmax (j - 1) ((Suf.ext (by omega)).1 hj).1
        omega)
    have rec_ := ih (i + 1) r (by omega) (by simpa using hsr) (by simpa using hmr)
    have hl := occs_len w u (i + 1 - u.length)
    have hr0 := hsr.1
    have hr1 := hsr.2.1
    have hr2 := hsr.2.2.1
    refine Ev.step (fun k => border_Find.l1.eq_2 _ _ _ _ _ _ _ k) ?_
    simp (disch := omega) only [if_pos (show (i : Int) < (w.length : Int) by omega), if_pos (show 0 ≤ (i : Int) by omega), w64]
    refine Ev.bind hr ?_
    have occ : u.length ≤ i + 1 → (Occ w u ((i + 1 - u.length : Nat) : Int) ↔ r = u.length) := by
      intro hle
      rw [Occ_iff]
      constructor
      · rintro ⟨a, b, c⟩
        have : (u.length : Int) ≤ r := hmr u.length ⟨by omega, by omega, by omega, fun q q0 q1 => by rw [c q q0 q1]; congr 1; omega⟩
        omega
      · intro e
        refine ⟨by omega, by omega, fun q q0 q1 => ?_⟩
        rw [hsr.2.2.2 q q0 (by omega)]; congr 1; omega
    by_cases h : r = u.length
    · have hle : u.length ≤ i + 1 := by omega
      simp only [if_pos h]
      simp (disch := omega) only [if_pos (show (occs w u (i + 1 - u.length)).length < 17592186044416 by omega), w64]
      rw [show i + 1 + 1 - u.length = (i + 1 - u.length) + 1 by omega, occs_succ, if_pos ((occ hle).2 h)] at rec_
      have e : ((i + 1 - u.length : Nat) : Int) = (i : Int) + 1 - r := by omega
      rw [e] at rec_
      simpa using rec_
    · simp only [if_neg h]
      by_cases hle : u.length ≤ i + 1
      · rw [show i + 1 + 1 - u.length = (i + 1 - u.length) + 1 by omega, occs_succ, if_neg (fun o => h ((occ hle).1 o))] at rec_
        simpa using rec_
      · rw [show i + 1 + 1 - u.length = i + 1 - u.length by omega] at rec_
        simpa using rec_
theorem BorderFinds : coppicerlaw_BorderFinds.Pure := by
  intro u w hm hs hw hm' hs' hw'
  refine Ev.rounds (g := fun k => coppicerlaw_BorderFinds.f k u w) ?_
  unfold coppicerlaw_BorderFinds.f border_Find.f
  by_cases h : (u.length : Int) > 60
  · refine Ev.bind (a := ([], 1)) ?_ ?_
    · simp only [h, if_true]
      refine Ev.step (fun k => border_Find.j0.eq_2 _ _ _ k) ?_
      simp only [if_true]; exact Ev.now _
    · simp only [h, if_true]
      refine Ev.step (fun k => coppicerlaw_BorderFinds.j0.eq_2 _ _ _ _ _ k) ?_
      simp only [if_true]; exact Ev.val rfl
  by_cases h' : (w.length : Int) > 60
  · refine Ev.bind (a := ([], 1)) ?_ ?_
    · simp only [h, h', if_false, decide_true]
      refine Ev.step (fun k => border_Find.j0.eq_2 _ _ _ k) ?_
      simp only [if_true]; exact Ev.now _
    · simp only [h, h', decide_true, if_false]
      refine Ev.step (fun k => coppicerlaw_BorderFinds.j0.eq_2 _ _ _ _ _ k) ?_
      simp only [if_true]; exact Ev.val rfl
  have fin : ∀ a, a = (occs w u (w.length + 1), (0 : Int)) → Ev (fun k => coppicerlaw_BorderFinds.j0 k u w a.1 a.2 (decide ((w.length : Int) > 60))) true := by
    rintro _ rfl
    refine Ev.step (fun k => coppicerlaw_BorderFinds.j0.eq_2 _ _ _ _ _ k) ?_
    simp only [h', decide_false, Bool.false_eq_true, if_false, if_true]
    have hl := occs_len w u (w.length + 1)
    exact Ev.bind (Places_ev u w (by omega) (by omega)) (Ev.bind (Ints_ev _ _ (by omega)) (Ev.val (by simp)))
  refine Ev.bind (a := (occs w u (w.length + 1), 0)) ?_ (by simp only [h, if_false]; exact fin _ rfl)
  simp only [h, h', if_false, decide_false]
  refine Ev.step (fun k => border_Find.j0.eq_2 _ _ _ k) ?_
  simp only [Bool.false_eq_true, if_false]
  by_cases h0 : (u.length : Int) = 0
  · simp only [if_pos h0]
    simp (disch := omega) only [w64]
    have e : occs w u (w.length + 1) = (List.range (w.length + 1)).map fun (i : Nat) => (i : Int) := by
      unfold occs
      apply List.filter_eq_self.2
      intro p hp
      simp at hp
      obtain ⟨a, ha, rfl⟩ := hp
      have hu : u = [] := List.eq_nil_of_length_eq_zero (by omega)
      subst hu
      simp [Occ]; omega
    rw [e]
    exact find_l0 (w.length + 1) w.length (by omega) 0 (by omega)
  · simp only [if_neg h0]
    obtain ⟨l, hl, hA, hE⟩ := borders_ev u (by omega)
    refine Ev.bind hE ?_
    have := find_l1 u w l (by omega) (by omega) (by omega) hl hA w.length 0 0 (by omega) ⟨by omega, by omega, by omega, fun q q0 q1 => by omega⟩ (fun j hj => hj.2.1)
    have e : occs w u (0 + 1 - u.length) = [] := by
      rw [show 0 + 1 - u.length = 0 by omega]; rfl
    rw [e] at this
    exact this

end Go.Proofs.Ytkhmjehjhjhpkab.Pure
