/- The law BeginCovers as a statement over numbers and lists alone: it holds under the bounds that the statement names. -/
import Derived.Test.YtkhmjehjhjhpkaaPBeginCoversx2
set_option linter.unusedVariables false
set_option linter.unusedSimpArgs false
namespace Go.Proofs.Ytkhmjehjhjhpkaa.Pure
open Go.RowKit Go.Proofs.Ytkhmjehjhjhpkaa.PBeginCovers Go.Proofs.YtkhmjehjhjhpkaaW.PrintWords Go.Proofs.YtkhmjehjhjhpkaaW.PrintLast Go.Proofs.YtkhmjehjhjhpkaaW.PrintMore

/-! ### base: words for every pure text -/
theorem w64 {x : Int} (h0 : -9223372036854775808 ≤ x) (h1 : x ≤ 9223372036854775807) : wrap64 x = x := by unfold wrap64; omega
theorem Ev.pos {α : Type} {c : Prop} [Decidable c] {g f : Nat → Option α} {r : α} (h : c) (e : Ev g r) : Ev (fun k => if c then g k else f k) r := Ev.congr (fun k => by rw [if_pos h]) e
theorem Ev.neg {α : Type} {c : Prop} [Decidable c] {g f : Nat → Option α} {r : α} (h : ¬ c) (e : Ev f r) : Ev (fun k => if c then g k else f k) r := Ev.congr (fun k => by rw [if_neg h]) e
theorem Ev.val {α : Type} {r q : α} (h : r = q) : Ev (fun _ => some r) q := by subst h; exact Ev.now r
theorem rd_getElem {l : List Int} {i : Int} (h1 : i.toNat < l.length) : rd l i = l[i.toNat] := by simp [rd, List.getD_eq_getElem?_getD, List.getElem?_eq_getElem h1]
theorem drop_rd {l : List Int} {i : Int} (h0 : 0 ≤ i) (h1 : i < l.length) : l.drop i.toNat = rd l i :: l.drop (i + 1).toNat := by
  have h : i.toNat < l.length := by omega
  rw [rd_getElem h, List.drop_eq_getElem_cons h]; congr 2; omega
theorem take_rd {l : List Int} {i : Int} (h0 : 0 ≤ i) (h1 : i < l.length) : l.take (i + 1).toNat = l.take i.toNat ++ [rd l i] := by
  have h : i.toNat < l.length := by omega
  have e : (i + 1).toNat = i.toNat + 1 := by omega
  rw [rd_getElem h, e, List.take_succ_eq_append_getElem h]
theorem rd_drop (l : List Int) (n : Nat) (i : Int) (h0 : 0 ≤ i) : rd (l.drop n) i = rd l (i + n) := by
  have e : (i + n).toNat = n + i.toNat := by omega
  simp only [rd, List.getD_eq_getElem?_getD, List.getElem?_drop, e]
theorem rd_take (l : List Int) (n : Nat) (i : Int) (h0 : 0 ≤ i) (h1 : i < n) : rd (l.take n) i = rd l i := by
  simp only [rd, List.getD_eq_getElem?_getD]; rw [List.getElem?_take_of_lt (by omega)]
theorem dec_ne {a b : Int} {l m : List Int} (h : a ≠ b) : decide (a :: l = b :: m) = false := decide_eq_false (fun q => h (List.cons.inj q).1)
theorem Ev.no {p : Prop} [Decidable p] (h : ¬ p) : Ev (fun _ => some false) (decide p) := Ev.val (decide_eq_false h).symm
theorem Ev.yes {p : Prop} [Decidable p] (h : p) : Ev (fun _ => some true) (decide p) := Ev.val (decide_eq_true h).symm
theorem ext_rd {a b : List Int} (hl : a.length = b.length) (h : ∀ i : Int, 0 ≤ i → i < a.length → rd a i = rd b i) : a = b := by
  apply List.ext_getElem hl
  intro i h1 h2
  have := h i (by omega) (by omega)
  rwa [rd_getElem (by simpa using h1), rd_getElem (by simpa using h2)] at this
theorem wf_u8 {x : Int} (h : (Lit.int .u8 x).wf = true) : 0 ≤ x ∧ x ≤ 255 := by simpa [Lit.wf, IntKind.min, IntKind.max, IntKind.signed, IntKind.bits] using h
theorem wf_u32 {x : Int} (h : (Lit.int .u32 x).wf = true) : 0 ≤ x ∧ x ≤ 4294967295 := by simpa [Lit.wf, IntKind.min, IntKind.max, IntKind.signed, IntKind.bits] using h
theorem wf_i64 {x : Int} (h : (Lit.int .i64 x).wf = true) : -9223372036854775808 ≤ x ∧ x ≤ 9223372036854775807 := by simpa [Lit.wf, IntKind.min, IntKind.max, IntKind.signed, IntKind.bits] using h
theorem rd_mem {l : List Int} {i : Int} (h0 : 0 ≤ i) (h1 : i < l.length) : rd l i ∈ l := by
  rw [rd_getElem (by omega)]; exact List.getElem_mem _
theorem rd_u8 {l : List Int} (hw : ∀ x ∈ l, (Lit.int .u8 x).wf = true) {i : Int} (h0 : 0 ≤ i) (h1 : i < l.length) : 0 ≤ rd l i ∧ rd l i ≤ 255 := wf_u8 (hw _ (rd_mem h0 h1))
theorem tm {a b : Int} (h : 0 ≤ a) : Int.tmod a b = a % b := Int.tmod_eq_emod_of_nonneg h
theorem td {a b : Int} (h : 0 ≤ a) : Int.tdiv a b = a / b := Int.tdiv_eq_ediv_of_nonneg h

/-! ### coppicerref_Bytes -/
theorem Bytes_l0 (a b : List Int) (hl : a.length = b.length) (hb : (a.length : Int) ≤ 4611686018427387904) (d : Nat) : ∀ i : Int, 0 ≤ i → i + d = a.length → Ev (fun k => coppicerref_Bytes.l0 k a b i) (decide (a.drop i.toNat = b.drop i.toNat)) := by
  induction d with
  | zero =>
    intro i h0 hd
    refine Ev.step (fun k => coppicerref_Bytes.l0.eq_2 _ _ _ k) ?_
    simp (disch := omega) only [if_pos, if_neg]
    exact Ev.val (by rw [List.drop_eq_nil_of_le (by omega), List.drop_eq_nil_of_le (by omega)]; simp)
  | succ d ih =>
    intro i h0 hd
    refine Ev.step (fun k => coppicerref_Bytes.l0.eq_2 _ _ _ k) ?_
    simp (disch := omega) only [if_pos, w64]
    rw [drop_rd h0 (by omega), drop_rd (l := b) h0 (by omega)]
    by_cases h : rd a i = rd b i
    · simp only [if_pos h]
      exact Ev.congr (fun _ => rfl) (by simpa [h] using ih (i + 1) (by omega) (by omega))
    · simp only [if_neg h]
      exact Ev.val (by simp [h])
theorem Bytes_ev (a b : List Int) (hb : (a.length : Int) ≤ 4611686018427387904) : Ev (fun k => coppicerref_Bytes.f k a b) (decide (a = b)) := by
  unfold coppicerref_Bytes.f
  by_cases hl : a.length = b.length
  · simp (disch := omega) only [if_pos]
    simpa using Bytes_l0 a b hl hb a.length 0 (by omega) (by omega)
  · simp (disch := omega) only [if_neg]
    exact Ev.val (by simp; intro h; exact hl (by rw [h]))

theorem ba_toList (s : ByteArray) : s.toList = s.data.toList := by
  have h : ∀ (n i : Nat) (r : List UInt8), s.size - i = n → ByteArray.toList.loop s i r = r.reverse ++ s.data.toList.drop i := by
    intro n
    induction n with
    | zero =>
      intro i r h
      unfold ByteArray.toList.loop
      rw [if_neg (by omega), List.drop_eq_nil_of_le (by simp; exact Nat.le_of_sub_eq_zero h)]
      simp
    | succ n ih =>
      intro i r h
      unfold ByteArray.toList.loop
      rw [if_pos (by omega), ih (i + 1) _ (by omega)]
      have hi : i < s.data.toList.length := by simp; exact (show i < s.size by omega)
      rw [List.drop_eq_getElem_cons hi]
      have hi' : i < s.data.size := by simpa using hi
      have e : s.get! i = s.data.toList[i] := by
        cases s with | mk d => simp only [ByteArray.get!, Array.getElem_toList]; exact getElem!_pos d i hi'
      simp [e]
  have := h s.size 0 [] (by omega)
  simpa [ByteArray.toList] using this
theorem u8_inj : ∀ {a b : List Int}, (∀ x ∈ a, 0 ≤ x ∧ x ≤ 255) → (∀ x ∈ b, 0 ≤ x ∧ x ≤ 255) → a.map (fun n => UInt8.ofNat n.toNat) = b.map (fun n => UInt8.ofNat n.toNat) → a = b
  | [], [], _, _, _ => rfl
  | [], _ :: _, _, _, h => by simp at h
  | _ :: _, [], _, _, h => by simp at h
  | x :: a, y :: b, ha, hb, h => by
    simp only [List.map_cons, List.cons.injEq] at h
    have h1 := ha x (by simp)
    have h2 := hb y (by simp)
    have h3 : x = y := by
      have := congrArg UInt8.toNat h.1
      simp only [UInt8.toNat_ofNat'] at this
      omega
    rw [h3, u8_inj (fun z hz => ha z (by simp [hz])) (fun z hz => hb z (by simp [hz])) h.2]
theorem strEq {a b : List Int} (ha : ∀ x ∈ a, 0 ≤ x ∧ x ≤ 255) (hb : ∀ x ∈ b, 0 ≤ x ∧ x ≤ 255) : ((strOfNums a).toList == (strOfNums b).toList) = decide (a = b) := by
  rw [ba_toList, ba_toList]
  simp only [strOfNums]
  by_cases h : a = b
  · simp [h]
  · have : ¬ a.map (fun n => UInt8.ofNat n.toNat) = b.map (fun n => UInt8.ofNat n.toNat) := fun e => h (u8_inj ha hb e)
    simp [h, this]
theorem mem_u8 {l : List Int} (hw : ∀ x ∈ l, (Lit.int .u8 x).wf = true) : ∀ x ∈ l, 0 ≤ x ∧ x ≤ 255 := fun x hx => wf_u8 (hw x hx)
theorem u8_drop {l : List Int} (h : ∀ x ∈ l, 0 ≤ x ∧ x ≤ 255) (n : Nat) : ∀ x ∈ l.drop n, 0 ≤ x ∧ x ≤ 255 := fun x hx => h x (List.mem_of_mem_drop hx)
theorem u8_take {l : List Int} (h : ∀ x ∈ l, 0 ≤ x ∧ x ≤ 255) (n : Nat) : ∀ x ∈ l.take n, 0 ≤ x ∧ x ≤ 255 := fun x hx => h x (List.mem_of_mem_take hx)

/-! ### coppicerref_At: u stands in w at j -/
def Occ (w u : List Int) (j : Int) : Prop := 0 ≤ j ∧ j + u.length ≤ w.length ∧ (w.drop j.toNat).take u.length = u
instance (w u : List Int) (j : Int) : Decidable (Occ w u j) := by unfold Occ; infer_instance
theorem At_ev (w u : List Int) (j : Int) (hw : w.length ≤ 4611686018427387904) (hu : u.length ≤ 4611686018427387904) : Ev (fun k => coppicerref_At.f k w u j) (decide (Occ w u j)) := by
  unfold coppicerref_At.f
  by_cases h0 : j ≥ 0
  · by_cases h1 : j + u.length ≤ w.length
    · simp (disch := omega) only [if_pos, w64]
      have e : (w.take (j + u.length).toNat).drop j.toNat = (w.drop j.toNat).take u.length := by
        rw [List.drop_take]; congr 1; omega
      rw [e]
      refine Ev.bind (Bytes_ev _ u (by simp; omega)) (Ev.val ?_)
      simp [Occ, h0, h1]
    · simp (disch := omega) only [if_pos, w64, if_neg]
      exact Ev.no (fun q => h1 q.2.1)
  · simp only [h0, if_false]
    exact Ev.no (fun q => h0 q.1)

theorem prefix_eq (w u : List Int) (i : Int) (hw : ∀ x ∈ w, 0 ≤ x ∧ x ≤ 255) (hu : ∀ x ∈ u, 0 ≤ x ∧ x ≤ 255) (h0 : 0 ≤ i) (h1 : i ≤ w.length) : bytes_HasPrefix.f (w.drop i.toNat) u = some (decide (Occ w u i)) := by
  unfold bytes_HasPrefix.f
  have hl : ((w.drop i.toNat).length : Int) = w.length - i := by simp; omega
  rw [hl]
  by_cases h : (w.length : Int) - i ≥ u.length
  · simp (disch := omega) only [if_pos, bytes_Equal.f, Option.bind_some]
    rw [strEq (u8_take (u8_drop hw _) _) hu]
    have e : i + (u.length : Int) ≤ w.length := by omega
    simp [Occ, h0, e]
  · simp only [h, if_false]
    have e : ¬ i + (u.length : Int) ≤ w.length := by omega
    simp [Occ, e]
def Cov (w u : List Int) : Prop := ∀ x : Int, 0 ≤ x → x < w.length → ∃ j, Occ w u j ∧ j ≤ x ∧ x < j + u.length
theorem cover_l0 (w u : List Int) (hw : ∀ x ∈ w, 0 ≤ x ∧ x ≤ 255) (hu : ∀ x ∈ u, 0 ≤ x ∧ x ≤ 255) (hn : w.length ≤ 60) (hm : u.length ≤ 60) (d : Nat) : ∀ i e : Int, 0 ≤ i → i + d = w.length → 0 ≤ e → e ≤ w.length →
    (∀ x, 0 ≤ x → x < e → ∃ j, Occ w u j ∧ j ≤ x ∧ x < j + u.length) → (∀ j, j < i → Occ w u j → ¬ (j ≤ e ∧ e < j + u.length)) →
    ∃ b : Bool, Ev (fun k => begin_Cover.l0 k w u e (w.length : Int) i) (b, 0) ∧ (b = true ↔ Cov w u) := by
  induction d with
  | zero =>
    intro i e h0 hd he0 he1 hA hB
    refine ⟨decide (e ≥ w.length), Ev.step (fun k => begin_Cover.l0.eq_2 _ _ _ _ _ k) ?_, ?_⟩
    · simp (disch := omega) only [if_neg]; exact Ev.now _
    · rw [decide_eq_true_iff]
      constructor
      · intro h x hx0 hx1; exact hA x hx0 (by omega)
      · intro h
        by_cases q : e ≥ w.length
        · exact q
        · obtain ⟨j, hj, h1, h2⟩ := h e he0 (by omega)
          exact absurd ⟨h1, h2⟩ (hB j (by omega) hj)
  | succ d ih =>
    intro i e h0 hd he0 he1 hA hB
    have skip : ∀ e', e' = e → (Occ w u i → ¬ i ≤ e) → ∃ b : Bool, Ev (fun k => begin_Cover.l0 k w u e' (w.length : Int) (i + 1)) (b, 0) ∧ (b = true ↔ Cov w u) := by
      rintro e' rfl hs
      refine ih (i + 1) e' (by omega) (by omega) he0 he1 hA ?_
      intro j hj ho hc
      by_cases q : j < i
      · exact hB j q ho hc
      · have : j = i := by omega
        subst this
        exact hs ho hc.1
    by_cases ho : Occ w u i
    · by_cases hle : i ≤ e
      · have ho2 := ho.2.1
        obtain ⟨b, hb, hc⟩ := ih (i + 1) (i + u.length) (by omega) (by omega) (by omega) ho2 (by
          intro x hx0 hx1
          by_cases q : x < e
          · exact hA x hx0 q
          · exact ⟨i, ho, by omega, hx1⟩) (by intro j hj _ hc; omega)
        refine ⟨b, Ev.step (fun k => begin_Cover.l0.eq_2 _ _ _ _ _ k) ?_, hc⟩
        simp (disch := omega) only [if_pos, w64, prefix_eq w u i hw hu h0 (by omega), Option.bind_some, ho, decide_true]
        simpa using hb
      · obtain ⟨b, hb, hc⟩ := skip e rfl (fun _ => hle)
        refine ⟨b, Ev.step (fun k => begin_Cover.l0.eq_2 _ _ _ _ _ k) ?_, hc⟩
        simp (disch := omega) only [if_pos, if_neg, w64, prefix_eq w u i hw hu h0 (by omega), Option.bind_some, ho, decide_true]
        simpa using hb
    · obtain ⟨b, hb, hc⟩ := skip e rfl (fun q => absurd q ho)
      refine ⟨b, Ev.step (fun k => begin_Cover.l0.eq_2 _ _ _ _ _ k) ?_, hc⟩
      simp (disch := omega) only [if_pos, w64, prefix_eq w u i hw hu h0 (by omega), Option.bind_some, ho, decide_false, Bool.false_eq_true, if_false]
      simpa using hb
theorem covers_l (w u : List Int) (hn : w.length ≤ 60) (hm : u.length ≤ 60) (d : Nat) : ∀ i : Int, 0 ≤ i → i + d = w.length → (∀ x, 0 ≤ x → x < i → ∃ j, Occ w u j ∧ j ≤ x ∧ x < j + u.length) →
    ∃ b : Bool, Ev (fun k => coppicerref_Covers.l0 k w u i) b ∧ (b = true ↔ Cov w u) := by
  induction d with
  | zero =>
    intro i h0 hd hA
    refine ⟨true, Ev.step (fun k => coppicerref_Covers.l0.eq_2 _ _ _ k) ?_, ?_⟩
    · simp (disch := omega) only [if_neg]; exact Ev.now _
    · simp only [true_iff]; intro x hx0 hx1; exact hA x hx0 (by omega)
  | succ d ih =>
    intro i h0 hd hA
    have inner : ∀ (c : Nat) (q : Int) (ok : Bool), 0 ≤ q → q + c = u.length → (ok = true ↔ ∃ j, Occ w u j ∧ i - q < j ∧ j ≤ i) → ∃ b : Bool, Ev (fun k => coppicerref_Covers.l1 k w u i ok q) b ∧ (b = true ↔ Cov w u) := by
      intro c
      induction c with
      | zero =>
        intro q ok hq hc hok
        cases ok with
        | true =>
          obtain ⟨j, hj, h1, h2⟩ := hok.1 rfl
          obtain ⟨b, hb, hcv⟩ := ih (i + 1) (by omega) (by omega) (by
            intro x hx0 hx1
            by_cases p : x < i
            · exact hA x hx0 p
            · exact ⟨j, hj, by omega, by omega⟩)
          refine ⟨b, Ev.step (fun k => coppicerref_Covers.l1.eq_2 _ _ _ _ _ k) ?_, hcv⟩
          simp (disch := omega) only [if_neg, if_true, w64]
          exact hb
        | false =>
          refine ⟨false, Ev.step (fun k => coppicerref_Covers.l1.eq_2 _ _ _ _ _ k) ?_, ?_⟩
          · simp (disch := omega) only [if_neg, Bool.false_eq_true, if_false]; exact Ev.now _
          · simp only [Bool.false_eq_true, false_iff]
            intro hcv
            obtain ⟨j, hj, h1, h2⟩ := hcv i h0 (by omega)
            exact Bool.false_ne_true (hok.2 ⟨j, hj, by omega, h1⟩)
      | succ c ih2 =>
        intro q ok hq hc hok
        cases ok with
        | true =>
          obtain ⟨j, hj, h1, h2⟩ := hok.1 rfl
          obtain ⟨b, hb, hcv⟩ := ih2 (q + 1) true (by omega) (by omega) ⟨fun _ => ⟨j, hj, by omega, h2⟩, fun _ => rfl⟩
          refine ⟨b, Ev.step (fun k => coppicerref_Covers.l1.eq_2 _ _ _ _ _ k) ?_, hcv⟩
          simp (disch := omega) only [if_pos, if_true, w64]
          exact hb
        | false =>
          obtain ⟨b, hb, hcv⟩ := ih2 (q + 1) (decide (Occ w u (i - q))) (by omega) (by omega) (by
            rw [decide_eq_true_iff]
            constructor
            · intro ho; exact ⟨i - q, ho, by omega, by omega⟩
            · rintro ⟨j, hj, h1, h2⟩
              by_cases p : i - q < j
              · exact absurd (hok.2 ⟨j, hj, p, h2⟩) (by simp)
              · have : j = i - q := by omega
                subst this; exact hj)
          refine ⟨b, Ev.step (fun k => coppicerref_Covers.l1.eq_2 _ _ _ _ _ k) ?_, hcv⟩
          simp (disch := omega) only [if_pos, Bool.false_eq_true, if_false, w64]
          exact Ev.bind (At_ev w u (i - q) (by omega) (by omega)) hb
    obtain ⟨b, hb, hcv⟩ := inner u.length 0 false (by omega) (by omega) ⟨fun h => absurd h (by simp), fun ⟨j, _, h1, h2⟩ => by omega⟩
    refine ⟨b, Ev.step (fun k => coppicerref_Covers.l0.eq_2 _ _ _ k) ?_, hcv⟩
    simp (disch := omega) only [if_pos]
    exact hb
theorem BeginCovers : coppicerlaw_BeginCovers.Pure := by
  intro w u hm hs hw hm' hs' hw'
  refine Ev.rounds (g := fun k => coppicerlaw_BeginCovers.f k w u) ?_
  unfold coppicerlaw_BeginCovers.f begin_Cover.f
  by_cases h : (w.length : Int) > 60
  · refine Ev.bind (a := (false, 1)) ?_ ?_
    · simp only [h, if_true]
      refine Ev.step (fun k => begin_Cover.j0.eq_2 _ _ _ k) ?_
      simp only [if_true]; exact Ev.now _
    · simp only [h, if_true]
      refine Ev.step (fun k => coppicerlaw_BeginCovers.j0.eq_2 _ _ _ _ _ k) ?_
      simp only [if_true]; exact Ev.val rfl
  by_cases h' : (u.length : Int) > 60
  · refine Ev.bind (a := (false, 1)) ?_ ?_
    · simp only [h, h', if_false, decide_true]
      refine Ev.step (fun k => begin_Cover.j0.eq_2 _ _ _ k) ?_
      simp only [if_true]; exact Ev.now _
    · simp only [h, h', decide_true, if_false]
      refine Ev.step (fun k => coppicerlaw_BeginCovers.j0.eq_2 _ _ _ _ _ k) ?_
      simp only [if_true]; exact Ev.val rfl
  by_cases hu : (u.length : Int) = 0
  · refine Ev.bind (a := (false, 2)) ?_ ?_
    · simp only [h, h', if_false, decide_false]
      refine Ev.step (fun k => begin_Cover.j0.eq_2 _ _ _ k) ?_
      simp only [hu, Bool.false_eq_true, if_false, if_true]; exact Ev.now _
    · simp only [h, h', decide_false, if_false]
      refine Ev.step (fun k => coppicerlaw_BeginCovers.j0.eq_2 _ _ _ _ _ k) ?_
      simp only [hu, Bool.false_eq_true, if_false, if_true]; exact Ev.val rfl
  · obtain ⟨b, hb, hc⟩ := cover_l0 w u (mem_u8 hw) (mem_u8 hw') (by omega) (by omega) w.length 0 0 (by omega) (by omega) (by omega) (by omega) (by intro x h0 h1; omega) (by
      intro j hj ho; have := ho.1; omega)
    obtain ⟨b', hb', hc'⟩ := covers_l w u (by omega) (by omega) w.length 0 (by omega) (by omega) (by intro x h0 h1; omega)
    have e : b = b' := by rw [Bool.eq_iff_iff, hc, hc']
    refine Ev.bind (a := (b, 0)) ?_ ?_
    · simp only [h, h', if_false, decide_false]
      refine Ev.step (fun k => begin_Cover.j0.eq_2 _ _ _ k) ?_
      simp only [hu, Bool.false_eq_true, if_false]; exact hb
    · simp only [h, h', decide_false, if_false]
      refine Ev.step (fun k => coppicerlaw_BeginCovers.j0.eq_2 _ _ _ _ _ k) ?_
      simp only [hu, Bool.false_eq_true, if_false, if_true]
      exact Ev.bind (a := b') hb' (Ev.val (by simp [e]))

end Go.Proofs.Ytkhmjehjhjhpkaa.Pure
