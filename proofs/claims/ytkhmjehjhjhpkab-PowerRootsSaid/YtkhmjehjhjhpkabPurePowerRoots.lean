/- The law PowerRoots as a statement over numbers and lists alone: it holds under the bounds that the statement names. -/
import Derived.Test.YtkhmjehjhjhpkabPPowerRootsx2
set_option linter.unusedVariables false
set_option linter.unusedSimpArgs false
set_option linter.unusedSectionVars false
namespace Go.Proofs.Ytkhmjehjhjhpkab.Pure
open Go.RowKit Go.Proofs.Ytkhmjehjhjhpkab.PPowerRoots Go.Proofs.YtkhmjehjhjhpkabW.PrintWords Go.Proofs.YtkhmjehjhjhpkabW.PrintLast Go.Proofs.YtkhmjehjhjhpkabW.PrintMore

/-! ### base: words for every pure text -/
theorem w64 {x : Int} (h0 : -9223372036854775808 ≤ x) (h1 : x ≤ 9223372036854775807) : wrap64 x = x := by unfold wrap64; omega
theorem Ev.pos {α : Type} {c : Prop} [Decidable c] {g f : Nat → Option α} {r : α} (h : c) (e : Ev g r) : Ev (fun k => if c then g k else f k) r := Ev.congr (fun k => by rw [if_pos h]) e
theorem Ev.neg {α : Type} {c : Prop} [Decidable c] {g f : Nat → Option α} {r : α} (h : ¬ c) (e : Ev f r) : Ev (fun k => if c then g k else f k) r := Ev.congr (fun k => by rw [if_neg h]) e
theorem Ev.val {α : Type} {r q : α} (h : r = q) : Ev (fun _ => some r) q := by subst h; exact Ev.now r
theorem rd_getElem {l : List Int} {i : Int} (h1 : i.toNat < l.length) : rd l i = l[i.toNat] := by simp [rd, List.getD_eq_getElem?_getD, List.getElem?_eq_getElem h1]
theorem drop_rd {l : List Int} {i : Int} (h0 : 0 ≤ i) (h1 : i < l.length) : l.drop i.toNat = rd l i :: l.drop (i + 1).toNat := by
  have h : i.toNat < l.length := by omega
  rw [rd_getElem h, List.drop_eq_getElem_cons h]; congr 2; omega
theorem take_rd {l : List Int} {i : Int} (h0 : 0 ≤ i) (h1 : i < l.length) : l.take (i + 1).toNat = l.take i.toNat ++ [rd l i] := by
  have h : i.toNat < l.length := by omega
  have e : (i + 1).toNat = i.toNat + 1 := by omega
  rw [rd_getElem h, e, List.take_succ_eq_append_getElem h]
theorem rd_drop (l : List Int) (n : Nat) (i : Int) (h0 : 0 ≤ i) : rd (l.drop n) i = rd l (i + n) := by
  have e : (i + n).toNat = n + i.toNat := by omega
  simp only [rd, List.getD_eq_getElem?_getD, List.getElem?_drop, e]
theorem rd_take (l : List Int) (n : Nat) (i : Int) (h0 : 0 ≤ i) (h1 : i < n) : rd (l.take n) i = rd l i := by
  simp only [rd, List.getD_eq_getElem?_getD]; rw [List.getElem?_take_of_lt (by omega)]
theorem drop_all {α : Type} (l : List α) (n : Nat) (h : l.length ≤ n) : l.drop n = [] := List.drop_eq_nil_of_le h
theorem dec_ne {a b : Int} {l m : List Int} (h : a ≠ b) : decide (a :: l = b :: m) = false := decide_eq_false (fun q => h (List.cons.inj q).1)
theorem Ev.no {p : Prop} [Decidable p] (h : ¬ p) : Ev (fun _ => some false) (decide p) := Ev.val (decide_eq_false h).symm
theorem Ev.yes {p : Prop} [Decidable p] (h : p) : Ev (fun _ => some true) (decide p) := Ev.val (decide_eq_true h).symm
theorem ext_rd {a b : List Int} (hl : a.length = b.length) (h : ∀ i : Int, 0 ≤ i → i < a.length → rd a i = rd b i) : a = b := by
  apply List.ext_getElem hl
  intro i h1 h2
  have := h i (by omega) (by omega)
  rwa [rd_getElem (by simpa using h1), rd_getElem (by simpa using h2)] at this
theorem wf_u8 {x : Int} (h : (Lit.int .u8 x).wf = true) : 0 ≤ x ∧ x ≤ 255 := by simpa [Lit.wf, IntKind.min, IntKind.max, IntKind.signed, IntKind.bits] using h
theorem wf_u32 {x : Int} (h : (Lit.int .u32 x).wf = true) : 0 ≤ x ∧ x ≤ 4294967295 := by simpa [Lit.wf, IntKind.min, IntKind.max, IntKind.signed, IntKind.bits] using h
theorem wf_i64 {x : Int} (h : (Lit.int .i64 x).wf = true) : -9223372036854775808 ≤ x ∧ x ≤ 9223372036854775807 := by simpa [Lit.wf, IntKind.min, IntKind.max, IntKind.signed, IntKind.bits] using h
theorem rd_mem {l : List Int} {i : Int} (h0 : 0 ≤ i) (h1 : i < l.length) : rd l i ∈ l := by
  rw [rd_getElem (by omega)]; exact List.getElem_mem _
theorem rd_u8 {l : List Int} (hw : ∀ x ∈ l, (Lit.int .u8 x).wf = true) {i : Int} (h0 : 0 ≤ i) (h1 : i < l.length) : 0 ≤ rd l i ∧ rd l i ≤ 255 := wf_u8 (hw _ (rd_mem h0 h1))
theorem tm {a b : Int} (h : 0 ≤ a) : Int.tmod a b = a % b := Int.tmod_eq_emod_of_nonneg h
theorem td {a b : Int} (h : 0 ≤ a) : Int.tdiv a b = a / b := Int.tdiv_eq_ediv_of_nonneg h

theorem ba_toList (s : ByteArray) : s.toList = s.data.toList := by
  have h : ∀ (n i : Nat) (r : List UInt8), s.size - i = n → ByteArray.toList.loop s i r = r.reverse ++ s.data.toList.drop i := by
    intro n
    induction n with
    | zero =>
      intro i r h
      unfold ByteArray.toList.loop
      rw [if_neg (by omega), List.drop_eq_nil_of_le (by simp; exact Nat.le_of_sub_eq_zero h)]
      simp
    | succ n ih =>
      intro i r h
      unfold ByteArray.toList.loop
      rw [if_pos (by omega), ih (i + 1) _ (by omega)]
      have hi : i < s.data.toList.length := by simp; exact (show i < s.size by omega)
      rw [List.drop_eq_getElem_cons hi]
      have hi' : i < s.data.size := by simpa using hi
      have e : s.get! i = s.data.toList[i] := by
        cases s with | mk d => simp only [ByteArray.get!, Array.getElem_toList]; exact getElem!_pos d i hi'
      simp [e]
  have := h s.size 0 [] (by omega)
  simpa [ByteArray.toList] using this
theorem u8_inj : ∀ {a b : List Int}, (∀ x ∈ a, 0 ≤ x ∧ x ≤ 255) → (∀ x ∈ b, 0 ≤ x ∧ x ≤ 255) → a.map (fun n => UInt8.ofNat n.toNat) = b.map (fun n => UInt8.ofNat n.toNat) → a = b
  | [], [], _, _, _ => rfl
  | [], _ :: _, _, _, h => by simp at h
  | _ :: _, [], _, _, h => by simp at h
  | x :: a, y :: b, ha, hb, h => by
    simp only [List.map_cons, List.cons.injEq] at h
    have h1 := ha x (by simp)
    have h2 := hb y (by simp)
    have h3 : x = y := by
      have := congrArg UInt8.toNat h.1
      simp only [UInt8.toNat_ofNat'] at this
      omega
    rw [h3, u8_inj (fun z hz => ha z (by simp [hz])) (fun z hz => hb z (by simp [hz])) h.2]
theorem strEq {a b : List Int} (ha : ∀ x ∈ a, 0 ≤ x ∧ x ≤ 255) (hb : ∀ x ∈ b, 0 ≤ x ∧ x ≤ 255) : ((strOfNums a).toList == (strOfNums b).toList) = decide (a = b) := by
  rw [ba_toList, ba_toList]
  simp only [strOfNums]
  by_cases h : a = b
  · simp [h]
  · have : ¬ a.map (fun n => UInt8.ofNat n.toNat) = b.map (fun n => UInt8.ofNat n.toNat) := fun e => h (u8_inj ha hb e)
    simp [h, this]
theorem mem_u8 {l : List Int} (hw : ∀ x ∈ l, (Lit.int .u8 x).wf = true) : ∀ x ∈ l, 0 ≤ x ∧ x ≤ 255 := fun x hx => wf_u8 (hw x hx)
theorem u8_drop {l : List Int} (h : ∀ x ∈ l, 0 ≤ x ∧ x ≤ 255) (n : Nat) : ∀ x ∈ l.drop n, 0 ≤ x ∧ x ≤ 255 := fun x hx => h x (List.mem_of_mem_drop hx)
theorem u8_take {l : List Int} (h : ∀ x ∈ l, 0 ≤ x ∧ x ≤ 255) (n : Nat) : ∀ x ∈ l.take n, 0 ≤ x ∧ x ≤ 255 := fun x hx => h x (List.mem_of_mem_take hx)

/-! ### power_large at one word, power_has, coppicerref_Period -/
theorem large1 (l : List Int) : Ev (fun k => power_large.f k [l]) (decide ((l.length : Int) > 60)) := by
  unfold power_large.f
  refine Ev.step (fun k => power_large.l0.eq_2 _ _ _ k) ?_
  have e : rd_L1 [l] 0 = l := rfl
  simp (disch := omega) only [List.length_cons, List.length_nil, if_pos, e]
  by_cases h : (l.length : Int) > 60
  · simp only [if_pos h]; exact Ev.val (by simp [h])
  · simp only [if_neg h]
    refine Ev.step (fun k => power_large.l0.eq_2 _ _ _ k) ?_
    simp (disch := omega) only [List.length_cons, List.length_nil, w64, if_neg]
    exact Ev.val (by simp [h])
def Per (w : List Int) (p : Int) : Prop := 1 ≤ p ∧ p ≤ w.length ∧ w.drop p.toNat = w.take (w.length - p).toNat
instance (w : List Int) (p : Int) : Decidable (Per w p) := by unfold Per; infer_instance
theorem has_eq (w : List Int) (p : Int) (hw : ∀ x ∈ w, 0 ≤ x ∧ x ≤ 255) (hn : w.length ≤ 4611686018427387904) : power_has.f w p = some (decide (Per w p)) := by
  unfold power_has.f Per
  by_cases h1 : p ≥ 1
  · by_cases h2 : p ≤ w.length
    · simp (disch := omega) only [if_pos, w64, bytes_Equal.f, Option.bind_some]
      rw [strEq (u8_drop hw _) (u8_take hw _)]
      simp [h1, h2]
    · rw [if_pos h1, if_neg h2]; simp [h2]
  · rw [if_neg h1]; simp [h1]

/-! ### coppicerref_Bytes -/
theorem Bytes_l0 (a b : List Int) (hl : a.length = b.length) (hb : (a.length : Int) ≤ 4611686018427387904) (d : Nat) : ∀ i : Int, 0 ≤ i → i + d = a.length → Ev (fun k => coppicerref_Bytes.l0 k a b i) (decide (a.drop i.toNat = b.drop i.toNat)) := by
  induction d with
  | zero =>
    intro i h0 hd
    refine Ev.step (fun k => coppicerref_Bytes.l0.eq_2 _ _ _ k) ?_
    simp (disch := omega) only [if_pos, if_neg]
    exact Ev.val (by rw [List.drop_eq_nil_of_le (by omega), List.drop_eq_nil_of_le (by omega)]; simp)
  | succ d ih =>
    intro i h0 hd
    refine Ev.step (fun k => coppicerref_Bytes.l0.eq_2 _ _ _ k) ?_
    simp (disch := omega) only [if_pos, w64]
    rw [drop_rd h0 (by omega), drop_rd (l := b) h0 (by omega)]
    by_cases h : rd a i = rd b i
    · simp only [if_pos h]
      exact Ev.congr (fun _ => rfl) (by simpa [h] using ih (i + 1) (by omega) (by omega))
    · simp only [if_neg h]
      exact Ev.val (by simp [h])
theorem Bytes_ev (a b : List Int) (hb : (a.length : Int) ≤ 4611686018427387904) : Ev (fun k => coppicerref_Bytes.f k a b) (decide (a = b)) := by
  unfold coppicerref_Bytes.f
  by_cases hl : a.length = b.length
  · simp (disch := omega) only [if_pos]
    simpa using Bytes_l0 a b hl hb a.length 0 (by omega) (by omega)
  · simp (disch := omega) only [if_neg]
    exact Ev.val (by simp; intro h; exact hl (by rw [h]))

/-! ### coppicerref_Join -/
theorem Join_eq (a b : List Int) (h : a.length + b.length < 140737488355328) : coppicerref_Join.f a b = some (a ++ b) := by
  unfold coppicerref_Join.f
  simp (disch := omega) only [Option.bind_some, List.length_nil, List.nil_append, Nat.zero_add, if_pos]

/-! ### one word, again and again -/
def pw (u : List Int) : Nat → List Int
  | 0 => []
  | k + 1 => pw u k ++ u
theorem pw_len (u : List Int) : ∀ k, (pw u k).length = k * u.length
  | 0 => by simp [pw]
  | k + 1 => by simp [pw, pw_len u k, Nat.succ_mul]
theorem pw_comm (u : List Int) : ∀ k, pw u k ++ u = u ++ pw u k
  | 0 => by simp [pw]
  | k + 1 => by
    have := pw_comm u k
    show (pw u k ++ u) ++ u = u ++ (pw u k ++ u)
    rw [this, List.append_assoc, this]
theorem pw_per (w : List Int) (n m : Nat) (hn : 1 ≤ n) (hm : w.length = m * n) (hle : n ≤ w.length) : pw (w.take n) m = w ↔ w.drop n = w.take (w.length - n) := by
  have hu : (w.take n).length = n := List.length_take_of_le hle
  constructor
  · intro h
    cases m with
    | zero => rw [Nat.zero_mul] at hm; omega
    | succ m =>
      have h1 : w = w.take n ++ pw (w.take n) m := by rw [← pw_comm]; exact h.symm
      have h2 : w = pw (w.take n) m ++ w.take n := h.symm
      have hl : (pw (w.take n) m).length = w.length - n := by rw [pw_len, hu, hm, Nat.succ_mul]; omega
      have e1 : w.drop n = pw (w.take n) m := by
        have := congrArg (List.drop n) h1
        rwa [List.drop_left' hu] at this
      have e2 : w.take (w.length - n) = pw (w.take n) m := by
        have := congrArg (List.take (w.length - n)) h2
        rwa [List.take_left' hl] at this
      rw [e1, e2]
  · intro h
    have key : ∀ j, j ≤ m → w.take (j * n) = pw (w.take n) j := by
      intro j
      induction j with
      | zero => intro _; simp [pw]
      | succ j ih =>
        intro hj
        have hjn : j * n + n ≤ w.length := by rw [hm, ← Nat.succ_mul]; exact Nat.mul_le_mul_right n hj
        have e : (j + 1) * n = n + j * n := by rw [Nat.succ_mul]; omega
        have ht : w.take (n + j * n) = w.take n ++ (w.drop n).take (j * n) := by rw [List.take_add]
        rw [e, ht, h, List.take_take, Nat.min_eq_left (by omega), ih (by omega)]
        show _ = pw (w.take n) j ++ w.take n
        rw [pw_comm]
    have := key m (Nat.le_refl _)
    rw [← hm, List.take_length] at this
    exact this.symm
theorem root_l1 (w : List Int) (hw : w.length ≤ 60) (n : Int) (h0 : 1 ≤ n) (h1 : n ≤ w.length) (d : Nat) : ∀ (k : Nat), (k : Int) ≤ (pw (w.take n.toNat) k).length → (w.length - (pw (w.take n.toNat) k).length) ≤ d → (k = 0 ∨ (pw (w.take n.toNat) (k - 1)).length < w.length) → (pw (w.take n.toNat) k).length ≤ 120 →
    ∃ m : Nat, w.length ≤ (pw (w.take n.toNat) m).length ∧ (m = 0 ∨ (pw (w.take n.toNat) (m - 1)).length < w.length) ∧
      ∀ R, Ev (fun q => if decide (pw (w.take n.toNat) m = w) = true then some (w.take n.toNat, (m : Int)) else coppicerref_Root.l0 q w (n + 1)) R → Ev (fun q => coppicerref_Root.l1 q w n (pw (w.take n.toNat) k) (k : Int)) R := by
  have hu : (w.take n.toNat).length = n.toNat := List.length_take_of_le (by omega)
  have stop : ∀ k : Nat, w.length ≤ (pw (w.take n.toNat) k).length → (pw (w.take n.toNat) k).length ≤ 120 → ∀ R, Ev (fun q => if decide (pw (w.take n.toNat) k = w) = true then some (w.take n.toNat, (k : Int)) else coppicerref_Root.l0 q w (n + 1)) R → Ev (fun q => coppicerref_Root.l1 q w n (pw (w.take n.toNat) k) (k : Int)) R := by
    intro k hk hb R h
    refine Ev.step (fun k => coppicerref_Root.l1.eq_2 _ _ _ _ k) ?_
    simp (disch := omega) only [if_neg]
    refine Ev.bind (Bytes_ev _ _ (by omega)) ?_
    simp (disch := omega) only [if_pos, w64]
    exact h
  induction d with
  | zero =>
    intro k hk hd hm hb
    exact ⟨k, by omega, hm, stop k (by omega) hb⟩
  | succ d ih =>
    intro k hk hd hm hb
    by_cases c : w.length ≤ (pw (w.take n.toNat) k).length
    · exact ⟨k, c, hm, stop k c hb⟩
    · have e : (pw (w.take n.toNat) (k + 1)).length = (pw (w.take n.toNat) k).length + n.toNat := by rw [show pw (w.take n.toNat) (k + 1) = pw (w.take n.toNat) k ++ w.take n.toNat from rfl, List.length_append, hu]
      obtain ⟨m, m1, m2, m3⟩ := ih (k + 1) (by omega) (by omega) (.inr (by simpa using c)) (by omega)
      refine ⟨m, m1, m2, fun R h => ?_⟩
      refine Ev.step (fun k => coppicerref_Root.l1.eq_2 _ _ _ _ k) ?_
      simp (disch := omega) only [if_pos, w64]
      rw [Join_eq _ _ (by omega)]
      simp only [Option.bind_some]
      exact m3 R h
theorem root_l0 (w : List Int) (hw : w.length ≤ 60) (h8 : ∀ x ∈ w, 0 ≤ x ∧ x ≤ 255) (d : Nat) : ∀ n : Int, 1 ≤ n → n + d = w.length + 1 → ∃ (r : List Int) (m : Int), r.length ≤ 60 ∧ Ev (fun k => power_Root.l0 k w n) (r, m, 0) ∧ Ev (fun k => coppicerref_Root.l0 k w n) (r, m) := by
  induction d with
  | zero =>
    intro n h0 hd
    refine ⟨[], 0, by simp, ?_, ?_⟩
    · refine Ev.step (fun k => power_Root.l0.eq_2 _ _ k) ?_
      simp (disch := omega) only [if_neg]; exact Ev.now _
    · refine Ev.step (fun k => coppicerref_Root.l0.eq_2 _ _ k) ?_
      simp (disch := omega) only [if_neg]; exact Ev.now _
  | succ d ih =>
    intro n h0 hd
    have hu : (w.take n.toNat).length = n.toNat := List.length_take_of_le (by omega)
    obtain ⟨m, m1, m2, m3⟩ := root_l1 w hw n h0 (by omega) w.length 0 (by simp [pw]) (by simp [pw]) (.inl rfl) (by simp [pw])
    -- what both ask
    have key : pw (w.take n.toNat) m = w ↔ ((w.length : Int) % n = 0 ∧ Per w n) := by
      constructor
      · intro h
        have hl : w.length = m * n.toNat := by have := congrArg List.length h; rw [pw_len, hu] at this; omega
        refine ⟨?_, ?_⟩
        · have : (w.length : Int) = m * n := by rw [hl]; push_cast; congr 1; omega
          rw [this]; exact Int.mul_emod_left _ _
        · refine ⟨h0, by omega, ?_⟩
          have := (pw_per w n.toNat m (by omega) hl (by omega)).1 h
          rw [show ((w.length : Int) - n).toNat = w.length - n.toNat by omega]; exact this
      · rintro ⟨a, b⟩
        obtain ⟨q, hq⟩ := Int.dvd_of_emod_eq_zero a
        have hq0 : 0 ≤ q := by
          by_cases c : 0 ≤ q
          · exact c
          · have : n * q < 0 := Int.mul_neg_of_pos_of_neg (by omega) (by omega)
            omega
        obtain ⟨q, rfl⟩ := Int.eq_ofNat_of_zero_le hq0
        have hl : w.length = q * n.toNat := by
          have : (w.length : Int) = ((q * n.toNat : Nat) : Int) := by rw [hq]; push_cast; rw [Int.mul_comm]; congr 1; omega
          omega
        have e : m = q := by
          rw [pw_len, hu] at m1
          rw [hl] at m1 m2
          have g1 : q ≤ m := Nat.le_of_mul_le_mul_right m1 (by omega)
          rcases m2 with m2 | m2
          · omega
          · rw [pw_len, hu] at m2
            have : m - 1 < q := Nat.lt_of_mul_lt_mul_right m2
            omega
        subst e
        refine (pw_per w n.toNat m (by omega) hl (by omega)).2 ?_
        have := b.2.2
        rwa [show ((w.length : Int) - n).toNat = w.length - n.toNat by omega] at this
    by_cases c : pw (w.take n.toNat) m = w
    · obtain ⟨a, b⟩ := key.1 c
      have hl : w.length = m * n.toNat := by have := congrArg List.length c; rw [pw_len, hu] at this; omega
      have hdiv : (w.length : Int) / n = m := by
        have : (w.length : Int) = m * n := by rw [hl]; push_cast; congr 1; omega
        rw [this]; exact Int.mul_ediv_cancel _ (by omega)
      have hm60 : (m : Int) ≤ w.length := by
        have : m * 1 ≤ m * n.toNat := Nat.mul_le_mul_left m (by omega)
        omega
      refine ⟨w.take n.toNat, (m : Int), by omega, ?_, ?_⟩
      · refine Ev.step (fun k => power_Root.l0.eq_2 _ _ k) ?_
        rw [has_eq w n h8 (by omega)]
        simp (disch := omega) only [if_pos (show n ≤ (w.length : Int) by omega), if_neg (show ¬ n = 0 by omega), if_pos a, Option.bind_some, b, decide_true, if_true, if_pos (show 0 ≤ n by omega), bytes_Clone.f, if_pos (show (w.take n.toNat).length < 140737488355328 by omega), hdiv, w64]
        exact Ev.now _
      · refine Ev.step (fun k => coppicerref_Root.l0.eq_2 _ _ k) ?_
        simp (disch := omega) only [if_pos]
        refine m3 _ ?_
        simp only [c, decide_true, if_true]; exact Ev.now _
    · obtain ⟨r, k, hr, h1, h2⟩ := ih (n + 1) (by omega) (by omega)
      refine ⟨r, k, hr, ?_, ?_⟩
      · refine Ev.step (fun k => power_Root.l0.eq_2 _ _ k) ?_
        rw [has_eq w n h8 (by omega)]
        simp (disch := omega) only [if_pos (show n ≤ (w.length : Int) by omega), if_neg (show ¬ n = 0 by omega), w64]
        by_cases a : (w.length : Int) % n = 0
        · have b : ¬ Per w n := fun b => c (key.2 ⟨a, b⟩)
          simp only [if_pos a, Option.bind_some, b, decide_false, Bool.false_eq_true, if_false]
          exact h1
        · simp only [if_neg a]; exact h1
      · refine Ev.step (fun k => coppicerref_Root.l0.eq_2 _ _ k) ?_
        simp (disch := omega) only [if_pos]
        refine m3 _ ?_
        simp only [c, decide_false, Bool.false_eq_true, if_false]; exact h2
theorem PowerRoots : coppicerlaw_PowerRoots.Pure := by
  intro w hm hs hw
  refine Ev.rounds (g := fun k => coppicerlaw_PowerRoots.f k w) ?_
  unfold coppicerlaw_PowerRoots.f power_Root.f
  by_cases h : (w.length : Int) > 60
  · refine Ev.bind (a := ([], 0, 1)) (Ev.bind (large1 w) (Ev.congr (fun _ => rfl) ?_)) ?_
    · simp only [h, decide_true, if_true]; exact Ev.now _
    · simp only [h, if_true]; exact Ev.val rfl
  · obtain ⟨r, m, hr, h1, h2⟩ := root_l0 w (by omega) (mem_u8 hw) w.length 1 (by omega) (by omega)
    refine Ev.bind (a := (r, m, 0)) (Ev.bind (large1 w) (Ev.congr (fun _ => rfl) ?_)) ?_
    · simp only [h, decide_false, Bool.false_eq_true, if_false]; exact h1
    · simp only [h, if_false, if_true]
      unfold coppicerref_Root.f
      refine Ev.bind h2 (Ev.bind (Bytes_ev _ _ (by show (r.length : Int) ≤ _; omega)) ?_)
      simp only [decide_true, if_true, beq_self_eq_true]; exact Ev.now _

end Go.Proofs.Ytkhmjehjhjhpkab.Pure
