/- The law PowerMeets as a statement over numbers and lists alone: it holds under the bounds that the statement names. -/
import Derived.Test.YtkhmjehjhjhpkaaPPowerMeetsx1
set_option linter.unusedVariables false
set_option linter.unusedSimpArgs false
namespace Go.Proofs.Ytkhmjehjhjhpkaa.Pure
open Go.RowKit Go.Proofs.Ytkhmjehjhjhpkaa.PPowerMeets Go.Proofs.YtkhmjehjhjhpkaaW.PrintWords Go.Proofs.YtkhmjehjhjhpkaaW.PrintLast Go.Proofs.YtkhmjehjhjhpkaaW.PrintMore

/-! ### base: words for every pure text -/
theorem w64 {x : Int} (h0 : -9223372036854775808 ≤ x) (h1 : x ≤ 9223372036854775807) : wrap64 x = x := by unfold wrap64; omega
theorem Ev.pos {α : Type} {c : Prop} [Decidable c] {g f : Nat → Option α} {r : α} (h : c) (e : Ev g r) : Ev (fun k => if c then g k else f k) r := Ev.congr (fun k => by rw [if_pos h]) e
theorem Ev.neg {α : Type} {c : Prop} [Decidable c] {g f : Nat → Option α} {r : α} (h : ¬ c) (e : Ev f r) : Ev (fun k => if c then g k else f k) r := Ev.congr (fun k => by rw [if_neg h]) e
theorem Ev.val {α : Type} {r q : α} (h : r = q) : Ev (fun _ => some r) q := by subst h; exact Ev.now r
theorem rd_getElem {l : List Int} {i : Int} (h1 : i.toNat < l.length) : rd l i = l[i.toNat] := by simp [rd, List.getD_eq_getElem?_getD, List.getElem?_eq_getElem h1]
theorem drop_rd {l : List Int} {i : Int} (h0 : 0 ≤ i) (h1 : i < l.length) : l.drop i.toNat = rd l i :: l.drop (i + 1).toNat := by
  have h : i.toNat < l.length := by omega
  rw [rd_getElem h, List.drop_eq_getElem_cons h]; congr 2; omega
theorem take_rd {l : List Int} {i : Int} (h0 : 0 ≤ i) (h1 : i < l.length) : l.take (i + 1).toNat = l.take i.toNat ++ [rd l i] := by
  have h : i.toNat < l.length := by omega
  have e : (i + 1).toNat = i.toNat + 1 := by omega
  rw [rd_getElem h, e, List.take_succ_eq_append_getElem h]
theorem rd_drop (l : List Int) (n : Nat) (i : Int) (h0 : 0 ≤ i) : rd (l.drop n) i = rd l (i + n) := by
  have e : (i + n).toNat = n + i.toNat := by omega
  simp only [rd, List.getD_eq_getElem?_getD, List.getElem?_drop, e]
theorem rd_take (l : List Int) (n : Nat) (i : Int) (h0 : 0 ≤ i) (h1 : i < n) : rd (l.take n) i = rd l i := by
  simp only [rd, List.getD_eq_getElem?_getD]; rw [List.getElem?_take_of_lt (by omega)]
theorem drop_all {α : Type} (l : List α) (n : Nat) (h : l.length ≤ n) : l.drop n = [] := List.drop_eq_nil_of_le h
theorem dec_ne {a b : Int} {l m : List Int} (h : a ≠ b) : decide (a :: l = b :: m) = false := decide_eq_false (fun q => h (List.cons.inj q).1)
theorem Ev.no {p : Prop} [Decidable p] (h : ¬ p) : Ev (fun _ => some false) (decide p) := Ev.val (decide_eq_false h).symm
theorem Ev.yes {p : Prop} [Decidable p] (h : p) : Ev (fun _ => some true) (decide p) := Ev.val (decide_eq_true h).symm
theorem ext_rd {a b : List Int} (hl : a.length = b.length) (h : ∀ i : Int, 0 ≤ i → i < a.length → rd a i = rd b i) : a = b := by
  apply List.ext_getElem hl
  intro i h1 h2
  have := h i (by omega) (by omega)
  rwa [rd_getElem (by simpa using h1), rd_getElem (by simpa using h2)] at this
theorem wf_u8 {x : Int} (h : (Lit.int .u8 x).wf = true) : 0 ≤ x ∧ x ≤ 255 := by simpa [Lit.wf, IntKind.min, IntKind.max, IntKind.signed, IntKind.bits] using h
theorem wf_u32 {x : Int} (h : (Lit.int .u32 x).wf = true) : 0 ≤ x ∧ x ≤ 4294967295 := by simpa [Lit.wf, IntKind.min, IntKind.max, IntKind.signed, IntKind.bits] using h
theorem wf_i64 {x : Int} (h : (Lit.int .i64 x).wf = true) : -9223372036854775808 ≤ x ∧ x ≤ 9223372036854775807 := by simpa [Lit.wf, IntKind.min, IntKind.max, IntKind.signed, IntKind.bits] using h
theorem rd_mem {l : List Int} {i : Int} (h0 : 0 ≤ i) (h1 : i < l.length) : rd l i ∈ l := by
  rw [rd_getElem (by omega)]; exact List.getElem_mem _
theorem rd_u8 {l : List Int} (hw : ∀ x ∈ l, (Lit.int .u8 x).wf = true) {i : Int} (h0 : 0 ≤ i) (h1 : i < l.length) : 0 ≤ rd l i ∧ rd l i ≤ 255 := wf_u8 (hw _ (rd_mem h0 h1))
theorem tm {a b : Int} (h : 0 ≤ a) : Int.tmod a b = a % b := Int.tmod_eq_emod_of_nonneg h
theorem td {a b : Int} (h : 0 ≤ a) : Int.tdiv a b = a / b := Int.tdiv_eq_ediv_of_nonneg h

/-! ### coppicerref_Bytes -/
theorem Bytes_l0 (a b : List Int) (hl : a.length = b.length) (hb : (a.length : Int) ≤ 4611686018427387904) (d : Nat) : ∀ i : Int, 0 ≤ i → i + d = a.length → Ev (fun k => coppicerref_Bytes.l0 k a b i) (decide (a.drop i.toNat = b.drop i.toNat)) := by
  induction d with
  | zero =>
    intro i h0 hd
    refine Ev.step (fun k => coppicerref_Bytes.l0.eq_2 _ _ _ k) ?_
    simp (disch := omega) only [if_pos, if_neg]
    exact Ev.val (by rw [List.drop_eq_nil_of_le (by omega), List.drop_eq_nil_of_le (by omega)]; simp)
  | succ d ih =>
    intro i h0 hd
    refine Ev.step (fun k => coppicerref_Bytes.l0.eq_2 _ _ _ k) ?_
    simp (disch := omega) only [if_pos, w64]
    rw [drop_rd h0 (by omega), drop_rd (l := b) h0 (by omega)]
    by_cases h : rd a i = rd b i
    · simp only [if_pos h]
      exact Ev.congr (fun _ => rfl) (by simpa [h] using ih (i + 1) (by omega) (by omega))
    · simp only [if_neg h]
      exact Ev.val (by simp [h])
theorem Bytes_ev (a b : List Int) (hb : (a.length : Int) ≤ 4611686018427387904) : Ev (fun k => coppicerref_Bytes.f k a b) (decide (a = b)) := by
  unfold coppicerref_Bytes.f
  by_cases hl : a.length = b.length
  · simp (disch := omega) only [if_pos]
    simpa using Bytes_l0 a b hl hb a.length 0 (by omega) (by omega)
  · simp (disch := omega) only [if_neg]
    exact Ev.val (by simp; intro h; exact hl (by rw [h]))

theorem ba_toList (s : ByteArray) : s.toList = s.data.toList := by
  have h : ∀ (n i : Nat) (r : List UInt8), s.size - i = n → ByteArray.toList.loop s i r = r.reverse ++ s.data.toList.drop i := by
    intro n
    induction n with
    | zero =>
      intro i r h
      unfold ByteArray.toList.loop
      rw [if_neg (by omega), List.drop_eq_nil_of_le (by simp; exact Nat.le_of_sub_eq_zero h)]
      simp
    | succ n ih =>
      intro i r h
      unfold ByteArray.toList.loop
      rw [if_pos (by omega), ih (i + 1) _ (by omega)]
      have hi : i < s.data.toList.length := by simp; exact (show i < s.size by omega)
      rw [List.drop_eq_getElem_cons hi]
      have hi' : i < s.data.size := by simpa using hi
      have e : s.get! i = s.data.toList[i] := by
        cases s with | mk d => simp only [ByteArray.get!, Array.getElem_toList]; exact getElem!_pos d i hi'
      simp [e]
  have := h s.size 0 [] (by omega)
  simpa [ByteArray.toList] using this
theorem u8_inj : ∀ {a b : List Int}, (∀ x ∈ a, 0 ≤ x ∧ x ≤ 255) → (∀ x ∈ b, 0 ≤ x ∧ x ≤ 255) → a.map (fun n => UInt8.ofNat n.toNat) = b.map (fun n => UInt8.ofNat n.toNat) → a = b
  | [], [], _, _, _ => rfl
  | [], _ :: _, _, _, h => by simp at h
  | _ :: _, [], _, _, h => by simp at h
  | x :: a, y :: b, ha, hb, h => by
    simp only [List.map_cons, List.cons.injEq] at h
    have h1 := ha x (by simp)
    have h2 := hb y (by simp)
    have h3 : x = y := by
      have := congrArg UInt8.toNat h.1
      simp only [UInt8.toNat_ofNat'] at this
      omega
    rw [h3, u8_inj (fun z hz => ha z (by simp [hz])) (fun z hz => hb z (by simp [hz])) h.2]
theorem strEq {a b : List Int} (ha : ∀ x ∈ a, 0 ≤ x ∧ x ≤ 255) (hb : ∀ x ∈ b, 0 ≤ x ∧ x ≤ 255) : ((strOfNums a).toList == (strOfNums b).toList) = decide (a = b) := by
  rw [ba_toList, ba_toList]
  simp only [strOfNums]
  by_cases h : a = b
  · simp [h]
  · have : ¬ a.map (fun n => UInt8.ofNat n.toNat) = b.map (fun n => UInt8.ofNat n.toNat) := fun e => h (u8_inj ha hb e)
    simp [h, this]
theorem mem_u8 {l : List Int} (hw : ∀ x ∈ l, (Lit.int .u8 x).wf = true) : ∀ x ∈ l, 0 ≤ x ∧ x ≤ 255 := fun x hx => wf_u8 (hw x hx)
theorem u8_drop {l : List Int} (h : ∀ x ∈ l, 0 ≤ x ∧ x ≤ 255) (n : Nat) : ∀ x ∈ l.drop n, 0 ≤ x ∧ x ≤ 255 := fun x hx => h x (List.mem_of_mem_drop hx)
theorem u8_take {l : List Int} (h : ∀ x ∈ l, 0 ≤ x ∧ x ≤ 255) (n : Nat) : ∀ x ∈ l.take n, 0 ≤ x ∧ x ≤ 255 := fun x hx => h x (List.mem_of_mem_take hx)

/-! ### coppicerref_Join -/
theorem Join_eq (a b : List Int) (h : a.length + b.length < 140737488355328) : coppicerref_Join.f a b = some (a ++ b) := by
  unfold coppicerref_Join.f
  simp (disch := omega) only [Option.bind_some, List.length_nil, List.nil_append, Nat.zero_add, if_pos]

theorem large2 (a b : List Int) : Ev (fun k => power_large.f k [a, b]) (decide ((a.length : Int) > 60 ∨ (b.length : Int) > 60)) := by
  unfold power_large.f
  have e0 : rd_L1 [a, b] 0 = a := rfl
  have e1 : rd_L1 [a, b] 1 = b := rfl
  refine Ev.step (fun k => power_large.l0.eq_2 _ _ _ k) ?_
  simp (disch := omega) only [List.length_cons, List.length_nil, if_pos, e0]
  by_cases h : (a.length : Int) > 60
  · simp only [if_pos h]; exact Ev.val (by simp [h])
  · simp only [if_neg h]
    refine Ev.step (fun k => power_large.l0.eq_2 _ _ _ k) ?_
    simp (disch := omega) only [List.length_cons, List.length_nil, if_pos, w64, Int.zero_add, e1]
    by_cases h2 : (b.length : Int) > 60
    · simp only [if_pos h2]; exact Ev.val (by simp [h2])
    · simp only [if_neg h2]
      refine Ev.step (fun k => power_large.l0.eq_2 _ _ _ k) ?_
      simp (disch := omega) only [List.length_cons, List.length_nil, w64, if_neg]
      exact Ev.val (by simp [h, h2])
theorem u8_append {l m : List Int} (h : ∀ x ∈ l, 0 ≤ x ∧ x ≤ 255) (h' : ∀ x ∈ m, 0 ≤ x ∧ x ≤ 255) : ∀ x ∈ l ++ m, 0 ≤ x ∧ x ≤ 255 := fun x hx => by
  rcases List.mem_append.1 hx with q | q
  · exact h x q
  · exact h' x q
theorem PowerMeets : coppicerlaw_PowerMeets.Pure := by
  intro u v hm hs hw hm' hs' hw'
  refine Ev.rounds (g := fun k => coppicerlaw_PowerMeets.f k u v) ?_
  unfold coppicerlaw_PowerMeets.f power_Meet.f
  by_cases h : (u.length : Int) > 60 ∨ (v.length : Int) > 60
  · refine Ev.bind (a := (false, 1)) (Ev.bind (large2 u v) (Ev.congr (fun _ => rfl) ?_)) ?_
    · simp only [h, decide_true, if_true]; exact Ev.now _
    · have key : Ev (fun k => coppicerlaw_PowerMeets.j0 k u v false 1 true) true := by
        refine Ev.step (fun k => coppicerlaw_PowerMeets.j0.eq_2 _ _ _ _ _ k) ?_
        simp only [if_true]; exact Ev.val rfl
      by_cases h1 : (u.length : Int) > 60
      · simp only [h1, if_true]; exact key
      · have h2 : (v.length : Int) > 60 := by omega
        simp only [h1, if_false, h2, decide_true]; exact key
  · have h1 : ¬ (u.length : Int) > 60 := by omega
    have h2 : ¬ (v.length : Int) > 60 := by omega
    have hL : ∀ a b : List Int, bytes_Clone.f a = some a ∨ ¬ a.length < 140737488355328 := by
      intro a b
      by_cases q : a.length < 140737488355328
      · exact .inl (by unfold bytes_Clone.f; rw [if_pos q])
      · exact .inr q
    refine Ev.bind (a := (decide (u ++ v = v ++ u), 0)) (Ev.bind (large2 u v) (Ev.congr (fun _ => rfl) ?_)) ?_
    · simp only [h, decide_false, Bool.false_eq_true, if_false, bytes_Clone.f, bytes_Equal.f]
      simp (disch := omega) only [if_pos, Option.bind_some]
      rw [strEq (u8_append (mem_u8 hw) (mem_u8 hw')) (u8_append (mem_u8 hw') (mem_u8 hw))]
      exact Ev.now _
    · simp only [h1, h2, if_false, decide_false]
      refine Ev.step (fun k => coppicerlaw_PowerMeets.j0.eq_2 _ _ _ _ _ k) ?_
      simp only [Bool.false_eq_true, if_false, if_true, Join_eq u v (by omega), Join_eq v u (by omega), Option.bind_some]
      exact Ev.bind (Bytes_ev _ _ (by simp; omega)) (Ev.val (by simp))

end Go.Proofs.Ytkhmjehjhjhpkaa.Pure
