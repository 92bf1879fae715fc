/- The law PowerAlls as a statement over numbers and lists alone: it holds under the bounds that the statement names. -/
import Derived.Test.YtkhmjehjhjhpkaaPPowerAllsx2
set_option linter.unusedVariables false
set_option linter.unusedSimpArgs false
namespace Go.Proofs.Ytkhmjehjhjhpkaa.Pure
open Go.RowKit Go.Proofs.Ytkhmjehjhjhpkaa.PPowerAlls Go.Proofs.YtkhmjehjhjhpkaaW.PrintWords Go.Proofs.YtkhmjehjhjhpkaaW.PrintLast Go.Proofs.YtkhmjehjhjhpkaaW.PrintMore

/-! ### base: words for every pure text -/
theorem w64 {x : Int} (h0 : -9223372036854775808 ≤ x) (h1 : x ≤ 9223372036854775807) : wrap64 x = x := by unfold wrap64; omega
theorem Ev.pos {α : Type} {c : Prop} [Decidable c] {g f : Nat → Option α} {r : α} (h : c) (e : Ev g r) : Ev (fun k => if c then g k else f k) r := Ev.congr (fun k => by rw [if_pos h]) e
theorem Ev.neg {α : Type} {c : Prop} [Decidable c] {g f : Nat → Option α} {r : α} (h : ¬ c) (e : Ev f r) : Ev (fun k => if c then g k else f k) r := Ev.congr (fun k => by rw [if_neg h]) e
theorem Ev.val {α : Type} {r q : α} (h : r = q) : Ev (fun _ => some r) q := by subst h; exact Ev.now r
theorem rd_getElem {l : List Int} {i : Int} (h1 : i.toNat < l.length) : rd l i = l[i.toNat] := by simp [rd, List.getD_eq_getElem?_getD, List.getElem?_eq_getElem h1]
theorem drop_rd {l : List Int} {i : Int} (h0 : 0 ≤ i) (h1 : i < l.length) : l.drop i.toNat = rd l i :: l.drop (i + 1).toNat := by
  have h : i.toNat < l.length := by omega
  rw [rd_getElem h, List.drop_eq_getElem_cons h]; congr 2; omega
theorem take_rd {l : List Int} {i : Int} (h0 : 0 ≤ i) (h1 : i < l.length) : l.take (i + 1).toNat = l.take i.toNat ++ [rd l i] := by
  have h : i.toNat < l.length := by omega
  have e : (i + 1).toNat = i.toNat + 1 := by omega
  rw [rd_getElem h, e, List.take_succ_eq_append_getElem h]
theorem rd_drop (l : List Int) (n : Nat) (i : Int) (h0 : 0 ≤ i) : rd (l.drop n) i = rd l (i + n) := by
  have e : (i + n).toNat = n + i.toNat := by omega
  simp only [rd, List.getD_eq_getElem?_getD, List.getElem?_drop, e]
theorem rd_take (l : List Int) (n : Nat) (i : Int) (h0 : 0 ≤ i) (h1 : i < n) : rd (l.take n) i = rd l i := by
  simp only [rd, List.getD_eq_getElem?_getD]; rw [List.getElem?_take_of_lt (by omega)]
theorem dec_ne {a b : Int} {l m : List Int} (h : a ≠ b) : decide (a :: l = b :: m) = false := decide_eq_false (fun q => h (List.cons.inj q).1)
theorem Ev.no {p : Prop} [Decidable p] (h : ¬ p) : Ev (fun _ => some false) (decide p) := Ev.val (decide_eq_false h).symm
theorem Ev.yes {p : Prop} [Decidable p] (h : p) : Ev (fun _ => some true) (decide p) := Ev.val (decide_eq_true h).symm
theorem ext_rd {a b : List Int} (hl : a.length = b.length) (h : ∀ i : Int, 0 ≤ i → i < a.length → rd a i = rd b i) : a = b := by
  apply List.ext_getElem hl
  intro i h1 h2
  have := h i (by omega) (by omega)
  rwa [rd_getElem (by simpa using h1), rd_getElem (by simpa using h2)] at this
theorem wf_u8 {x : Int} (h : (Lit.int .u8 x).wf = true) : 0 ≤ x ∧ x ≤ 255 := by simpa [Lit.wf, IntKind.min, IntKind.max, IntKind.signed, IntKind.bits] using h
theorem wf_u32 {x : Int} (h : (Lit.int .u32 x).wf = true) : 0 ≤ x ∧ x ≤ 4294967295 := by simpa [Lit.wf, IntKind.min, IntKind.max, IntKind.signed, IntKind.bits] using h
theorem wf_i64 {x : Int} (h : (Lit.int .i64 x).wf = true) : -9223372036854775808 ≤ x ∧ x ≤ 9223372036854775807 := by simpa [Lit.wf, IntKind.min, IntKind.max, IntKind.signed, IntKind.bits] using h
theorem rd_mem {l : List Int} {i : Int} (h0 : 0 ≤ i) (h1 : i < l.length) : rd l i ∈ l := by
  rw [rd_getElem (by omega)]; exact List.getElem_mem _
theorem rd_u8 {l : List Int} (hw : ∀ x ∈ l, (Lit.int .u8 x).wf = true) {i : Int} (h0 : 0 ≤ i) (h1 : i < l.length) : 0 ≤ rd l i ∧ rd l i ≤ 255 := wf_u8 (hw _ (rd_mem h0 h1))
theorem tm {a b : Int} (h : 0 ≤ a) : Int.tmod a b = a % b := Int.tmod_eq_emod_of_nonneg h
theorem td {a b : Int} (h : 0 ≤ a) : Int.tdiv a b = a / b := Int.tdiv_eq_ediv_of_nonneg h

/-! ### coppicerref_Ints -/
theorem Ints_l0 (a b : List Int) (hl : a.length = b.length) (hb : (a.length : Int) ≤ 4611686018427387904) (d : Nat) : ∀ i : Int, 0 ≤ i → i + d = a.length → Ev (fun k => coppicerref_Ints.l0 k a b i) (decide (a.drop i.toNat = b.drop i.toNat)) := by
  induction d with
  | zero =>
    intro i h0 hd
    refine Ev.step (fun k => coppicerref_Ints.l0.eq_2 _ _ _ k) ?_
    simp (disch := omega) only [if_pos, if_neg]
    exact Ev.val (by rw [List.drop_eq_nil_of_le (by omega), List.drop_eq_nil_of_le (by omega)]; simp)
  | succ d ih =>
    intro i h0 hd
    refine Ev.step (fun k => coppicerref_Ints.l0.eq_2 _ _ _ k) ?_
    simp (disch := omega) only [if_pos, w64]
    rw [drop_rd h0 (by omega), drop_rd (l := b) h0 (by omega)]
    by_cases h : rd a i = rd b i
    · simp only [if_pos h]
      exact Ev.congr (fun _ => rfl) (by simpa [h] using ih (i + 1) (by omega) (by omega))
    · simp only [if_neg h]
      exact Ev.val (by simp [h])
theorem Ints_ev (a b : List Int) (hb : (a.length : Int) ≤ 4611686018427387904) : Ev (fun k => coppicerref_Ints.f k a b) (decide (a = b)) := by
  unfold coppicerref_Ints.f
  by_cases hl : a.length = b.length
  · simp (disch := omega) only [if_pos]
    simpa using Ints_l0 a b hl hb a.length 0 (by omega) (by omega)
  · simp (disch := omega) only [if_neg]
    exact Ev.val (by simp; intro h; exact hl (by rw [h]))

theorem ba_toList (s : ByteArray) : s.toList = s.data.toList := by
  have h : ∀ (n i : Nat) (r : List UInt8), s.size - i = n → ByteArray.toList.loop s i r = r.reverse ++ s.data.toList.drop i := by
    intro n
    induction n with
    | zero =>
      intro i r h
      unfold ByteArray.toList.loop
      rw [if_neg (by omega), List.drop_eq_nil_of_le (by simp; exact Nat.le_of_sub_eq_zero h)]
      simp
    | succ n ih =>
      intro i r h
      unfold ByteArray.toList.loop
      rw [if_pos (by omega), ih (i + 1) _ (by omega)]
      have hi : i < s.data.toList.length := by simp; exact (show i < s.size by omega)
      rw [List.drop_eq_getElem_cons hi]
      have hi' : i < s.data.size := by simpa using hi
      have e : s.get! i = s.data.toList[i] := by
        cases s with | mk d => simp only [ByteArray.get!, Array.getElem_toList]; exact getElem!_pos d i hi'
      simp [e]
  have := h s.size 0 [] (by omega)
  simpa [ByteArray.toList] using this
theorem u8_inj : ∀ {a b : List Int}, (∀ x ∈ a, 0 ≤ x ∧ x ≤ 255) → (∀ x ∈ b, 0 ≤ x ∧ x ≤ 255) → a.map (fun n => UInt8.ofNat n.toNat) = b.map (fun n => UInt8.ofNat n.toNat) → a = b
  | [], [], _, _, _ => rfl
  | [], _ :: _, _, _, h => by simp at h
  | _ :: _, [], _, _, h => by simp at h
  | x :: a, y :: b, ha, hb, h => by
    simp only [List.map_cons, List.cons.injEq] at h
    have h1 := ha x (by simp)
    have h2 := hb y (by simp)
    have h3 : x = y := by
      have := congrArg UInt8.toNat h.1
      simp only [UInt8.toNat_ofNat'] at this
      omega
    rw [h3, u8_inj (fun z hz => ha z (by simp [hz])) (fun z hz => hb z (by simp [hz])) h.2]
theorem strEq {a b : List Int} (ha : ∀ x ∈ a, 0 ≤ x ∧ x ≤ 255) (hb : ∀ x ∈ b, 0 ≤ x ∧ x ≤ 255) : ((strOfNums a).toList == (strOfNums b).toList) = decide (a = b) := by
  rw [ba_toList, ba_toList]
  simp only [strOfNums]
  by_cases h : a = b
  · simp [h]
  · have : ¬ a.map (fun n => UInt8.ofNat n.toNat) = b.map (fun n => UInt8.ofNat n.toNat) := fun e => h (u8_inj ha hb e)
    simp [h, this]
theorem mem_u8 {l : List Int} (hw : ∀ x ∈ l, (Lit.int .u8 x).wf = true) : ∀ x ∈ l, 0 ≤ x ∧ x ≤ 255 := fun x hx => wf_u8 (hw x hx)
theorem u8_drop {l : List Int} (h : ∀ x ∈ l, 0 ≤ x ∧ x ≤ 255) (n : Nat) : ∀ x ∈ l.drop n, 0 ≤ x ∧ x ≤ 255 := fun x hx => h x (List.mem_of_mem_drop hx)
theorem u8_take {l : List Int} (h : ∀ x ∈ l, 0 ≤ x ∧ x ≤ 255) (n : Nat) : ∀ x ∈ l.take n, 0 ≤ x ∧ x ≤ 255 := fun x hx => h x (List.mem_of_mem_take hx)

/-! ### power_large at one word, power_has, coppicerref_Period -/
theorem large1 (l : List Int) : Ev (fun k => power_large.f k [l]) (decide ((l.length : Int) > 60)) := by
  unfold power_large.f
  refine Ev.step (fun k => power_large.l0.eq_2 _ _ _ k) ?_
  have e : rd_L2 [l] 0 = l := rfl
  simp (disch := omega) only [List.length_cons, List.length_nil, if_pos, e]
  by_cases h : (l.length : Int) > 60
  · simp only [if_pos h]; exact Ev.val (by simp [h])
  · simp only [if_neg h]
    refine Ev.step (fun k => power_large.l0.eq_2 _ _ _ k) ?_
    simp (disch := omega) only [List.length_cons, List.length_nil, w64, if_neg]
    exact Ev.val (by simp [h])
def Per (w : List Int) (p : Int) : Prop := 1 ≤ p ∧ p ≤ w.length ∧ w.drop p.toNat = w.take (w.length - p).toNat
instance (w : List Int) (p : Int) : Decidable (Per w p) := by unfold Per; infer_instance
theorem has_eq (w : List Int) (p : Int) (hw : ∀ x ∈ w, 0 ≤ x ∧ x ≤ 255) (hn : w.length ≤ 4611686018427387904) : power_has.f w p = some (decide (Per w p)) := by
  unfold power_has.f Per
  by_cases h1 : p ≥ 1
  · by_cases h2 : p ≤ w.length
    · simp (disch := omega) only [if_pos, w64, bytes_Equal.f, Option.bind_some]
      rw [strEq (u8_drop hw _) (u8_take hw _)]
      simp [h1, h2]
    · rw [if_pos h1, if_neg h2]; simp [h2]
  · rw [if_neg h1]; simp [h1]
theorem Period_l0 (w : List Int) (p : Int) (hn : w.length ≤ 4611686018427387904) (h1 : 1 ≤ p) (h2 : p ≤ w.length) (d : Nat) : ∀ i : Int, 0 ≤ i → i + d = w.length - p →
    Ev (fun k => coppicerref_Period.l0 k w p i) (decide ((w.drop p.toNat).drop i.toNat = (w.take (w.length - p).toNat).drop i.toNat)) := by
  induction d with
  | zero =>
    intro i h0 hd
    refine Ev.step (fun k => coppicerref_Period.l0.eq_2 _ _ _ k) ?_
    simp (disch := omega) only [w64, if_neg]
    exact Ev.val (by rw [List.drop_eq_nil_of_le (by simp; omega), List.drop_eq_nil_of_le (by simp; omega)]; simp)
  | succ d ih =>
    intro i h0 hd
    refine Ev.step (fun k => coppicerref_Period.l0.eq_2 _ _ _ k) ?_
    simp (disch := omega) only [w64, if_pos]
    rw [drop_rd (l := w.drop p.toNat) h0 (by simp; omega), drop_rd (l := w.take _) h0 (by simp; omega), rd_drop _ _ _ h0, rd_take _ _ _ h0 (by omega)]
    have e : i + (p.toNat : Int) = i + p := by omega
    rw [e]
    by_cases h : rd w i = rd w (i + p)
    · simp only [if_pos h]
      simpa [h] using ih (i + 1) (by omega) (by omega)
    · simp only [if_neg h]
      exact Ev.no (fun q => h (List.cons.inj q).1.symm)
theorem Period_ev (w : List Int) (p : Int) (hn : w.length ≤ 4611686018427387904) : Ev (fun k => coppicerref_Period.f k w p) (decide (Per w p)) := by
  unfold coppicerref_Period.f
  by_cases h1 : p < 1
  · simp only [if_pos h1]
    refine Ev.step (fun k => coppicerref_Period.j0.eq_2 _ _ _ k) ?_
    simp only [if_true]
    exact Ev.no (fun q => by have := q.1; omega)
  · simp only [if_neg h1]
    refine Ev.step (fun k => coppicerref_Period.j0.eq_2 _ _ _ k) ?_
    by_cases h2 : p > w.length
    · simp only [h2, decide_true, if_true]
      exact Ev.no (fun q => by have := q.2.1; omega)
    · simp only [h2, decide_false, if_false, Bool.false_eq_true]
      have := Period_l0 w p hn (by omega) (by omega) (w.length - p).toNat 0 (by omega) (by omega)
      have e : Per w p ↔ w.drop p.toNat = w.take (w.length - p).toNat := by unfold Per; exact ⟨fun h => h.2.2, fun h => ⟨by omega, by omega, h⟩⟩
      simpa [e] using this

def pers (w : List Int) (n : Nat) : List Int := ((List.range n).map fun (i : Nat) => (i : Int) + 1).filter fun p => decide (Per w p)
theorem pers_succ (w : List Int) (n : Nat) : pers w (n + 1) = pers w n ++ (if Per w ((n : Int) + 1) then [(n : Int) + 1] else []) := by
  unfold pers
  rw [List.range_succ, List.map_append, List.filter_append]
  congr 1
  by_cases h : Per w ((n : Int) + 1) <;> simp [h]
theorem pers_len (w : List Int) (n : Nat) : (pers w n).length ≤ n := by
  unfold pers
  exact Nat.le_trans (List.length_filter_le _ _) (by simp)
theorem Periods_l0 (w : List Int) (hw : ∀ x ∈ w, 0 ≤ x ∧ x ≤ 255) (hn : w.length ≤ 60) (d : Nat) : ∀ i : Nat, i + d = w.length →
    Ev (fun k => power_Periods.l0 k w (pers w i) (w.length : Int) (i : Int)) (pers w w.length, 0) := by
  induction d with
  | zero =>
    intro i hd
    refine Ev.step (fun k => power_Periods.l0.eq_2 _ _ _ _ k) ?_
    simp (disch := omega) only [if_neg]
    exact Ev.val (by rw [show i = w.length by omega])
  | succ d ih =>
    intro i hd
    refine Ev.step (fun k => power_Periods.l0.eq_2 _ _ _ _ k) ?_
    have hl := pers_len w i
    simp (disch := omega) only [if_pos, w64, has_eq w _ hw (show w.length ≤ 4611686018427387904 by omega), Option.bind_some]
    have r := ih (i + 1) (by omega)
    rw [pers_succ] at r
    by_cases h : Per w ((i : Int) + 1)
    · simpa [h] using r
    · simpa [h] using r
theorem law_l0 (w : List Int) (hn : w.length ≤ 60) (d : Nat) : ∀ i : Nat, i + d = w.length →
    Ev (fun k => coppicerlaw_PowerAlls.l0 k w (pers w w.length) 0 (pers w i) ((i : Int) + 1)) true := by
  induction d with
  | zero =>
    intro i hd
    refine Ev.step (fun k => coppicerlaw_PowerAlls.l0.eq_2 _ _ _ _ _ k) ?_
    have hl := pers_len w w.length
    simp (disch := omega) only [if_neg, if_true]
    refine Ev.bind (Ints_ev _ _ (by omega)) (Ev.val ?_)
    rw [show i = w.length by omega]; simp
  | succ d ih =>
    intro i hd
    refine Ev.step (fun k => coppicerlaw_PowerAlls.l0.eq_2 _ _ _ _ _ k) ?_
    have hl := pers_len w i
    simp (disch := omega) only [if_pos, w64]
    refine Ev.bind (Period_ev w _ (by omega)) ?_
    have r := ih (i + 1) (by omega)
    rw [pers_succ] at r
    by_cases h : Per w ((i : Int) + 1)
    · simp only [h, decide_true, if_true]; simpa [h] using r
    · simp only [h, decide_false, Bool.false_eq_true, if_false]; simpa [h] using r
theorem PowerAlls : coppicerlaw_PowerAlls.Pure := by
  intro w hm hs hw
  refine Ev.rounds (g := fun k => coppicerlaw_PowerAlls.f k w) ?_
  unfold coppicerlaw_PowerAlls.f power_Periods.f
  by_cases h : (w.length : Int) > 60
  · refine Ev.bind (a := ([], 1)) (Ev.bind (large1 w) (Ev.congr (fun _ => rfl) ?_)) ?_
    · simp only [h, decide_true, if_true]; exact Ev.now _
    · simp only [h, if_true]; exact Ev.val rfl
  · refine Ev.bind (a := (pers w w.length, 0)) (Ev.bind (large1 w) (Ev.congr (fun _ => rfl) ?_)) ?_
    · simp only [h, decide_false, Bool.false_eq_true, if_false]
      exact Periods_l0 w (mem_u8 hw) (by omega) w.length 0 (by omega)
    · simp only [h, if_false]
      exact law_l0 w (by omega) w.length 0 (by omega)

end Go.Proofs.Ytkhmjehjhjhpkaa.Pure
