/- The law StoreSums as a statement over numbers and lists alone: it holds under the bounds that the statement names. -/
import Derived.Test.YtkhmjehjhjhpkaaPStoreSumsx1
set_option linter.unusedVariables false
set_option linter.unusedSimpArgs false
namespace Go.Proofs.Ytkhmjehjhjhpkaa.Pure
open Go.RowKit Go.Proofs.Ytkhmjehjhjhpkaa.PStoreSums Go.Proofs.YtkhmjehjhjhpkaaW.PrintWords Go.Proofs.YtkhmjehjhjhpkaaW.PrintLast Go.Proofs.YtkhmjehjhjhpkaaW.PrintMore

/-! ### base: words for every pure text -/
theorem w64 {x : Int} (h0 : -9223372036854775808 ≤ x) (h1 : x ≤ 9223372036854775807) : wrap64 x = x := by unfold wrap64; omega
theorem Ev.pos {α : Type} {c : Prop} [Decidable c] {g f : Nat → Option α} {r : α} (h : c) (e : Ev g r) : Ev (fun k => if c then g k else f k) r := Ev.congr (fun k => by rw [if_pos h]) e
theorem Ev.neg {α : Type} {c : Prop} [Decidable c] {g f : Nat → Option α} {r : α} (h : ¬ c) (e : Ev f r) : Ev (fun k => if c then g k else f k) r := Ev.congr (fun k => by rw [if_neg h]) e
theorem Ev.val {α : Type} {r q : α} (h : r = q) : Ev (fun _ => some r) q := by subst h; exact Ev.now r
theorem rd_getElem {l : List Int} {i : Int} (h1 : i.toNat < l.length) : rd l i = l[i.toNat] := by simp [rd, List.getD_eq_getElem?_getD, List.getElem?_eq_getElem h1]
theorem drop_rd {l : List Int} {i : Int} (h0 : 0 ≤ i) (h1 : i < l.length) : l.drop i.toNat = rd l i :: l.drop (i + 1).toNat := by
  have h : i.toNat < l.length := by omega
  rw [rd_getElem h, List.drop_eq_getElem_cons h]; congr 2; omega
theorem take_rd {l : List Int} {i : Int} (h0 : 0 ≤ i) (h1 : i < l.length) : l.take (i + 1).toNat = l.take i.toNat ++ [rd l i] := by
  have h : i.toNat < l.length := by omega
  have e : (i + 1).toNat = i.toNat + 1 := by omega
  rw [rd_getElem h, e, List.take_succ_eq_append_getElem h]
theorem rd_drop (l : List Int) (n : Nat) (i : Int) (h0 : 0 ≤ i) : rd (l.drop n) i = rd l (i + n) := by
  have e : (i + n).toNat = n + i.toNat := by omega
  simp only [rd, List.getD_eq_getElem?_getD, List.getElem?_drop, e]
theorem rd_take (l : List Int) (n : Nat) (i : Int) (h0 : 0 ≤ i) (h1 : i < n) : rd (l.take n) i = rd l i := by
  simp only [rd, List.getD_eq_getElem?_getD]; rw [List.getElem?_take_of_lt (by omega)]
theorem drop_all {α : Type} (l : List α) (n : Nat) (h : l.length ≤ n) : l.drop n = [] := List.drop_eq_nil_of_le h
theorem dec_ne {a b : Int} {l m : List Int} (h : a ≠ b) : decide (a :: l = b :: m) = false := decide_eq_false (fun q => h (List.cons.inj q).1)
theorem Ev.no {p : Prop} [Decidable p] (h : ¬ p) : Ev (fun _ => some false) (decide p) := Ev.val (decide_eq_false h).symm
theorem Ev.yes {p : Prop} [Decidable p] (h : p) : Ev (fun _ => some true) (decide p) := Ev.val (decide_eq_true h).symm
theorem ext_rd {a b : List Int} (hl : a.length = b.length) (h : ∀ i : Int, 0 ≤ i → i < a.length → rd a i = rd b i) : a = b := by
  apply List.ext_getElem hl
  intro i h1 h2
  have := h i (by omega) (by omega)
  rwa [rd_getElem (by simpa using h1), rd_getElem (by simpa using h2)] at this
theorem wf_u8 {x : Int} (h : (Lit.int .u8 x).wf = true) : 0 ≤ x ∧ x ≤ 255 := by simpa [Lit.wf, IntKind.min, IntKind.max, IntKind.signed, IntKind.bits] using h
theorem wf_u32 {x : Int} (h : (Lit.int .u32 x).wf = true) : 0 ≤ x ∧ x ≤ 4294967295 := by simpa [Lit.wf, IntKind.min, IntKind.max, IntKind.signed, IntKind.bits] using h
theorem wf_i64 {x : Int} (h : (Lit.int .i64 x).wf = true) : -9223372036854775808 ≤ x ∧ x ≤ 9223372036854775807 := by simpa [Lit.wf, IntKind.min, IntKind.max, IntKind.signed, IntKind.bits] using h
theorem rd_mem {l : List Int} {i : Int} (h0 : 0 ≤ i) (h1 : i < l.length) : rd l i ∈ l := by
  rw [rd_getElem (by omega)]; exact List.getElem_mem _
theorem rd_u8 {l : List Int} (hw : ∀ x ∈ l, (Lit.int .u8 x).wf = true) {i : Int} (h0 : 0 ≤ i) (h1 : i < l.length) : 0 ≤ rd l i ∧ rd l i ≤ 255 := wf_u8 (hw _ (rd_mem h0 h1))
theorem tm {a b : Int} (h : 0 ≤ a) : Int.tmod a b = a % b := Int.tmod_eq_emod_of_nonneg h
theorem td {a b : Int} (h : 0 ≤ a) : Int.tdiv a b = a / b := Int.tdiv_eq_ediv_of_nonneg h

/-! ### coppicerref_Bytes -/
theorem Bytes_l0 (a b : List Int) (hl : a.length = b.length) (hb : (a.length : Int) ≤ 4611686018427387904) (d : Nat) : ∀ i : Int, 0 ≤ i → i + d = a.length → Ev (fun k => coppicerref_Bytes.l0 k a b i) (decide (a.drop i.toNat = b.drop i.toNat)) := by
  induction d with
  | zero =>
    intro i h0 hd
    refine Ev.step (fun k => coppicerref_Bytes.l0.eq_2 _ _ _ k) ?_
    simp (disch := omega) only [if_pos, if_neg]
    exact Ev.val (by rw [List.drop_eq_nil_of_le (by omega), List.drop_eq_nil_of_le (by omega)]; simp)
  | succ d ih =>
    intro i h0 hd
    refine Ev.step (fun k => coppicerref_Bytes.l0.eq_2 _ _ _ k) ?_
    simp (disch := omega) only [if_pos, w64]
    rw [drop_rd h0 (by omega), drop_rd (l := b) h0 (by omega)]
    by_cases h : rd a i = rd b i
    · simp only [if_pos h]
      exact Ev.congr (fun _ => rfl) (by simpa [h] using ih (i + 1) (by omega) (by omega))
    · simp only [if_neg h]
      exact Ev.val (by simp [h])
theorem Bytes_ev (a b : List Int) (hb : (a.length : Int) ≤ 4611686018427387904) : Ev (fun k => coppicerref_Bytes.f k a b) (decide (a = b)) := by
  unfold coppicerref_Bytes.f
  by_cases hl : a.length = b.length
  · simp (disch := omega) only [if_pos]
    simpa using Bytes_l0 a b hl hb a.length 0 (by omega) (by omega)
  · simp (disch := omega) only [if_neg]
    exact Ev.val (by simp; intro h; exact hl (by rw [h]))

def Wt : List Int → Int
  | [] => 0
  | c :: s => (s.length + 1) * c + Wt s
def four (x y : Int) : List Int := [x % 256, (x / 256) % 256, y % 256, (y / 256) % 256]
theorem two_ev (l : List Int) (x : Int) (h : l.length ≤ 100) : store_two.f l x = some (l ++ [x % 256, (x / 256) % 256]) := by
  unfold store_two.f
  simp only [Option.bind_some]
  rw [if_pos (by simp; omega)]
theorem sum_bd (l : List Int) (h : ∀ x ∈ l, 0 ≤ x ∧ x ≤ 255) : 0 ≤ l.sum ∧ l.sum ≤ 255 * l.length := by
  induction l with
  | nil => simp
  | cons a s ih =>
    have h1 := h a (by simp)
    have h2 := ih (fun x hx => h x (by simp [hx]))
    simp only [List.sum_cons, List.length_cons]
    omega
theorem Wt_bd (l : List Int) (h : ∀ x ∈ l, 0 ≤ x ∧ x ≤ 255) (n : Int) (hn : l.length ≤ n) : 0 ≤ Wt l ∧ Wt l ≤ n * 255 * l.length := by
  induction l with
  | nil => simp [Wt]
  | cons a s ih =>
    have h1 := h a (by simp)
    simp only [List.length_cons] at hn
    have h2 := ih (fun x hx => h x (by simp [hx])) (by omega)
    simp only [Wt, List.length_cons]
    have h3 : 0 ≤ ((s.length : Int) + 1) * a := Int.mul_nonneg (by omega) h1.1
    have h4 : ((s.length : Int) + 1) * a ≤ n * 255 := Int.mul_le_mul (by omega) h1.2 h1.1 (by omega)
    have e : n * 255 * ((s.length + 1 : Nat) : Int) = n * 255 * s.length + n * 255 := by
      rw [Int.natCast_add, Int.mul_add]; simp
    rw [e]
    omega
theorem store_l0 (l : List Int) (hw : ∀ x ∈ l, (Lit.int .u8 x).wf = true) (hn : l.length ≤ 1048576) (d : Nat) : ∀ i x y : Int, 0 ≤ i → i + d = l.length → 0 ≤ x → x < 257 → 0 ≤ y → y < 257 →
    Ev (fun k => store_Sum.l0 k x y l (l.length : Int) i) (four ((x + (l.drop i.toNat).sum) % 257) ((y + d * x + Wt (l.drop i.toNat)) % 257)) := by
  induction d with
  | zero =>
    intro i x y h0 hd hx0 hx1 hy0 hy1
    refine Ev.step (fun k => store_Sum.l0.eq_2 _ _ _ _ _ k) ?_
    rw [List.drop_eq_nil_of_le (by omega)]
    simp (disch := omega) only [if_neg]
    simp only [two_ev [] x (by simp), Option.bind_some, two_ev _ y (show ([] ++ [x % 256, (x / 256) % 256] : List Int).length ≤ 100 by simp)]
    refine Ev.val ?_
    simp only [four, List.sum_nil, Wt, List.nil_append, List.cons_append, Int.add_zero]
    simp only [show ((0 : Nat) : Int) * x = 0 by simp, Int.add_zero, Int.emod_eq_of_lt hx0 hx1, Int.emod_eq_of_lt hy0 hy1]
  | succ d ih =>
    intro i x y h0 hd hx0 hx1 hy0 hy1
    obtain ⟨c0, c1⟩ := rd_u8 hw h0 (show i < l.length by omega)
    refine Ev.step (fun k => store_Sum.l0.eq_2 _ _ _ _ _ k) ?_
    simp (disch := omega) only [if_pos, w64, tm]
    have q0 : 0 ≤ (x + rd l i) % 257 := Int.emod_nonneg _ (by omega)
    have q1 : (x + rd l i) % 257 < 257 := Int.emod_lt_of_pos _ (by omega)
    try simp (disch := omega) only [w64, tm]
    have r := ih (i + 1) ((x + rd l i) % 257) ((y + (x + rd l i) % 257) % 257) (by omega) (by omega) q0 q1 (Int.emod_nonneg _ (by omega)) (Int.emod_lt_of_pos _ (by omega))
    rw [drop_rd h0 (by omega)]
    have hlen : ((l.drop (i + 1).toNat).length : Int) = d := by simp; omega
    simp only [List.sum_cons, Wt, hlen]
    have e1 : ((x + rd l i) % 257 + (l.drop (i + 1).toNat).sum) % 257 = (x + (rd l i + (l.drop (i + 1).toNat).sum)) % 257 := by omega
    have e2 : ((y + (x + rd l i) % 257) % 257 + (d : Int) * ((x + rd l i) % 257) + Wt (l.drop (i + 1).toNat)) % 257 = (y + ((d + 1 : Nat) : Int) * x + (((d : Int) + 1) * rd l i + Wt (l.drop (i + 1).toNat))) % 257 := by
      have f : (y + ((d + 1 : Nat) : Int) * x + (((d : Int) + 1) * rd l i + Wt (l.drop (i + 1).toNat))) = y + ((d : Int) + 1) * (x + rd l i) + Wt (l.drop (i + 1).toNat) := by
        rw [Int.mul_add, Int.natCast_add]; simp; omega
      rw [f]
      have g : (((d : Int) + 1) * (x + rd l i)) % 257 = (((d : Int) + 1) * ((x + rd l i) % 257)) % 257 := by
        rw [Int.mul_emod ((d : Int) + 1) (x + rd l i), Int.mul_emod ((d : Int) + 1) ((x + rd l i) % 257), Int.emod_emod_of_dvd _ (Int.dvd_refl 257)]
      have h2 : ((d : Int) + 1) * ((x + rd l i) % 257) = (d : Int) * ((x + rd l i) % 257) + (x + rd l i) % 257 := by rw [Int.add_mul]; simp
      rw [h2] at g
      omega
    rw [e1, e2] at r
    exact r
theorem ref_l0 (l : List Int) (hw : ∀ x ∈ l, (Lit.int .u8 x).wf = true) (hn : l.length ≤ 1048576) (d : Nat) : ∀ i x y : Int, 0 ≤ i → i + d = l.length → 0 ≤ x → x ≤ i * 255 → 0 ≤ y → y ≤ i * 267386880 →
    Ev (fun k => coppicerref_Sum.l0 k l x y i) (four ((x + (l.drop i.toNat).sum) % 257) ((y + Wt (l.drop i.toNat)) % 257)) := by
  induction d with
  | zero =>
    intro i x y h0 hd hx0 hx1 hy0 hy1
    refine Ev.step (fun k => coppicerref_Sum.l0.eq_2 _ _ _ _ k) ?_
    rw [List.drop_eq_nil_of_le (by omega)]
    simp (disch := omega) only [if_neg]
    refine Ev.val ?_
    have p0 : 0 ≤ x % 257 := Int.emod_nonneg _ (by omega)
    have p1 : 0 ≤ y % 257 := Int.emod_nonneg _ (by omega)
    have p2 : x % 257 < 257 := Int.emod_lt_of_pos _ (by omega)
    have p3 : y % 257 < 257 := Int.emod_lt_of_pos _ (by omega)
    simp (disch := omega) only [tm, td, w64]
    simp only [four, List.sum_nil, Wt, Int.add_zero]
    simp
  | succ d ih =>
    intro i x y h0 hd hx0 hx1 hy0 hy1
    obtain ⟨c0, c1⟩ := rd_u8 hw h0 (show i < l.length by omega)
    refine Ev.step (fun k => coppicerref_Sum.l0.eq_2 _ _ _ _ k) ?_
    simp (disch := omega) only [if_pos, w64]
    have m0 : 0 ≤ ((l.length : Int) - i) * rd l i := Int.mul_nonneg (by omega) c0
    have m1 : ((l.length : Int) - i) * rd l i ≤ 1048576 * 255 := Int.mul_le_mul (by omega) c1 c0 (by omega)
    simp (disch := omega) only [w64]
    have r := ih (i + 1) (x + rd l i) (y + ((l.length : Int) - i) * rd l i) (by omega) (by omega) (by omega) (by omega) (by omega) (by omega)
    rw [drop_rd h0 (by omega)]
    have hlen : ((l.drop (i + 1).toNat).length : Int) = d := by simp; omega
    simp only [List.sum_cons, Wt, hlen]
    have e3 : (l.length : Int) - i = (d : Int) + 1 := by omega
    rw [e3] at r ⊢
    rw [Int.add_assoc, Int.add_assoc] at r
    exact r
theorem StoreSums : coppicerlaw_StoreSums.Pure := by
  intro l hm hs hw
  by_cases hn : (l.length : Int) > 1048576
  · exact ⟨0, by unfold coppicerlaw_StoreSums.f; rw [if_pos hn]⟩
  refine Ev.rounds (g := fun k => coppicerlaw_StoreSums.f k l) ?_
  unfold coppicerlaw_StoreSums.f
  simp only [if_neg hn]
  have a := store_l0 l hw (by omega) l.length 0 0 0 (by omega) (by omega) (by omega) (by omega) (by omega) (by omega)
  have b := ref_l0 l hw (by omega) l.length 0 0 0 (by omega) (by omega) (by omega) (by omega) (by omega) (by omega)
  refine Ev.bind (g := fun k => store_Sum.f k l) (f := fun k t => (coppicerref_Sum.f k l).bind fun t124 => (coppicerref_Bytes.f k t t124).bind fun t127 => some t127) a ?_
  refine Ev.bind (g := fun k => coppicerref_Sum.f k l) b ?_
  refine Ev.bind (Bytes_ev _ _ (by simp [four])) (Ev.val ?_)
  simp

end Go.Proofs.Ytkhmjehjhjhpkaa.Pure
