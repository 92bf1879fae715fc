-- Written by a program of this session: a turn of the print kit's own.
import Derived.Test.YtbehbngcofonmaaPTableTakesx0
import Derived.Test.YtbehbngcofonmaaPTableTakesx8
namespace Go.Proofs.Ytbehbngcofonmaa.PTableTakes
open Go.RowKit Go.Proofs.YtbehbngcofonmaaW.PrintWords Go.Proofs.YtbehbngcofonmaaW.PrintLast Go.Proofs.YtbehbngcofonmaaW.PrintMore
attribute [local go_sem] max2_int min2_int max_two min_two max_three min_three max_four min_four   -- for this text's walks alone
set_option linter.unusedVariables false
set_option linter.unusedSimpArgs false

/-! ### rows of rows of rows of the call's own, apart on both levels -/
/-- A slice whose elements' rows are apart. -/
def sliceS {α : Type} (e : Nat) (d : Kd α) : Kd (List α) where
  sz := 1
  E := e :: d.E
  K := (Kd.slice e d).K
  M := fun w base ok xs cs => ∃ v, cs = [v] ∧ Kd.S d e w base ok v xs
  K_len := (Kd.slice e d).K_len
  K_one := (Kd.slice e d).K_one
  K_below := (Kd.slice e d).K_below
  K_of_M := by
    rintro w base ok x cs ⟨v, rfl, h⟩
    exact (Kd.slice e d).K_of_M ⟨v, rfl, Kd.S_R h⟩
  M_mono := by
    rintro w base ok ok' x cs hok ⟨v, rfl, h⟩
    exact ⟨v, rfl, Kd.S_mono h hok⟩
  M_bound := by
    rintro w base ok x cs ⟨v, rfl, h⟩
    exact ⟨v, rfl, Kd.S_bound h⟩
  M_move := by
    rintro w w1 base ok x cs hm ⟨v, rfl, h⟩
    exact ⟨v, rfl, Kd.S_move h hm⟩
  M_lower := by
    rintro w base base' ok x cs hb ⟨v, rfl, h⟩
    exact ⟨v, rfl, Kd.S_lower h hb⟩
theorem sliceS_R {α : Type} {d : Kd α} {e e1 base : Nat} {w : World} {ok : Nat → Prop} {v : Value} {xs : List (List α)} (h : (sliceS e d).R e1 w base ok v xs) : (Kd.slice e d).R e1 w base ok v xs :=
  ⟨h.1, h.2.imp_ (fun _ _ ⟨v, hv, hs⟩ => ⟨v, hv, Kd.S_R hs⟩)⟩
theorem sliceS_C {α : Type} {d : Kd α} {e : Nat} {w : World} {A : Option Addr} {n : Nat} {xs : List (List α)} (h : (sliceS e d).C w A n xs) : (Kd.slice e d).C w A n xs := h
section
variable {α : Type} {d : Kd α} {e1 e2 base g n cap : Nat} {W : World} {ok : Nat → Prop} {t : List (List α)}
/-- A row of the call's own is stored into a row of rows (t[a] = z). -/
theorem put_own {okg : Nat → Prop} (h : Kd.S (sliceS e2 d) e1 W base (fun k => ok k ∧ ¬ okg k) (.slice (some ⟨g, 0, none⟩) n cap) t) (i : Int) (h0 : 0 ≤ i) (h1 : i < n) {vz : Value} {z : List α}
    (hz : Kd.S d e2 W base okg vz z) (hg : ∀ k, okg k → ok k ∧ k ≠ g) :
    (∃ A m c, W.cell? ⟨g, i.toNat, none⟩ = some (.slice A m c)) ∧ W.frozen? ⟨g, i.toNat, none⟩ = false ∧ Kd.S (sliceS e2 d) e1 (W.setCell ⟨g, i.toNat, none⟩ vz) base ok (.slice (some ⟨g, 0, none⟩) n cap) (t.set i.toNat z) ∧ W.grownBy (W.setCell ⟨g, i.toNat, none⟩ vz) (some g) := by
  obtain ⟨oki, c, hcl, hM, hcc, hfr, hoki, hH⟩ := Kd.S_elem h [] i h0 h1
  obtain ⟨v, rfl, hs0⟩ := hM
  obtain ⟨A, c, rfl⟩ := Kd.S_slice hs0
  have hs := Kd.S_seg (d := sliceS e2 d) (okg := okg) (seg := [vz]) (j := 0) (x' := z) hH h0 h1 (show 0 + 1 ≤ 1 from Nat.le_refl _) (okp := okg) (show (sliceS e2 d).M W base okg z ([_].take 0 ++ [vz] ++ [_].drop 1) from ⟨vz, rfl, hz⟩) (fun k hk => .inr hk) hg
  have e0 : i.toNat * (sliceS e2 d).sz + 0 = i.toNat := by show i.toNat * 1 + 0 = _; omega
  have c0 := hcc 0 _ rfl
  rw [e0] at c0 hs
  have f0 := hfr 0
  rw [e0] at f0
  exact ⟨⟨_, _, _, c0⟩, f0, hs⟩
/-- Element i of such a row, lent for one event that may take new blocks (okg) in. -/
theorem into_ {okg : Nat → Prop} (h : Kd.S (sliceS e2 d) e1 W base (fun k => ok k ∧ ¬ okg k) (.slice (some ⟨g, 0, none⟩) n cap) t) (i : Int) (h0 : 0 ≤ i) (h1 : i < n) (hg : ∀ k, okg k → ok k) :
    ∃ (oki : Nat → Prop) (v2 : Value), W.cell? ⟨g, i.toNat, none⟩ = some v2 ∧ Kd.S d e2 W base oki v2 (t.getD i.toNat []) ∧ (∀ k, oki k → (ok k ∧ ¬ okg k) ∧ k ≠ g) ∧
      ∀ {w1 : World} {row : Option Nat} {x' : List α}, W.grownBy w1 row → (∀ k, row = some k → oki k ∨ okg k) → Kd.S d e2 w1 base (fun k => oki k ∨ okg k) v2 x' → Kd.S (sliceS e2 d) e1 w1 base ok (.slice (some ⟨g, 0, none⟩) n cap) (t.set i.toNat x') := by
  obtain ⟨oki, c, hcl, hM, hcc, hfr, hoki, hH⟩ := Kd.S_elem h [] i h0 h1
  obtain ⟨v2, rfl, hs⟩ := hM
  have e0 : i.toNat * (sliceS e2 d).sz + 0 = i.toNat := by show i.toNat * 1 + 0 = _; omega
  have c0 := hcc 0 _ rfl
  rw [e0] at c0
  exact ⟨oki, v2, c0, hs, hoki, fun hg1 hrow hx => Kd.H_back (Kd.H_grown (Kd.H_more hH hg) hg1 hrow) ⟨v2, rfl, hx⟩ (fun _ hk => hk)⟩
end
section
variable {α : Type} {d : Kd α} {e1 e2 e3 base g n cap : Nat} {W : World} {ok : Nat → Prop} {t : List (List (List α))}
/-- A row of the call's own is stored into an element of an element (t[a][i] = z). -/
theorem put_row {okg : Nat → Prop} (h : Kd.S (sliceS e2 (Kd.slice e3 d)) e1 W base (fun k => ok k ∧ ¬ okg k) (.slice (some ⟨g, 0, none⟩) n cap) t) (i j : Int) (h0 : 0 ≤ i) (h1 : i < n) (j0 : 0 ≤ j) (j1 : j < ((t.getD i.toNat []).length : Int)) {vz : Value} {z : List α}
    (hz : d.R e3 W base okg vz z) (hg : ∀ k, okg k → ok k ∧ k ≠ g) :
    ∃ g2 c2, W.cell? ⟨g, i.toNat, none⟩ = some (.slice (some ⟨g2, 0, none⟩) (t.getD i.toNat []).length c2) ∧ g2 ≠ g ∧ g2 < W.heap.size ∧ base ≤ g2 ∧ (∃ cells, W.heap[g2]? = some (.cells cells e2 (0, 0))) ∧ (∃ A m c, W.cell? ⟨g2, j.toNat, none⟩ = some (.slice A m c)) ∧ W.frozen? ⟨g2, j.toNat, none⟩ = false ∧
      Kd.S (sliceS e2 (Kd.slice e3 d)) e1 (W.setCell ⟨g2, j.toNat, none⟩ vz) base ok (.slice (some ⟨g, 0, none⟩) n cap) (t.set i.toNat ((t.getD i.toNat []).set j.toNat z)) ∧ W.grownBy (W.setCell ⟨g2, j.toNat, none⟩ vz) (some g2) := by
  obtain ⟨oki, v2, hc, hs, hoki, hb⟩ := into_ h i h0 h1 (fun k hk => (hg k hk).1)
  obtain ⟨g2, c2, rfl, hb2, hlt, cells, hcells⟩ := Kd.S_form hs (by omega)
  have ho2 : oki g2 := (Kd.S_R hs).1 g2 (by simp [Value.ownBlock])
  have hs' : Kd.S (Kd.slice e3 d) e2 W base (fun k => (oki k ∨ okg k) ∧ ¬ okg k) (.slice (some ⟨g2, 0, none⟩) (t.getD i.toNat []).length c2) (t.getD i.toNat []) := Kd.S_mono hs (fun k hk => ⟨.inl hk, (hoki k hk).1.2⟩)
  obtain ⟨oki2, c, hcl, hM, hcc, hfr, hoki2, hH⟩ := Kd.S_elem hs' [] j j0 j1
  obtain ⟨v3, rfl, hs0⟩ := hM
  obtain ⟨A, c, rfl⟩ := Kd.R_slice hs0
  have hg2 : ∀ k, okg k → (oki k ∨ okg k) ∧ k ≠ g2 := fun k hk => ⟨.inr hk, fun e => (hoki g2 ho2).1.2 (by rw [← e]; exact hk)⟩
  have hs2 := Kd.S_seg (d := Kd.slice e3 d) (okg := okg) (seg := [vz]) (j := 0) (x' := z) hH j0 j1 (show 0 + 1 ≤ 1 from Nat.le_refl _) (okp := okg) (show (Kd.slice e3 d).M W base okg z ([_].take 0 ++ [vz] ++ [_].drop 1) from ⟨vz, rfl, hz⟩) (fun k hk => .inr hk) hg2
  have e0 : j.toNat * (Kd.slice e3 d).sz + 0 = j.toNat := by show j.toNat * 1 + 0 = _; omega
  have c0 := hcc 0 _ rfl
  rw [e0] at c0 hs2
  have f0 := hfr 0
  rw [e0] at f0
  refine ⟨g2, c2, hc, (hoki g2 ho2).2, hlt, hb2, ⟨cells, hcells⟩, ⟨_, _, _, c0⟩, f0, hb hs2.2 (fun k hk => .inl ?_) hs2.1, hs2.2⟩
  injection hk with hk
  rw [← hk]; exact ho2
/-- A number is stored into a row of an element of an element (t[a][i][j] = x). -/
theorem put_cell {β : Type} {enc : β → Value} {hen : ∀ x, (enc x).oneCell' = true} {t : List (List (List β))} (z : β) (h : Kd.S (sliceS e2 (Kd.slice e3 (Kd.scalar enc hen))) e1 W base ok (.slice (some ⟨g, 0, none⟩) n cap) t) (i j l : Int) (h0 : 0 ≤ i) (h1 : i < n) (j0 : 0 ≤ j) (j1 : j < ((t.getD i.toNat []).length : Int)) (l0 : 0 ≤ l) (l1 : l < (((t.getD i.toNat []).getD j.toNat []).length : Int)) :
    ∃ g2 c2 g3 c3, W.cell? ⟨g, i.toNat, none⟩ = some (.slice (some ⟨g2, 0, none⟩) (t.getD i.toNat []).length c2) ∧ W.cell? ⟨g2, j.toNat, none⟩ = some (.slice (some ⟨g3, 0, none⟩) ((t.getD i.toNat []).getD j.toNat []).length c3) ∧
      W.cell? ⟨g3, l.toNat, none⟩ = some (enc (rdOf z ((t.getD i.toNat []).getD j.toNat []) l)) ∧ W.frozen? ⟨g3, l.toNat, none⟩ = false ∧ base ≤ g3 ∧ (∃ cells, W.heap[g3]? = some (.cells cells e3 (0, 0))) ∧
      ∀ x, Kd.S (sliceS e2 (Kd.slice e3 (Kd.scalar enc hen))) e1 (W.setCell ⟨g3, l.toNat, none⟩ (enc x)) base ok (.slice (some ⟨g, 0, none⟩) n cap) (t.set i.toNat ((t.getD i.toNat []).set j.toNat (((t.getD i.toNat []).getD j.toNat []).set l.toNat x))) ∧ W.grownBy (W.setCell ⟨g3, l.toNat, none⟩ (enc x)) (some g3) := by
  obtain ⟨oki, v2, hc, hs, hoki, hb⟩ := into_ (okg := fun _ => False) (Kd.S_mono h (fun k hk => ⟨hk, fun q => q⟩)) i h0 h1 (fun k hk => hk.elim)
  obtain ⟨g2, c2, rfl, hb2, hlt, cells, hcells⟩ := Kd.S_form hs (by omega)
  obtain ⟨oki2, c, hcl, hM, hcc, hoki2, hback⟩ := Kd.S_borrow hs [] j j0 j1
  obtain ⟨v3, rfl, hr⟩ := hM
  have e0 : j.toNat * (Kd.slice e3 (Kd.scalar enc hen)).sz + 0 = j.toNat := by show j.toNat * 1 + 0 = _; omega
  have c0 := hcc 0 _ rfl
  rw [e0, add_plain] at c0
  obtain ⟨g3, c3, rfl, hb3, hlt3, cells3, hcells3⟩ := Kd.R_form hr (by omega)
  obtain ⟨hy, hz⟩ := Kd.R_celln z hr l l0 l1
  refine ⟨g2, c2, g3, c3, hc, c0, hy, hz, hb3, ⟨cells3, hcells3⟩, fun x => ?_⟩
  obtain ⟨p1, p2⟩ := Kd.R_putg hr l x
  have ho3 : oki2 g3 := hr.1 g3 (by simp [Value.ownBlock])
  have q := hback p2 (fun k hk => by injection hk with hk; rw [← hk]; exact ho3) (x' := ((t.getD i.toNat []).getD j.toNat []).set l.toNat x) ⟨_, rfl, p1⟩
  exact ⟨hb p2 (fun k hk => .inl (by injection hk with hk; rw [← hk]; exact (hoki2 g3 ho3).1)) (Kd.S_mono q (fun k hk => .inl hk)), p2⟩
end
/-! ### coppicerref_Table: function 7 -/
section
variable (a0_0 a0_1 a0_2 : Int) (l0_3 : List S47) (w1 : List Int) (n : Int)
mutual
def coppicerref_Table.l0 : Nat → List (List (List Bool)) → Int → Option (List (List (List Bool)))
  | 0, _, _ => none
  | k + 1, t, a => if a < a0_1 then (if 0 ≤ n then (if (n : Int).toNat ≤ 11728124029610 then (if 0 ≤ a then (if a < (t.length : Int) then coppicerref_Table.l1 k (t.set a.toNat (List.replicate n.toNat [])) a 0 else none) else none) else none) else none) else coppicerref_Table.l2 k t true
def coppicerref_Table.l1 : Nat → List (List (List Bool)) → Int → Int → Option (List (List (List Bool)))
  | 0, _, _, _ => none
  | k + 1, t, a, i => if i < n then (if 0 ≤ a then (if a < (t.length : Int) then (if 0 ≤ n then (if (n : Int).toNat ≤ 281474976710656 then (if 0 ≤ i then (if i < ((rd_L7 t a).length : Int) then coppicerref_Table.l1 k (t.set a.toNat ((rd_L7 t a).set i.toNat (List.replicate n.toNat false))) a (wrap64 (i + 1)) else none) else none) else none) else none) else none) else none) else coppicerref_Table.l0 k t (wrap64 (a + 1))
def coppicerref_Table.l2 : Nat → List (List (List Bool)) → Bool → Option (List (List (List Bool)))
  | 0, _, _ => none
  | k + 1, t, more => if more = true then coppicerref_Table.l3 k t false 0 else some t
def coppicerref_Table.l3 : Nat → List (List (List Bool)) → Bool → Int → Option (List (List (List Bool)))
  | 0, _, _, _ => none
  | k + 1, t, more, q => if q < (l0_3.length : Int) then (if 0 ≤ q then coppicerref_Table.l4 k t more q 0 else none) else coppicerref_Table.l2 k t more
def coppicerref_Table.l4 : Nat → List (List (List Bool)) → Bool → Int → Int → Option (List (List (List Bool)))
  | 0, _, _, _, _ => none
  | k + 1, t, more, q, i => if i < n then coppicerref_Table.l5 k t more q i i else coppicerref_Table.l3 k t more (wrap64 (q + 1))
def coppicerref_Table.l5 : Nat → List (List (List Bool)) → Bool → Int → Int → Int → Option (List (List (List Bool)))
  | 0, _, _, _, _, _ => none
  | k + 1, t, more, q, i, j => if j < n then (if 0 ≤ (rd_T47 l0_3 q).f0 then (if (rd_T47 l0_3 q).f0 < (t.length : Int) then (if 0 ≤ i then (if i < ((rd_L7 t (rd_T47 l0_3 q).f0).length : Int) then (if 0 ≤ j then (if j < ((rd_L6 (rd_L7 t (rd_T47 l0_3 q).f0) i).length : Int) then
      (if rdOf false (rd_L6 (rd_L7 t (rd_T47 l0_3 q).f0) i) j = true then coppicerref_Table.l5 k t more q i (wrap64 (j + 1)) else
        ((coppicerref_over.f k a0_0 a0_1 a0_2 l0_3 w1 t (rd_T47 l0_3 q).f1 i j).bind fun b => if b = true then coppicerref_Table.l5 k (t.set (rd_T47 l0_3 q).f0.toNat ((rd_L7 t (rd_T47 l0_3 q).f0).set i.toNat ((rd_L6 (rd_L7 t (rd_T47 l0_3 q).f0) i).set j.toNat true))) true q i (wrap64 (j + 1)) else coppicerref_Table.l5 k t more q i (wrap64 (j + 1))))
      else none) else none) else none) else none) else none) else none) else coppicerref_Table.l4 k t more q (wrap64 (i + 1))
end
end
def coppicerref_Table.f (k : Nat) (a0_0 : Int) (a0_1 : Int) (a0_2 : Int) (l0_3 : List S47) (l1 : List Int) : Option (List (List (List Bool))) := if 0 ≤ a0_1 then (if (a0_1 : Int).toNat ≤ 11728124029610 then coppicerref_Table.l0 a0_0 a0_1 a0_2 l0_3 l1 (wrap64 ((l1.length : Int) + 1)) k (List.replicate a0_1.toNat []) 0 else none) else none
theorem coppicerref_Table.mono_l (a0_0 a0_1 a0_2 : Int) (l0_3 : List S47) (w1 : List Int) (n : Int) : ∀ k, (∀ y0 y1, LeO (coppicerref_Table.l0 a0_0 a0_1 a0_2 l0_3 w1 n k y0 y1) (coppicerref_Table.l0 a0_0 a0_1 a0_2 l0_3 w1 n (k + 1) y0 y1)) ∧ (∀ y0 y1 y2, LeO (coppicerref_Table.l1 a0_0 a0_1 a0_2 l0_3 w1 n k y0 y1 y2) (coppicerref_Table.l1 a0_0 a0_1 a0_2 l0_3 w1 n (k + 1) y0 y1 y2)) ∧ (∀ y0 y1, LeO (coppicerref_Table.l2 a0_0 a0_1 a0_2 l0_3 w1 n k y0 y1) (coppicerref_Table.l2 a0_0 a0_1 a0_2 l0_3 w1 n (k + 1) y0 y1)) ∧ (∀ y0 y1 y2, LeO (coppicerref_Table.l3 a0_0 a0_1 a0_2 l0_3 w1 n k y0 y1 y2) (coppicerref_Table.l3 a0_0 a0_1 a0_2 l0_3 w1 n (k + 1) y0 y1 y2)) ∧ (∀ y0 y1 y2 y3, LeO (coppicerref_Table.l4 a0_0 a0_1 a0_2 l0_3 w1 n k y0 y1 y2 y3) (coppicerref_Table.l4 a0_0 a0_1 a0_2 l0_3 w1 n (k + 1) y0 y1 y2 y3)) ∧ (∀ y0 y1 y2 y3 y4, LeO (coppicerref_Table.l5 a0_0 a0_1 a0_2 l0_3 w1 n k y0 y1 y2 y3 y4) (coppicerref_Table.l5 a0_0 a0_1 a0_2 l0_3 w1 n (k + 1) y0 y1 y2 y3 y4))
  | 0 => ⟨fun _ _ r h => by simp [coppicerref_Table.l0] at h, fun _ _ _ r h => by simp [coppicerref_Table.l1] at h, fun _ _ r h => by simp [coppicerref_Table.l2] at h, fun _ _ _ r h => by simp [coppicerref_Table.l3] at h, fun _ _ _ _ r h => by simp [coppicerref_Table.l4] at h, fun _ _ _ _ _ r h => by simp [coppicerref_Table.l5] at h⟩
  | k + 1 => by
    obtain ⟨ih0, ih1, ih2, ih3, ih4, ih5⟩ := coppicerref_Table.mono_l a0_0 a0_1 a0_2 l0_3 w1 n k
    refine ⟨?_, ?_, ?_, ?_, ?_, ?_⟩
    · intro y0 y1
      unfold coppicerref_Table.l0
      repeat' first
      | (with_reducible exact ih0 _ _)
      | (with_reducible exact ih1 _ _ _)
      | (with_reducible exact ih2 _ _)
      | (with_reducible exact ih3 _ _ _)
      | (with_reducible exact ih4 _ _ _ _)
      | (with_reducible exact ih5 _ _ _ _ _)
      | (with_reducible exact coppicerref_over.mono _ _ _ _ _ _ _ _ _ _)
      | (with_reducible exact LeO.refl _)
      | (with_reducible exact LeO.none _)
      | (with_reducible refine LeO.ite ?_ ?_)
      | (with_reducible refine LeO.bind ?_ (fun _ => ?_))
    · intro y0 y1 y2
      unfold coppicerref_Table.l1
      repeat' first
      | (with_reducible exact ih0 _ _)
      | (with_reducible exact ih1 _ _ _)
      | (with_reducible exact ih2 _ _)
      | (with_reducible exact ih3 _ _ _)
      | (with_reducible exact ih4 _ _ _ _)
      | (with_reducible exact ih5 _ _ _ _ _)
      | (with_reducible exact coppicerref_over.mono _ _ _ _ _ _ _ _ _ _)
      | (with_reducible exact LeO.refl _)
      | (with_reducible exact LeO.none _)
      | (with_reducible refine LeO.ite ?_ ?_)
      | (with_reducible refine LeO.bind ?_ (fun _ => ?_))
    · intro y0 y1
      unfold coppicerref_Table.l2
      repeat' first
      | (with_reducible exact ih0 _ _)
      | (with_reducible exact ih1 _ _ _)
      | (with_reducible exact ih2 _ _)
      | (with_reducible exact ih3 _ _ _)
      | (with_reducible exact ih4 _ _ _ _)
      | (with_reducible exact ih5 _ _ _ _ _)
      | (with_reducible exact coppicerref_over.mono _ _ _ _ _ _ _ _ _ _)
      | (with_reducible exact LeO.refl _)
      | (with_reducible exact LeO.none _)
      | (with_reducible refine LeO.ite ?_ ?_)
      | (with_reducible refine LeO.bind ?_ (fun _ => ?_))
    · intro y0 y1 y2
      unfold coppicerref_Table.l3
      repeat' first
      | (with_reducible exact ih0 _ _)
      | (with_reducible exact ih1 _ _ _)
      | (with_reducible exact ih2 _ _)
      | (with_reducible exact ih3 _ _ _)
      | (with_reducible exact ih4 _ _ _ _)
      | (with_reducible exact ih5 _ _ _ _ _)
      | (with_reducible exact coppicerref_over.mono _ _ _ _ _ _ _ _ _ _)
      | (with_reducible exact LeO.refl _)
      | (with_reducible exact LeO.none _)
      | (with_reducible refine LeO.ite ?_ ?_)
      | (with_reducible refine LeO.bind ?_ (fun _ => ?_))
    · intro y0 y1 y2 y3
      unfold coppicerref_Table.l4
      repeat' first
      | (with_reducible exact ih0 _ _)
      | (with_reducible exact ih1 _ _ _)
      | (with_reducible exact ih2 _ _)
      | (with_reducible exact ih3 _ _ _)
      | (with_reducible exact ih4 _ _ _ _)
      | (with_reducible exact ih5 _ _ _ _ _)
      | (with_reducible exact coppicerref_over.mono _ _ _ _ _ _ _ _ _ _)
      | (with_reducible exact LeO.refl _)
      | (with_reducible exact LeO.none _)
      | (with_reducible refine LeO.ite ?_ ?_)
      | (with_reducible refine LeO.bind ?_ (fun _ => ?_))
    · intro y0 y1 y2 y3 y4
      unfold coppicerref_Table.l5
      repeat' first
      | (with_reducible exact ih0 _ _)
      | (with_reducible exact ih1 _ _ _)
      | (with_reducible exact ih2 _ _)
      | (with_reducible exact ih3 _ _ _)
      | (with_reducible exact ih4 _ _ _ _)
      | (with_reducible exact ih5 _ _ _ _ _)
      | (with_reducible exact coppicerref_over.mono _ _ _ _ _ _ _ _ _ _)
      | (with_reducible exact LeO.refl _)
      | (with_reducible exact LeO.none _)
      | (with_reducible refine LeO.ite ?_ ?_)
      | (with_reducible refine LeO.bind ?_ (fun _ => ?_))
theorem coppicerref_Table.mono : ∀ a0 a1 a2 a3 a4 k, LeO (coppicerref_Table.f k a0 a1 a2 a3 a4) (coppicerref_Table.f (k + 1) a0 a1 a2 a3 a4) := by
  intro a0 a1 a2 a3 a4 k
  obtain ⟨ih0, _⟩ := coppicerref_Table.mono_l a0 a1 a2 a3 a4 (wrap64 ((a4.length : Int) + 1)) k
  unfold coppicerref_Table.f
  exact LeO.ite (LeO.ite (ih0 _ _) (LeO.none _)) (LeO.none _)
/-- The table in the making: its rows, the grammar's variable, what was there before. -/
def TabI (w W : World) (gb : Nat) (cs : Array Value) (v : Value) (t : List (List (List Bool))) : Prop :=
  Kd.S (sliceS 34 (Kd.slice 4 Kd.bool)) 33 W w.heap.size (fun _ => True) v t ∧ W.heap[gb]? = some (.cells cs 24 (0, 0)) ∧ w.heap.size ≤ gb ∧ Below w.heap.size w W
section
variable {w W W1 : World} {gb g n cap : Nat} {cs : Array Value} {v vz : Value} {t : List (List (List Bool))}
theorem TabI.below (h : TabI w W gb cs v t) (hb : Below W.heap.size W W1) : TabI w W1 gb cs v t :=
  ⟨Kd.S_below h.1 hb, blk_below h.2.1 hb, h.2.2.1, below_step h.2.2.2 hb⟩
theorem TabI.drew (h : TabI w W gb cs v t) : TabI w W.drew gb cs v t := h.below (below_drew (Below.refl _ _))
theorem TabI.drewN (h : TabI w W gb cs v t) (m : Nat) : TabI w (W.drewN m) gb cs v t := h.below (pw_below_drewN (Below.refl _ _) m)
theorem TabI.form (h : TabI w W gb cs v t) (hp : 0 < t.length) : ∃ g cap, v = .slice (some ⟨g, 0, none⟩) t.length cap := by
  obtain ⟨g, cap, e, _⟩ := Kd.S_form h.1 hp
  exact ⟨g, cap, e⟩
theorem TabI.set (h : TabI w W gb cs v t) {g2 e' : Nat} (he : e' ≠ 24) (hc : ∃ cells, W.heap[g2]? = some (.cells cells e' (0, 0))) (hb : w.heap.size ≤ g2) {j : Nat} {x : Value} {t' : List (List (List Bool))}
    (hS : Kd.S (sliceS 34 (Kd.slice 4 Kd.bool)) 33 (W.setCell ⟨g2, j, none⟩ x) w.heap.size (fun _ => True) v t') : TabI w (W.setCell ⟨g2, j, none⟩ x) gb cs v t' := by
  refine ⟨hS, blk_far h.2.1 (fun q => ?_) _, h.2.2.1, below_set h.2.2.2 hb⟩
  obtain ⟨cells, hc⟩ := hc
  rw [show g2 = gb from q.symm, h.2.1] at hc
  injection hc with hc
  injection hc with _ hc _
  exact he hc.symm
/-- A row of rows that was just made is stored into the table. -/
theorem TabI.own (h : TabI w W gb cs (.slice (some ⟨g, 0, none⟩) n cap) t) (hb : Below W.heap.size W W1) {z : List (List Bool)} (hz : Kd.S (Kd.slice 4 Kd.bool) 34 W1 W.heap.size (fun k => k = W.heap.size) vz z) (i : Int) (h0 : 0 ≤ i) (h1 : i < n) :
    (∃ A m c, W1.cell? ⟨g, i.toNat, none⟩ = some (.slice A m c)) ∧ W1.frozen? ⟨g, i.toNat, none⟩ = false ∧ TabI w (W1.setCell ⟨g, i.toNat, none⟩ vz) gb cs (.slice (some ⟨g, 0, none⟩) n cap) (t.set i.toNat z) := by
  have hn := (Kd.S_reads' h.1).1
  obtain ⟨g', cap', e, hbg, hlt, cells, hcells⟩ := Kd.S_form h.1 (by omega)
  injection e with e _ _
  injection e with e
  injection e with e _ _
  subst e
  have hs : Kd.S (sliceS 34 (Kd.slice 4 Kd.bool)) 33 W1 w.heap.size (fun k => True ∧ ¬ k = W.heap.size) (.slice (some ⟨g, 0, none⟩) n cap) t := Kd.S_mono (Kd.S_below (Kd.S_bound h.1) hb) (fun k hk => ⟨trivial, by have := hk.2.2.1; omega⟩)
  have hz' := Kd.S_lower hz (below_size h.2.2.2)
  obtain ⟨p1, p2, p3, p4⟩ := put_own hs i h0 h1 hz' (fun k hk => ⟨trivial, by omega⟩)
  exact ⟨p1, p2, (h.below hb).set (e' := 33) (by decide) ⟨cells, (hb.block g hlt).trans hcells⟩ hbg p3⟩
/-- A row that was just made is stored into a row of the table. -/
theorem TabI.row (h : TabI w W gb cs (.slice (some ⟨g, 0, none⟩) n cap) t) (hb : Below W.heap.size W W1) {z : List Bool} (hz : Kd.R Kd.bool 4 W1 W.heap.size (fun _ => True) vz z) (i j : Int) (h0 : 0 ≤ i) (h1 : i < n) (j0 : 0 ≤ j) (j1 : j < ((rd_L7 t i).length : Int)) :
    ∃ g2 c2, W.cell? ⟨g, i.toNat, none⟩ = some (.slice (some ⟨g2, 0, none⟩) (rd_L7 t i).length c2) ∧ W1.cell? ⟨g, i.toNat, none⟩ = some (.slice (some ⟨g2, 0, none⟩) (rd_L7 t i).length c2) ∧ (∃ A m c, W1.cell? ⟨g2, j.toNat, none⟩ = some (.slice A m c)) ∧ W1.frozen? ⟨g2, j.toNat, none⟩ = false ∧
      TabI w (W1.setCell ⟨g2, j.toNat, none⟩ vz) gb cs (.slice (some ⟨g, 0, none⟩) n cap) (t.set i.toNat ((rd_L7 t i).set j.toNat z)) := by
  have hn := (Kd.S_reads' h.1).1
  obtain ⟨g', cap', e, hbg, hlt, cells, hcells⟩ := Kd.S_form h.1 (by omega)
  injection e with e _ _
  injection e with e
  injection e with e _ _
  subst e
  have hs : Kd.S (sliceS 34 (Kd.slice 4 Kd.bool)) 33 W1 w.heap.size (fun k => True ∧ ¬ W.heap.size ≤ k) (.slice (some ⟨g, 0, none⟩) n cap) t := Kd.S_mono (Kd.S_below (Kd.S_bound h.1) hb) (fun k hk => ⟨trivial, by have := hk.2.2.1; omega⟩)
  have hz' : Kd.R Kd.bool 4 W1 w.heap.size (fun k => W.heap.size ≤ k) vz z := Kd.R_mono (Kd.R_lower (Kd.R_bound hz) (below_size h.2.2.2)) (fun k hk => hk.2.1)
  obtain ⟨g2, c2, p0, p1, p2, p3, ⟨cl, p4⟩, p5, p6, p7, p8⟩ := put_row hs i j h0 h1 j0 j1 hz' (fun k hk => ⟨trivial, by omega⟩)
  have pc : W.cell? ⟨g, i.toNat, none⟩ = W1.cell? ⟨g, i.toNat, none⟩ := (hb.cell (p := ⟨g, i.toNat, none⟩) hlt).symm
  exact ⟨g2, c2, pc.trans p0, p0, p5, p6, (h.below hb).set (e' := 34) (by decide) ⟨cl, p4⟩ p3 p7⟩
theorem TabI.at (h : TabI w W gb cs (.slice (some ⟨g, 0, none⟩) n cap) t) (i j : Int) (h0 : 0 ≤ i) (h1 : i < n) (j0 : 0 ≤ j) (j1 : j < ((rd_L7 t i).length : Int)) :
    ∃ g2 c2, W.cell? ⟨g, i.toNat, none⟩ = some (.slice (some ⟨g2, 0, none⟩) (rd_L7 t i).length c2) := by
  obtain ⟨oki, v2, hc, hs, _⟩ := into_ (okg := fun _ => False) (Kd.S_mono h.1 (fun k hk => ⟨hk, fun q => q⟩)) i h0 h1 (fun k hk => hk.elim)
  obtain ⟨g2, c2, rfl, _⟩ := Kd.S_form hs (by have h_ : j < ((t.getD i.toNat []).length : Int) := j1; omega)
  exact ⟨g2, c2, hc⟩
/-- An element, read; and stored into. -/
theorem TabI.cell (h : TabI w W gb cs (.slice (some ⟨g, 0, none⟩) n cap) t) (i j l : Int) (h0 : 0 ≤ i) (h1 : i < n) (j0 : 0 ≤ j) (j1 : j < ((rd_L7 t i).length : Int)) (l0 : 0 ≤ l) (l1 : l < ((rd_L6 (rd_L7 t i) j).length : Int)) :
    ∃ g2 c2 g3 c3, W.cell? ⟨g, i.toNat, none⟩ = some (.slice (some ⟨g2, 0, none⟩) (rd_L7 t i).length c2) ∧ W.cell? ⟨g2, j.toNat, none⟩ = some (.slice (some ⟨g3, 0, none⟩) (rd_L6 (rd_L7 t i) j).length c3) ∧
      W.cell? ⟨g3, l.toNat, none⟩ = some (.bool (rdOf false (rd_L6 (rd_L7 t i) j) l)) ∧ W.frozen? ⟨g3, l.toNat, none⟩ = false ∧ (∃ cells, W.heap[g3]? = some (.cells cells 4 (0, 0))) ∧
      ∀ x, TabI w (W.setCell ⟨g3, l.toNat, none⟩ (.bool x)) gb cs (.slice (some ⟨g, 0, none⟩) n cap) (t.set i.toNat ((rd_L7 t i).set j.toNat ((rd_L6 (rd_L7 t i) j).set l.toNat x))) := by
  obtain ⟨g2, c2, g3, c3, p1, p2, p3, p4, p5, p6, p7⟩ := put_cell false h.1 i j l h0 h1 j0 j1 l0 l1
  exact ⟨g2, c2, g3, c3, p1, p2, p3, p4, p6, fun x => h.set (e' := 4) (by decide) p6 p5 (p7 x).1⟩
theorem TabI.box (h : TabI w W gb cs v t) {gr : Nat} {c2 : Array Value} (hr : W.heap[gr]? = some (.cells c2 47 (0, 0))) (hge : w.heap.size ≤ gr) (j : Nat) (u : Value) : TabI w (W.setCell ⟨gr, j, none⟩ u) gb cs v t :=
  h.set (e' := 47) (by decide) ⟨c2, hr⟩ hge (Kd.S_set h.1 hr (by decide) j u)
theorem blk_set_ {gr : Nat} {c2 : Array Value} (hr : W.heap[gr]? = some (.cells c2 47 (0, 0))) (j : Nat) (x : Value) : (W.setCell ⟨gr, j, none⟩ x).heap[gr]? = some (.cells (c2.setIfInBounds j x) 47 (0, 0)) := by
  unfold World.setCell
  simp [Array.getElem?_modify, hr]
theorem blk_set0 {gr : Nat} {u0 u1 : Value} (hr : W.heap[gr]? = some (.cells #[u0, u1] 47 (0, 0))) (x : Value) : (W.setCell ⟨gr, 0, none⟩ x).heap[gr]? = some (.cells #[x, u1] 47 (0, 0)) := blk_set_ hr 0 x
theorem box_two {gr : Nat} {u0 u1 : Value} (hr : W.heap[gr]? = some (.cells #[u0, u1] 47 (0, 0))) (x y : Value) : ((W.setCell ⟨gr, 0, none⟩ x).setCell ⟨gr, 1, none⟩ y).heap[gr]? = some (.cells #[x, y] 47 (0, 0)) := blk_set_ (blk_set0 hr x) 1 y
theorem box_set {gr : Nat} {c2 cells : Array Value} (hr : W.heap[gr]? = some (.cells c2 47 (0, 0))) {g3 e' : Nat} (he : e' ≠ 47) (hc : W.heap[g3]? = some (.cells cells e' (0, 0))) (j : Nat) (u : Value) : (W.setCell ⟨g3, j, none⟩ u).heap[gr]? = some (.cells c2 47 (0, 0)) := by
  refine blk_far hr (fun q => ?_) _
  have q : gr = g3 := q
  rw [← q, hr] at hc
  injection hc with hc
  injection hc with _ hc _
  exact he hc.symm
end
set_option maxHeartbeats 8000000 in
set_option maxRecDepth 100000 in
theorem coppicerref_Table.calls (k : Nat) (a0_0 : Int) (a0_1 : Int) (a0_2 : Int) (A0_3 : Option Addr) (c0_3 : Nat) (l0_3 : List S47) (A1 : Option Addr) (c1 : Nat) (l1 : List Int) (r : List (List (List Bool))) (w : World) (hr0_3 : Kd.C k47 w A0_3 l0_3.length l0_3) (hc0_3 : l0_3.length ≤ c0_3) (hr1 : Kd.C (Kd.int .i64) w A1 l1.length l1) (hc1 : l1.length ≤ c1) (h : coppicerref_Table.f k a0_0 a0_1 a0_2 l0_3 l1 = some r) :
    Calls Try.prog 7 #[.agg #[.int .i64 a0_0, .int .i64 a0_1, .int .i64 a0_2, .slice A0_3 l0_3.length c0_3], .slice A1 l1.length c1] w fun e w' => ∃ v0_ : Value, e = .returned (v0_) ∧ Kd.R (Kd.slice 34 (Kd.slice 4 Kd.bool)) 33 w' w.heap.size (fun _ => True) v0_ r ∧ Below w.heap.size w w' := by
  have hu_ := Try.underlying24
  have HR0_3 := Aside0.mk hr0_3
  have HC0_3 := Aside0.mk hc0_3
  clear hr0_3 hc0_3
  have HR1 := Aside0.mk hr1
  have HC1 := Aside0.mk hc1
  clear hr1 hc1
  unfold coppicerref_Table.f at h
  by_cases d1 : 0 ≤ a0_1
  case neg => rw [if_neg d1] at h; cases h
  rw [if_pos d1] at h
  by_cases d2 : (a0_1 : Int).toNat ≤ 11728124029610
  case neg => rw [if_neg d2] at h; cases h
  rw [if_pos d2] at h
  have H := Aside0.mk h
  clear h
  have D2 : Aside0 (a0_1.toNat * 24 ≤ 281474976710656) := ⟨by omega⟩
  have D1 := Aside0.mk d1
  clear d1 d2
  go_enter Try.func7, Try.ntmps7
  go_wp2_with (first
    | ((with_reducible refine gate_dst (N := 2) rfl ?_); refine box_event ?hg (N := 2) ?hd (cs := #[.int .i64 a0_0, .int .i64 a0_1, .int .i64 a0_2, .slice A0_3 l0_3.length c0_3]) (t := 24) ?hr ?_; (case hd => rfl); (case hg => rfl); (case hr => first | (go_simp; done) | (go_simp; rfl)); intro gb hg w4 hbox hb; have GE := Aside0.mk (show w.heap.size ≤ gb by rw [hg]; exact Nat.le_refl _); have BK := Aside0.mk hbox; have HB := Aside0.mk hb; have hcz_1 : w4.cell? ⟨gb, 1, none⟩ = some (.int .i64 a0_1) := (blk_cell BK.out 1).trans rfl; clear hg hbox hb)
    | ((with_reducible refine gate_dst (N := 19) rfl ?_); refine Kd.S_make (sliceS 34 (Kd.slice 4 Kd.bool)) _ 33 rfl (N := 19) rfl 45 _ _ rfl a0_1 rfl rfl Try.underlying45 (.slice none 0 0) 24 info33 rfl (by decide) (by omega) [] (ok := fun _ => True) (okp := fun _ => False) ⟨_, rfl, Kd.S_nil _ _ _ _ _⟩ (fun _ hk => hk.elim) trivial D1.out D2.out (Below.refl _ _) (Nat.le_refl _) ?_; intro v6 w5 ho hb hg_ hnew_; clear hg_ hnew_; have HI : Aside0 (TabI w w5 gb #[.int .i64 a0_0, .int .i64 a0_1, .int .i64 a0_2, .slice A0_3 l0_3.length c0_3] v6 (List.replicate a0_1.toNat [])) := ⟨⟨Kd.S_lower ho (below_size HB.out), blk_below BK.out hb, GE.out, below_step HB.out hb⟩⟩; clear ho hb HB BK hcz_1))
  go_loopg [7] k (fun kq v7 w' => ∃ (t : List (List (List Bool))) (a : Int), v7 = .int .i64 a ∧ Aside0 (coppicerref_Table.l0 a0_0 a0_1 a0_2 l0_3 l1 (wrap64 ((l1.length : Int) + 1)) kq t a = some r) ∧ Aside0 (kq ≤ k) ∧ Aside0 (TabI w w' gb #[.int .i64 a0_0, .int .i64 a0_1, .int .i64 a0_2, .slice A0_3 l0_3.length c0_3] v6 t))
  case atStart => exact ⟨_, 0, rfl, H, ⟨Nat.le_refl _⟩, HI⟩
  case round =>
    clear H HI
    obtain ⟨t, a, rfl, HA, HK1, HI⟩ := hrel
    have hcz_1 : wr.cell? ⟨gb, 1, none⟩ = some (.int .i64 a0_1) := (blk_cell HI.out.2.1 1).trans rfl
    cases gk with
    | zero => exact absurd HA.out (by simp [coppicerref_Table.l0])
    | succ k1 =>
      have H := HA.out
      clear HA
      simp only [coppicerref_Table.l0] at H
      by_cases c1 : a < a0_1
      · rw [if_pos c1] at H
        have t1 : decide (a < a0_1) = true := decide_eq_true c1
        by_cases c2 : 0 ≤ wrap64 ((l1.length : Int) + 1)
        case neg => rw [if_neg c2] at H; cases H
        rw [if_pos c2] at H
        by_cases c3 : (wrap64 ((l1.length : Int) + 1)).toNat ≤ 11728124029610
        case neg => rw [if_neg c3] at H; cases H
        rw [if_pos c3] at H
        by_cases c4 : 0 ≤ a
        case neg => rw [if_neg c4] at H; cases H
        rw [if_pos c4] at H
        by_cases c5 : a < (t.length : Int)
        case neg => rw [if_neg c5] at H; cases H
        rw [if_pos c5] at H
        obtain ⟨g, cap, rfl⟩ := HI.out.form (by omega)
        have E3 : Aside0 ((wrap64 ((l1.length : Int) + 1)).toNat * 24 ≤ 281474976710656) := ⟨by omega⟩
        have E2 := Aside0.mk c2
        have E4 := Aside0.mk c4
        have E5 := Aside0.mk c5
        have H' := Aside0.mk H
        clear H c1 c2 c3
        replace c4 := eq_true c4
        replace c5 := eq_true c5
        go_wp2_with (first | ((with_reducible refine gate_dst (N := 29) rfl ?_); refine Kd.S_make (Kd.slice 4 Kd.bool) _ 34 rfl (N := 29) rfl 33 _ _ rfl (wrap64 ((l1.length : Int) + 1)) rfl rfl Try.underlying33 (.slice none 0 0) 24 info34 rfl (by decide) (by omega) [] (ok := fun k_ => k_ = wr.heap.size) (okp := fun _ => False) ⟨_, rfl, Kd.R_nil _ _ _ _ _⟩ (fun _ hk => hk.elim) rfl E2.out E3.out (Below.refl _ _) (Nat.le_refl _) ?_; intro vz wz hoz hb hg_ hnew_; clear hg_ hnew_; obtain ⟨Az, cz, rfl⟩ := Kd.S_slice hoz; rw [List.length_replicate] at hoz; obtain ⟨⟨Ax, mx_, cx, hx⟩, hf, hI⟩ := HI.out.own hb hoz a E4.out E5.out; have HI2 := Aside0.mk hI; clear hI hb hoz))
        go_loopg [8] k1 (fun kq v8 w' => ∃ (t2 : List (List (List Bool))) (i : Int), v8 = .int .i64 i ∧ Aside0 (coppicerref_Table.l1 a0_0 a0_1 a0_2 l0_3 l1 (wrap64 ((l1.length : Int) + 1)) kq t2 a i = some r) ∧ Aside0 (kq ≤ k1) ∧ Aside0 (TabI w w' gb #[.int .i64 a0_0, .int .i64 a0_1, .int .i64 a0_2, .slice A0_3 l0_3.length c0_3] (.slice (some ⟨g, 0, none⟩) t.length cap) t2))
        case atStart => exact ⟨_, 0, rfl, H', ⟨Nat.le_refl _⟩, HI2⟩
        case round =>
          clear H' HI HI2 hx hf hcz_1
          obtain ⟨t2, i, rfl, HA, HK2, HI⟩ := hrel
          cases gk with
          | zero => exact absurd HA.out (by simp [coppicerref_Table.l1])
          | succ k2 =>
            have H := HA.out
            clear HA
            simp only [coppicerref_Table.l1] at H
            have hn : t.length = t2.length := (Kd.S_reads' HI.out.1).1
            by_cases b1 : i < wrap64 ((l1.length : Int) + 1)
            · rw [if_pos b1, if_pos E4.out, if_pos (by rw [← hn]; exact E5.out), if_pos E2.out] at H
              have t2_ : decide (i < wrap64 ((l1.length : Int) + 1)) = true := decide_eq_true b1
              by_cases b2 : (wrap64 ((l1.length : Int) + 1)).toNat ≤ 281474976710656
              case neg => rw [if_neg b2] at H; cases H
              rw [if_pos b2] at H
              by_cases b3 : 0 ≤ i
              case neg => rw [if_neg b3] at H; cases H
              rw [if_pos b3] at H
              by_cases b4 : i < ((rd_L7 t2 a).length : Int)
              case neg => rw [if_neg b4] at H; cases H
              rw [if_pos b4] at H
              have B2 : Aside0 ((wrap64 ((l1.length : Int) + 1)).toNat * 1 ≤ 281474976710656) := ⟨by omega⟩
              have B3 := Aside0.mk b3
              have B4 : Aside0 (i < ((rd_L7 t2 a).length : Int)) := Aside0.mk b4
              have H' := Aside0.mk H
              clear H b1 b2 b4 hn
              replace b3 := eq_true b3
              have b4 := eq_true B4.out
              go_wp2
              obtain ⟨g2, c2, hx1⟩ : ∃ g2 c2, wr.cell? ⟨g, a.toNat, none⟩ = some (.slice (some ⟨g2, 0, none⟩) (rd_L7 t2 a).length c2) := HI.out.at a i E4.out E5.out B3.out B4.out
              refine start_ (n := 9) (S := fun w' => w'.cell? ⟨g, a.toNat, none⟩ = some (.slice (some ⟨g2, 0, none⟩) (rd_L7 t2 a).length c2)) (ds := [8]) #[false, false, false, false, false, false, false, false, false] (by kernel_rfl) rfl rfl (hx1) (fun hHeld => ?_)
              refine pure_ (i := 0) (N := some 36) (v := ?_) (a' := ?_) #[true, false, false, false, false, false, false, false, false] rfl rfl (by kernel_rfl) (fun _ _ _ h => h) (Or.inl ⟨by rfl, ?_⟩) ?_ ?_
              rotate_left
              · intro w'
                go_simp
                with_reducible rfl
              rotate_left
              · simp only [Act.put, List.setIfInBounds_toArray, List.set_cons_zero, List.set_cons_succ, i64_w, i32_w]
                rfl
              refine pure_ (i := 1) (N := some 37) (v := ?_) (a' := ?_) #[true, true, false, false, false, false, false, false, false] rfl rfl (by kernel_rfl) (fun _ _ _ h => h) (Or.inl ⟨by rfl, ?_⟩) ?_ ?_
              rotate_left
              · intro w'
                go_simp
                with_reducible rfl
              rotate_left
              · simp only [Act.put, List.setIfInBounds_toArray, List.set_cons_zero, List.set_cons_succ, i64_w, i32_w]
                rfl
              refine pure_ (i := 2) (N := some 38) (v := ?_) (a' := ?_) #[true, true, true, false, false, false, false, false, false] rfl rfl (by kernel_rfl) (fun _ _ _ h => h) (Or.inl ⟨by rfl, ?_⟩) ?_ ?_
              rotate_left
              · intro w'
                go_simp
                with_reducible rfl
              rotate_left
              · simp only [Act.put, List.setIfInBounds_toArray, List.set_cons_zero, List.set_cons_succ, i64_w, i32_w]
                rfl
              refine pure_ (i := 4) (N := some 40) (v := ?_) (a' := ?_) #[true, true, true, false, true, false, false, false, false] rfl rfl (by kernel_rfl) (fun _ _ _ h => h) (Or.inl ⟨by rfl, ?_⟩) ?_ ?_
              rotate_left
              · intro w'
                go_simp
                with_reducible rfl
              rotate_left
              · simp only [Act.put, List.setIfInBounds_toArray, List.set_cons_zero, List.set_cons_succ, i64_w, i32_w]
                rfl
              refine pure_ (i := 5) (N := some 41) (v := ?_) (a' := ?_) #[true, true, true, false, true, true, false, false, false] rfl rfl (by kernel_rfl) (fun _ _ _ h => h) (Or.inl ⟨by rfl, ?_⟩) ?_ ?_
              rotate_left
              · intro w'
                go_simp
                with_reducible rfl
              rotate_left
              · simp only [Act.put, List.setIfInBounds_toArray, List.set_cons_zero, List.set_cons_succ, i64_w, i32_w]
                rfl
              refine take_ (i := 3) (N := some 39) (v := ?_) (a' := ?_) #[true, true, true, true, true, true, false, false, false] rfl rfl (by kernel_rfl) (fun _ _ _ h => h) (Or.inl ⟨by rfl, ?_⟩) hHeld ?_ ?_
              rotate_left
              · intro w' s0
                go_simp
                with_reducible rfl
              rotate_left
              · simp only [Act.put, List.setIfInBounds_toArray, List.set_cons_zero, List.set_cons_succ, i64_w, i32_w]
                rfl
              refine one_ (i := 6) (N := some 42) #[true, true, true, true, true, true, true, false, false] rfl rfl (by kernel_rfl) (by decide) (fun K hK => ?_)
              refine Kd.R_make_step Kd.bool _ 4 (by rfl) (N := 42) rfl 34 _ _ rfl (wrap64 ((l1.length : Int) + 1)) rfl rfl Try.underlying34 (.bool false) 1 info4 rfl (by decide) (by omega) false (ok := fun _ => True) (okp := fun _ => True) rfl (fun _ hk => hk) trivial E2.out B2.out (Below.refl _ _) (Nat.le_refl _) ?_
              intro vz wz hoz hb hg_ hnew_
              clear hg_ hnew_
              obtain ⟨Az, cz, rfl⟩ := Kd.R_slice hoz
              rw [List.length_replicate] at hoz ⊢
              obtain ⟨g2', c2', e1_, hx1', ⟨Ax, mx_, cx, hx2⟩, hf2, hI2⟩ := HI.out.drew.row hb hoz a i E4.out E5.out B3.out B4.out
              have e2_ := Option.some.inj (e1_.symm.trans hx1)
              injection e2_ with e2_ _ e3_
              injection e2_ with e2_
              injection e2_ with e2_ _ _
              subst e2_
              subst e3_
              clear e1_
              have HI2 := Aside0.mk hI2
              clear hI2 hb hoz
              refine hK.out _ _ (hx1') (fun hHeld => ?_)
              clear hK K
              refine norm_ (a' := ?_) ?_ ?_
              rotate_left
              · show Act.put _ (some 42) _ = _
                simp only [Act.put, List.setIfInBounds_toArray, List.set_cons_zero, List.set_cons_succ, i64_w, i32_w]
                rfl
              refine pure_ (i := 7) (N := some 43) (v := ?_) (a' := ?_) #[true, true, true, true, true, true, true, true, false] rfl rfl (by kernel_rfl) (fun _ _ _ h => h) (Or.inl ⟨by rfl, ?_⟩) ?_ ?_
              rotate_left
              · intro w'
                go_simp
                with_reducible rfl
              rotate_left
              · simp only [Act.put, List.setIfInBounds_toArray, List.set_cons_zero, List.set_cons_succ, i64_w, i32_w]
                rfl
              refine last_ (i := 8) (N := none) #[true, true, true, true, true, true, true, true, true] rfl rfl (by kernel_rfl) (by decide) (fun K hK => ?_)
              refine skip_ (w1 := ?_) (by rfl) rfl ?_ ?_
              rotate_left
              · go_simp
                rfl
              refine hK.out _ _ ?_
              clear hK K
              refine done_ (by kernel_rfl) ?_

              go_wp2
              go_roundg k2
              case measure => have := HK1.out; have := HK2.out; omega
              case rel => exact ⟨_, _, rfl, H', ⟨by have := HK1.out; have := HK2.out; omega⟩, HI2⟩
            · rw [if_neg b1] at H
              have t2_ : decide (i < wrap64 ((l1.length : Int) + 1)) = false := decide_eq_false b1
              have H' := Aside0.mk H
              clear H b1 hn
              go_wp2
              go_roundg k2
              case measure => have := HK1.out; have := HK2.out; omega
              case rel => exact ⟨_, _, rfl, H', ⟨by have := HK1.out; have := HK2.out; omega⟩, HI⟩
      · rw [if_neg c1] at H
        have t1 : decide (a < a0_1) = false := decide_eq_false c1
        have H' := Aside0.mk H
        clear H c1
        go_wp2
        go_loopg [9] k1 (fun kq v9 w' => ∃ (t : List (List (List Bool))) (more : Bool), v9 = .bool more ∧ Aside0 (coppicerref_Table.l2 a0_0 a0_1 a0_2 l0_3 l1 (wrap64 ((l1.length : Int) + 1)) kq t more = some r) ∧ Aside0 (kq ≤ k1) ∧ Aside0 (TabI w w' gb #[.int .i64 a0_0, .int .i64 a0_1, .int .i64 a0_2, .slice A0_3 l0_3.length c0_3] v6 t))
        case atStart => exact ⟨_, true, rfl, H', ⟨Nat.le_refl _⟩, HI⟩
        case round =>
          clear H' HI hcz_1 HK1
          obtain ⟨t, more, rfl, HA, HK1, HI⟩ := hrel
          cases gk with
          | zero => exact absurd HA.out (by simp [coppicerref_Table.l2])
          | succ k2 =>
            have H := HA.out
            clear HA
            simp only [coppicerref_Table.l2] at H
            have hcz_3 : wr.cell? ⟨gb, 3, none⟩ = some (.slice A0_3 l0_3.length c0_3) := (blk_cell HI.out.2.1 3).trans rfl
            cases more with
            | false =>
              rw [if_neg (by decide)] at H
              obtain rfl := Option.some.inj H
              clear H
              go_wp2
              go_ret
              exact ⟨_, rfl, sliceS_R (Kd.S_R HI.out.1), HI.out.2.2.2⟩
            | true =>
              rw [if_pos rfl] at H
              have H' := Aside0.mk H
              clear H
              go_wp2
              go_loopg [9, 48] k2 (fun kq v9 v48 w' => ∃ (t : List (List (List Bool))) (more : Bool) (q : Int), v9 = .bool more ∧ v48 = .int .i64 q ∧ Aside0 (coppicerref_Table.l3 a0_0 a0_1 a0_2 l0_3 l1 (wrap64 ((l1.length : Int) + 1)) kq t more q = some r) ∧ Aside0 (kq ≤ k2) ∧ Aside0 (TabI w w' gb #[.int .i64 a0_0, .int .i64 a0_1, .int .i64 a0_2, .slice A0_3 l0_3.length c0_3] v6 t))
              case atStart => exact ⟨_, _, _, rfl, rfl, H', ⟨Nat.le_refl _⟩, HI⟩
              case round =>
                clear H' HI hcz_3
                obtain ⟨t, more, q, rfl, rfl, HA, HK2, HI⟩ := hrel
                cases gk with
                | zero => exact absurd HA.out (by simp [coppicerref_Table.l3])
                | succ k3 =>
                  have H := HA.out
                  clear HA
                  simp only [coppicerref_Table.l3] at H
                  by_cases b1 : q < (l0_3.length : Int)
                  · rw [if_pos b1] at H
                    by_cases b2 : 0 ≤ q
                    case neg => rw [if_neg b2] at H; cases H
                    rw [if_pos b2] at H
                    have H' := Aside0.mk H
                    clear H
                    have t1_ : decide (q < (l0_3.length : Int)) = true := decide_eq_true b1
                    obtain ⟨ad, Ar, cr, e_, hx0, hx1, hlr, hir⟩ := at_T47 HR0_3.out q b2 b1
                    cases e_
                    replace hx0 := (HI.out.2.2.2.cell (World.block_lt_of_cell? w _ hx0)).trans hx0
                    replace hx1 := (HI.out.2.2.2.cell (World.block_lt_of_cell? w _ hx1)).trans hx1
                    have HRr := Aside0.mk hir
                    have HCr := Aside0.mk hlr
                    clear hir hlr
                    replace b1 := eq_true b1
                    replace b2 := eq_true b2
                    go_wp2_with (first | ((with_reducible refine gate_dst (N := 11) rfl ?_); refine box_event ?hg (N := 11) ?hd (cs := #[.int .i64 0, .slice none 0 0]) (t := 47) ?hr ?_; (case hd => rfl); (case hg => rfl); (case hr => first | (go_simp; done) | (go_simp; rfl)); intro gr hg w4 hbox hb; have GR := Aside0.mk (show w.heap.size ≤ gr by rw [hg]; exact below_size HI.out.2.2.2); have BR := Aside0.mk hbox; have HI4 := Aside0.mk (HI.out.below hb); have hcr_0 : w4.cell? ⟨gr, 0, none⟩ = some (.int .i64 0) := (blk_cell BR.out 0).trans rfl; have hcr_1 : w4.cell? ⟨gr, 1, none⟩ = some (.slice none 0 0) := (blk_cell BR.out 1).trans rfl; have hfr_0 := blk_frozen BR.out 0; have hfr_1 := blk_frozen BR.out 1; clear hg hbox hb))
                    go_loopg [9, 12] k3 (fun kq v9 v12 w' => ∃ (t : List (List (List Bool))) (more : Bool) (i : Int), v9 = .bool more ∧ v12 = .int .i64 i ∧ Aside0 (coppicerref_Table.l4 a0_0 a0_1 a0_2 l0_3 l1 (wrap64 ((l1.length : Int) + 1)) kq t more q i = some r) ∧ Aside0 (kq ≤ k3) ∧ Aside0 (TabI w w' gb #[.int .i64 a0_0, .int .i64 a0_1, .int .i64 a0_2, .slice (some ad) l0_3.length c0_3] v6 t) ∧ Aside0 (w'.heap[gr]? = some (.cells #[.int .i64 (rd_T47 l0_3 q).f0, .slice Ar (rd_T47 l0_3 q).f1.length cr] 47 (0, 0))))
                    case atStart => exact ⟨_, _, _, rfl, rfl, H', ⟨Nat.le_refl _⟩, ⟨(HI4.out.box BR.out GR.out _ _).box (blk_set0 BR.out _) GR.out _ _⟩, ⟨box_two BR.out _ _⟩⟩
                    case round =>
                      clear H' HI HI4 BR hx0 hx1 hcr_0 hcr_1 hfr_0 hfr_1
                      obtain ⟨t, more, i, rfl, rfl, HA, HK3, HI, BR⟩ := hrel
                      cases gk with
                      | zero => exact absurd HA.out (by simp [coppicerref_Table.l4])
                      | succ k4 =>
                        have H := HA.out
                        clear HA
                        simp only [coppicerref_Table.l4] at H
                        by_cases b3 : i < (wrap64 ((l1.length : Int) + 1))
                        · rw [if_pos b3] at H
                          have t2_ : decide (i < (wrap64 ((l1.length : Int) + 1))) = true := decide_eq_true b3
                          have H' := Aside0.mk H
                          clear H b3
                          go_wp2
                          go_loopg [9, 13] k4 (fun kq v9 v13 w' => ∃ (t : List (List (List Bool))) (more : Bool) (j : Int), v9 = .bool more ∧ v13 = .int .i64 j ∧ Aside0 (coppicerref_Table.l5 a0_0 a0_1 a0_2 l0_3 l1 (wrap64 ((l1.length : Int) + 1)) kq t more q i j = some r) ∧ Aside0 (kq ≤ k4) ∧ Aside0 (TabI w w' gb #[.int .i64 a0_0, .int .i64 a0_1, .int .i64 a0_2, .slice (some ad) l0_3.length c0_3] v6 t) ∧ Aside0 (w'.heap[gr]? = some (.cells #[.int .i64 (rd_T47 l0_3 q).f0, .slice Ar (rd_T47 l0_3 q).f1.length cr] 47 (0, 0))))
                          case atStart => exact ⟨_, _, _, rfl, rfl, H', ⟨Nat.le_refl _⟩, HI, BR⟩
                          case round =>
                            clear H' HI BR
                            obtain ⟨t, more, j, rfl, rfl, HA, HK4, HI, BR⟩ := hrel
                            cases gk with
                            | zero => exact absurd HA.out (by simp [coppicerref_Table.l5])
                            | succ k5 =>
                              have H := HA.out
                              clear HA
                              simp only [coppicerref_Table.l5] at H
                              by_cases b4 : j < (wrap64 ((l1.length : Int) + 1))
                              · rw [if_pos b4] at H
                                have t3_ : decide (j < (wrap64 ((l1.length : Int) + 1))) = true := decide_eq_true b4
                                by_cases d0 : 0 ≤ (rd_T47 l0_3 q).f0
                                case neg => rw [if_neg d0] at H; cases H
                                rw [if_pos d0] at H
                                by_cases d1 : (rd_T47 l0_3 q).f0 < (t.length : Int)
                                case neg => rw [if_neg d1] at H; cases H
                                rw [if_pos d1] at H
                                by_cases d2 : 0 ≤ i
                                case neg => rw [if_neg d2] at H; cases H
                                rw [if_pos d2] at H
                                by_cases d3 : i < ((rd_L7 t (rd_T47 l0_3 q).f0).length : Int)
                                case neg => rw [if_neg d3] at H; cases H
                                rw [if_pos d3] at H
                                by_cases d4 : 0 ≤ j
                                case neg => rw [if_neg d4] at H; cases H
                                rw [if_pos d4] at H
                                by_cases d5 : j < ((rd_L6 (rd_L7 t (rd_T47 l0_3 q).f0) i).length : Int)
                                case neg => rw [if_neg d5] at H; cases H
                                rw [if_pos d5] at H
                                obtain ⟨g, cap, rfl⟩ := HI.out.form (by omega)
                                have D := Aside0.mk (show (0 ≤ (rd_T47 l0_3 q).f0 ∧ (rd_T47 l0_3 q).f0 < (t.length : Int)) ∧ (0 ≤ i ∧ i < ((rd_L7 t (rd_T47 l0_3 q).f0).length : Int)) ∧ 0 ≤ j ∧ j < ((rd_L6 (rd_L7 t (rd_T47 l0_3 q).f0) i).length : Int) from ⟨⟨d0, d1⟩, ⟨d2, d3⟩, d4, d5⟩)
                                obtain ⟨g2, c2, g3, c3, hx1, hx2, hx3, hf3, _, _⟩ := HI.out.cell (rd_T47 l0_3 q).f0 i j d0 d1 d2 d3 d4 d5
                                have hr0 : wr.cell? ⟨gr, 0, none⟩ = some (.int .i64 (rd_T47 l0_3 q).f0) := (blk_cell BR.out 0).trans rfl
                                have hr1 : wr.cell? ⟨gr, 1, none⟩ = some (.slice Ar (rd_T47 l0_3 q).f1.length cr) := (blk_cell BR.out 1).trans rfl
                                have hz0 : wr.cell? ⟨gb, 0, none⟩ = some (.int .i64 a0_0) := (blk_cell HI.out.2.1 0).trans rfl
                                have hz1 : wr.cell? ⟨gb, 1, none⟩ = some (.int .i64 a0_1) := (blk_cell HI.out.2.1 1).trans rfl
                                have hz2 : wr.cell? ⟨gb, 2, none⟩ = some (.int .i64 a0_2) := (blk_cell HI.out.2.1 2).trans rfl
                                have hz3 : wr.cell? ⟨gb, 3, none⟩ = some (.slice (some ad) l0_3.length c0_3) := (blk_cell HI.out.2.1 3).trans rfl
                                replace d0 := eq_true d0
                                replace d1 := eq_true d1
                                replace d2 := eq_true d2
                                replace d3 := eq_true d3
                                replace d4 := eq_true d4
                                replace d5 := eq_true d5
                                by_cases b5 : rdOf false (rd_L6 (rd_L7 t (rd_T47 l0_3 q).f0) i) j = true
                                · rw [if_pos b5] at H
                                  rw [b5] at hx3
                                  have H' := Aside0.mk H
                                  clear H b4 b5
                                  go_wp2
                                  go_roundg k5
                                  case measure => have := HK1.out; have := HK2.out; have := HK3.out; have := HK4.out; omega
                                  case rel => exact ⟨_, _, _, rfl, rfl, H', ⟨by have := HK1.out; have := HK2.out; have := HK3.out; have := HK4.out; omega⟩, HI, BR⟩
                                · rw [if_neg b5] at H
                                  rw [Bool.not_eq_true] at b5
                                  rw [b5] at hx3
                                  replace H := Option.bind_eq_some_iff.mp H
                                  obtain ⟨b, A, H⟩ := H
                                  have A_ := Aside0.mk A
                                  clear A
                                  cases b with
                                  | true =>
                                    rw [if_pos rfl] at H
                                    have H' := Aside0.mk H
                                    clear H b4 b5
                                    go_wp2_with (first | (go_at_call 14; (with_reducible refine (coppicerref_over.calls k5 a0_0 a0_1 a0_2 _ _ l0_3 _ _ l1 _ _ t _ _ (rd_T47 l0_3 q).f1 i j _ _ ?side1 ?side2 ?side3 ?side4 ?side5 ?side6 ?side7 ?side8 A_.out).mono ?_); (case side1 => exact Kd.C_below HR0_3.out HI.out.2.2.2); (case side2 => exact HC0_3.out); (case side3 => exact Kd.C_below HR1.out HI.out.2.2.2); (case side4 => exact HC1.out); (case side5 => exact sliceS_C (Kd.S_reads' HI.out.1).2.2); (case side6 => exact (Kd.S_reads' HI.out.1).2.1); (case side7 => exact Kd.C_below HRr.out HI.out.2.2.2); (case side8 => exact HCr.out); rintro e w2 ⟨rfl, hb⟩; have HI2 := Aside0.mk (HI.out.below hb); have BR2 := Aside0.mk (blk_below BR.out hb); clear hb hx1 hx2 hx3 hf3 hr0 hr1 hz0 hz1 hz2 hz3; obtain ⟨g2_, c2_, g3_, c3_, hx1, hx2, hx3, hf3, ⟨cl, htp⟩, hst⟩ := HI2.out.cell (rd_T47 l0_3 q).f0 i j D.out.1.1 D.out.1.2 D.out.2.1.1 D.out.2.1.2 D.out.2.2.1 D.out.2.2.2; have HT := Aside0.mk htp; have HST := Aside0.mk (hst true); clear htp hst; have hr0 : w2.cell? ⟨gr, 0, none⟩ = some (.int .i64 (rd_T47 l0_3 q).f0) := (blk_cell BR2.out 0).trans rfl))
                                    go_roundg k5
                                    case measure => have := HK1.out; have := HK2.out; have := HK3.out; have := HK4.out; omega
                                    case rel => exact ⟨_, _, _, rfl, rfl, H', ⟨by have := HK1.out; have := HK2.out; have := HK3.out; have := HK4.out; omega⟩, HST, ⟨box_set BR2.out (by decide) HT.out _ _⟩⟩
                                  | false =>
                                    rw [if_neg (by decide)] at H
                                    have H' := Aside0.mk H
                                    clear H b4 b5
                                    go_wp2_with (first | (go_at_call 14; (with_reducible refine (coppicerref_over.calls k5 a0_0 a0_1 a0_2 _ _ l0_3 _ _ l1 _ _ t _ _ (rd_T47 l0_3 q).f1 i j _ _ ?side1 ?side2 ?side3 ?side4 ?side5 ?side6 ?side7 ?side8 A_.out).mono ?_); (case side1 => exact Kd.C_below HR0_3.out HI.out.2.2.2); (case side2 => exact HC0_3.out); (case side3 => exact Kd.C_below HR1.out HI.out.2.2.2); (case side4 => exact HC1.out); (case side5 => exact sliceS_C (Kd.S_reads' HI.out.1).2.2); (case side6 => exact (Kd.S_reads' HI.out.1).2.1); (case side7 => exact Kd.C_below HRr.out HI.out.2.2.2); (case side8 => exact HCr.out); rintro e w2 ⟨rfl, hb⟩; have HI2 := Aside0.mk (HI.out.below hb); have BR2 := Aside0.mk (blk_below BR.out hb); clear hb hx1 hx2 hx3 hf3 hr0 hr1 hz0 hz1 hz2 hz3; obtain ⟨g2_, c2_, g3_, c3_, hx1, hx2, hx3, hf3, ⟨cl, htp⟩, hst⟩ := HI2.out.cell (rd_T47 l0_3 q).f0 i j D.out.1.1 D.out.1.2 D.out.2.1.1 D.out.2.1.2 D.out.2.2.1 D.out.2.2.2; have HT := Aside0.mk htp; have HST := Aside0.mk (hst true); clear htp hst; have hr0 : w2.cell? ⟨gr, 0, none⟩ = some (.int .i64 (rd_T47 l0_3 q).f0) := (blk_cell BR2.out 0).trans rfl))
                                    go_roundg k5
                                    case measure => have := HK1.out; have := HK2.out; have := HK3.out; have := HK4.out; omega
                                    case rel => exact ⟨_, _, _, rfl, rfl, H', ⟨by have := HK1.out; have := HK2.out; have := HK3.out; have := HK4.out; omega⟩, HI2, BR2⟩
                              · rw [if_neg b4] at H
                                have t3_ : decide (j < (wrap64 ((l1.length : Int) + 1))) = false := decide_eq_false b4
                                have H' := Aside0.mk H
                                clear H b4
                                go_wp2
                                go_roundg k5
                                case measure => have := HK1.out; have := HK2.out; have := HK3.out; have := HK4.out; omega
                                case rel => exact ⟨_, _, _, rfl, rfl, H', ⟨by have := HK1.out; have := HK2.out; have := HK3.out; have := HK4.out; omega⟩, HI, BR⟩
                        · rw [if_neg b3] at H
                          have t2_ : decide (i < (wrap64 ((l1.length : Int) + 1))) = false := decide_eq_false b3
                          have H' := Aside0.mk H
                          clear H b3
                          go_wp2
                          go_roundg k4
                          case measure => have := HK1.out; have := HK2.out; have := HK3.out; omega
                          case rel => exact ⟨_, _, _, rfl, rfl, H', ⟨by have := HK1.out; have := HK2.out; have := HK3.out; omega⟩, HI⟩
                  · rw [if_neg b1] at H
                    have t1_ : decide (q < (l0_3.length : Int)) = false := decide_eq_false b1
                    have H' := Aside0.mk H
                    clear H b1
                    go_wp2
                    go_roundg k3
                    case measure => have := HK1.out; have := HK2.out; omega
                    case rel => exact ⟨_, _, rfl, H', ⟨by have := HK1.out; have := HK2.out; omega⟩, HI⟩

/-! ### coppicerref_TakesWord: function 9 -/
def coppicerref_TakesWord.f (k : Nat) (a0_0 : Int) (a0_1 : Int) (a0_2 : Int) (l0_3 : List S47) (l1 : List Int) : Option (Bool) := (coppicerref_Table.f k a0_0 a0_1 a0_2 l0_3 l1).bind fun t => (if 0 ≤ a0_2 then (if a0_2 < (t.length : Int) then (if 0 < ((rd_L7 t a0_2).length : Int) then (if (l1.length : Int) < ((rd_L6 (rd_L7 t a0_2) 0).length : Int) then (some (rdOf false (rd_L6 (rd_L7 t a0_2) 0) (l1.length : Int))) else (none)) else (none)) else (none)) else (none))
theorem coppicerref_TakesWord.mono : ∀ a0 a1 a2 a3 a4 k, LeO (coppicerref_TakesWord.f k a0 a1 a2 a3 a4) (coppicerref_TakesWord.f (k + 1) a0 a1 a2 a3 a4) := by
  intro a0 a1 a2 a3 a4 k
  unfold coppicerref_TakesWord.f
  exact LeO.bind (coppicerref_Table.mono _ _ _ _ _ _) (fun _ => LeO.refl _)
set_option maxHeartbeats 8000000 in
set_option maxRecDepth 100000 in
theorem coppicerref_TakesWord.calls (k : Nat) (a0_0 : Int) (a0_1 : Int) (a0_2 : Int) (A0_3 : Option Addr) (c0_3 : Nat) (l0_3 : List S47) (A1 : Option Addr) (c1 : Nat) (l1 : List Int) (r : Bool) (w : World) (hr0_3 : Kd.C k47 w A0_3 l0_3.length l0_3) (hc0_3 : l0_3.length ≤ c0_3) (hr1 : Kd.C (Kd.int .i64) w A1 l1.length l1) (hc1 : l1.length ≤ c1) (h : coppicerref_TakesWord.f k a0_0 a0_1 a0_2 l0_3 l1 = some r) :
    Calls Try.prog 9 #[.agg #[.int .i64 a0_0, .int .i64 a0_1, .int .i64 a0_2, .slice A0_3 l0_3.length c0_3], .slice A1 l1.length c1] w fun e w' => e = .returned (.bool r) ∧ Below w.heap.size w w' := by
  have hu24 := Try.underlying24
  have HR0_3 := Aside0.mk hr0_3
  have HC0_3 := Aside0.mk hc0_3
  clear hr0_3 hc0_3
  have HR1 := Aside0.mk hr1
  have HC1 := Aside0.mk hc1
  clear hr1 hc1
  unfold coppicerref_TakesWord.f at h
  obtain ⟨t, a, h'⟩ := Option.bind_eq_some_iff.mp h
  clear h
  have h := h'
  clear h'
  have A := Aside0.mk a
  clear a
  by_cases d1 : 0 ≤ a0_2
  case neg => rw [if_neg d1] at h; cases h
  rw [if_pos d1] at h
  by_cases d2 : a0_2 < (t.length : Int)
  case neg => rw [if_neg d2] at h; cases h
  rw [if_pos d2] at h
  by_cases d3 : 0 < ((rd_L7 t a0_2).length : Int)
  case neg => rw [if_neg d3] at h; cases h
  rw [if_pos d3] at h
  by_cases d4 : (l1.length : Int) < ((rd_L6 (rd_L7 t a0_2) 0).length : Int)
  case neg => rw [if_neg d4] at h; cases h
  rw [if_pos d4] at h
  obtain rfl := Option.some.inj h
  clear h
  have D := Aside0.mk (show 0 ≤ a0_2 ∧ a0_2 < (t.length : Int) ∧ (0 : Int) < ((rd_L7 t a0_2).length : Int) ∧ (l1.length : Int) < ((rd_L6 (rd_L7 t a0_2) 0).length : Int) from ⟨d1, d2, d3, d4⟩)
  replace d1 := eq_true d1
  replace d2 := eq_true d2
  have d3b : decide (0 < (rd_L7 t a0_2).length) = true := decide_eq_true (by omega)
  have d3c : decide ((0 : Int) < ((rd_L7 t a0_2).length : Int)) = true := decide_eq_true d3
  have d4b : decide (l1.length < (rd_L6 (rd_L7 t a0_2) 0).length) = true := decide_eq_true (Int.ofNat_lt.mp d4)
  have d4c : decide ((l1.length : Int) < ((rd_L6 (rd_L7 t a0_2) 0).length : Int)) = true := decide_eq_true d4
  have d3n := eq_true (show 0 < (rd_L7 t a0_2).length by omega)
  have d4n := eq_true (Int.ofNat_lt.mp d4)
  clear d3 d4
  go_enter Try.func9, Try.ntmps9
  go_wp2_with (first | ((with_reducible refine gate_dst (N := 2) rfl ?_); refine box_event ?hg (N := 2) ?hd (cs := #[.int .i64 a0_0, .int .i64 a0_1, .int .i64 a0_2, .slice A0_3 l0_3.length c0_3]) (t := 24) ?hr ?_; (case hd => rfl); (case hg => rfl); (case hr => first | (go_simp; done) | (go_simp; rfl)); intro gb hg w1 hbox hb; have BK := Aside0.mk hbox; have HB := Aside0.mk hb; clear hg hbox hb))
  have BK2 := Aside0.mk (blk_drew BK.out)
  have HB2 := Aside0.mk (below_drew1 HB.out)
  clear BK HB
  have hc0 := (blk_cell BK2.out 0).trans rfl
  have hc1 := (blk_cell BK2.out 1).trans rfl
  have hc2 := (blk_cell BK2.out 2).trans rfl
  have hc3 := (blk_cell BK2.out 3).trans rfl
  refine start_ (n := 14) (S := fun w' => w'.cell? ⟨gb, 0, none⟩ = some (.int .i64 a0_0) ∧ w'.cell? ⟨gb, 1, none⟩ = some (.int .i64 a0_1) ∧ w'.cell? ⟨gb, 2, none⟩ = some (.int .i64 a0_2) ∧ w'.cell? ⟨gb, 3, none⟩ = some (.slice A0_3 l0_3.length c0_3)) (ds := []) #[false, false, false, false, false, false, false, false, false, false, false, false, false, false] (by kernel_rfl) rfl rfl ⟨hc0, hc1, hc2, hc3⟩ (fun hHeld => ?_)
  refine pure_ (i := 1) (N := some 6) (v := ?_) (a' := ?_) #[false, true, false, false, false, false, false, false, false, false, false, false, false, false] rfl rfl (by kernel_rfl) (fun _ _ _ h => h) (Or.inl ⟨by rfl, ?_⟩) ?_ ?_
  rotate_left
  · intro w'
    go_simp
    with_reducible rfl
  rotate_left
  · simp only [Act.put, List.setIfInBounds_toArray, List.set_cons_zero, List.set_cons_succ, i64_w, i32_w]
    rfl
  refine pure_ (i := 3) (N := some 8) (v := ?_) (a' := ?_) #[false, true, false, true, false, false, false, false, false, false, false, false, false, false] rfl rfl (by kernel_rfl) (fun _ _ _ h => h) (Or.inl ⟨by rfl, ?_⟩) ?_ ?_
  rotate_left
  · intro w'
    go_simp
    with_reducible rfl
  rotate_left
  · simp only [Act.put, List.setIfInBounds_toArray, List.set_cons_zero, List.set_cons_succ, i64_w, i32_w]
    rfl
  refine pure_ (i := 9) (N := some 14) (v := ?_) (a' := ?_) #[false, true, false, true, false, false, false, false, false, true, false, false, false, false] rfl rfl (by kernel_rfl) (fun _ _ _ h => h) (Or.inl ⟨by rfl, ?_⟩) ?_ ?_
  rotate_left
  · intro w'
    go_simp
    with_reducible rfl
  rotate_left
  · simp only [Act.put, List.setIfInBounds_toArray, List.set_cons_zero, List.set_cons_succ, i64_w, i32_w]
    rfl
  refine pure_ (i := 10) (N := some 15) (v := ?_) (a' := ?_) #[false, true, false, true, false, false, false, false, false, true, true, false, false, false] rfl rfl (by kernel_rfl) (fun _ _ _ h => h) (Or.inl ⟨by rfl, ?_⟩) ?_ ?_
  rotate_left
  · intro w'
    go_simp
    with_reducible rfl
  rotate_left
  · simp only [Act.put, List.setIfInBounds_toArray, List.set_cons_zero, List.set_cons_succ, i64_w, i32_w]
    rfl
  refine take_ (i := 0) (N := some 5) (v := ?_) (a' := ?_) #[true, true, false, true, false, false, false, false, false, true, true, false, false, false] rfl rfl (by kernel_rfl) (fun _ _ _ h => h) (Or.inl ⟨by rfl, ?_⟩) hHeld ?_ ?_
  rotate_left
  · rintro w' ⟨s0, s1, s2, s3⟩
    go_simp
    with_reducible rfl
  rotate_left
  · simp only [Act.put, List.setIfInBounds_toArray, List.set_cons_zero, List.set_cons_succ, i64_w, i32_w]
    rfl
  refine take_ (i := 4) (N := some 9) (v := ?_) (a' := ?_) #[true, true, false, true, true, false, false, false, false, true, true, false, false, false] rfl rfl (by kernel_rfl) (fun _ _ _ h => h) (Or.inl ⟨by rfl, ?_⟩) hHeld ?_ ?_
  rotate_left
  · rintro w' ⟨s0, s1, s2, s3⟩
    go_simp
    with_reducible rfl
  rotate_left
  · simp only [Act.put, List.setIfInBounds_toArray, List.set_cons_zero, List.set_cons_succ, i64_w, i32_w]
    rfl
  refine one_ (i := 2) (N := some 7) #[true, true, true, true, true, false, false, false, false, true, true, false, false, false] rfl rfl (by kernel_rfl) (by decide) (fun K hK => ?_)
  refine goes_ Try.func7 (by kernel_rfl) rfl #[.agg #[.int .i64 a0_0, .int .i64 a0_1, .int .i64 a0_2, .slice A0_3 l0_3.length c0_3], .slice A1 l1.length c1] (by rfl) rfl rfl (by simp only [List.map_toArray, List.map_cons, List.map_nil]; rfl) ?_
  with_reducible refine (coppicerref_Table.calls k a0_0 a0_1 a0_2 _ _ l0_3 _ _ l1 t _ ?side1 ?side2 ?side3 ?side4 A.out).mono ?_
  case side1 => exact Kd.C_below HR0_3.out HB2.out
  case side2 => exact HC0_3.out
  case side3 => exact Kd.C_below HR1.out HB2.out
  case side4 => exact HC1.out
  rintro e w3 ⟨v0, rfl, ho, hb⟩
  refine ⟨_, rfl, ?_⟩
  obtain ⟨At, ct, rfl⟩ := Kd.R_slice ho
  obtain ⟨ad, A2, c2, e1, hx1, _, hi1⟩ := at_L7 (Kd.R_reads' ho).2.2 a0_2 D.out.1 D.out.2.1
  cases e1
  obtain ⟨ad2, A3, c3, e2, hx2, _, hi2⟩ := at_L6 hi1 0 (Int.le_refl _) D.out.2.2.1
  cases e2
  rw [show ((0 : Int)).toNat = 0 from rfl] at hx2
  rw [Addr.add_zero'] at hx2
  obtain ⟨ad3, e3, hx3⟩ := Kd.at_bool hi2 (l1.length : Int) (by omega) D.out.2.2.2
  cases e3
  rw [Int.toNat_natCast] at hx3
  have BK3 := Aside0.mk (blk_below BK2.out hb)
  have HB3 := Aside0.mk (below_step HB2.out hb)
  clear ho hb hi1 hi2
  refine hK.out _ _ ⟨(blk_cell BK3.out 0).trans rfl, (blk_cell BK3.out 1).trans rfl, (blk_cell BK3.out 2).trans rfl, (blk_cell BK3.out 3).trans rfl⟩ (fun hHeld => ?_)
  clear hK K
  refine norm_ (a' := ?_) ?_ ?_
  rotate_left
  · show Act.put _ (some 7) _ = _
    simp only [Act.put, List.setIfInBounds_toArray, List.set_cons_zero, List.set_cons_succ, i64_w, i32_w]
    rfl
  refine pure_ (i := 5) (N := some 10) (v := ?_) (a' := ?_) #[true, true, true, true, true, true, false, false, false, true, true, false, false, false] rfl rfl (by kernel_rfl) (fun _ _ _ h => h) (Or.inl ⟨by rfl, ?_⟩) ?_ ?_
  rotate_left
  · intro w'
    go_simp
    with_reducible rfl
  rotate_left
  · simp only [Act.put, List.setIfInBounds_toArray, List.set_cons_zero, List.set_cons_succ, i64_w, i32_w]
    rfl
  refine one_ (i := 6) (N := some 11) #[true, true, true, true, true, true, true, false, false, true, true, false, false, false] rfl rfl (by kernel_rfl) (by decide) (fun K hK => ?_)
  refine value_ (w1 := ?_) (v := ?_) (by rfl) rfl ?_ ?_
  rotate_left 2
  · go_simp
    constructor
    · rfl
    · rfl
  refine hK.out _ _ ⟨(blk_cell BK3.out 0).trans rfl, (blk_cell BK3.out 1).trans rfl, (blk_cell BK3.out 2).trans rfl, (blk_cell BK3.out 3).trans rfl⟩ (fun hHeld => ?_)
  clear hK K
  refine norm_ (a' := ?_) ?_ ?_
  rotate_left
  · show Act.put _ (some 11) _ = _
    simp only [Act.put, List.setIfInBounds_toArray, List.set_cons_zero, List.set_cons_succ, i64_w, i32_w]
    rfl
  refine pure_ (i := 7) (N := some 12) (v := ?_) (a' := ?_) #[true, true, true, true, true, true, true, true, false, true, true, false, false, false] rfl rfl (by kernel_rfl) (fun _ _ _ h => h) (Or.inl ⟨by rfl, ?_⟩) ?_ ?_
  rotate_left
  · intro w'
    go_simp
    with_reducible rfl
  rotate_left
  · simp only [Act.put, List.setIfInBounds_toArray, List.set_cons_zero, List.set_cons_succ, i64_w, i32_w]
    rfl
  refine one_ (i := 8) (N := some 13) #[true, true, true, true, true, true, true, true, true, true, true, false, false, false] rfl rfl (by kernel_rfl) (by decide) (fun K hK => ?_)
  refine value_ (w1 := ?_) (v := ?_) (by rfl) rfl ?_ ?_
  rotate_left 2
  · go_simp
    constructor
    · rfl
    · rfl
  refine hK.out _ _ ⟨(blk_cell BK3.out 0).trans rfl, (blk_cell BK3.out 1).trans rfl, (blk_cell BK3.out 2).trans rfl, (blk_cell BK3.out 3).trans rfl⟩ (fun hHeld => ?_)
  clear hK K
  refine norm_ (a' := ?_) ?_ ?_
  rotate_left
  · show Act.put _ (some 13) _ = _
    simp only [Act.put, List.setIfInBounds_toArray, List.set_cons_zero, List.set_cons_succ, i64_w, i32_w]
    rfl
  refine pure_ (i := 11) (N := some 16) (v := ?_) (a' := ?_) #[true, true, true, true, true, true, true, true, true, true, true, true, false, false] rfl rfl (by kernel_rfl) (fun _ _ _ h => h) (Or.inl ⟨by rfl, ?_⟩) ?_ ?_
  rotate_left
  · intro w'
    go_simp
    with_reducible rfl
  rotate_left
  · simp only [Act.put, List.setIfInBounds_toArray, List.set_cons_zero, List.set_cons_succ, i64_w, i32_w]
    rfl
  refine one_ (i := 12) (N := some 17) #[true, true, true, true, true, true, true, true, true, true, true, true, true, false] rfl rfl (by kernel_rfl) (by decide) (fun K hK => ?_)
  refine value_ (w1 := ?_) (v := ?_) (by rfl) rfl ?_ ?_
  rotate_left 2
  · go_simp
    constructor
    · rfl
    · rfl
  refine hK.out _ _ ⟨(blk_cell BK3.out 0).trans rfl, (blk_cell BK3.out 1).trans rfl, (blk_cell BK3.out 2).trans rfl, (blk_cell BK3.out 3).trans rfl⟩ (fun hHeld => ?_)
  clear hK K
  refine norm_ (a' := ?_) ?_ ?_
  rotate_left
  · show Act.put _ (some 17) _ = _
    simp only [Act.put, List.setIfInBounds_toArray, List.set_cons_zero, List.set_cons_succ, i64_w, i32_w]
    rfl
  refine pure_ (i := 13) (N := some 4) (v := ?_) (a' := ?_) #[true, true, true, true, true, true, true, true, true, true, true, true, true, true] rfl rfl (by kernel_rfl) (fun _ _ _ h => h) (Or.inl ⟨by rfl, ?_⟩) ?_ ?_
  rotate_left
  · intro w'
    go_simp
    with_reducible rfl
  rotate_left
  · simp only [Act.put, List.setIfInBounds_toArray, List.set_cons_zero, List.set_cons_succ, i64_w, i32_w]
    rfl
  refine done_ (by kernel_rfl) ?_
  go_wp2
  go_ret
  exact ⟨rfl, HB3.out⟩

end Go.Proofs.Ytbehbngcofonmaa.PTableTakes
