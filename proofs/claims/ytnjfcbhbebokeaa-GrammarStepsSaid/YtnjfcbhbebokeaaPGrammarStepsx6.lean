-- Written by a program of this session: a turn of the print kit's own.
import Derived.Test.YtnjfcbhbebokeaaPGrammarStepsx0
import Derived.Test.YtnjfcbhbebokeaaPGrammarStepsx3
import Derived.Test.YtnjfcbhbebokeaaPGrammarStepsx4
import Derived.Test.YtnjfcbhbebokeaaPGrammarStepsx5
namespace Go.Proofs.Ytnjfcbhbebokeaa.PGrammarSteps
open Go.RowKit Go.Proofs.YtnjfcbhbebokeaaW.PrintWords Go.Proofs.YtnjfcbhbebokeaaW.PrintLast Go.Proofs.YtnjfcbhbebokeaaW.PrintMore
attribute [local go_sem] max2_int min2_int max_two min_two max_three min_three max_four min_four   -- for this text's walks alone
set_option linter.unusedVariables false
set_option linter.unusedSimpArgs false

/-! ### grammar_Step: function 22 -/
def grammar_Step.j0 : Nat → List Int → Int → Int → Bool → Int → Int → Int → List (S38) → Option (List Int × Int)
  | 0, _, _, _, _, _, _, _, _ => none
  | k + 1, x1, x2, x3, x26, x126000, x126001, x126002, x126003 => if x26 = true then (some (([] : List Int), 4)) else (if 0 ≤ x2 then (if x2 < (x1.length : Int) then (if 0 ≤ x3 then (if x3 < (x126003.length : Int) then (if (rd x1 x2) = (wrap64 (x126000 + ((rd_T38 x126003 x3).f0))) then (if x2 ≤ (x1.length : Int) then (if 0 ≤ (wrap64 (x2 + 1)) then (if (wrap64 (x2 + 1)) ≤ (x1.length : Int) then ((slices_Concat_Sint_int.f k (([(x1.take (x2 : Int).toNat), (rd_T38 x126003 x3).f1, (x1.drop ((wrap64 (x2 + 1)) : Int).toNat)] : List (List Int)))).bind fun t144 => (if (t144.length : Int) > 60 then (some (([] : List Int), 1)) else (some (t144, 0)))) else (none)) else (none)) else (none)) else (some (([] : List Int), 3))) else (none)) else (none)) else (none)) else (none))
def grammar_Step.f (k : Nat) (a0_0 : Int) (a0_1 : Int) (a0_2 : Int) (l0_3 : List (S38)) (l1 : List Int) (a2 : Int) (a3 : Int) : Option (List Int × Int) := (grammar_Check.f k a0_0 a0_1 a0_2 l0_3).bind fun t126 => (if t126 = 0 then (if (l1.length : Int) > 60 then (some (([] : List Int), 1)) else ((grammar_signs.f a0_0 a0_1 a0_2 l0_3 l1).bind fun t127 => (if t127 = true then (if a2 < 0 then (grammar_Step.j0 k l1 a2 a3 true a0_0 a0_1 a0_2 l0_3) else (if a2 ≥ (l1.length : Int) then (grammar_Step.j0 k l1 a2 a3 true a0_0 a0_1 a0_2 l0_3) else (if a3 < 0 then (grammar_Step.j0 k l1 a2 a3 true a0_0 a0_1 a0_2 l0_3) else (grammar_Step.j0 k l1 a2 a3 (decide (a3 ≥ (l0_3.length : Int))) a0_0 a0_1 a0_2 l0_3)))) else (some (([] : List Int), 2))))) else (some (([] : List Int), t126)))
theorem grammar_Step.mono_l : ∀ k, (∀ y0 y1 y2 y3 y4 y5 y6 y7, LeO (grammar_Step.j0 k y0 y1 y2 y3 y4 y5 y6 y7) (grammar_Step.j0 (k + 1) y0 y1 y2 y3 y4 y5 y6 y7))
  | 0 => fun _ _ _ _ _ _ _ _ r h => by simp [grammar_Step.j0] at h
  | k + 1 => by
    have ih0 := grammar_Step.mono_l k
    · intro y0 y1 y2 y3 y4 y5 y6 y7
      unfold grammar_Step.j0
      repeat' first
      | (with_reducible exact ih0 _ _ _ _ _ _ _ _)
      | (with_reducible exact grammar_Check.mono _ _ _ _ _)
      | (with_reducible exact slices_Concat_Sint_int.mono _ _)
      | (with_reducible exact LeO.refl _)
      | (with_reducible exact LeO.none _)
      | (with_reducible refine LeO.ite ?_ ?_)
      | (with_reducible refine LeO.bind ?_ (fun _ => ?_))
      | exact ih0 _ _ _ _ _ _ _ _
      | exact grammar_Check.mono _ _ _ _ _
      | exact slices_Concat_Sint_int.mono _ _
      | exact LeO.none _
      | refine LeO.ite ?_ ?_
      | refine LeO.bind ?_ (fun _ => ?_)
theorem grammar_Step.mono : ∀ a0 a1 a2 a3 a4 a5 a6 k, LeO (grammar_Step.f k a0 a1 a2 a3 a4 a5 a6) (grammar_Step.f (k + 1) a0 a1 a2 a3 a4 a5 a6) := by
  intro a0 a1 a2 a3 a4 a5 a6 k
  have ih0 := grammar_Step.mono_l k
  unfold grammar_Step.f
  repeat' first
      | (with_reducible exact ih0 _ _ _ _ _ _ _ _)
      | (with_reducible exact grammar_Check.mono _ _ _ _ _)
      | (with_reducible exact slices_Concat_Sint_int.mono _ _)
      | (with_reducible exact LeO.refl _)
      | (with_reducible exact LeO.none _)
      | (with_reducible refine LeO.ite ?_ ?_)
      | (with_reducible refine LeO.bind ?_ (fun _ => ?_))
      | exact ih0 _ _ _ _ _ _ _ _
      | exact grammar_Check.mono _ _ _ _ _
      | exact slices_Concat_Sint_int.mono _ _
      | exact LeO.none _
      | refine LeO.ite ?_ ?_
      | refine LeO.bind ?_ (fun _ => ?_)
def grammar_Step.T10 : Bool × List (List Nat × List Nat) := (true, [([], []), ([], []), ([0, 1], [0, 1]), ([2], [2]), ([], []), ([4], [4]), ([], []), ([6], [6]), ([], []), ([7, 8], [7, 8]), ([9], [9]), ([10], [10]), ([5, 11], [5, 11]), ([3, 12], [3, 12]), ([13], [13])])
def grammar_Step.B10 : List Nat := [0, 0, 3, 7, 0, 16, 0, 64, 0, 448, 960, 1984, 4080, 8191, 16383]
theorem grammar_Step.tab10 : rtab .any (opsOf Try.f22 10) = grammar_Step.T10 := by kernel_rfl
theorem grammar_Step.bits10 : waitsOk grammar_Step.T10.2 grammar_Step.B10 = true := by kernel_rfl
def grammar_Step.T12 : Bool × List (List Nat × List Nat) := (true, [([], []), ([], []), ([0, 1], [0, 1]), ([], []), ([3], [3]), ([], []), ([4, 5], [4, 5]), ([6], [6]), ([7], [7]), ([], []), ([], []), ([10], [10]), ([9, 11], [9, 11]), ([2, 8, 12], [2, 8, 12]), ([13], [13]), ([14, 14, 0, 1, 2, 3, 4, 5, 6, 7, 8, 9, 10, 11, 12, 13, 14], [14])])
def grammar_Step.B12 : List Nat := [0, 0, 3, 0, 8, 0, 56, 120, 248, 0, 0, 1024, 3584, 8191, 16383, 32767]
theorem grammar_Step.tab12 : rtab .any (opsOf Try.f22 12) = grammar_Step.T12 := by kernel_rfl
theorem grammar_Step.bits12 : waitsOk grammar_Step.T12.2 grammar_Step.B12 = true := by kernel_rfl
set_option maxHeartbeats 8000000 in
set_option maxRecDepth 100000 in
theorem grammar_Step.calls (k : Nat) (a0_0 : Int) (a0_1 : Int) (a0_2 : Int) (P0_3_ : Nat → Prop) (A0_3 : Option Addr) (c0_3 : Nat) (l0_3 : List (S38)) (P1_ : Nat → Prop) (A1 : Option Addr) (c1 : Nat) (l1 : List Int) (a2 : Int) (a3 : Int) (r1 : List Int) (r2 : Int) (w : World) (hs0_3 : Kd.V k38 38 w w.heap.size (fun k_ => P0_3_ k_) (.slice A0_3 l0_3.length c0_3) l0_3) (hs1 : Kd.V (Kd.int .i64) 3 w w.heap.size (fun k_ => P1_ k_) (.slice A1 l1.length c1) l1) (h : grammar_Step.f k a0_0 a0_1 a0_2 l0_3 l1 a2 a3 = some (r1, r2)) :
    Calls Try.prog 22 #[.agg #[.int .i64 a0_0, .int .i64 a0_1, .int .i64 a0_2, .slice A0_3 l0_3.length c0_3], .slice A1 l1.length c1, .int .i64 a2, .int .i64 a3] w fun e w' => ∃ v0_ : Value, e = .returned (.tuple #[v0_, .int .i64 r2]) ∧ Kd.R (Kd.int .i64) 3 w' w.heap.size (fun k_ => (w.heap.size ≤ k_)) v0_ r1 ∧ Below w.heap.size w w' := by
  have hu24 := Try.underlying24
  have HO0_3 := Aside0.mk (show Kd.V k38 38 w w.heap.size (fun k_ => ((P0_3_ k_ ∨ P1_ k_) ∨ w.heap.size ≤ k_)) (.slice A0_3 l0_3.length c0_3) l0_3 from Kd.V_mono hs0_3 (fun k_ hk => .inl (.inl hk)))
  have HO1 := Aside0.mk (show Kd.V (Kd.int .i64) 3 w w.heap.size (fun k_ => ((P0_3_ k_ ∨ P1_ k_) ∨ w.heap.size ≤ k_)) (.slice A1 l1.length c1) l1 from Kd.V_mono hs1 (fun k_ hk => .inl (.inr hk)))
  have HB := Aside0.mk (Below.refl w.heap.size w)
  have H : ((grammar_Check.f k a0_0 a0_1 a0_2 l0_3).bind fun t126 => (if t126 = 0 then (if (l1.length : Int) > 60 then (some (([] : List Int), 1)) else ((grammar_signs.f a0_0 a0_1 a0_2 l0_3 l1).bind fun t127 => (if t127 = true then (if a2 < 0 then (grammar_Step.j0 k l1 a2 a3 true a0_0 a0_1 a0_2 l0_3) else (if a2 ≥ (l1.length : Int) then (grammar_Step.j0 k l1 a2 a3 true a0_0 a0_1 a0_2 l0_3) else (if a3 < 0 then (grammar_Step.j0 k l1 a2 a3 true a0_0 a0_1 a0_2 l0_3) else (grammar_Step.j0 k l1 a2 a3 (decide (a3 ≥ (l0_3.length : Int))) a0_0 a0_1 a0_2 l0_3)))) else (some (([] : List Int), 2))))) else (some (([] : List Int), t126)))) = some (r1, r2) := h
  clear h
  replace H := Option.bind_eq_some_iff.mp H
  obtain ⟨t126, A50, H⟩ := H
  replace H : (if t126 = 0 then (if (l1.length : Int) > 60 then (some (([] : List Int), 1)) else ((grammar_signs.f a0_0 a0_1 a0_2 l0_3 l1).bind fun t127 => (if t127 = true then (if a2 < 0 then (grammar_Step.j0 k l1 a2 a3 true a0_0 a0_1 a0_2 l0_3) else (if a2 ≥ (l1.length : Int) then (grammar_Step.j0 k l1 a2 a3 true a0_0 a0_1 a0_2 l0_3) else (if a3 < 0 then (grammar_Step.j0 k l1 a2 a3 true a0_0 a0_1 a0_2 l0_3) else (grammar_Step.j0 k l1 a2 a3 (decide (a3 ≥ (l0_3.length : Int))) a0_0 a0_1 a0_2 l0_3)))) else (some (([] : List Int), 2))))) else (some (([] : List Int), t126))) = some (r1, r2) := H
  have A5 := Aside0.mk A50
  clear A50
  by_cases c6 : t126 = 0
  · rw [if_pos c6] at H
    have c6b0 : (t126 == 0) = true := beq_iff_eq.mpr c6
    have c6b1 : (t126 != 0) = false := bne_eq_false_iff_eq.mpr c6
    clear c6
    by_cases c7 : (l1.length : Int) > 60
    · rw [if_pos c7] at H
      have c7b0 : decide (60 < (l1.length : Int)) = true := decide_eq_true c7
      have c7b1 : decide (60 < l1.length) = true := decide_eq_true (by omega)
      clear c7
      simp only [Option.some.injEq, Prod.mk.injEq] at H
      obtain ⟨rfl, rfl⟩ := H
      go_enter Try.func22, Try.ntmps22
      go_wp2_with (first | ((with_reducible refine gate_dst (N := 4) rfl ?_); (try (refine gate_guard (by rfl) ?_; dsimp only)); refine box_event ?hg (N := 4) ?hd (cs := #[.int .i64 a0_0, .int .i64 a0_1, .int .i64 a0_2, .slice A0_3 l0_3.length c0_3]) (t := 24) ?hr ?_; (case hd => rfl); (case hg => rfl); (case hr => first | (go_simp; done) | (go_simp; rfl)); intro gb125 hg w8 hbox hb; have n0_ := Aside0.mk (Kd.V_below (Kd.V_elderB (by (with_reducible repeat (first | apply Kd.V_alloc | apply Kd.V_drewN | apply Kd.V_drew)); exact HO0_3.out) gb125 (Nat.le_of_eq hg.symm)) hb); have n1_ := Aside0.mk (Kd.V_below (Kd.V_elderB (by (with_reducible repeat (first | apply Kd.V_alloc | apply Kd.V_drewN | apply Kd.V_drew)); exact HO1.out) gb125 (Nat.le_of_eq hg.symm)) hb); have n2_ := Aside0.mk (below_step (by repeat (first | (with_reducible first | exact HB.out | apply below_alloc | apply pw_below_drewN | apply below_drew1) | exact HB.out)) hb); have n3_ := Aside0.mk (hbox); have n4_ := Aside0.mk ((by rw [hg]; exact (below_size (by repeat (first | (with_reducible first | exact HB.out | apply below_alloc | apply pw_below_drewN | apply below_drew1) | exact HB.out))) : w.heap.size ≤ gb125)); have n5_ := Aside0.mk ((by rw [hg]; exact (below_size (by repeat (first | (with_reducible first | exact HB.out | apply below_alloc | apply pw_below_drewN | apply below_drew1) | exact HB.out))) : w.heap.size ≤ gb125)); clear HO0_3; clear HO1; clear HB; have HO0_3 := n0_; have HO1 := n1_; have HB := n2_; have BK125 := n3_; have GW125 := n4_; have GE125 := n5_; clear n0_ n1_ n2_ n3_ n4_ n5_; clear hb hbox hg; have hcz9_0 : w8.cell? ⟨gb125, 0, none⟩ = some (.int .i64 a0_0) := (blk_cell BK125.out 0).trans rfl; have hcz9_1 : w8.cell? ⟨gb125, 1, none⟩ = some (.int .i64 a0_1) := (blk_cell BK125.out 1).trans rfl; have hcz9_2 : w8.cell? ⟨gb125, 2, none⟩ = some (.int .i64 a0_2) := (blk_cell BK125.out 2).trans rfl; have hcz9_3 : w8.cell? ⟨gb125, 3, none⟩ = some (.slice A0_3 l0_3.length c0_3) := (blk_cell BK125.out 3).trans rfl; have hfz9_0 := blk_frozen BK125.out 0; have hfz9_1 := blk_frozen BK125.out 1; have hfz9_2 := blk_frozen BK125.out 2; have hfz9_3 := blk_frozen BK125.out 3) | ((with_reducible refine gate_callee (f := 15) rfl ?_); refine goesL_ (some 13) rfl rfl Try.func15 (by kernel_rfl) rfl #[.agg #[.int .i64 a0_0, .int .i64 a0_1, .int .i64 a0_2, .slice A0_3 l0_3.length c0_3]] rfl (by (try simp only [List.map_toArray, List.map_cons, List.map_nil]); first | done | rfl | (simp only [List.length_drop, List.length_take]; rfl)) ?_; (with_reducible refine (grammar_Check.calls k a0_0 a0_1 a0_2 _ _ l0_3 t126 _ ?side1 ?side2 A5.out).mono ?_); (case side1 => repeat (first | exact (Kd.V_reads' HO0_3.out).2.2 | (with_reducible refine Kd.C_alloc ?_ _) | (with_reducible refine Kd.C_drewN ?_ _) | (with_reducible refine Kd.C_drew ?_))); (case side2 => exact (Kd.V_reads' HO0_3.out).2.1); rintro e w10 ⟨rfl, hb⟩; refine ⟨_, rfl, ?_⟩; have n0_ := Aside0.mk (Kd.V_below (by (with_reducible repeat (first | apply Kd.V_alloc | apply Kd.V_drewN | apply Kd.V_drew)); exact HO0_3.out) hb); have n1_ := Aside0.mk (Kd.V_below (by (with_reducible repeat (first | apply Kd.V_alloc | apply Kd.V_drewN | apply Kd.V_drew)); exact HO1.out) hb); have n2_ := Aside0.mk (blk_below (g := gb125) (o := .cells #[.int .i64 a0_0, .int .i64 a0_1, .int .i64 a0_2, .slice A0_3 l0_3.length c0_3] 24 (0, 0)) (by (with_reducible repeat (first | refine blk_drewN ?_ _ | refine blk_drew ?_ | refine blk_alloc ?_ _)); exact BK125.out) hb); have n3_ := Aside0.mk (below_step (by repeat (first | (with_reducible first | exact HB.out | apply below_alloc | apply pw_below_drewN | apply below_drew1 | refine below_set ?_ GE125.out) | exact HB.out)) hb); clear HO0_3; clear HO1; clear BK125; clear HB; have HO0_3 := n0_; have HO1 := n1_; have BK125 := n2_; have HB := n3_; clear n0_ n1_ n2_ n3_; (try clear hb); (try clear hb2); (try clear hk); (try clear hi)))
      go_ret2
      exact ⟨_, by first | rfl | (simp [errW_none, errW_some] <;> rfl) | (simp [*, errW_none, errW_some] <;> rfl), by first | exact Kd.R_nil _ _ _ _ _ | exact Kd.N_nil _ _ _ _ _ | exact Kd.V_nil _ _ _ _ _ | exact Kd.Q_nil _ _ _ _ _ | exact Kd.S_nil _ _ _ _ _ | (go_simp; exact Kd.R_nil _ _ _ _ _), by repeat (first | (with_reducible first | exact HB.out | apply below_alloc | apply pw_below_drewN | apply below_drew1 | refine below_set ?_ GE125.out) | exact HB.out)⟩
    · rw [if_neg c7] at H
      have c7b0 : decide (60 < (l1.length : Int)) = false := decide_eq_false c7
      have c7b1 : decide (60 < l1.length) = false := decide_eq_false (by omega)
      clear c7
      replace H := Option.bind_eq_some_iff.mp H
      obtain ⟨t127, A110, H⟩ := H
      replace H : (if t127 = true then (if a2 < 0 then (grammar_Step.j0 k l1 a2 a3 true a0_0 a0_1 a0_2 l0_3) else (if a2 ≥ (l1.length : Int) then (grammar_Step.j0 k l1 a2 a3 true a0_0 a0_1 a0_2 l0_3) else (if a3 < 0 then (grammar_Step.j0 k l1 a2 a3 true a0_0 a0_1 a0_2 l0_3) else (grammar_Step.j0 k l1 a2 a3 (decide (a3 ≥ (l0_3.length : Int))) a0_0 a0_1 a0_2 l0_3)))) else (some (([] : List Int), 2))) = some (r1, r2) := H
      have A11 := Aside0.mk A110
      clear A110
      by_cases c12 : t127 = true
      · subst c12
        have H1 : (if a2 < 0 then (grammar_Step.j0 k l1 a2 a3 true a0_0 a0_1 a0_2 l0_3) else (if a2 ≥ (l1.length : Int) then (grammar_Step.j0 k l1 a2 a3 true a0_0 a0_1 a0_2 l0_3) else (if a3 < 0 then (grammar_Step.j0 k l1 a2 a3 true a0_0 a0_1 a0_2 l0_3) else (grammar_Step.j0 k l1 a2 a3 (decide (a3 ≥ (l0_3.length : Int))) a0_0 a0_1 a0_2 l0_3)))) = some (r1, r2) := by rw [if_pos rfl] at H; exact H
        clear H
        have H := H1
        clear H1
        have HC13 := Aside0.mk H
        clear H
        go_enter Try.func22, Try.ntmps22
        go_upto_region 8 with (first | ((with_reducible refine gate_dst (N := 4) rfl ?_); (try (refine gate_guard (by rfl) ?_; dsimp only)); refine box_event ?hg (N := 4) ?hd (cs := #[.int .i64 a0_0, .int .i64 a0_1, .int .i64 a0_2, .slice A0_3 l0_3.length c0_3]) (t := 24) ?hr ?_; (case hd => rfl); (case hg => rfl); (case hr => first | (go_simp; done) | (go_simp; rfl)); intro gb125 hg w14 hbox hb; have n0_ := Aside0.mk (Kd.V_below (Kd.V_elderB (by (with_reducible repeat (first | apply Kd.V_alloc | apply Kd.V_drewN | apply Kd.V_drew)); exact HO0_3.out) gb125 (Nat.le_of_eq hg.symm)) hb); have n1_ := Aside0.mk (Kd.V_below (Kd.V_elderB (by (with_reducible repeat (first | apply Kd.V_alloc | apply Kd.V_drewN | apply Kd.V_drew)); exact HO1.out) gb125 (Nat.le_of_eq hg.symm)) hb); have n2_ := Aside0.mk (below_step (by repeat (first | (with_reducible first | exact HB.out | apply below_alloc | apply pw_below_drewN | apply below_drew1) | exact HB.out)) hb); have n3_ := Aside0.mk (hbox); have n4_ := Aside0.mk ((by rw [hg]; exact (below_size (by repeat (first | (with_reducible first | exact HB.out | apply below_alloc | apply pw_below_drewN | apply below_drew1) | exact HB.out))) : w.heap.size ≤ gb125)); have n5_ := Aside0.mk ((by rw [hg]; exact (below_size (by repeat (first | (with_reducible first | exact HB.out | apply below_alloc | apply pw_below_drewN | apply below_drew1) | exact HB.out))) : w.heap.size ≤ gb125)); clear HO0_3; clear HO1; clear HB; have HO0_3 := n0_; have HO1 := n1_; have HB := n2_; have BK125 := n3_; have GW125 := n4_; have GE125 := n5_; clear n0_ n1_ n2_ n3_ n4_ n5_; clear hb hbox hg; have hcz15_0 : w14.cell? ⟨gb125, 0, none⟩ = some (.int .i64 a0_0) := (blk_cell BK125.out 0).trans rfl; have hcz15_1 : w14.cell? ⟨gb125, 1, none⟩ = some (.int .i64 a0_1) := (blk_cell BK125.out 1).trans rfl; have hcz15_2 : w14.cell? ⟨gb125, 2, none⟩ = some (.int .i64 a0_2) := (blk_cell BK125.out 2).trans rfl; have hcz15_3 : w14.cell? ⟨gb125, 3, none⟩ = some (.slice A0_3 l0_3.length c0_3) := (blk_cell BK125.out 3).trans rfl; have hfz15_0 := blk_frozen BK125.out 0; have hfz15_1 := blk_frozen BK125.out 1; have hfz15_2 := blk_frozen BK125.out 2; have hfz15_3 := blk_frozen BK125.out 3) | ((with_reducible refine gate_callee (f := 15) rfl ?_); refine goesL_ (some 13) rfl rfl Try.func15 (by kernel_rfl) rfl #[.agg #[.int .i64 a0_0, .int .i64 a0_1, .int .i64 a0_2, .slice A0_3 l0_3.length c0_3]] rfl (by (try simp only [List.map_toArray, List.map_cons, List.map_nil]); first | done | rfl | (simp only [List.length_drop, List.length_take]; rfl)) ?_; (with_reducible refine (grammar_Check.calls k a0_0 a0_1 a0_2 _ _ l0_3 t126 _ ?side1 ?side2 A5.out).mono ?_); (case side1 => repeat (first | exact (Kd.V_reads' HO0_3.out).2.2 | (with_reducible refine Kd.C_alloc ?_ _) | (with_reducible refine Kd.C_drewN ?_ _) | (with_reducible refine Kd.C_drew ?_))); (case side2 => exact (Kd.V_reads' HO0_3.out).2.1); rintro e w16 ⟨rfl, hb⟩; refine ⟨_, rfl, ?_⟩; have n0_ := Aside0.mk (Kd.V_below (by (with_reducible repeat (first | apply Kd.V_alloc | apply Kd.V_drewN | apply Kd.V_drew)); exact HO0_3.out) hb); have n1_ := Aside0.mk (Kd.V_below (by (with_reducible repeat (first | apply Kd.V_alloc | apply Kd.V_drewN | apply Kd.V_drew)); exact HO1.out) hb); have n2_ := Aside0.mk (blk_below (g := gb125) (o := .cells #[.int .i64 a0_0, .int .i64 a0_1, .int .i64 a0_2, .slice A0_3 l0_3.length c0_3] 24 (0, 0)) (by (with_reducible repeat (first | refine blk_drewN ?_ _ | refine blk_drew ?_ | refine blk_alloc ?_ _)); exact BK125.out) hb); have n3_ := Aside0.mk (below_step (by repeat (first | (with_reducible first | exact HB.out | apply below_alloc | apply pw_below_drewN | apply below_drew1 | refine below_set ?_ GE125.out) | exact HB.out)) hb); clear HO0_3; clear HO1; clear BK125; clear HB; have HO0_3 := n0_; have HO1 := n1_; have BK125 := n2_; have HB := n3_; clear n0_ n1_ n2_ n3_; (try clear hb); (try clear hb2); (try clear hk); (try clear hi); have hcz17_0 : w16.cell? ⟨gb125, 0, none⟩ = some (.int .i64 a0_0) := (blk_cell BK125.out 0).trans rfl; have hcz17_1 : w16.cell? ⟨gb125, 1, none⟩ = some (.int .i64 a0_1) := (blk_cell BK125.out 1).trans rfl; have hcz17_2 : w16.cell? ⟨gb125, 2, none⟩ = some (.int .i64 a0_2) := (blk_cell BK125.out 2).trans rfl; have hcz17_3 : w16.cell? ⟨gb125, 3, none⟩ = some (.slice A0_3 l0_3.length c0_3) := (blk_cell BK125.out 3).trans rfl; have hfz17_0 := blk_frozen BK125.out 0; have hfz17_1 := blk_frozen BK125.out 1; have hfz17_2 := blk_frozen BK125.out 2; have hfz17_3 := blk_frozen BK125.out 3) | ((with_reducible refine gate_callee (f := 45) rfl ?_); refine goesL_ (some 24) rfl rfl Try.func45 (by kernel_rfl) rfl #[.agg #[.int .i64 a0_0, .int .i64 a0_1, .int .i64 a0_2, .slice A0_3 l0_3.length c0_3], .slice A1 l1.length c1] rfl (by (try simp only [List.map_toArray, List.map_cons, List.map_nil]); first | done | rfl | (simp only [List.length_drop, List.length_take]; rfl)) ?_; (with_reducible refine (grammar_signs.calls a0_0 a0_1 a0_2 _ _ l0_3 _ _ l1 true _ ?side1 ?side2 ?side3 ?side4 A11.out).mono ?_); (case side1 => repeat (first | exact (Kd.V_reads' HO0_3.out).2.2 | (with_reducible refine Kd.C_alloc ?_ _) | (with_reducible refine Kd.C_drewN ?_ _) | (with_reducible refine Kd.C_drew ?_))); (case side2 => exact (Kd.V_reads' HO0_3.out).2.1); (case side3 => repeat (first | exact (Kd.V_reads' HO1.out).2.2 | (with_reducible refine Kd.C_alloc ?_ _) | (with_reducible refine Kd.C_drewN ?_ _) | (with_reducible refine Kd.C_drew ?_))); (case side4 => exact (Kd.V_reads' HO1.out).2.1); rintro e w18 ⟨rfl, hb⟩; refine ⟨_, rfl, ?_⟩; have n0_ := Aside0.mk (Kd.V_below (by (with_reducible repeat (first | apply Kd.V_alloc | apply Kd.V_drewN | apply Kd.V_drew)); exact HO0_3.out) hb); have n1_ := Aside0.mk (Kd.V_below (by (with_reducible repeat (first | apply Kd.V_alloc | apply Kd.V_drewN | apply Kd.V_drew)); exact HO1.out) hb); have n2_ := Aside0.mk (blk_below (g := gb125) (o := .cells #[.int .i64 a0_0, .int .i64 a0_1, .int .i64 a0_2, .slice A0_3 l0_3.length c0_3] 24 (0, 0)) (by (with_reducible repeat (first | refine blk_drewN ?_ _ | refine blk_drew ?_ | refine blk_alloc ?_ _)); exact BK125.out) hb); have n3_ := Aside0.mk (below_step (by repeat (first | (with_reducible first | exact HB.out | apply below_alloc | apply pw_below_drewN | apply below_drew1 | refine below_set ?_ GE125.out) | exact HB.out)) hb); clear HO0_3; clear HO1; clear BK125; clear HB; have HO0_3 := n0_; have HO1 := n1_; have BK125 := n2_; have HB := n3_; clear n0_ n1_ n2_ n3_; (try clear hb); (try clear hb2); (try clear hk); (try clear hi)))
        (try simp only [Act.put, List.setIfInBounds_toArray, List.set_cons_zero, List.set_cons_succ])
        go_cut [26] (fun v26 wc => ∃ (kq : Nat) (x26_12 : Bool), v26 = .bool x26_12 ∧ Aside0 (grammar_Step.j0 kq l1 a2 a3 x26_12 a0_0 a0_1 a0_2 l0_3 = some (r1, r2)) ∧ Aside0 (kq ≤ k) ∧ Aside0 (Kd.V (Kd.int .i64) 3 wc w.heap.size (fun k_ => ((P0_3_ k_ ∨ P1_ k_) ∨ w.heap.size ≤ k_) ∧ k_ ≠ gb125) (.slice A1 l1.length c1) l1) ∧ Aside0 (Kd.V k38 38 wc w.heap.size (fun k_ => ((P0_3_ k_ ∨ P1_ k_) ∨ w.heap.size ≤ k_) ∧ k_ ≠ gb125) (.slice A0_3 l0_3.length c0_3) l0_3) ∧ Aside0 (wc.heap[gb125]? = some (.cells #[.int .i64 a0_0, .int .i64 a0_1, .int .i64 a0_2, (.slice A0_3 l0_3.length c0_3)] 24 (0, 0))) ∧ Aside0 (Below w.heap.size w wc))
        case first =>
          have H := HC13.out
          clear HC13
          by_cases c19 : a2 < 0
          · rw [if_pos c19] at H
            have c19b0 : decide (a2 < 0) = true := decide_eq_true c19
            clear c19
            (first | rw [c19b0] | (simp only [i64_w, i32_w]; rw [c19b0]) | skip)
            have H' := Aside0.mk H
            clear H
            go_wp2
            go_meet
            case rel => exact ⟨_, (true), (by first | rfl | (simp; done) | (simp [*]; done)), H', ⟨by first | omega | exact Nat.le_refl _⟩, ⟨by (with_reducible repeat (first | apply Kd.V_alloc | apply Kd.V_drewN | apply Kd.V_drew)); exact HO1.out⟩, ⟨by (with_reducible repeat (first | apply Kd.V_alloc | apply Kd.V_drewN | apply Kd.V_drew)); exact HO0_3.out⟩, ⟨by (with_reducible repeat (first | refine blk_drewN ?_ _ | refine blk_drew ?_ | refine blk_alloc ?_ _)); exact BK125.out⟩, ⟨by repeat (first | (with_reducible first | exact HB.out | apply below_alloc | apply pw_below_drewN | apply below_drew1 | refine below_set ?_ GE125.out) | exact HB.out)⟩⟩
          · rw [if_neg c19] at H
            have c19b0 : decide (a2 < 0) = false := decide_eq_false c19
            clear c19
            (first | rw [c19b0] | (simp only [i64_w, i32_w]; rw [c19b0]) | skip)
            by_cases c20 : a2 ≥ (l1.length : Int)
            · rw [if_pos c20] at H
              have c20b0 : decide ((l1.length : Int) ≤ a2) = true := decide_eq_true c20
              clear c20
              have H' := Aside0.mk H
              clear H
              go_wp2
              go_meet
              case rel => exact ⟨_, (true), (by first | rfl | (simp; done) | (simp [*]; done)), H', ⟨by first | omega | exact Nat.le_refl _⟩, ⟨by (with_reducible repeat (first | apply Kd.V_alloc | apply Kd.V_drewN | apply Kd.V_drew)); exact HO1.out⟩, ⟨by (with_reducible repeat (first | apply Kd.V_alloc | apply Kd.V_drewN | apply Kd.V_drew)); exact HO0_3.out⟩, ⟨by (with_reducible repeat (first | refine blk_drewN ?_ _ | refine blk_drew ?_ | refine blk_alloc ?_ _)); exact BK125.out⟩, ⟨by repeat (first | (with_reducible first | exact HB.out | apply below_alloc | apply pw_below_drewN | apply below_drew1 | refine below_set ?_ GE125.out) | exact HB.out)⟩⟩
            · rw [if_neg c20] at H
              have c20b0 : decide ((l1.length : Int) ≤ a2) = false := decide_eq_false c20
              clear c20
              by_cases c21 : a3 < 0
              · rw [if_pos c21] at H
                have c21b0 : decide (a3 < 0) = true := decide_eq_true c21
                clear c21
                have H' := Aside0.mk H
                clear H
                go_wp2
                go_meet
                case rel => exact ⟨_, (true), (by first | rfl | (simp; done) | (simp [*]; done)), H', ⟨by first | omega | exact Nat.le_refl _⟩, ⟨by (with_reducible repeat (first | apply Kd.V_alloc | apply Kd.V_drewN | apply Kd.V_drew)); exact HO1.out⟩, ⟨by (with_reducible repeat (first | apply Kd.V_alloc | apply Kd.V_drewN | apply Kd.V_drew)); exact HO0_3.out⟩, ⟨by (with_reducible repeat (first | refine blk_drewN ?_ _ | refine blk_drew ?_ | refine blk_alloc ?_ _)); exact BK125.out⟩, ⟨by repeat (first | (with_reducible first | exact HB.out | apply below_alloc | apply pw_below_drewN | apply below_drew1 | refine below_set ?_ GE125.out) | exact HB.out)⟩⟩
              · rw [if_neg c21] at H
                have c21b0 : decide (a3 < 0) = false := decide_eq_false c21
                clear c21
                have H' := Aside0.mk H
                clear H
                have hcz22_0 : w18.cell? ⟨gb125, 0, none⟩ = some (.int .i64 a0_0) := (blk_cell BK125.out 0).trans rfl
                have hcz22_1 : w18.cell? ⟨gb125, 1, none⟩ = some (.int .i64 a0_1) := (blk_cell BK125.out 1).trans rfl
                have hcz22_2 : w18.cell? ⟨gb125, 2, none⟩ = some (.int .i64 a0_2) := (blk_cell BK125.out 2).trans rfl
                have hcz22_3 : w18.cell? ⟨gb125, 3, none⟩ = some (.slice A0_3 l0_3.length c0_3) := (blk_cell BK125.out 3).trans rfl
                have hfz22_0 := blk_frozen BK125.out 0
                have hfz22_1 := blk_frozen BK125.out 1
                have hfz22_2 := blk_frozen BK125.out 2
                have hfz22_3 := blk_frozen BK125.out 3
                go_wp2
                go_meet
                case rel => exact ⟨_, (decide (a3 ≥ (l0_3.length : Int))), (by first | rfl | (simp; done) | (simp [*]; done)), H', ⟨by first | omega | exact Nat.le_refl _⟩, ⟨by (with_reducible repeat (first | apply Kd.V_alloc | apply Kd.V_drewN | apply Kd.V_drew)); exact HO1.out⟩, ⟨by (with_reducible repeat (first | apply Kd.V_alloc | apply Kd.V_drewN | apply Kd.V_drew)); exact HO0_3.out⟩, ⟨by (with_reducible repeat (first | refine blk_drewN ?_ _ | refine blk_drew ?_ | refine blk_alloc ?_ _)); exact BK125.out⟩, ⟨by repeat (first | (with_reducible first | exact HB.out | apply below_alloc | apply pw_below_drewN | apply below_drew1 | refine below_set ?_ GE125.out) | exact HB.out)⟩⟩
        case rest =>
          clear HC13
          try clear c1
          try clear c2
          try clear p2
          try clear c4
          try clear c6
          try clear c6b0
          try clear c6b1
          try clear c7
          try clear c7b0
          try clear c7b1
          try clear c12
          try clear c15
          try clear c19
          try clear c19b0
          try clear c20
          try clear c20b0
          try clear c21
          try clear c21b0
          try clear c22
          try clear hcz15_0
          try clear hcz15_1
          try clear hcz15_2
          try clear hcz15_3
          try clear hcz17_0
          try clear hcz17_1
          try clear hcz17_2
          try clear hcz17_3
          try clear hcz22_0
          try clear hcz22_1
          try clear hcz22_2
          try clear hcz22_3
          try clear hcz9_0
          try clear hcz9_1
          try clear hcz9_2
          try clear hcz9_3
          try clear hfz15_0
          try clear hfz15_1
          try clear hfz15_2
          try clear hfz15_3
          try clear hfz17_0
          try clear hfz17_1
          try clear hfz17_2
          try clear hfz17_3
          try clear hfz22_0
          try clear hfz22_1
          try clear hfz22_2
          try clear hfz22_3
          try clear hfz9_0
          try clear hfz9_1
          try clear hfz9_2
          try clear hfz9_3
          obtain ⟨kq, x26_12, rfl, HA, HJ12, HO_1, HO_126003, BK125, HB⟩ := hcut
          cases kq with
          | zero => exact absurd HA.out (by simp [grammar_Step.j0])
          | succ kj12 =>
            have H := HA.out
            clear HA
            simp only [grammar_Step.j0] at H
            by_cases c23 : x26_12 = true
            · subst c23
              have H1 : (some (([] : List Int), 4)) = some (r1, r2) := by rw [if_pos rfl] at H; exact H
              clear H
              have H := H1
              clear H1
              simp only [Option.some.injEq, Prod.mk.injEq] at H
              obtain ⟨rfl, rfl⟩ := H
              go_wp2
              go_ret2
              exact ⟨_, by first | rfl | (simp [errW_none, errW_some] <;> rfl) | (simp [*, errW_none, errW_some] <;> rfl), by first | exact Kd.R_nil _ _ _ _ _ | exact Kd.N_nil _ _ _ _ _ | exact Kd.V_nil _ _ _ _ _ | exact Kd.Q_nil _ _ _ _ _ | exact Kd.S_nil _ _ _ _ _ | (go_simp; exact Kd.R_nil _ _ _ _ _), by repeat (first | (with_reducible first | exact HB.out | apply below_alloc | apply pw_below_drewN | apply below_drew1 | refine below_set ?_ GE125.out) | exact HB.out)⟩
            · replace c23 := Bool.eq_false_iff.mpr c23
              subst c23
              have H1 : (if 0 ≤ a2 then (if a2 < (l1.length : Int) then (if 0 ≤ a3 then (if a3 < (l0_3.length : Int) then (if (rd l1 a2) = (wrap64 (a0_0 + ((rd_T38 l0_3 a3).f0))) then (if a2 ≤ (l1.length : Int) then (if 0 ≤ (wrap64 (a2 + 1)) then (if (wrap64 (a2 + 1)) ≤ (l1.length : Int) then ((slices_Concat_Sint_int.f kj12 (([(l1.take (a2 : Int).toNat), (rd_T38 l0_3 a3).f1, (l1.drop ((wrap64 (a2 + 1)) : Int).toNat)] : List (List Int)))).bind fun t144 => (if (t144.length : Int) > 60 then (some (([] : List Int), 1)) else (some (t144, 0)))) else (none)) else (none)) else (none)) else (some (([] : List Int), 3))) else (none)) else (none)) else (none)) else (none)) = some (r1, r2) := by rw [if_neg (show ¬ (false = true) by decide)] at H; exact H
              clear H
              have H := H1
              clear H1
              by_cases c24 : 0 ≤ a2
              · rw [if_pos c24] at H
                have c24b0 : decide (0 ≤ a2) = true := decide_eq_true c24
                clear c24
                by_cases c25 : a2 < (l1.length : Int)
                · rw [if_pos c25] at H
                  have c25b0 : decide (a2 < (l1.length : Int)) = true := decide_eq_true c25
                  clear c25
                  by_cases c26 : 0 ≤ a3
                  · rw [if_pos c26] at H
                    have c26b0 : decide (0 ≤ a3) = true := decide_eq_true c26
                    clear c26
                    by_cases c27 : a3 < (l0_3.length : Int)
                    · rw [if_pos c27] at H
                      have c27b0 : decide (a3 < (l0_3.length : Int)) = true := decide_eq_true c27
                      clear c27
                      by_cases c28 : (rd l1 a2) = (wrap64 (a0_0 + ((rd_T38 l0_3 a3).f0)))
                      · rw [if_pos c28] at H
                        have c28b0 : ((rd l1 a2) == (wrap64 (a0_0 + ((rd_T38 l0_3 a3).f0)))) = true := beq_iff_eq.mpr c28
                        have c28b1 : ((rd l1 a2) != (wrap64 (a0_0 + ((rd_T38 l0_3 a3).f0)))) = false := bne_eq_false_iff_eq.mpr c28
                        clear c28
                        have c29b0 := eq_true (of_decide_eq_true (by first | (with_reducible assumption) | assumption) : 0 ≤ a2)
                        by_cases c30 : a2 ≤ (l1.length : Int)
                        · rw [if_pos c30] at H
                          have c30b0 := eq_true c30
                          have c30b1 : decide (a2 ≤ (l1.length : Int)) = true := decide_eq_true c30
                          clear c30
                          obtain ⟨y130, hy130⟩ : ∃ y_ : List Int, y_ = (l1.take (a2 : Int).toNat) := ⟨_, rfl⟩
                          replace H : (if 0 ≤ (wrap64 (a2 + 1)) then (if (wrap64 (a2 + 1)) ≤ (l1.length : Int) then ((slices_Concat_Sint_int.f kj12 (([y130, (rd_T38 l0_3 a3).f1, (l1.drop ((wrap64 (a2 + 1)) : Int).toNat)] : List (List Int)))).bind fun t144 => (if (t144.length : Int) > 60 then (some (([] : List Int), 1)) else (some (t144, 0)))) else (none)) else (none)) = some (r1, r2) := by first | (rw [hy130]; with_reducible exact H) | (have H2_ := (Option.bind_some _ _).symm.trans H; rw [hy130]; with_reducible exact H2_) | (have H2_ := (Option.bind_some _ _).symm.trans H; with_reducible exact H2_) | with_reducible exact H | (rw [hy130]; exact H) | exact H
                          have Ny130 := Aside0.mk hy130
                          clear hy130
                          obtain ⟨ji31, hji31⟩ : ∃ j_ : Int, (wrap64 (a2 + 1)) = j_ := ⟨_, rfl⟩
                          replace H : (if 0 ≤ (ji31) then (if (ji31) ≤ (l1.length : Int) then ((slices_Concat_Sint_int.f kj12 (([y130, (rd_T38 l0_3 a3).f1, (l1.drop ((ji31) : Int).toNat)] : List (List Int)))).bind fun t144 => (if (t144.length : Int) > 60 then (some (([] : List Int), 1)) else (some (t144, 0)))) else (none)) else (none)) = some (r1, r2) := by first | (rw [hji31] at H; exact H) | (simp only [hji31] at H ⊢; exact H)
                          have hji31w : (IntKind.i64.wrap (a2 + 1)) = ji31 := (i64_w _).trans hji31
                          by_cases c32 : 0 ≤ (ji31)
                          · rw [if_pos c32] at H
                            have c32b0 := eq_true c32
                            have c32b1 : decide (0 ≤ (ji31)) = true := decide_eq_true c32
                            clear c32
                            by_cases c33 : (ji31) ≤ (l1.length : Int)
                            · rw [if_pos c33] at H
                              have c33b0 := eq_true c33
                              have c33b1 : decide ((ji31) ≤ (l1.length : Int)) = true := decide_eq_true c33
                              clear c33
                              obtain ⟨y136, hy136⟩ : ∃ y_ : List Int, y_ = (l1.drop ((ji31) : Int).toNat) := ⟨_, rfl⟩
                              replace H : ((slices_Concat_Sint_int.f kj12 (([y130, (rd_T38 l0_3 a3).f1, y136] : List (List Int)))).bind fun t144 => (if (t144.length : Int) > 60 then (some (([] : List Int), 1)) else (some (t144, 0)))) = some (r1, r2) := by first | (rw [hy136]; with_reducible exact H) | (have H2_ := (Option.bind_some _ _).symm.trans H; rw [hy136]; with_reducible exact H2_) | (have H2_ := (Option.bind_some _ _).symm.trans H; with_reducible exact H2_) | with_reducible exact H | (rw [hy136]; exact H) | exact H
                              have Ny136 := Aside0.mk hy136
                              clear hy136
                              obtain ⟨y141, hy141⟩ : ∃ y_ : List (List Int), y_ = (([y130, (rd_T38 l0_3 a3).f1, y136] : List (List Int))) := ⟨_, rfl⟩
                              replace H : ((slices_Concat_Sint_int.f kj12 y141).bind fun t144 => (if (t144.length : Int) > 60 then (some (([] : List Int), 1)) else (some (t144, 0)))) = some (r1, r2) := by first | (rw [hy141]; with_reducible exact H) | (have H2_ := (Option.bind_some _ _).symm.trans H; rw [hy141]; with_reducible exact H2_) | (have H2_ := (Option.bind_some _ _).symm.trans H; with_reducible exact H2_) | with_reducible exact H | (rw [hy141]; exact H) | exact H
                              have Ny141 := Aside0.mk hy141
                              clear hy141
                              replace H := Option.bind_eq_some_iff.mp H
                              obtain ⟨t144, A340, H⟩ := H
                              replace H : (if (t144.length : Int) > 60 then (some (([] : List Int), 1)) else (some (t144, 0))) = some (r1, r2) := H
                              have A34 := Aside0.mk A340
                              clear A340
                              by_cases c35 : (t144.length : Int) > 60
                              · rw [if_pos c35] at H
                                have c35b0 : decide (60 < (t144.length : Int)) = true := decide_eq_true c35
                                have c35b1 : decide (60 < t144.length) = true := decide_eq_true (by omega)
                                clear c35
                                simp only [Option.some.injEq, Prod.mk.injEq] at H
                                obtain ⟨rfl, rfl⟩ := H
                                try go_wp2
                                have n0_ := Aside0.mk (Kd.V_drew HO_1.out)
                                have n1_ := Aside0.mk (Kd.V_drew HO_126003.out)
                                have n2_ := Aside0.mk (blk_drew BK125.out)
                                have n3_ := Aside0.mk (below_drew1 HB.out)
                                clear HO_1
                                clear HO_126003
                                clear BK125
                                clear HB
                                have HO_1 := n0_
                                have HO_126003 := n1_
                                have BK125 := n2_
                                have HB := n3_
                                clear n0_ n1_ n2_ n3_
                                have p128 : 0 ≤ (a2 : Int) := of_decide_eq_true (by first | (with_reducible assumption) | assumption)
                                have q128 : a2 < (l1.length : Int) := of_decide_eq_true (by first | (with_reducible assumption) | assumption)
                                obtain ⟨ad128, e128, hx128_0⟩ := Kd.at_int (Kd.V_reads' HO_1.out).2.2 a2 p128 q128
                                cases e128
                                replace p128 := eq_true p128
                                replace q128 := eq_true q128
                                have p129 : 0 ≤ (a3 : Int) := of_decide_eq_true (by first | (with_reducible assumption) | assumption)
                                have q129 : a3 < (l0_3.length : Int) := of_decide_eq_true (by first | (with_reducible assumption) | assumption)
                                obtain ⟨ad129, A129_1, c129_1, e129, hx129_0, hx129_1, hl129_1, hi129_1⟩ := at_T38 (Kd.V_reads' HO_126003.out).2.2 a3 p129 q129
                                cases e129
                                obtain ⟨ce129, hce129, hMe129, hcc129⟩ := Kd.V_get HO_126003.out z38 a3 p129 (by first | exact q129 | exact of_decide_eq_true (by first | (with_reducible assumption) | assumption) | (have e_ := (Kd.V_reads' HO_126003.out).1; omega))
                                obtain ⟨ua129_1, uc129_1, rfl, ul129_1, ge129_1⟩ := k38_openF hMe129
                                have hv129_1 := hcc129 1 _ rfl
                                rw [add_field _ _ 1 (by omega)] at hv129_1
                                replace hv129_1 := Option.some.inj (hv129_1.symm.trans hx129_1)
                                injection hv129_1 with hva_ hvn_ hvc_
                                rw [hva_] at ge129_1
                                rw [hvc_] at ul129_1
                                have HL129_1 := Aside0.mk (show Kd.V (Kd.int .i64) 3 _ w.heap.size _ _ ((rd_T38 l0_3 a3).f1) from Kd.V_mk ul129_1 ge129_1)
                                clear hva_ hvn_ hvc_ ge129_1 ul129_1
                                clear hcc129 hce129
                                have HR129_1 := Aside0.mk hi129_1
                                have HC129_1 := Aside0.mk hl129_1
                                clear hi129_1 hl129_1
                                replace p129 := eq_true p129
                                replace q129 := eq_true q129
                                refine start_ (n := 15) (S := fun w' => w'.cell? ⟨gb125, 0, none⟩ = some (.int .i64 a0_0) ∧ w'.cell? ⟨gb125, 1, none⟩ = some (.int .i64 a0_1) ∧ w'.cell? ⟨gb125, 2, none⟩ = some (.int .i64 a0_2) ∧ w'.cell? ⟨gb125, 3, none⟩ = some (.slice (some ad129) l0_3.length c0_3) ∧ w'.cell? (ad128.add (a2).toNat) = some (.int .i64 (rd l1 a2)) ∧ w'.cell? (ad129.add ((a3).toNat * 2)) = some (.int .i64 ((rd_T38 l0_3 a3).f0)) ∧ w'.cell? ⟨(ad129.add ((a3).toNat * 2)).block, (ad129.add ((a3).toNat * 2)).off + 1, none⟩ = some (.slice A129_1 ((rd_T38 l0_3 a3).f1).length c129_1)) (ds := []) #[false, false, false, false, false, false, false, false, false, false, false, false, false, false, false] (by kernel_rfl) rfl rfl ⟨(blk_cell BK125.out 0).trans rfl, (blk_cell BK125.out 1).trans rfl, (blk_cell BK125.out 2).trans rfl, (blk_cell BK125.out 3).trans rfl, hx128_0, hx129_0, hx129_1⟩ (fun hHeld => ?_); refine with_tabW grammar_Step.tab10 grammar_Step.bits10 (fun HT_ HW_ => ?_)
                                generalize wc.drew = w36 at HO_1 HO_126003 BK125 HB HL129_1 HR129_1 hx128_0 hx129_0 hx129_1 hHeld ⊢
                                refine pure_ (i := 0) (N := some 47) (v := ?_) (a' := ?_) #[true, false, false, false, false, false, false, false, false, false, false, false, false, false, false] rfl rfl (any_of HT_.out (by kernel_rfl)) (fun _ _ _ h => h) (Or.inl ⟨by rfl, ?_⟩) ?_ ?_
                                rotate_left
                                · intro w'
                                  go_simp
                                  with_reducible rfl
                                rotate_left
                                · simp only [Act.put, List.setIfInBounds_toArray, List.set_cons_zero, List.set_cons_succ, i64_w, i32_w]
                                  rfl
                                refine pure_ (i := 1) (N := some 48) (v := ?_) (a' := ?_) #[true, true, false, false, false, false, false, false, false, false, false, false, false, false, false] rfl rfl (any_of HT_.out (by kernel_rfl)) (fun _ _ _ h => h) (Or.inl ⟨by rfl, ?_⟩) ?_ ?_
                                rotate_left
                                · intro w'
                                  go_simp
                                  with_reducible rfl
                                rotate_left
                                · simp only [Act.put, List.setIfInBounds_toArray, List.set_cons_zero, List.set_cons_succ, i64_w, i32_w]
                                  rfl
                                refine pure_ (i := 2) (N := some 49) (v := ?_) (a' := ?_) #[true, true, true, false, false, false, false, false, false, false, false, false, false, false, false] rfl rfl (any_of HT_.out (by kernel_rfl)) (fun _ _ _ h => h) (Or.inl ⟨by rfl, ?_⟩) ?_ ?_
                                rotate_left
                                · intro w'
                                  go_simp
                                  with_reducible rfl
                                rotate_left
                                · simp only [Act.put, List.setIfInBounds_toArray, List.set_cons_zero, List.set_cons_succ, i64_w, i32_w]
                                  rfl
                                refine pure_ (i := 4) (N := some 51) (v := ?_) (a' := ?_) #[true, true, true, false, true, false, false, false, false, false, false, false, false, false, false] rfl rfl (any_of HT_.out (by kernel_rfl)) (fun _ _ _ h => h) (Or.inl ⟨by rfl, ?_⟩) ?_ ?_
                                rotate_left
                                · intro w'
                                  go_simp
                                  with_reducible rfl
                                rotate_left
                                · simp only [Act.put, List.setIfInBounds_toArray, List.set_cons_zero, List.set_cons_succ, i64_w, i32_w]
                                  rfl
                                refine pure_ (i := 6) (N := some 53) (v := ?_) (a' := ?_) #[true, true, true, false, true, false, true, false, false, false, false, false, false, false, false] rfl rfl (any_of HT_.out (by kernel_rfl)) (fun _ _ _ h => h) (Or.inl ⟨by rfl, ?_⟩) ?_ ?_
                                rotate_left
                                · intro w'
                                  go_simp
                                  with_reducible rfl
                                rotate_left
                                · simp only [Act.put, List.setIfInBounds_toArray, List.set_cons_zero, List.set_cons_succ, i64_w, i32_w]
                                  rfl
                                refine pure_ (i := 8) (N := some 55) (v := ?_) (a' := ?_) #[true, true, true, false, true, false, true, false, true, false, false, false, false, false, false] rfl rfl (any_of HT_.out (by kernel_rfl)) (fun _ _ _ h => h) (Or.inl ⟨by rfl, ?_⟩) ?_ ?_
                                rotate_left
                                · intro w'
                                  go_simp
                                  with_reducible rfl
                                rotate_left
                                · simp only [Act.put, List.setIfInBounds_toArray, List.set_cons_zero, List.set_cons_succ, i64_w, i32_w]
                                  rfl
                                refine take_ (i := 3) (N := some 50) (v := ?_) (a' := ?_) #[true, true, true, true, true, false, true, false, true, false, false, false, false, false, false] rfl rfl (take_ofW HT_.out HW_.out (by kernel_rfl)) (fun _ _ _ h => h) (Or.inl ⟨by rfl, ?_⟩) hHeld ?_ ?_
                                rotate_left
                                · rintro w' ⟨s0, s1, s2, s3, s4, s5, s6⟩
                                  go_simp
                                  with_reducible rfl
                                rotate_left
                                · simp only [Act.put, List.setIfInBounds_toArray, List.set_cons_zero, List.set_cons_succ, i64_w, i32_w]
                                  rfl
                                refine take_ (i := 5) (N := some 52) (v := ?_) (a' := ?_) #[true, true, true, true, true, true, true, false, true, false, false, false, false, false, false] rfl rfl (take_ofW HT_.out HW_.out (by kernel_rfl)) (fun _ _ _ h => h) (Or.inl ⟨by rfl, ?_⟩) hHeld ?_ ?_
                                rotate_left
                                · rintro w' ⟨s0, s1, s2, s3, s4, s5, s6⟩
                                  go_simp
                                  with_reducible rfl
                                rotate_left
                                · simp only [Act.put, List.setIfInBounds_toArray, List.set_cons_zero, List.set_cons_succ, i64_w, i32_w]
                                  rfl
                                refine take_ (i := 7) (N := some 54) (v := ?_) (a' := ?_) #[true, true, true, true, true, true, true, true, true, false, false, false, false, false, false] rfl rfl (take_ofW HT_.out HW_.out (by kernel_rfl)) (fun _ _ _ h => h) (Or.inl ⟨by rfl, ?_⟩) hHeld ?_ ?_
                                rotate_left
                                · rintro w' ⟨s0, s1, s2, s3, s4, s5, s6⟩
                                  go_simp
                                  with_reducible rfl
                                rotate_left
                                · simp only [Act.put, List.setIfInBounds_toArray, List.set_cons_zero, List.set_cons_succ, i64_w, i32_w]
                                  rfl
                                refine pure_ (i := 9) (N := some 56) (v := ?_) (a' := ?_) #[true, true, true, true, true, true, true, true, true, true, false, false, false, false, false] rfl rfl (any_of HT_.out (by kernel_rfl)) (fun _ _ _ h => h) (Or.inl ⟨by rfl, ?_⟩) ?_ ?_
                                rotate_left
                                · intro w'
                                  go_simp
                                  with_reducible rfl
                                rotate_left
                                · simp only [Act.put, List.setIfInBounds_toArray, List.set_cons_zero, List.set_cons_succ, i64_w, i32_w]
                                  rfl
                                refine pure_ (i := 10) (N := some 57) (v := ?_) (a' := ?_) #[true, true, true, true, true, true, true, true, true, true, true, false, false, false, false] rfl rfl (any_of HT_.out (by kernel_rfl)) (fun _ _ _ h => h) (Or.inl ⟨by rfl, ?_⟩) ?_ ?_
                                rotate_left
                                · intro w'
                                  go_simp
                                  with_reducible rfl
                                rotate_left
                                · simp only [Act.put, List.setIfInBounds_toArray, List.set_cons_zero, List.set_cons_succ, i64_w, i32_w]
                                  rfl
                                refine take_ (i := 11) (N := some 58) (v := ?_) (a' := ?_) #[true, true, true, true, true, true, true, true, true, true, true, true, false, false, false] rfl rfl (take_ofW HT_.out HW_.out (by kernel_rfl)) (fun _ _ _ h => h) (Or.inl ⟨by rfl, ?_⟩) hHeld ?_ ?_
                                rotate_left
                                · rintro w' ⟨s0, s1, s2, s3, s4, s5, s6⟩
                                  go_simp
                                  with_reducible rfl
                                rotate_left
                                · simp only [Act.put, List.setIfInBounds_toArray, List.set_cons_zero, List.set_cons_succ, i64_w, i32_w]
                                  rfl
                                refine pure_ (i := 12) (N := some 59) (v := ?_) (a' := ?_) #[true, true, true, true, true, true, true, true, true, true, true, true, true, false, false] rfl rfl (any_of HT_.out (by kernel_rfl)) (fun _ _ _ h => h) (Or.inl ⟨by rfl, ?_⟩) ?_ ?_
                                rotate_left
                                · intro w'
                                  go_simp
                                  with_reducible rfl
                                rotate_left
                                · simp only [Act.put, List.setIfInBounds_toArray, List.set_cons_zero, List.set_cons_succ, i64_w, i32_w]
                                  rfl
                                refine pure_ (i := 13) (N := some 60) (v := ?_) (a' := ?_) #[true, true, true, true, true, true, true, true, true, true, true, true, true, true, false] rfl rfl (any_of HT_.out (by kernel_rfl)) (fun _ _ _ h => h) (Or.inl ⟨by rfl, ?_⟩) ?_ ?_
                                rotate_left
                                · intro w'
                                  go_simp
                                  with_reducible rfl
                                rotate_left
                                · simp only [Act.put, List.setIfInBounds_toArray, List.set_cons_zero, List.set_cons_succ, i64_w, i32_w]
                                  rfl
                                refine pure_ (i := 14) (N := some 46) (v := ?_) (a' := ?_) #[true, true, true, true, true, true, true, true, true, true, true, true, true, true, true] rfl rfl (any_of HT_.out (by kernel_rfl)) (fun _ _ _ h => h) (Or.inl ⟨by rfl, ?_⟩) ?_ ?_
                                rotate_left
                                · intro w'
                                  go_simp
                                  with_reducible rfl
                                rotate_left
                                · simp only [Act.put, List.setIfInBounds_toArray, List.set_cons_zero, List.set_cons_succ, i64_w, i32_w]
                                  rfl
                                refine done_ (done_of HT_.out (by kernel_rfl)) ?_
                                try go_wp2
                                have n0_ := Aside0.mk (Kd.V_drew HO_1.out)
                                have n1_ := Aside0.mk (Kd.V_drew HO_126003.out)
                                have n2_ := Aside0.mk (Kd.V_drew HL129_1.out)
                                have n3_ := Aside0.mk (blk_drew BK125.out)
                                have n4_ := Aside0.mk (Kd.C_drew HR129_1.out)
                                have n5_ := Aside0.mk (below_drew1 HB.out)
                                clear HO_1
                                clear HO_126003
                                clear HL129_1
                                clear BK125
                                clear HR129_1
                                clear HB
                                have HO_1 := n0_
                                have HO_126003 := n1_
                                have HL129_1 := n2_
                                have BK125 := n3_
                                have HR129_1 := n4_
                                have HB := n5_
                                clear n0_ n1_ n2_ n3_ n4_ n5_
                                have q38 : (a2 : Int) ≤ ((l1.length : Int) : Int) := of_decide_eq_true (by first | (with_reducible assumption) | assumption)
                                obtain ⟨i038, hi038, _, hsz38, _⟩ := info_parts info3
                                have hroom38 : l1.length ≤ c1 := (Kd.V_reads' HO_1.out).2.1
                                have hC38 : Kd.F (Kd.int .i64) _ _ (some ad128) l1.length l1 := (Kd.V_at (base := w.heap.size) HO_1.out).2.2
                                have hcut38 := cut_to (P := Try.prog) 33 3 .i64 Try.underlying33 hi038 (some ad128) l1.length c1 a2 (of_decide_eq_true (by first | (with_reducible assumption) | assumption)) q38 hroom38
                                have hr38 := Kd.F_take (m := (a2 : Int).toNat) hC38 (by omega)
                                have hy38 : y130.length = (a2 : Int).toNat := (by rw [Ny130.out, List.length_take]; omega)
                                rw [← Ny130.out] at hr38
                                rw [← hy38] at hcut38
                                have HO134 := Aside0.mk (show Kd.V (Kd.int .i64) 3 _ w.heap.size _ (.slice (some ad128) y130.length c1) y130 from Kd.V_mk (by omega) hr38)
                                have HC134 := Aside0.mk (show y130.length ≤ c1 from by omega)
                                clear hr38 hC38 hroom38 hi038 hsz38
                                have KY38 := Aside0.mk hy38
                                clear hy38
                                replace q38 := eq_true q38
                                have p135 : 0 ≤ (a3 : Int) := of_decide_eq_true (by first | (with_reducible assumption) | assumption)
                                have q135 : a3 < (l0_3.length : Int) := of_decide_eq_true (by first | (with_reducible assumption) | assumption)
                                obtain ⟨ad135, A135_1, c135_1, e135, hx135_0, hx135_1, hl135_1, hi135_1⟩ := at_T38 (Kd.V_reads' HO_126003.out).2.2 a3 p135 q135
                                obtain rfl : ad129 = ad135 := (by injection e135)
                                obtain ⟨ce135, hce135, hMe135, hcc135⟩ := Kd.V_get HO_126003.out z38 a3 p135 (by first | exact q135 | exact of_decide_eq_true (by first | (with_reducible assumption) | assumption) | (have e_ := (Kd.V_reads' HO_126003.out).1; omega))
                                obtain ⟨ua135_1, uc135_1, rfl, ul135_1, ge135_1⟩ := k38_openF hMe135
                                have hv135_1 := hcc135 1 _ rfl
                                rw [add_field _ _ 1 (by omega)] at hv135_1
                                replace hv135_1 := Option.some.inj (hv135_1.symm.trans hx135_1)
                                injection hv135_1 with hva_ hvn_ hvc_
                                rw [hva_] at ge135_1
                                rw [hvc_] at ul135_1
                                have HL135_1 := Aside0.mk (show Kd.V (Kd.int .i64) 3 _ w.heap.size _ _ ((rd_T38 l0_3 a3).f1) from Kd.V_mk ul135_1 ge135_1)
                                clear hva_ hvn_ hvc_ ge135_1 ul135_1
                                clear hcc135 hce135
                                have HR135_1 := Aside0.mk hi135_1
                                have HC135_1 := Aside0.mk hl135_1
                                clear hi135_1 hl135_1
                                replace p135 := eq_true p135
                                replace q135 := eq_true q135
                                have q39 : ((ji31) : Int) ≤ ((l1.length : Int) : Int) := of_decide_eq_true (by first | (with_reducible assumption) | assumption)
                                obtain ⟨i039, hi039, _, hsz39, _⟩ := info_parts info3
                                have hroom39 : l1.length ≤ c1 := (Kd.V_reads' HO_1.out).2.1
                                have hC39 : Kd.F (Kd.int .i64) _ _ (some ad128) l1.length l1 := (Kd.V_at (base := w.heap.size) HO_1.out).2.2
                                have q039 : (0 : Int) ≤ ((ji31) : Int) := of_decide_eq_true (by first | (with_reducible assumption) | assumption)
                                have hcut39 := cut_from (P := Try.prog) 33 3 .i64 Try.underlying33 hi039 1 hsz39 (some ad128) l1.length c1 (ji31) q039 q39
                                have hr39 := Kd.F_cut (m := ((ji31) : Int).toNat) (c := c1) hC39 (by omega) hroom39
                                obtain ⟨A39, hA39⟩ : ∃ Aq_, Aq_ = (if c1 = ((ji31) : Int).toNat then (some ad128) else ((some ad128) : Option Addr).map (·.add (((ji31) : Int).toNat * 1))) := ⟨_, rfl⟩
                                obtain ⟨c39, hc39⟩ : ∃ cq_, cq_ = c1 - ((ji31) : Int).toNat := ⟨_, rfl⟩
                                have hy39 : y136.length = l1.length - ((ji31) : Int).toNat := (by rw [Ny136.out, List.length_drop] <;> omega)
                                rw [show (l1).drop ((ji31) : Int).toNat = y136 from Ny136.out.symm] at hr39
                                replace hr39 : Kd.F (Kd.int .i64) _ _ A39 y136.length y136 := (by rw [hA39]; exact hr39)
                                rw [← hy39, ← hA39, ← hc39] at hcut39
                                have HO140 := Aside0.mk (show Kd.V (Kd.int .i64) 3 _ w.heap.size _ (.slice A39 y136.length c39) y136 from Kd.V_mk (by rw [hy39, hc39]; exact Nat.sub_le_sub_right hroom39 _) hr39)
                                have HC140 := Aside0.mk (show y136.length ≤ c39 from by rw [hy39, hc39]; exact Nat.sub_le_sub_right hroom39 _)
                                clear hr39 hC39 hroom39 hi039 hsz39 hc39
                                have KY39 := Aside0.mk hy39
                                have KA39 := Aside0.mk hA39
                                clear hy39 hA39
                                replace q39 := eq_true q39
                                refine start_ (n := 16) (S := fun w' => w'.cell? ⟨gb125, 0, none⟩ = some (.int .i64 a0_0) ∧ w'.cell? ⟨gb125, 1, none⟩ = some (.int .i64 a0_1) ∧ w'.cell? ⟨gb125, 2, none⟩ = some (.int .i64 a0_2) ∧ w'.cell? ⟨gb125, 3, none⟩ = some (.slice (some ad129) l0_3.length c0_3) ∧ w'.cell? (ad129.add ((a3).toNat * 2)) = some (.int .i64 ((rd_T38 l0_3 a3).f0)) ∧ w'.cell? ⟨(ad129.add ((a3).toNat * 2)).block, (ad129.add ((a3).toNat * 2)).off + 1, none⟩ = some (.slice A135_1 ((rd_T38 l0_3 a3).f1).length c135_1)) (ds := []) #[false, false, false, false, false, false, false, false, false, false, false, false, false, false, false, false] (by kernel_rfl) rfl rfl ⟨(blk_cell BK125.out 0).trans rfl, (blk_cell BK125.out 1).trans rfl, (blk_cell BK125.out 2).trans rfl, (blk_cell BK125.out 3).trans rfl, hx135_0, hx135_1⟩ (fun hHeld => ?_); refine with_tabW grammar_Step.tab12 grammar_Step.bits12 (fun HT_ HW_ => ?_)
                                generalize w36.drew = w37 at HO_1 HO_126003 HL129_1 BK125 HR129_1 HB HL135_1 HO134 HO140 HR135_1 hx135_0 hx135_1 hHeld ⊢
                                refine pure_ (i := 0) (N := some 61) (v := ?_) (a' := ?_) #[true, false, false, false, false, false, false, false, false, false, false, false, false, false, false, false] rfl rfl (any_of HT_.out (by kernel_rfl)) (fun _ _ _ h => h) (Or.inl ⟨by rfl, ?_⟩) ?_ ?_
                                rotate_left
                                · intro w'
                                  go_simp
                                  with_reducible rfl
                                rotate_left
                                · simp only [Act.put, List.setIfInBounds_toArray, List.set_cons_zero, List.set_cons_succ, i64_w, i32_w]
                                  rfl
                                refine pure_ (i := 1) (N := some 62) (v := ?_) (a' := ?_) #[true, true, false, false, false, false, false, false, false, false, false, false, false, false, false, false] rfl rfl (any_of HT_.out (by kernel_rfl)) (fun _ _ _ h => h) (Or.inl ⟨by rfl, ?_⟩) ?_ ?_
                                rotate_left
                                · intro w'
                                  go_simp
                                  with_reducible rfl
                                rotate_left
                                · simp only [Act.put, List.setIfInBounds_toArray, List.set_cons_zero, List.set_cons_succ, i64_w, i32_w]
                                  rfl
                                refine pure_ (i := 2) (N := some 63) (v := ?_) (a' := ?_) #[true, true, true, false, false, false, false, false, false, false, false, false, false, false, false, false] rfl rfl (any_of HT_.out (by kernel_rfl)) (fun _ _ _ h => h) (Or.inl ⟨by rfl, ?_⟩) ?_ ?_
                                rotate_left
                                · intro w'
                                  go_simp
                                  with_reducible rfl
                                rotate_left
                                · simp only [Act.put, List.setIfInBounds_toArray, List.set_cons_zero, List.set_cons_succ, i64_w, i32_w]
                                  rfl
                                refine pure_ (i := 3) (N := some 64) (v := ?_) (a' := ?_) #[true, true, true, true, false, false, false, false, false, false, false, false, false, false, false, false] rfl rfl (any_of HT_.out (by kernel_rfl)) (fun _ _ _ h => h) (Or.inl ⟨by rfl, ?_⟩) ?_ ?_
                                rotate_left
                                · intro w'
                                  go_simp
                                  with_reducible rfl
                                rotate_left
                                · simp only [Act.put, List.setIfInBounds_toArray, List.set_cons_zero, List.set_cons_succ, i64_w, i32_w]
                                  rfl
                                refine pure_ (i := 5) (N := some 66) (v := ?_) (a' := ?_) #[true, true, true, true, false, true, false, false, false, false, false, false, false, false, false, false] rfl rfl (any_of HT_.out (by kernel_rfl)) (fun _ _ _ h => h) (Or.inl ⟨by rfl, ?_⟩) ?_ ?_
                                rotate_left
                                · intro w'
                                  go_simp
                                  with_reducible rfl
                                rotate_left
                                · simp only [Act.put, List.setIfInBounds_toArray, List.set_cons_zero, List.set_cons_succ, i64_w, i32_w]
                                  rfl
                                refine pure_ (i := 9) (N := some 70) (v := ?_) (a' := ?_) #[true, true, true, true, false, true, false, false, false, true, false, false, false, false, false, false] rfl rfl (any_of HT_.out (by kernel_rfl)) (fun _ _ _ h => h) (Or.inl ⟨by rfl, ?_⟩) ?_ ?_
                                rotate_left
                                · intro w'
                                  go_simp
                                  with_reducible rfl
                                rotate_left
                                · simp only [Act.put, List.setIfInBounds_toArray, List.set_cons_zero, List.set_cons_succ, i64_w, i32_w]
                                  rfl
                                refine pure_ (i := 10) (N := some 71) (v := ?_) (a' := ?_) #[true, true, true, true, false, true, false, false, false, true, true, false, false, false, false, false] rfl rfl (any_of HT_.out (by kernel_rfl)) (fun _ _ _ h => h) (Or.inl ⟨by rfl, ?_⟩) ?_ ?_
                                rotate_left
                                · intro w'
                                  go_simp
                                  with_reducible rfl
                                rotate_left
                                · simp only [Act.put, List.setIfInBounds_toArray, List.set_cons_zero, List.set_cons_succ, i64_w, i32_w]
                                  rfl
                                refine pure_ (i := 11) (N := some 72) (v := ?_) (a' := ?_) #[true, true, true, true, false, true, false, false, false, true, true, true, false, false, false, false] rfl rfl (any_of HT_.out (by kernel_rfl)) (fun _ _ _ h => h) (Or.inl ⟨by rfl, ?_⟩) ?_ ?_
                                rotate_left
                                · intro w'
                                  go_simp
                                  with_reducible rfl
                                rotate_left
                                · simp only [Act.put, List.setIfInBounds_toArray, List.set_cons_zero, List.set_cons_succ, i64_w, i32_w]
                                  rfl
                                refine pure_ (i := 12) (N := some 73) (v := ?_) (a' := ?_) #[true, true, true, true, false, true, false, false, false, true, true, true, true, false, false, false] rfl rfl (any_of HT_.out (by kernel_rfl)) (fun _ _ _ h => h) (Or.inl ⟨by rfl, ?_⟩) ?_ ?_
                                rotate_left
                                · intro w'
                                  go_simp
                                  with_reducible rfl
                                rotate_left
                                · simp only [Act.put, List.setIfInBounds_toArray, List.set_cons_zero, List.set_cons_succ, i64_w, i32_w]
                                  rfl
                                refine take_ (i := 4) (N := some 65) (v := ?_) (a' := ?_) #[true, true, true, true, true, true, false, false, false, true, true, true, true, false, false, false] rfl rfl (take_ofW HT_.out HW_.out (by kernel_rfl)) (fun _ _ _ h => h) (Or.inl ⟨by rfl, ?_⟩) hHeld ?_ ?_
                                rotate_left
                                · rintro w' ⟨s0, s1, s2, s3, s4, s5⟩
                                  go_simp
                                  with_reducible rfl
                                rotate_left
                                · simp only [Act.put, List.setIfInBounds_toArray, List.set_cons_zero, List.set_cons_succ, i64_w, i32_w]
                                  rfl
                                refine pure_ (i := 6) (N := some 67) (v := ?_) (a' := ?_) #[true, true, true, true, true, true, true, false, false, true, true, true, true, false, false, false] rfl rfl (any_of HT_.out (by kernel_rfl)) (fun _ _ _ h => h) (Or.inl ⟨by rfl, ?_⟩) ?_ ?_
                                rotate_left
                                · intro w'
                                  go_simp
                                  with_reducible rfl
                                rotate_left
                                · simp only [Act.put, List.setIfInBounds_toArray, List.set_cons_zero, List.set_cons_succ, i64_w, i32_w]
                                  rfl
                                refine pure_ (i := 7) (N := some 68) (v := ?_) (a' := ?_) #[true, true, true, true, true, true, true, true, false, true, true, true, true, false, false, false] rfl rfl (any_of HT_.out (by kernel_rfl)) (fun _ _ _ h => h) (Or.inl ⟨by rfl, ?_⟩) ?_ ?_
                                rotate_left
                                · intro w'
                                  go_simp
                                  with_reducible rfl
                                rotate_left
                                · simp only [Act.put, List.setIfInBounds_toArray, List.set_cons_zero, List.set_cons_succ, i64_w, i32_w]
                                  rfl
                                refine take_ (i := 8) (N := some 69) (v := ?_) (a' := ?_) #[true, true, true, true, true, true, true, true, true, true, true, true, true, false, false, false] rfl rfl (take_ofW HT_.out HW_.out (by kernel_rfl)) (fun _ _ _ h => h) (Or.inl ⟨by rfl, ?_⟩) hHeld ?_ ?_
                                rotate_left
                                · rintro w' ⟨s0, s1, s2, s3, s4, s5⟩
                                  go_simp
                                  with_reducible rfl
                                rotate_left
                                · simp only [Act.put, List.setIfInBounds_toArray, List.set_cons_zero, List.set_cons_succ, i64_w, i32_w]
                                  rfl
                                refine one_ (i := 13) (N := some 74) #[true, true, true, true, true, true, true, true, true, true, true, true, true, true, false, false] rfl rfl (one_of HT_.out (by kernel_rfl)) (by decide) (fun K hK => ?_)
                                refine Kd.N_lit_step (Kd.slice 3 (Kd.int .i64)) _ 33 ?hg (N' := 74) ?hd (xs := ([y130, (rd_T38 l0_3 a3).f1, y136] : List (List Int))) (inner := [.slice (some ad128) y130.length c1, .slice A135_1 ((rd_T38 l0_3 a3).f1).length c135_1, .slice A39 y136.length c39]) (ok := (fun k_ => ((P0_3_ k_ ∨ P1_ k_) ∨ w.heap.size ≤ k_) ∧ k_ ≠ gb125)) (okp := (fun k_ => ((P0_3_ k_ ∨ P1_ k_) ∨ w.heap.size ≤ k_) ∧ k_ ≠ gb125)) ?hr ?hp (fun _ hk => hk) ((show ∀ k_, w37.heap.size ≤ k_ → (fun k_ => ((P0_3_ k_ ∨ P1_ k_) ∨ w.heap.size ≤ k_) ∧ k_ ≠ gb125) k_ from fun k_ hk => ⟨(.inr (Nat.le_trans (below_size (by repeat (first | (with_reducible first | exact HB.out | apply below_alloc | apply pw_below_drewN | apply below_drew1 | refine below_set ?_ GE125.out) | exact HB.out))) hk)), Kd.freshB (g := gb125) (o := .cells #[.int .i64 a0_0, .int .i64 a0_1, .int .i64 a0_2, .slice (some ad129) l0_3.length c0_3] 24 (0, 0)) (by (with_reducible repeat (first | refine blk_drewN ?_ _ | refine blk_drew ?_ | refine blk_alloc ?_ _)); exact BK125.out) k_ hk⟩) _ (Nat.le_refl _)) (Below.refl _ _) (Nat.le_refl _) (by simp) ?_; (case hd => rfl); (case hg => rfl); (case hr => first | (go_simp; done) | (go_simp; rfl)); (case hp => exact (Reps.one (show Kd.FK (Kd.slice 3 (Kd.int .i64)) _ _ y130 [.slice (some ad128) y130.length c1] from (Kd.FK_slice_mk (Kd.V_reads' (Kd.V_mono (ok' := (fun k_ => ((P0_3_ k_ ∨ P1_ k_) ∨ w.heap.size ≤ k_) ∧ k_ ≠ gb125)) (HO134.out) (fun k_ hk => ⟨hk.1, hk.2⟩))).2.1 (Kd.V_F (Kd.V_mono (ok' := (fun k_ => ((P0_3_ k_ ∨ P1_ k_) ∨ w.heap.size ≤ k_) ∧ k_ ≠ gb125)) (HO134.out) (fun k_ hk => ⟨hk.1, hk.2⟩))))) (Reps.one (show Kd.FK (Kd.slice 3 (Kd.int .i64)) _ _ ((rd_T38 l0_3 a3).f1) [.slice A135_1 ((rd_T38 l0_3 a3).f1).length c135_1] from (Kd.FK_slice_mk (Kd.V_reads' (Kd.V_mono (ok' := (fun k_ => ((P0_3_ k_ ∨ P1_ k_) ∨ w.heap.size ≤ k_) ∧ k_ ≠ gb125)) (HL135_1.out) (fun k_ hk => ⟨hk.1, hk.2⟩))).2.1 (Kd.V_F (Kd.V_mono (ok' := (fun k_ => ((P0_3_ k_ ∨ P1_ k_) ∨ w.heap.size ≤ k_) ∧ k_ ≠ gb125)) (HL135_1.out) (fun k_ hk => ⟨hk.1, hk.2⟩))))) (Reps.one (show Kd.FK (Kd.slice 3 (Kd.int .i64)) _ _ y136 [.slice A39 y136.length c39] from (Kd.FK_slice_mk (Kd.V_reads' (Kd.V_mono (ok' := (fun k_ => ((P0_3_ k_ ∨ P1_ k_) ∨ w.heap.size ≤ k_) ∧ k_ ≠ gb125)) (HO140.out) (fun k_ hk => ⟨hk.1, hk.2⟩))).2.1 (Kd.V_F (Kd.V_mono (ok' := (fun k_ => ((P0_3_ k_ ∨ P1_ k_) ∨ w.heap.size ≤ k_) ∧ k_ ≠ gb125)) (HO140.out) (fun k_ hk => ⟨hk.1, hk.2⟩))))) (Reps.none _ _)))))
                                intro v142 w40 ho41 hb hg_ hnew_
                                have HS4_ := (hb.cell (World.block_lt_of_cell? _ _ (hHeld.2.2.2.2.1))).trans (hHeld.2.2.2.2.1)
                                have HS5_ := (hb.cell (World.block_lt_of_cell? _ _ (hHeld.2.2.2.2.2))).trans (hHeld.2.2.2.2.2)
                                clear hg_ hnew_
                                (first | rw [← Ny141.out] at ho41 | (simp only [Int.reduceToNat] at ho41; rw [← Ny141.out] at ho41))
                                have n0_ := Aside0.mk (Kd.V_elder' (by (with_reducible repeat (first | apply Kd.V_alloc | apply Kd.V_drewN | apply Kd.V_drew)); exact HO_1.out) (Kd.N_base ho41) hb)
                                have n1_ := Aside0.mk (Kd.V_elder' (by (with_reducible repeat (first | apply Kd.V_alloc | apply Kd.V_drewN | apply Kd.V_drew)); exact HO_126003.out) (Kd.N_base ho41) hb)
                                have n2_ := Aside0.mk (Kd.V_elder' (by (with_reducible repeat (first | apply Kd.V_alloc | apply Kd.V_drewN | apply Kd.V_drew)); exact HL129_1.out) (Kd.N_base ho41) hb)
                                have n3_ := Aside0.mk (Kd.V_elder' (by (with_reducible repeat (first | apply Kd.V_alloc | apply Kd.V_drewN | apply Kd.V_drew)); exact HO134.out) (Kd.N_base ho41) hb)
                                have n4_ := Aside0.mk (Kd.V_elder' (by (with_reducible repeat (first | apply Kd.V_alloc | apply Kd.V_drewN | apply Kd.V_drew)); exact HL135_1.out) (Kd.N_base ho41) hb)
                                have n5_ := Aside0.mk (Kd.V_elder' (by (with_reducible repeat (first | apply Kd.V_alloc | apply Kd.V_drewN | apply Kd.V_drew)); exact HO140.out) (Kd.N_base ho41) hb)
                                have n6_ := Aside0.mk (Kd.N_lower ho41 (below_size (by repeat (first | (with_reducible first | exact HB.out | apply below_alloc | apply pw_below_drewN | apply below_drew1 | refine below_set ?_ GE125.out) | exact HB.out))))
                                have n7_ := Aside0.mk (blk_below (g := gb125) (o := .cells #[.int .i64 a0_0, .int .i64 a0_1, .int .i64 a0_2, .slice (some ad129) l0_3.length c0_3] 24 (0, 0)) (by (with_reducible repeat (first | refine blk_drewN ?_ _ | refine blk_drew ?_ | refine blk_alloc ?_ _)); exact BK125.out) hb)
                                have n8_ := Aside0.mk (Kd.C_below (by repeat (first | (with_reducible exact HR129_1.out) | (with_reducible refine Kd.C_alloc ?_ _) | (with_reducible refine Kd.C_drewN ?_ _) | (with_reducible refine Kd.C_drew ?_) | exact HR129_1.out)) hb)
                                have n9_ := Aside0.mk (Kd.C_below (by repeat (first | (with_reducible exact HR135_1.out) | (with_reducible refine Kd.C_alloc ?_ _) | (with_reducible refine Kd.C_drewN ?_ _) | (with_reducible refine Kd.C_drew ?_) | exact HR135_1.out)) hb)
                                have n10_ := Aside0.mk (below_step (by repeat (first | (with_reducible first | exact HB.out | apply below_alloc | apply pw_below_drewN | apply below_drew1 | refine below_set ?_ GE125.out) | exact HB.out)) hb)
                                clear HO_1
                                clear HO_126003
                                clear HL129_1
                                clear HO134
                                clear HL135_1
                                clear HO140
                                clear BK125
                                clear HR129_1
                                clear HR135_1
                                clear HB
                                have HO_1 := n0_
                                have HO_126003 := n1_
                                have HL129_1 := n2_
                                have HO134 := n3_
                                have HL135_1 := n4_
                                have HO140 := n5_
                                have HO143 := n6_
                                have BK125 := n7_
                                have HR129_1 := n8_
                                have HR135_1 := n9_
                                have HB := n10_
                                clear n0_ n1_ n2_ n3_ n4_ n5_ n6_ n7_ n8_ n9_ n10_
                                clear hb ho41
                                obtain ⟨Ao42, co42, eo42⟩ := Kd.N_slice HO143.out
                                (first | subst eo42 | (injection eo42 with f1_ f2_ f3_; have f4_ := f1_.symm; have f5_ := f3_.symm; clear f1_ f2_ f3_; subst f4_; subst f5_))
                                refine hK.out _ _ ⟨(blk_cell BK125.out 0).trans rfl, (blk_cell BK125.out 1).trans rfl, (blk_cell BK125.out 2).trans rfl, (blk_cell BK125.out 3).trans rfl, HS4_, HS5_⟩ (fun hHeld => ?_)
                                clear hK K
                                refine norm_ (a' := ?_) ?_ ?_
                                rotate_left
                                · show Act.put _ (some 74) _ = _
                                  simp only [Act.put, List.setIfInBounds_toArray, List.set_cons_zero, List.set_cons_succ, i64_w, i32_w]
                                  rfl
                                refine one_ (i := 14) (N := some 75) #[true, true, true, true, true, true, true, true, true, true, true, true, true, true, true, false] rfl rfl (one_of HT_.out (by kernel_rfl)) (by decide) (fun K hK => ?_)
                                refine goes_ Try.func49 (by kernel_rfl) rfl #[.slice Ao42 y141.length co42] (by rfl) rfl rfl (by (try simp only [List.map_toArray, List.map_cons, List.map_nil]); first | done | rfl | (simp only [List.length_drop, List.length_take]; rfl)) ?_
                                with_reducible refine (slices_Concat_Sint_int.calls kj12 _ _ y141 t144 _ ?side1 ?side2 A34.out).mono ?_
                                (case side1 => repeat (first | exact (Kd.N_reads' HO143.out).2.2 | (with_reducible refine Kd.C_alloc ?_ _) | (with_reducible refine Kd.C_drewN ?_ _) | (with_reducible refine Kd.C_drew ?_)))
                                (case side2 => exact (Kd.N_reads' HO143.out).2.1)
                                rintro e w43 ⟨v145, rfl, ho0, hb⟩
                                have HS4_ := (hb.cell (World.block_lt_of_cell? _ _ (hHeld.2.2.2.2.1))).trans (hHeld.2.2.2.2.1)
                                have HS5_ := (hb.cell (World.block_lt_of_cell? _ _ (hHeld.2.2.2.2.2))).trans (hHeld.2.2.2.2.2)
                                refine ⟨_, rfl, ?_⟩
                                have n0_ := Aside0.mk (Kd.V_elder' (by (with_reducible repeat (first | apply Kd.V_alloc | apply Kd.V_drewN | apply Kd.V_drew)); exact HO_1.out) (Kd.R_base ho0) hb)
                                have n1_ := Aside0.mk (Kd.V_elder' (by (with_reducible repeat (first | apply Kd.V_alloc | apply Kd.V_drewN | apply Kd.V_drew)); exact HO_126003.out) (Kd.R_base ho0) hb)
                                have n2_ := Aside0.mk (Kd.V_elder' (by (with_reducible repeat (first | apply Kd.V_alloc | apply Kd.V_drewN | apply Kd.V_drew)); exact HL129_1.out) (Kd.R_base ho0) hb)
                                have n3_ := Aside0.mk (Kd.V_elder' (by (with_reducible repeat (first | apply Kd.V_alloc | apply Kd.V_drewN | apply Kd.V_drew)); exact HO134.out) (Kd.R_base ho0) hb)
                                have n4_ := Aside0.mk (Kd.V_elder' (by (with_reducible repeat (first | apply Kd.V_alloc | apply Kd.V_drewN | apply Kd.V_drew)); exact HL135_1.out) (Kd.R_base ho0) hb)
                                have n5_ := Aside0.mk (Kd.V_elder' (by (with_reducible repeat (first | apply Kd.V_alloc | apply Kd.V_drewN | apply Kd.V_drew)); exact HO140.out) (Kd.R_base ho0) hb)
                                have n6_ := Aside0.mk (Kd.N_elder' (by (with_reducible repeat (first | apply Kd.N_alloc | apply Kd.N_drewN | apply Kd.N_drew)); exact HO143.out) (Kd.R_base ho0) hb)
                                have n7_ := Aside0.mk (Kd.R_lower (Kd.R_newM (M := fun k_ => (w.heap.size ≤ k_)) ho0 (below_size (by repeat (first | (with_reducible first | exact HB.out | apply below_alloc | apply pw_below_drewN | apply below_drew1 | refine below_set ?_ GE125.out) | exact HB.out))) (fun k_ h_ => h_)) (below_size (by repeat (first | (with_reducible first | exact HB.out | apply below_alloc | apply pw_below_drewN | apply below_drew1 | refine below_set ?_ GE125.out) | exact HB.out))))
                                have n8_ := Aside0.mk (blk_below (g := gb125) (o := .cells #[.int .i64 a0_0, .int .i64 a0_1, .int .i64 a0_2, .slice (some ad129) l0_3.length c0_3] 24 (0, 0)) (by (with_reducible repeat (first | refine blk_drewN ?_ _ | refine blk_drew ?_ | refine blk_alloc ?_ _)); exact BK125.out) hb)
                                have n9_ := Aside0.mk (Kd.C_below (by repeat (first | (with_reducible exact HR129_1.out) | (with_reducible refine Kd.C_alloc ?_ _) | (with_reducible refine Kd.C_drewN ?_ _) | (with_reducible refine Kd.C_drew ?_) | exact HR129_1.out)) hb)
                                have n10_ := Aside0.mk (Kd.C_below (by repeat (first | (with_reducible exact HR135_1.out) | (with_reducible refine Kd.C_alloc ?_ _) | (with_reducible refine Kd.C_drewN ?_ _) | (with_reducible refine Kd.C_drew ?_) | exact HR135_1.out)) hb)
                                have n11_ := Aside0.mk (below_step (by repeat (first | (with_reducible first | exact HB.out | apply below_alloc | apply pw_below_drewN | apply below_drew1 | refine below_set ?_ GE125.out) | exact HB.out)) hb)
                                clear HO_1
                                clear HO_126003
                                clear HL129_1
                                clear HO134
                                clear HL135_1
                                clear HO140
                                clear HO143
                                clear BK125
                                clear HR129_1
                                clear HR135_1
                                clear HB
                                have HO_1 := n0_
                                have HO_126003 := n1_
                                have HL129_1 := n2_
                                have HO134 := n3_
                                have HL135_1 := n4_
                                have HO140 := n5_
                                have HO143 := n6_
                                have HO146 := n7_
                                have BK125 := n8_
                                have HR129_1 := n9_
                                have HR135_1 := n10_
                                have HB := n11_
                                clear n0_ n1_ n2_ n3_ n4_ n5_ n6_ n7_ n8_ n9_ n10_ n11_
                                (try clear hb)
                                (try clear hb2)
                                (try clear hk)
                                (try clear hi)
                                (try clear ho0)
                                refine hK.out _ _ ⟨(blk_cell BK125.out 0).trans rfl, (blk_cell BK125.out 1).trans rfl, (blk_cell BK125.out 2).trans rfl, (blk_cell BK125.out 3).trans rfl, HS4_, HS5_⟩ (fun hHeld => ?_)
                                clear hK K
                                refine norm_ (a' := ?_) ?_ ?_
                                rotate_left
                                · show Act.put _ (some 75) _ = _
                                  simp only [Act.put, List.setIfInBounds_toArray, List.set_cons_zero, List.set_cons_succ, i64_w, i32_w]
                                  rfl
                                refine pure_ (i := 15) (N := some 11) (v := ?_) (a' := ?_) #[true, true, true, true, true, true, true, true, true, true, true, true, true, true, true, true] rfl rfl (any_of HT_.out (by kernel_rfl)) (fun _ _ _ h => h) (Or.inl ⟨by rfl, ?_⟩) ?_ ?_
                                rotate_left
                                · intro w'
                                  go_simp
                                  with_reducible rfl
                                rotate_left
                                · simp only [Act.put, List.setIfInBounds_toArray, List.set_cons_zero, List.set_cons_succ, i64_w, i32_w]
                                  rfl
                                refine done_ (done_of HT_.out (by kernel_rfl)) ?_
                                obtain ⟨Ao44, co44, eo44⟩ := Kd.R_slice HO146.out
                                subst eo44
                                try go_wp2
                                go_ret2
                                exact ⟨_, by first | rfl | (simp [errW_none, errW_some] <;> rfl) | (simp only [← hji31]; first | rfl | (simp [errW_none, errW_some] <;> rfl)) | (simp [*, errW_none, errW_some] <;> rfl), by first | exact Kd.R_nil _ _ _ _ _ | exact Kd.N_nil _ _ _ _ _ | exact Kd.V_nil _ _ _ _ _ | exact Kd.Q_nil _ _ _ _ _ | exact Kd.S_nil _ _ _ _ _ | (go_simp; exact Kd.R_nil _ _ _ _ _), by repeat (first | (with_reducible first | exact HB.out | apply below_alloc | apply pw_below_drewN | apply below_drew1 | refine below_set ?_ GE125.out) | exact HB.out)⟩
                              · rw [if_neg c35] at H
                                have c35b0 : decide (60 < (t144.length : Int)) = false := decide_eq_false c35
                                have c35b1 : decide (60 < t144.length) = false := decide_eq_false (by omega)
                                clear c35
                                simp only [Option.some.injEq, Prod.mk.injEq] at H
                                obtain ⟨rfl, rfl⟩ := H
                                try go_wp2
                                have n0_ := Aside0.mk (Kd.V_drew HO_1.out)
                                have n1_ := Aside0.mk (Kd.V_drew HO_126003.out)
                                have n2_ := Aside0.mk (blk_drew BK125.out)
                                have n3_ := Aside0.mk (below_drew1 HB.out)
                                clear HO_1
                                clear HO_126003
                                clear BK125
                                clear HB
                                have HO_1 := n0_
                                have HO_126003 := n1_
                                have BK125 := n2_
                                have HB := n3_
                                clear n0_ n1_ n2_ n3_
                                have p128 : 0 ≤ (a2 : Int) := of_decide_eq_true (by first | (with_reducible assumption) | assumption)
                                have q128 : a2 < (l1.length : Int) := of_decide_eq_true (by first | (with_reducible assumption) | assumption)
                                obtain ⟨ad128, e128, hx128_0⟩ := Kd.at_int (Kd.V_reads' HO_1.out).2.2 a2 p128 q128
                                cases e128
                                replace p128 := eq_true p128
                                replace q128 := eq_true q128
                                have p129 : 0 ≤ (a3 : Int) := of_decide_eq_true (by first | (with_reducible assumption) | assumption)
                                have q129 : a3 < (l0_3.length : Int) := of_decide_eq_true (by first | (with_reducible assumption) | assumption)
                                obtain ⟨ad129, A129_1, c129_1, e129, hx129_0, hx129_1, hl129_1, hi129_1⟩ := at_T38 (Kd.V_reads' HO_126003.out).2.2 a3 p129 q129
                                cases e129
                                obtain ⟨ce129, hce129, hMe129, hcc129⟩ := Kd.V_get HO_126003.out z38 a3 p129 (by first | exact q129 | exact of_decide_eq_true (by first | (with_reducible assumption) | assumption) | (have e_ := (Kd.V_reads' HO_126003.out).1; omega))
                                obtain ⟨ua129_1, uc129_1, rfl, ul129_1, ge129_1⟩ := k38_openF hMe129
                                have hv129_1 := hcc129 1 _ rfl
                                rw [add_field _ _ 1 (by omega)] at hv129_1
                                replace hv129_1 := Option.some.inj (hv129_1.symm.trans hx129_1)
                                injection hv129_1 with hva_ hvn_ hvc_
                                rw [hva_] at ge129_1
                                rw [hvc_] at ul129_1
                                have HL129_1 := Aside0.mk (show Kd.V (Kd.int .i64) 3 _ w.heap.size _ _ ((rd_T38 l0_3 a3).f1) from Kd.V_mk ul129_1 ge129_1)
                                clear hva_ hvn_ hvc_ ge129_1 ul129_1
                                clear hcc129 hce129
                                have HR129_1 := Aside0.mk hi129_1
                                have HC129_1 := Aside0.mk hl129_1
                                clear hi129_1 hl129_1
                                replace p129 := eq_true p129
                                replace q129 := eq_true q129
                                refine start_ (n := 15) (S := fun w' => w'.cell? ⟨gb125, 0, none⟩ = some (.int .i64 a0_0) ∧ w'.cell? ⟨gb125, 1, none⟩ = some (.int .i64 a0_1) ∧ w'.cell? ⟨gb125, 2, none⟩ = some (.int .i64 a0_2) ∧ w'.cell? ⟨gb125, 3, none⟩ = some (.slice (some ad129) l0_3.length c0_3) ∧ w'.cell? (ad128.add (a2).toNat) = some (.int .i64 (rd l1 a2)) ∧ w'.cell? (ad129.add ((a3).toNat * 2)) = some (.int .i64 ((rd_T38 l0_3 a3).f0)) ∧ w'.cell? ⟨(ad129.add ((a3).toNat * 2)).block, (ad129.add ((a3).toNat * 2)).off + 1, none⟩ = some (.slice A129_1 ((rd_T38 l0_3 a3).f1).length c129_1)) (ds := []) #[false, false, false, false, false, false, false, false, false, false, false, false, false, false, false] (by kernel_rfl) rfl rfl ⟨(blk_cell BK125.out 0).trans rfl, (blk_cell BK125.out 1).trans rfl, (blk_cell BK125.out 2).trans rfl, (blk_cell BK125.out 3).trans rfl, hx128_0, hx129_0, hx129_1⟩ (fun hHeld => ?_); refine with_tabW grammar_Step.tab10 grammar_Step.bits10 (fun HT_ HW_ => ?_)
                                generalize wc.drew = w45 at HO_1 HO_126003 BK125 HB HL129_1 HR129_1 hx128_0 hx129_0 hx129_1 hHeld ⊢
                                refine pure_ (i := 0) (N := some 47) (v := ?_) (a' := ?_) #[true, false, false, false, false, false, false, false, false, false, false, false, false, false, false] rfl rfl (any_of HT_.out (by kernel_rfl)) (fun _ _ _ h => h) (Or.inl ⟨by rfl, ?_⟩) ?_ ?_
                                rotate_left
                                · intro w'
                                  go_simp
                                  with_reducible rfl
                                rotate_left
                                · simp only [Act.put, List.setIfInBounds_toArray, List.set_cons_zero, List.set_cons_succ, i64_w, i32_w]
                                  rfl
                                refine pure_ (i := 1) (N := some 48) (v := ?_) (a' := ?_) #[true, true, false, false, false, false, false, false, false, false, false, false, false, false, false] rfl rfl (any_of HT_.out (by kernel_rfl)) (fun _ _ _ h => h) (Or.inl ⟨by rfl, ?_⟩) ?_ ?_
                                rotate_left
                                · intro w'
                                  go_simp
                                  with_reducible rfl
                                rotate_left
                                · simp only [Act.put, List.setIfInBounds_toArray, List.set_cons_zero, List.set_cons_succ, i64_w, i32_w]
                                  rfl
                                refine pure_ (i := 2) (N := some 49) (v := ?_) (a' := ?_) #[true, true, true, false, false, false, false, false, false, false, false, false, false, false, false] rfl rfl (any_of HT_.out (by kernel_rfl)) (fun _ _ _ h => h) (Or.inl ⟨by rfl, ?_⟩) ?_ ?_
                                rotate_left
                                · intro w'
                                  go_simp
                                  with_reducible rfl
                                rotate_left
                                · simp only [Act.put, List.setIfInBounds_toArray, List.set_cons_zero, List.set_cons_succ, i64_w, i32_w]
                                  rfl
                                refine pure_ (i := 4) (N := some 51) (v := ?_) (a' := ?_) #[true, true, true, false, true, false, false, false, false, false, false, false, false, false, false] rfl rfl (any_of HT_.out (by kernel_rfl)) (fun _ _ _ h => h) (Or.inl ⟨by rfl, ?_⟩) ?_ ?_
                                rotate_left
                                · intro w'
                                  go_simp
                                  with_reducible rfl
                                rotate_left
                                · simp only [Act.put, List.setIfInBounds_toArray, List.set_cons_zero, List.set_cons_succ, i64_w, i32_w]
                                  rfl
                                refine pure_ (i := 6) (N := some 53) (v := ?_) (a' := ?_) #[true, true, true, false, true, false, true, false, false, false, false, false, false, false, false] rfl rfl (any_of HT_.out (by kernel_rfl)) (fun _ _ _ h => h) (Or.inl ⟨by rfl, ?_⟩) ?_ ?_
                                rotate_left
                                · intro w'
                                  go_simp
                                  with_reducible rfl
                                rotate_left
                                · simp only [Act.put, List.setIfInBounds_toArray, List.set_cons_zero, List.set_cons_succ, i64_w, i32_w]
                                  rfl
                                refine pure_ (i := 8) (N := some 55) (v := ?_) (a' := ?_) #[true, true, true, false, true, false, true, false, true, false, false, false, false, false, false] rfl rfl (any_of HT_.out (by kernel_rfl)) (fun _ _ _ h => h) (Or.inl ⟨by rfl, ?_⟩) ?_ ?_
                                rotate_left
                                · intro w'
                                  go_simp
                                  with_reducible rfl
                                rotate_left
                                · simp only [Act.put, List.setIfInBounds_toArray, List.set_cons_zero, List.set_cons_succ, i64_w, i32_w]
                                  rfl
                                refine take_ (i := 3) (N := some 50) (v := ?_) (a' := ?_) #[true, true, true, true, true, false, true, false, true, false, false, false, false, false, false] rfl rfl (take_ofW HT_.out HW_.out (by kernel_rfl)) (fun _ _ _ h => h) (Or.inl ⟨by rfl, ?_⟩) hHeld ?_ ?_
                                rotate_left
                                · rintro w' ⟨s0, s1, s2, s3, s4, s5, s6⟩
                                  go_simp
                                  with_reducible rfl
                                rotate_left
                                · simp only [Act.put, List.setIfInBounds_toArray, List.set_cons_zero, List.set_cons_succ, i64_w, i32_w]
                                  rfl
                                refine take_ (i := 5) (N := some 52) (v := ?_) (a' := ?_) #[true, true, true, true, true, true, true, false, true, false, false, false, false, false, false] rfl rfl (take_ofW HT_.out HW_.out (by kernel_rfl)) (fun _ _ _ h => h) (Or.inl ⟨by rfl, ?_⟩) hHeld ?_ ?_
                                rotate_left
                                · rintro w' ⟨s0, s1, s2, s3, s4, s5, s6⟩
                                  go_simp
                                  with_reducible rfl
                                rotate_left
                                · simp only [Act.put, List.setIfInBounds_toArray, List.set_cons_zero, List.set_cons_succ, i64_w, i32_w]
                                  rfl
                                refine take_ (i := 7) (N := some 54) (v := ?_) (a' := ?_) #[true, true, true, true, true, true, true, true, true, false, false, false, false, false, false] rfl rfl (take_ofW HT_.out HW_.out (by kernel_rfl)) (fun _ _ _ h => h) (Or.inl ⟨by rfl, ?_⟩) hHeld ?_ ?_
                                rotate_left
                                · rintro w' ⟨s0, s1, s2, s3, s4, s5, s6⟩
                                  go_simp
                                  with_reducible rfl
                                rotate_left
                                · simp only [Act.put, List.setIfInBounds_toArray, List.set_cons_zero, List.set_cons_succ, i64_w, i32_w]
                                  rfl
                                refine pure_ (i := 9) (N := some 56) (v := ?_) (a' := ?_) #[true, true, true, true, true, true, true, true, true, true, false, false, false, false, false] rfl rfl (any_of HT_.out (by kernel_rfl)) (fun _ _ _ h => h) (Or.inl ⟨by rfl, ?_⟩) ?_ ?_
                                rotate_left
                                · intro w'
                                  go_simp
                                  with_reducible rfl
                                rotate_left
                                · simp only [Act.put, List.setIfInBounds_toArray, List.set_cons_zero, List.set_cons_succ, i64_w, i32_w]
                                  rfl
                                refine pure_ (i := 10) (N := some 57) (v := ?_) (a' := ?_) #[true, true, true, true, true, true, true, true, true, true, true, false, false, false, false] rfl rfl (any_of HT_.out (by kernel_rfl)) (fun _ _ _ h => h) (Or.inl ⟨by rfl, ?_⟩) ?_ ?_
                                rotate_left
                                · intro w'
                                  go_simp
                                  with_reducible rfl
                                rotate_left
                                · simp only [Act.put, List.setIfInBounds_toArray, List.set_cons_zero, List.set_cons_succ, i64_w, i32_w]
                                  rfl
                                refine take_ (i := 11) (N := some 58) (v := ?_) (a' := ?_) #[true, true, true, true, true, true, true, true, true, true, true, true, false, false, false] rfl rfl (take_ofW HT_.out HW_.out (by kernel_rfl)) (fun _ _ _ h => h) (Or.inl ⟨by rfl, ?_⟩) hHeld ?_ ?_
                                rotate_left
                                · rintro w' ⟨s0, s1, s2, s3, s4, s5, s6⟩
                                  go_simp
                                  with_reducible rfl
                                rotate_left
                                · simp only [Act.put, List.setIfInBounds_toArray, List.set_cons_zero, List.set_cons_succ, i64_w, i32_w]
                                  rfl
                                refine pure_ (i := 12) (N := some 59) (v := ?_) (a' := ?_) #[true, true, true, true, true, true, true, true, true, true, true, true, true, false, false] rfl rfl (any_of HT_.out (by kernel_rfl)) (fun _ _ _ h => h) (Or.inl ⟨by rfl, ?_⟩) ?_ ?_
                                rotate_left
                                · intro w'
                                  go_simp
                                  with_reducible rfl
                                rotate_left
                                · simp only [Act.put, List.setIfInBounds_toArray, List.set_cons_zero, List.set_cons_succ, i64_w, i32_w]
                                  rfl
                                refine pure_ (i := 13) (N := some 60) (v := ?_) (a' := ?_) #[true, true, true, true, true, true, true, true, true, true, true, true, true, true, false] rfl rfl (any_of HT_.out (by kernel_rfl)) (fun _ _ _ h => h) (Or.inl ⟨by rfl, ?_⟩) ?_ ?_
                                rotate_left
                                · intro w'
                                  go_simp
                                  with_reducible rfl
                                rotate_left
                                · simp only [Act.put, List.setIfInBounds_toArray, List.set_cons_zero, List.set_cons_succ, i64_w, i32_w]
                                  rfl
                                refine pure_ (i := 14) (N := some 46) (v := ?_) (a' := ?_) #[true, true, true, true, true, true, true, true, true, true, true, true, true, true, true] rfl rfl (any_of HT_.out (by kernel_rfl)) (fun _ _ _ h => h) (Or.inl ⟨by rfl, ?_⟩) ?_ ?_
                                rotate_left
                                · intro w'
                                  go_simp
                                  with_reducible rfl
                                rotate_left
                                · simp only [Act.put, List.setIfInBounds_toArray, List.set_cons_zero, List.set_cons_succ, i64_w, i32_w]
                                  rfl
                                refine done_ (done_of HT_.out (by kernel_rfl)) ?_
                                try go_wp2
                                have n0_ := Aside0.mk (Kd.V_drew HO_1.out)
                                have n1_ := Aside0.mk (Kd.V_drew HO_126003.out)
                                have n2_ := Aside0.mk (Kd.V_drew HL129_1.out)
                                have n3_ := Aside0.mk (blk_drew BK125.out)
                                have n4_ := Aside0.mk (Kd.C_drew HR129_1.out)
                                have n5_ := Aside0.mk (below_drew1 HB.out)
                                clear HO_1
                                clear HO_126003
                                clear HL129_1
                                clear BK125
                                clear HR129_1
                                clear HB
                                have HO_1 := n0_
                                have HO_126003 := n1_
                                have HL129_1 := n2_
                                have BK125 := n3_
                                have HR129_1 := n4_
                                have HB := n5_
                                clear n0_ n1_ n2_ n3_ n4_ n5_
                                have q47 : (a2 : Int) ≤ ((l1.length : Int) : Int) := of_decide_eq_true (by first | (with_reducible assumption) | assumption)
                                obtain ⟨i047, hi047, _, hsz47, _⟩ := info_parts info3
                                have hroom47 : l1.length ≤ c1 := (Kd.V_reads' HO_1.out).2.1
                                have hC47 : Kd.F (Kd.int .i64) _ _ (some ad128) l1.length l1 := (Kd.V_at (base := w.heap.size) HO_1.out).2.2
                                have hcut47 := cut_to (P := Try.prog) 33 3 .i64 Try.underlying33 hi047 (some ad128) l1.length c1 a2 (of_decide_eq_true (by first | (with_reducible assumption) | assumption)) q47 hroom47
                                have hr47 := Kd.F_take (m := (a2 : Int).toNat) hC47 (by omega)
                                have hy47 : y130.length = (a2 : Int).toNat := (by rw [Ny130.out, List.length_take]; omega)
                                rw [← Ny130.out] at hr47
                                rw [← hy47] at hcut47
                                have HO134 := Aside0.mk (show Kd.V (Kd.int .i64) 3 _ w.heap.size _ (.slice (some ad128) y130.length c1) y130 from Kd.V_mk (by omega) hr47)
                                have HC134 := Aside0.mk (show y130.length ≤ c1 from by omega)
                                clear hr47 hC47 hroom47 hi047 hsz47
                                have KY47 := Aside0.mk hy47
                                clear hy47
                                replace q47 := eq_true q47
                                have p135 : 0 ≤ (a3 : Int) := of_decide_eq_true (by first | (with_reducible assumption) | assumption)
                                have q135 : a3 < (l0_3.length : Int) := of_decide_eq_true (by first | (with_reducible assumption) | assumption)
                                obtain ⟨ad135, A135_1, c135_1, e135, hx135_0, hx135_1, hl135_1, hi135_1⟩ := at_T38 (Kd.V_reads' HO_126003.out).2.2 a3 p135 q135
                                obtain rfl : ad129 = ad135 := (by injection e135)
                                obtain ⟨ce135, hce135, hMe135, hcc135⟩ := Kd.V_get HO_126003.out z38 a3 p135 (by first | exact q135 | exact of_decide_eq_true (by first | (with_reducible assumption) | assumption) | (have e_ := (Kd.V_reads' HO_126003.out).1; omega))
                                obtain ⟨ua135_1, uc135_1, rfl, ul135_1, ge135_1⟩ := k38_openF hMe135
                                have hv135_1 := hcc135 1 _ rfl
                                rw [add_field _ _ 1 (by omega)] at hv135_1
                                replace hv135_1 := Option.some.inj (hv135_1.symm.trans hx135_1)
                                injection hv135_1 with hva_ hvn_ hvc_
                                rw [hva_] at ge135_1
                                rw [hvc_] at ul135_1
                                have HL135_1 := Aside0.mk (show Kd.V (Kd.int .i64) 3 _ w.heap.size _ _ ((rd_T38 l0_3 a3).f1) from Kd.V_mk ul135_1 ge135_1)
                                clear hva_ hvn_ hvc_ ge135_1 ul135_1
                                clear hcc135 hce135
                                have HR135_1 := Aside0.mk hi135_1
                                have HC135_1 := Aside0.mk hl135_1
                                clear hi135_1 hl135_1
                                replace p135 := eq_true p135
                                replace q135 := eq_true q135
                                have q48 : ((ji31) : Int) ≤ ((l1.length : Int) : Int) := of_decide_eq_true (by first | (with_reducible assumption) | assumption)
                                obtain ⟨i048, hi048, _, hsz48, _⟩ := info_parts info3
                                have hroom48 : l1.length ≤ c1 := (Kd.V_reads' HO_1.out).2.1
                                have hC48 : Kd.F (Kd.int .i64) _ _ (some ad128) l1.length l1 := (Kd.V_at (base := w.heap.size) HO_1.out).2.2
                                have q048 : (0 : Int) ≤ ((ji31) : Int) := of_decide_eq_true (by first | (with_reducible assumption) | assumption)
                                have hcut48 := cut_from (P := Try.prog) 33 3 .i64 Try.underlying33 hi048 1 hsz48 (some ad128) l1.length c1 (ji31) q048 q48
                                have hr48 := Kd.F_cut (m := ((ji31) : Int).toNat) (c := c1) hC48 (by omega) hroom48
                                obtain ⟨A48, hA48⟩ : ∃ Aq_, Aq_ = (if c1 = ((ji31) : Int).toNat then (some ad128) else ((some ad128) : Option Addr).map (·.add (((ji31) : Int).toNat * 1))) := ⟨_, rfl⟩
                                obtain ⟨c48, hc48⟩ : ∃ cq_, cq_ = c1 - ((ji31) : Int).toNat := ⟨_, rfl⟩
                                have hy48 : y136.length = l1.length - ((ji31) : Int).toNat := (by rw [Ny136.out, List.length_drop] <;> omega)
                                rw [show (l1).drop ((ji31) : Int).toNat = y136 from Ny136.out.symm] at hr48
                                replace hr48 : Kd.F (Kd.int .i64) _ _ A48 y136.length y136 := (by rw [hA48]; exact hr48)
                                rw [← hy48, ← hA48, ← hc48] at hcut48
                                have HO140 := Aside0.mk (show Kd.V (Kd.int .i64) 3 _ w.heap.size _ (.slice A48 y136.length c48) y136 from Kd.V_mk (by rw [hy48, hc48]; exact Nat.sub_le_sub_right hroom48 _) hr48)
                                have HC140 := Aside0.mk (show y136.length ≤ c48 from by rw [hy48, hc48]; exact Nat.sub_le_sub_right hroom48 _)
                                clear hr48 hC48 hroom48 hi048 hsz48 hc48
                                have KY48 := Aside0.mk hy48
                                have KA48 := Aside0.mk hA48
                                clear hy48 hA48
                                replace q48 := eq_true q48
                                refine start_ (n := 16) (S := fun w' => w'.cell? ⟨gb125, 0, none⟩ = some (.int .i64 a0_0) ∧ w'.cell? ⟨gb125, 1, none⟩ = some (.int .i64 a0_1) ∧ w'.cell? ⟨gb125, 2, none⟩ = some (.int .i64 a0_2) ∧ w'.cell? ⟨gb125, 3, none⟩ = some (.slice (some ad129) l0_3.length c0_3) ∧ w'.cell? (ad129.add ((a3).toNat * 2)) = some (.int .i64 ((rd_T38 l0_3 a3).f0)) ∧ w'.cell? ⟨(ad129.add ((a3).toNat * 2)).block, (ad129.add ((a3).toNat * 2)).off + 1, none⟩ = some (.slice A135_1 ((rd_T38 l0_3 a3).f1).length c135_1)) (ds := []) #[false, false, false, false, false, false, false, false, false, false, false, false, false, false, false, false] (by kernel_rfl) rfl rfl ⟨(blk_cell BK125.out 0).trans rfl, (blk_cell BK125.out 1).trans rfl, (blk_cell BK125.out 2).trans rfl, (blk_cell BK125.out 3).trans rfl, hx135_0, hx135_1⟩ (fun hHeld => ?_); refine with_tabW grammar_Step.tab12 grammar_Step.bits12 (fun HT_ HW_ => ?_)
                                generalize w45.drew = w46 at HO_1 HO_126003 HL129_1 BK125 HR129_1 HB HL135_1 HO134 HO140 HR135_1 hx135_0 hx135_1 hHeld ⊢
                                refine pure_ (i := 0) (N := some 61) (v := ?_) (a' := ?_) #[true, false, false, false, false, false, false, false, false, false, false, false, false, false, false, false] rfl rfl (any_of HT_.out (by kernel_rfl)) (fun _ _ _ h => h) (Or.inl ⟨by rfl, ?_⟩) ?_ ?_
                                rotate_left
                                · intro w'
                                  go_simp
                                  with_reducible rfl
                                rotate_left
                                · simp only [Act.put, List.setIfInBounds_toArray, List.set_cons_zero, List.set_cons_succ, i64_w, i32_w]
                                  rfl
                                refine pure_ (i := 1) (N := some 62) (v := ?_) (a' := ?_) #[true, true, false, false, false, false, false, false, false, false, false, false, false, false, false, false] rfl rfl (any_of HT_.out (by kernel_rfl)) (fun _ _ _ h => h) (Or.inl ⟨by rfl, ?_⟩) ?_ ?_
                                rotate_left
                                · intro w'
                                  go_simp
                                  with_reducible rfl
                                rotate_left
                                · simp only [Act.put, List.setIfInBounds_toArray, List.set_cons_zero, List.set_cons_succ, i64_w, i32_w]
                                  rfl
                                refine pure_ (i := 2) (N := some 63) (v := ?_) (a' := ?_) #[true, true, true, false, false, false, false, false, false, false, false, false, false, false, false, false] rfl rfl (any_of HT_.out (by kernel_rfl)) (fun _ _ _ h => h) (Or.inl ⟨by rfl, ?_⟩) ?_ ?_
                                rotate_left
                                · intro w'
                                  go_simp
                                  with_reducible rfl
                                rotate_left
                                · simp only [Act.put, List.setIfInBounds_toArray, List.set_cons_zero, List.set_cons_succ, i64_w, i32_w]
                                  rfl
                                refine pure_ (i := 3) (N := some 64) (v := ?_) (a' := ?_) #[true, true, true, true, false, false, false, false, false, false, false, false, false, false, false, false] rfl rfl (any_of HT_.out (by kernel_rfl)) (fun _ _ _ h => h) (Or.inl ⟨by rfl, ?_⟩) ?_ ?_
                                rotate_left
                                · intro w'
                                  go_simp
                                  with_reducible rfl
                                rotate_left
                                · simp only [Act.put, List.setIfInBounds_toArray, List.set_cons_zero, List.set_cons_succ, i64_w, i32_w]
                                  rfl
                                refine pure_ (i := 5) (N := some 66) (v := ?_) (a' := ?_) #[true, true, true, true, false, true, false, false, false, false, false, false, false, false, false, false] rfl rfl (any_of HT_.out (by kernel_rfl)) (fun _ _ _ h => h) (Or.inl ⟨by rfl, ?_⟩) ?_ ?_
                                rotate_left
                                · intro w'
                                  go_simp
                                  with_reducible rfl
                                rotate_left
                                · simp only [Act.put, List.setIfInBounds_toArray, List.set_cons_zero, List.set_cons_succ, i64_w, i32_w]
                                  rfl
                                refine pure_ (i := 9) (N := some 70) (v := ?_) (a' := ?_) #[true, true, true, true, false, true, false, false, false, true, false, false, false, false, false, false] rfl rfl (any_of HT_.out (by kernel_rfl)) (fun _ _ _ h => h) (Or.inl ⟨by rfl, ?_⟩) ?_ ?_
                                rotate_left
                                · intro w'
                                  go_simp
                                  with_reducible rfl
                                rotate_left
                                · simp only [Act.put, List.setIfInBounds_toArray, List.set_cons_zero, List.set_cons_succ, i64_w, i32_w]
                                  rfl
                                refine pure_ (i := 10) (N := some 71) (v := ?_) (a' := ?_) #[true, true, true, true, false, true, false, false, false, true, true, false, false, false, false, false] rfl rfl (any_of HT_.out (by kernel_rfl)) (fun _ _ _ h => h) (Or.inl ⟨by rfl, ?_⟩) ?_ ?_
                                rotate_left
                                · intro w'
                                  go_simp
                                  with_reducible rfl
                                rotate_left
                                · simp only [Act.put, List.setIfInBounds_toArray, List.set_cons_zero, List.set_cons_succ, i64_w, i32_w]
                                  rfl
                                refine pure_ (i := 11) (N := some 72) (v := ?_) (a' := ?_) #[true, true, true, true, false, true, false, false, false, true, true, true, false, false, false, false] rfl rfl (any_of HT_.out (by kernel_rfl)) (fun _ _ _ h => h) (Or.inl ⟨by rfl, ?_⟩) ?_ ?_
                                rotate_left
                                · intro w'
                                  go_simp
                                  with_reducible rfl
                                rotate_left
                                · simp only [Act.put, List.setIfInBounds_toArray, List.set_cons_zero, List.set_cons_succ, i64_w, i32_w]
                                  rfl
                                refine pure_ (i := 12) (N := some 73) (v := ?_) (a' := ?_) #[true, true, true, true, false, true, false, false, false, true, true, true, true, false, false, false] rfl rfl (any_of HT_.out (by kernel_rfl)) (fun _ _ _ h => h) (Or.inl ⟨by rfl, ?_⟩) ?_ ?_
                                rotate_left
                                · intro w'
                                  go_simp
                                  with_reducible rfl
                                rotate_left
                                · simp only [Act.put, List.setIfInBounds_toArray, List.set_cons_zero, List.set_cons_succ, i64_w, i32_w]
                                  rfl
                                refine take_ (i := 4) (N := some 65) (v := ?_) (a' := ?_) #[true, true, true, true, true, true, false, false, false, true, true, true, true, false, false, false] rfl rfl (take_ofW HT_.out HW_.out (by kernel_rfl)) (fun _ _ _ h => h) (Or.inl ⟨by rfl, ?_⟩) hHeld ?_ ?_
                                rotate_left
                                · rintro w' ⟨s0, s1, s2, s3, s4, s5⟩
                                  go_simp
                                  with_reducible rfl
                                rotate_left
                                · simp only [Act.put, List.setIfInBounds_toArray, List.set_cons_zero, List.set_cons_succ, i64_w, i32_w]
                                  rfl
                                refine pure_ (i := 6) (N := some 67) (v := ?_) (a' := ?_) #[true, true, true, true, true, true, true, false, false, true, true, true, true, false, false, false] rfl rfl (any_of HT_.out (by kernel_rfl)) (fun _ _ _ h => h) (Or.inl ⟨by rfl, ?_⟩) ?_ ?_
                                rotate_left
                                · intro w'
                                  go_simp
                                  with_reducible rfl
                                rotate_left
                                · simp only [Act.put, List.setIfInBounds_toArray, List.set_cons_zero, List.set_cons_succ, i64_w, i32_w]
                                  rfl
                                refine pure_ (i := 7) (N := some 68) (v := ?_) (a' := ?_) #[true, true, true, true, true, true, true, true, false, true, true, true, true, false, false, false] rfl rfl (any_of HT_.out (by kernel_rfl)) (fun _ _ _ h => h) (Or.inl ⟨by rfl, ?_⟩) ?_ ?_
                                rotate_left
                                · intro w'
                                  go_simp
                                  with_reducible rfl
                                rotate_left
                                · simp only [Act.put, List.setIfInBounds_toArray, List.set_cons_zero, List.set_cons_succ, i64_w, i32_w]
                                  rfl
                                refine take_ (i := 8) (N := some 69) (v := ?_) (a' := ?_) #[true, true, true, true, true, true, true, true, true, true, true, true, true, false, false, false] rfl rfl (take_ofW HT_.out HW_.out (by kernel_rfl)) (fun _ _ _ h => h) (Or.inl ⟨by rfl, ?_⟩) hHeld ?_ ?_
                                rotate_left
                                · rintro w' ⟨s0, s1, s2, s3, s4, s5⟩
                                  go_simp
                                  with_reducible rfl
                                rotate_left
                                · simp only [Act.put, List.setIfInBounds_toArray, List.set_cons_zero, List.set_cons_succ, i64_w, i32_w]
                                  rfl
                                refine one_ (i := 13) (N := some 74) #[true, true, true, true, true, true, true, true, true, true, true, true, true, true, false, false] rfl rfl (one_of HT_.out (by kernel_rfl)) (by decide) (fun K hK => ?_)
                                refine Kd.N_lit_step (Kd.slice 3 (Kd.int .i64)) _ 33 ?hg (N' := 74) ?hd (xs := ([y130, (rd_T38 l0_3 a3).f1, y136] : List (List Int))) (inner := [.slice (some ad128) y130.length c1, .slice A135_1 ((rd_T38 l0_3 a3).f1).length c135_1, .slice A48 y136.length c48]) (ok := (fun k_ => ((P0_3_ k_ ∨ P1_ k_) ∨ w.heap.size ≤ k_) ∧ k_ ≠ gb125)) (okp := (fun k_ => ((P0_3_ k_ ∨ P1_ k_) ∨ w.heap.size ≤ k_) ∧ k_ ≠ gb125)) ?hr ?hp (fun _ hk => hk) ((show ∀ k_, w46.heap.size ≤ k_ → (fun k_ => ((P0_3_ k_ ∨ P1_ k_) ∨ w.heap.size ≤ k_) ∧ k_ ≠ gb125) k_ from fun k_ hk => ⟨(.inr (Nat.le_trans (below_size (by repeat (first | (with_reducible first | exact HB.out | apply below_alloc | apply pw_below_drewN | apply below_drew1 | refine below_set ?_ GE125.out) | exact HB.out))) hk)), Kd.freshB (g := gb125) (o := .cells #[.int .i64 a0_0, .int .i64 a0_1, .int .i64 a0_2, .slice (some ad129) l0_3.length c0_3] 24 (0, 0)) (by (with_reducible repeat (first | refine blk_drewN ?_ _ | refine blk_drew ?_ | refine blk_alloc ?_ _)); exact BK125.out) k_ hk⟩) _ (Nat.le_refl _)) (Below.refl _ _) (Nat.le_refl _) (by simp) ?_; (case hd => rfl); (case hg => rfl); (case hr => first | (go_simp; done) | (go_simp; rfl)); (case hp => exact (Reps.one (show Kd.FK (Kd.slice 3 (Kd.int .i64)) _ _ y130 [.slice (some ad128) y130.length c1] from (Kd.FK_slice_mk (Kd.V_reads' (Kd.V_mono (ok' := (fun k_ => ((P0_3_ k_ ∨ P1_ k_) ∨ w.heap.size ≤ k_) ∧ k_ ≠ gb125)) (HO134.out) (fun k_ hk => ⟨hk.1, hk.2⟩))).2.1 (Kd.V_F (Kd.V_mono (ok' := (fun k_ => ((P0_3_ k_ ∨ P1_ k_) ∨ w.heap.size ≤ k_) ∧ k_ ≠ gb125)) (HO134.out) (fun k_ hk => ⟨hk.1, hk.2⟩))))) (Reps.one (show Kd.FK (Kd.slice 3 (Kd.int .i64)) _ _ ((rd_T38 l0_3 a3).f1) [.slice A135_1 ((rd_T38 l0_3 a3).f1).length c135_1] from (Kd.FK_slice_mk (Kd.V_reads' (Kd.V_mono (ok' := (fun k_ => ((P0_3_ k_ ∨ P1_ k_) ∨ w.heap.size ≤ k_) ∧ k_ ≠ gb125)) (HL135_1.out) (fun k_ hk => ⟨hk.1, hk.2⟩))).2.1 (Kd.V_F (Kd.V_mono (ok' := (fun k_ => ((P0_3_ k_ ∨ P1_ k_) ∨ w.heap.size ≤ k_) ∧ k_ ≠ gb125)) (HL135_1.out) (fun k_ hk => ⟨hk.1, hk.2⟩))))) (Reps.one (show Kd.FK (Kd.slice 3 (Kd.int .i64)) _ _ y136 [.slice A48 y136.length c48] from (Kd.FK_slice_mk (Kd.V_reads' (Kd.V_mono (ok' := (fun k_ => ((P0_3_ k_ ∨ P1_ k_) ∨ w.heap.size ≤ k_) ∧ k_ ≠ gb125)) (HO140.out) (fun k_ hk => ⟨hk.1, hk.2⟩))).2.1 (Kd.V_F (Kd.V_mono (ok' := (fun k_ => ((P0_3_ k_ ∨ P1_ k_) ∨ w.heap.size ≤ k_) ∧ k_ ≠ gb125)) (HO140.out) (fun k_ hk => ⟨hk.1, hk.2⟩))))) (Reps.none _ _)))))
                                intro v142 w49 ho50 hb hg_ hnew_
                                have HS4_ := (hb.cell (World.block_lt_of_cell? _ _ (hHeld.2.2.2.2.1))).trans (hHeld.2.2.2.2.1)
                                have HS5_ := (hb.cell (World.block_lt_of_cell? _ _ (hHeld.2.2.2.2.2))).trans (hHeld.2.2.2.2.2)
                                clear hg_ hnew_
                                (first | rw [← Ny141.out] at ho50 | (simp only [Int.reduceToNat] at ho50; rw [← Ny141.out] at ho50))
                                have n0_ := Aside0.mk (Kd.V_elder' (by (with_reducible repeat (first | apply Kd.V_alloc | apply Kd.V_drewN | apply Kd.V_drew)); exact HO_1.out) (Kd.N_base ho50) hb)
                                have n1_ := Aside0.mk (Kd.V_elder' (by (with_reducible repeat (first | apply Kd.V_alloc | apply Kd.V_drewN | apply Kd.V_drew)); exact HO_126003.out) (Kd.N_base ho50) hb)
                                have n2_ := Aside0.mk (Kd.V_elder' (by (with_reducible repeat (first | apply Kd.V_alloc | apply Kd.V_drewN | apply Kd.V_drew)); exact HL129_1.out) (Kd.N_base ho50) hb)
                                have n3_ := Aside0.mk (Kd.V_elder' (by (with_reducible repeat (first | apply Kd.V_alloc | apply Kd.V_drewN | apply Kd.V_drew)); exact HO134.out) (Kd.N_base ho50) hb)
                                have n4_ := Aside0.mk (Kd.V_elder' (by (with_reducible repeat (first | apply Kd.V_alloc | apply Kd.V_drewN | apply Kd.V_drew)); exact HL135_1.out) (Kd.N_base ho50) hb)
                                have n5_ := Aside0.mk (Kd.V_elder' (by (with_reducible repeat (first | apply Kd.V_alloc | apply Kd.V_drewN | apply Kd.V_drew)); exact HO140.out) (Kd.N_base ho50) hb)
                                have n6_ := Aside0.mk (Kd.N_lower ho50 (below_size (by repeat (first | (with_reducible first | exact HB.out | apply below_alloc | apply pw_below_drewN | apply below_drew1 | refine below_set ?_ GE125.out) | exact HB.out))))
                                have n7_ := Aside0.mk (blk_below (g := gb125) (o := .cells #[.int .i64 a0_0, .int .i64 a0_1, .int .i64 a0_2, .slice (some ad129) l0_3.length c0_3] 24 (0, 0)) (by (with_reducible repeat (first | refine blk_drewN ?_ _ | refine blk_drew ?_ | refine blk_alloc ?_ _)); exact BK125.out) hb)
                                have n8_ := Aside0.mk (Kd.C_below (by repeat (first | (with_reducible exact HR129_1.out) | (with_reducible refine Kd.C_alloc ?_ _) | (with_reducible refine Kd.C_drewN ?_ _) | (with_reducible refine Kd.C_drew ?_) | exact HR129_1.out)) hb)
                                have n9_ := Aside0.mk (Kd.C_below (by repeat (first | (with_reducible exact HR135_1.out) | (with_reducible refine Kd.C_alloc ?_ _) | (with_reducible refine Kd.C_drewN ?_ _) | (with_reducible refine Kd.C_drew ?_) | exact HR135_1.out)) hb)
                                have n10_ := Aside0.mk (below_step (by repeat (first | (with_reducible first | exact HB.out | apply below_alloc | apply pw_below_drewN | apply below_drew1 | refine below_set ?_ GE125.out) | exact HB.out)) hb)
                                clear HO_1
                                clear HO_126003
                                clear HL129_1
                                clear HO134
                                clear HL135_1
                                clear HO140
                                clear BK125
                                clear HR129_1
                                clear HR135_1
                                clear HB
                                have HO_1 := n0_
                                have HO_126003 := n1_
                                have HL129_1 := n2_
                                have HO134 := n3_
                                have HL135_1 := n4_
                                have HO140 := n5_
                                have HO143 := n6_
                                have BK125 := n7_
                                have HR129_1 := n8_
                                have HR135_1 := n9_
                                have HB := n10_
                                clear n0_ n1_ n2_ n3_ n4_ n5_ n6_ n7_ n8_ n9_ n10_
                                clear hb ho50
                                obtain ⟨Ao51, co51, eo51⟩ := Kd.N_slice HO143.out
                                (first | subst eo51 | (injection eo51 with f1_ f2_ f3_; have f4_ := f1_.symm; have f5_ := f3_.symm; clear f1_ f2_ f3_; subst f4_; subst f5_))
                                refine hK.out _ _ ⟨(blk_cell BK125.out 0).trans rfl, (blk_cell BK125.out 1).trans rfl, (blk_cell BK125.out 2).trans rfl, (blk_cell BK125.out 3).trans rfl, HS4_, HS5_⟩ (fun hHeld => ?_)
                                clear hK K
                                refine norm_ (a' := ?_) ?_ ?_
                                rotate_left
                                · show Act.put _ (some 74) _ = _
                                  simp only [Act.put, List.setIfInBounds_toArray, List.set_cons_zero, List.set_cons_succ, i64_w, i32_w]
                                  rfl
                                refine one_ (i := 14) (N := some 75) #[true, true, true, true, true, true, true, true, true, true, true, true, true, true, true, false] rfl rfl (one_of HT_.out (by kernel_rfl)) (by decide) (fun K hK => ?_)
                                refine goes_ Try.func49 (by kernel_rfl) rfl #[.slice Ao51 y141.length co51] (by rfl) rfl rfl (by (try simp only [List.map_toArray, List.map_cons, List.map_nil]); first | done | rfl | (simp only [List.length_drop, List.length_take]; rfl)) ?_
                                with_reducible refine (slices_Concat_Sint_int.calls kj12 _ _ y141 t144 _ ?side1 ?side2 A34.out).mono ?_
                                (case side1 => repeat (first | exact (Kd.N_reads' HO143.out).2.2 | (with_reducible refine Kd.C_alloc ?_ _) | (with_reducible refine Kd.C_drewN ?_ _) | (with_reducible refine Kd.C_drew ?_)))
                                (case side2 => exact (Kd.N_reads' HO143.out).2.1)
                                rintro e w52 ⟨v145, rfl, ho0, hb⟩
                                have HS4_ := (hb.cell (World.block_lt_of_cell? _ _ (hHeld.2.2.2.2.1))).trans (hHeld.2.2.2.2.1)
                                have HS5_ := (hb.cell (World.block_lt_of_cell? _ _ (hHeld.2.2.2.2.2))).trans (hHeld.2.2.2.2.2)
                                refine ⟨_, rfl, ?_⟩
                                have n0_ := Aside0.mk (Kd.V_elder' (by (with_reducible repeat (first | apply Kd.V_alloc | apply Kd.V_drewN | apply Kd.V_drew)); exact HO_1.out) (Kd.R_base ho0) hb)
                                have n1_ := Aside0.mk (Kd.V_elder' (by (with_reducible repeat (first | apply Kd.V_alloc | apply Kd.V_drewN | apply Kd.V_drew)); exact HO_126003.out) (Kd.R_base ho0) hb)
                                have n2_ := Aside0.mk (Kd.V_elder' (by (with_reducible repeat (first | apply Kd.V_alloc | apply Kd.V_drewN | apply Kd.V_drew)); exact HL129_1.out) (Kd.R_base ho0) hb)
                                have n3_ := Aside0.mk (Kd.V_elder' (by (with_reducible repeat (first | apply Kd.V_alloc | apply Kd.V_drewN | apply Kd.V_drew)); exact HO134.out) (Kd.R_base ho0) hb)
                                have n4_ := Aside0.mk (Kd.V_elder' (by (with_reducible repeat (first | apply Kd.V_alloc | apply Kd.V_drewN | apply Kd.V_drew)); exact HL135_1.out) (Kd.R_base ho0) hb)
                                have n5_ := Aside0.mk (Kd.V_elder' (by (with_reducible repeat (first | apply Kd.V_alloc | apply Kd.V_drewN | apply Kd.V_drew)); exact HO140.out) (Kd.R_base ho0) hb)
                                have n6_ := Aside0.mk (Kd.N_elder' (by (with_reducible repeat (first | apply Kd.N_alloc | apply Kd.N_drewN | apply Kd.N_drew)); exact HO143.out) (Kd.R_base ho0) hb)
                                have n7_ := Aside0.mk (Kd.R_lower (Kd.R_newM (M := fun k_ => (w.heap.size ≤ k_)) ho0 (below_size (by repeat (first | (with_reducible first | exact HB.out | apply below_alloc | apply pw_below_drewN | apply below_drew1 | refine below_set ?_ GE125.out) | exact HB.out))) (fun k_ h_ => h_)) (below_size (by repeat (first | (with_reducible first | exact HB.out | apply below_alloc | apply pw_below_drewN | apply below_drew1 | refine below_set ?_ GE125.out) | exact HB.out))))
                                have n8_ := Aside0.mk (blk_below (g := gb125) (o := .cells #[.int .i64 a0_0, .int .i64 a0_1, .int .i64 a0_2, .slice (some ad129) l0_3.length c0_3] 24 (0, 0)) (by (with_reducible repeat (first | refine blk_drewN ?_ _ | refine blk_drew ?_ | refine blk_alloc ?_ _)); exact BK125.out) hb)
                                have n9_ := Aside0.mk (Kd.C_below (by repeat (first | (with_reducible exact HR129_1.out) | (with_reducible refine Kd.C_alloc ?_ _) | (with_reducible refine Kd.C_drewN ?_ _) | (with_reducible refine Kd.C_drew ?_) | exact HR129_1.out)) hb)
                                have n10_ := Aside0.mk (Kd.C_below (by repeat (first | (with_reducible exact HR135_1.out) | (with_reducible refine Kd.C_alloc ?_ _) | (with_reducible refine Kd.C_drewN ?_ _) | (with_reducible refine Kd.C_drew ?_) | exact HR135_1.out)) hb)
                                have n11_ := Aside0.mk (below_step (by repeat (first | (with_reducible first | exact HB.out | apply below_alloc | apply pw_below_drewN | apply below_drew1 | refine below_set ?_ GE125.out) | exact HB.out)) hb)
                                clear HO_1
                                clear HO_126003
                                clear HL129_1
                                clear HO134
                                clear HL135_1
                                clear HO140
                                clear HO143
                                clear BK125
                                clear HR129_1
                                clear HR135_1
                                clear HB
                                have HO_1 := n0_
                                have HO_126003 := n1_
                                have HL129_1 := n2_
                                have HO134 := n3_
                                have HL135_1 := n4_
                                have HO140 := n5_
                                have HO143 := n6_
                                have HO146 := n7_
                                have BK125 := n8_
                                have HR129_1 := n9_
                                have HR135_1 := n10_
                                have HB := n11_
                                clear n0_ n1_ n2_ n3_ n4_ n5_ n6_ n7_ n8_ n9_ n10_ n11_
                                (try clear hb)
                                (try clear hb2)
                                (try clear hk)
                                (try clear hi)
                                (try clear ho0)
                                refine hK.out _ _ ⟨(blk_cell BK125.out 0).trans rfl, (blk_cell BK125.out 1).trans rfl, (blk_cell BK125.out 2).trans rfl, (blk_cell BK125.out 3).trans rfl, HS4_, HS5_⟩ (fun hHeld => ?_)
                                clear hK K
                                refine norm_ (a' := ?_) ?_ ?_
                                rotate_left
                                · show Act.put _ (some 75) _ = _
                                  simp only [Act.put, List.setIfInBounds_toArray, List.set_cons_zero, List.set_cons_succ, i64_w, i32_w]
                                  rfl
                                refine pure_ (i := 15) (N := some 11) (v := ?_) (a' := ?_) #[true, true, true, true, true, true, true, true, true, true, true, true, true, true, true, true] rfl rfl (any_of HT_.out (by kernel_rfl)) (fun _ _ _ h => h) (Or.inl ⟨by rfl, ?_⟩) ?_ ?_
                                rotate_left
                                · intro w'
                                  go_simp
                                  with_reducible rfl
                                rotate_left
                                · simp only [Act.put, List.setIfInBounds_toArray, List.set_cons_zero, List.set_cons_succ, i64_w, i32_w]
                                  rfl
                                refine done_ (done_of HT_.out (by kernel_rfl)) ?_
                                obtain ⟨Ao53, co53, eo53⟩ := Kd.R_slice HO146.out
                                subst eo53
                                try go_wp2
                                go_ret2
                                exact ⟨_, by first | rfl | (simp [errW_none, errW_some] <;> rfl) | (simp only [← hji31]; first | rfl | (simp [errW_none, errW_some] <;> rfl)) | (simp [*, errW_none, errW_some] <;> rfl), by (with_reducible repeat (first | apply Kd.R_alloc | apply Kd.R_drewN | apply Kd.R_drew)); exact Kd.R_mono HO146.out (fun _ hk => hk.1), by repeat (first | (with_reducible first | exact HB.out | apply below_alloc | apply pw_below_drewN | apply below_drew1 | refine below_set ?_ GE125.out) | exact HB.out)⟩
                            · rw [if_neg c33] at H
                              exact absurd H (by simp)
                          · rw [if_neg c32] at H
                            exact absurd H (by simp)
                        · rw [if_neg c30] at H
                          exact absurd H (by simp)
                      · rw [if_neg c28] at H
                        have c28b0 : ((rd l1 a2) == (wrap64 (a0_0 + ((rd_T38 l0_3 a3).f0)))) = false := beq_eq_false_iff_ne.mpr c28
                        have c28b1 : ((rd l1 a2) != (wrap64 (a0_0 + ((rd_T38 l0_3 a3).f0)))) = true := bne_iff_ne.mpr c28
                        simp only [Option.some.injEq, Prod.mk.injEq] at H
                        obtain ⟨rfl, rfl⟩ := H
                        try go_wp2
                        have n0_ := Aside0.mk (Kd.V_drew HO_1.out)
                        have n1_ := Aside0.mk (Kd.V_drew HO_126003.out)
                        have n2_ := Aside0.mk (blk_drew BK125.out)
                        have n3_ := Aside0.mk (below_drew1 HB.out)
                        clear HO_1
                        clear HO_126003
                        clear BK125
                        clear HB
                        have HO_1 := n0_
                        have HO_126003 := n1_
                        have BK125 := n2_
                        have HB := n3_
                        clear n0_ n1_ n2_ n3_
                        have p128 : 0 ≤ (a2 : Int) := of_decide_eq_true (by first | (with_reducible assumption) | assumption)
                        have q128 : a2 < (l1.length : Int) := of_decide_eq_true (by first | (with_reducible assumption) | assumption)
                        obtain ⟨ad128, e128, hx128_0⟩ := Kd.at_int (Kd.V_reads' HO_1.out).2.2 a2 p128 q128
                        cases e128
                        replace p128 := eq_true p128
                        replace q128 := eq_true q128
                        have p129 : 0 ≤ (a3 : Int) := of_decide_eq_true (by first | (with_reducible assumption) | assumption)
                        have q129 : a3 < (l0_3.length : Int) := of_decide_eq_true (by first | (with_reducible assumption) | assumption)
                        obtain ⟨ad129, A129_1, c129_1, e129, hx129_0, hx129_1, hl129_1, hi129_1⟩ := at_T38 (Kd.V_reads' HO_126003.out).2.2 a3 p129 q129
                        cases e129
                        obtain ⟨ce129, hce129, hMe129, hcc129⟩ := Kd.V_get HO_126003.out z38 a3 p129 (by first | exact q129 | exact of_decide_eq_true (by first | (with_reducible assumption) | assumption) | (have e_ := (Kd.V_reads' HO_126003.out).1; omega))
                        obtain ⟨ua129_1, uc129_1, rfl, ul129_1, ge129_1⟩ := k38_openF hMe129
                        have hv129_1 := hcc129 1 _ rfl
                        rw [add_field _ _ 1 (by omega)] at hv129_1
                        replace hv129_1 := Option.some.inj (hv129_1.symm.trans hx129_1)
                        injection hv129_1 with hva_ hvn_ hvc_
                        rw [hva_] at ge129_1
                        rw [hvc_] at ul129_1
                        have HL129_1 := Aside0.mk (show Kd.V (Kd.int .i64) 3 _ w.heap.size _ _ ((rd_T38 l0_3 a3).f1) from Kd.V_mk ul129_1 ge129_1)
                        clear hva_ hvn_ hvc_ ge129_1 ul129_1
                        clear hcc129 hce129
                        have HR129_1 := Aside0.mk hi129_1
                        have HC129_1 := Aside0.mk hl129_1
                        clear hi129_1 hl129_1
                        replace p129 := eq_true p129
                        replace q129 := eq_true q129
                        refine start_ (n := 15) (S := fun w' => w'.cell? ⟨gb125, 0, none⟩ = some (.int .i64 a0_0) ∧ w'.cell? ⟨gb125, 1, none⟩ = some (.int .i64 a0_1) ∧ w'.cell? ⟨gb125, 2, none⟩ = some (.int .i64 a0_2) ∧ w'.cell? ⟨gb125, 3, none⟩ = some (.slice (some ad129) l0_3.length c0_3) ∧ w'.cell? (ad128.add (a2).toNat) = some (.int .i64 (rd l1 a2)) ∧ w'.cell? (ad129.add ((a3).toNat * 2)) = some (.int .i64 ((rd_T38 l0_3 a3).f0)) ∧ w'.cell? ⟨(ad129.add ((a3).toNat * 2)).block, (ad129.add ((a3).toNat * 2)).off + 1, none⟩ = some (.slice A129_1 ((rd_T38 l0_3 a3).f1).length c129_1)) (ds := []) #[false, false, false, false, false, false, false, false, false, false, false, false, false, false, false] (by kernel_rfl) rfl rfl ⟨(blk_cell BK125.out 0).trans rfl, (blk_cell BK125.out 1).trans rfl, (blk_cell BK125.out 2).trans rfl, (blk_cell BK125.out 3).trans rfl, hx128_0, hx129_0, hx129_1⟩ (fun hHeld => ?_); refine with_tabW grammar_Step.tab10 grammar_Step.bits10 (fun HT_ HW_ => ?_)
                        generalize wc.drew = w54 at HO_1 HO_126003 BK125 HB HL129_1 HR129_1 hx128_0 hx129_0 hx129_1 hHeld ⊢
                        refine pure_ (i := 0) (N := some 47) (v := ?_) (a' := ?_) #[true, false, false, false, false, false, false, false, false, false, false, false, false, false, false] rfl rfl (any_of HT_.out (by kernel_rfl)) (fun _ _ _ h => h) (Or.inl ⟨by rfl, ?_⟩) ?_ ?_
                        rotate_left
                        · intro w'
                          go_simp
                          with_reducible rfl
                        rotate_left
                        · simp only [Act.put, List.setIfInBounds_toArray, List.set_cons_zero, List.set_cons_succ, i64_w, i32_w]
                          rfl
                        refine pure_ (i := 1) (N := some 48) (v := ?_) (a' := ?_) #[true, true, false, false, false, false, false, false, false, false, false, false, false, false, false] rfl rfl (any_of HT_.out (by kernel_rfl)) (fun _ _ _ h => h) (Or.inl ⟨by rfl, ?_⟩) ?_ ?_
                        rotate_left
                        · intro w'
                          go_simp
                          with_reducible rfl
                        rotate_left
                        · simp only [Act.put, List.setIfInBounds_toArray, List.set_cons_zero, List.set_cons_succ, i64_w, i32_w]
                          rfl
                        refine pure_ (i := 2) (N := some 49) (v := ?_) (a' := ?_) #[true, true, true, false, false, false, false, false, false, false, false, false, false, false, false] rfl rfl (any_of HT_.out (by kernel_rfl)) (fun _ _ _ h => h) (Or.inl ⟨by rfl, ?_⟩) ?_ ?_
                        rotate_left
                        · intro w'
                          go_simp
                          with_reducible rfl
                        rotate_left
                        · simp only [Act.put, List.setIfInBounds_toArray, List.set_cons_zero, List.set_cons_succ, i64_w, i32_w]
                          rfl
                        refine pure_ (i := 4) (N := some 51) (v := ?_) (a' := ?_) #[true, true, true, false, true, false, false, false, false, false, false, false, false, false, false] rfl rfl (any_of HT_.out (by kernel_rfl)) (fun _ _ _ h => h) (Or.inl ⟨by rfl, ?_⟩) ?_ ?_
                        rotate_left
                        · intro w'
                          go_simp
                          with_reducible rfl
                        rotate_left
                        · simp only [Act.put, List.setIfInBounds_toArray, List.set_cons_zero, List.set_cons_succ, i64_w, i32_w]
                          rfl
                        refine pure_ (i := 6) (N := some 53) (v := ?_) (a' := ?_) #[true, true, true, false, true, false, true, false, false, false, false, false, false, false, false] rfl rfl (any_of HT_.out (by kernel_rfl)) (fun _ _ _ h => h) (Or.inl ⟨by rfl, ?_⟩) ?_ ?_
                        rotate_left
                        · intro w'
                          go_simp
                          with_reducible rfl
                        rotate_left
                        · simp only [Act.put, List.setIfInBounds_toArray, List.set_cons_zero, List.set_cons_succ, i64_w, i32_w]
                          rfl
                        refine pure_ (i := 8) (N := some 55) (v := ?_) (a' := ?_) #[true, true, true, false, true, false, true, false, true, false, false, false, false, false, false] rfl rfl (any_of HT_.out (by kernel_rfl)) (fun _ _ _ h => h) (Or.inl ⟨by rfl, ?_⟩) ?_ ?_
                        rotate_left
                        · intro w'
                          go_simp
                          with_reducible rfl
                        rotate_left
                        · simp only [Act.put, List.setIfInBounds_toArray, List.set_cons_zero, List.set_cons_succ, i64_w, i32_w]
                          rfl
                        refine take_ (i := 3) (N := some 50) (v := ?_) (a' := ?_) #[true, true, true, true, true, false, true, false, true, false, false, false, false, false, false] rfl rfl (take_ofW HT_.out HW_.out (by kernel_rfl)) (fun _ _ _ h => h) (Or.inl ⟨by rfl, ?_⟩) hHeld ?_ ?_
                        rotate_left
                        · rintro w' ⟨s0, s1, s2, s3, s4, s5, s6⟩
                          go_simp
                          with_reducible rfl
                        rotate_left
                        · simp only [Act.put, List.setIfInBounds_toArray, List.set_cons_zero, List.set_cons_succ, i64_w, i32_w]
                          rfl
                        refine take_ (i := 5) (N := some 52) (v := ?_) (a' := ?_) #[true, true, true, true, true, true, true, false, true, false, false, false, false, false, false] rfl rfl (take_ofW HT_.out HW_.out (by kernel_rfl)) (fun _ _ _ h => h) (Or.inl ⟨by rfl, ?_⟩) hHeld ?_ ?_
                        rotate_left
                        · rintro w' ⟨s0, s1, s2, s3, s4, s5, s6⟩
                          go_simp
                          with_reducible rfl
                        rotate_left
                        · simp only [Act.put, List.setIfInBounds_toArray, List.set_cons_zero, List.set_cons_succ, i64_w, i32_w]
                          rfl
                        refine take_ (i := 7) (N := some 54) (v := ?_) (a' := ?_) #[true, true, true, true, true, true, true, true, true, false, false, false, false, false, false] rfl rfl (take_ofW HT_.out HW_.out (by kernel_rfl)) (fun _ _ _ h => h) (Or.inl ⟨by rfl, ?_⟩) hHeld ?_ ?_
                        rotate_left
                        · rintro w' ⟨s0, s1, s2, s3, s4, s5, s6⟩
                          go_simp
                          with_reducible rfl
                        rotate_left
                        · simp only [Act.put, List.setIfInBounds_toArray, List.set_cons_zero, List.set_cons_succ, i64_w, i32_w]
                          rfl
                        refine pure_ (i := 9) (N := some 56) (v := ?_) (a' := ?_) #[true, true, true, true, true, true, true, true, true, true, false, false, false, false, false] rfl rfl (any_of HT_.out (by kernel_rfl)) (fun _ _ _ h => h) (Or.inl ⟨by rfl, ?_⟩) ?_ ?_
                        rotate_left
                        · intro w'
                          go_simp
                          with_reducible rfl
                        rotate_left
                        · simp only [Act.put, List.setIfInBounds_toArray, List.set_cons_zero, List.set_cons_succ, i64_w, i32_w]
                          rfl
                        refine pure_ (i := 10) (N := some 57) (v := ?_) (a' := ?_) #[true, true, true, true, true, true, true, true, true, true, true, false, false, false, false] rfl rfl (any_of HT_.out (by kernel_rfl)) (fun _ _ _ h => h) (Or.inl ⟨by rfl, ?_⟩) ?_ ?_
                        rotate_left
                        · intro w'
                          go_simp
                          with_reducible rfl
                        rotate_left
                        · simp only [Act.put, List.setIfInBounds_toArray, List.set_cons_zero, List.set_cons_succ, i64_w, i32_w]
                          rfl
                        refine take_ (i := 11) (N := some 58) (v := ?_) (a' := ?_) #[true, true, true, true, true, true, true, true, true, true, true, true, false, false, false] rfl rfl (take_ofW HT_.out HW_.out (by kernel_rfl)) (fun _ _ _ h => h) (Or.inl ⟨by rfl, ?_⟩) hHeld ?_ ?_
                        rotate_left
                        · rintro w' ⟨s0, s1, s2, s3, s4, s5, s6⟩
                          go_simp
                          with_reducible rfl
                        rotate_left
                        · simp only [Act.put, List.setIfInBounds_toArray, List.set_cons_zero, List.set_cons_succ, i64_w, i32_w]
                          rfl
                        refine pure_ (i := 12) (N := some 59) (v := ?_) (a' := ?_) #[true, true, true, true, true, true, true, true, true, true, true, true, true, false, false] rfl rfl (any_of HT_.out (by kernel_rfl)) (fun _ _ _ h => h) (Or.inl ⟨by rfl, ?_⟩) ?_ ?_
                        rotate_left
                        · intro w'
                          go_simp
                          with_reducible rfl
                        rotate_left
                        · simp only [Act.put, List.setIfInBounds_toArray, List.set_cons_zero, List.set_cons_succ, i64_w, i32_w]
                          rfl
                        refine pure_ (i := 13) (N := some 60) (v := ?_) (a' := ?_) #[true, true, true, true, true, true, true, true, true, true, true, true, true, true, false] rfl rfl (any_of HT_.out (by kernel_rfl)) (fun _ _ _ h => h) (Or.inl ⟨by rfl, ?_⟩) ?_ ?_
                        rotate_left
                        · intro w'
                          go_simp
                          with_reducible rfl
                        rotate_left
                        · simp only [Act.put, List.setIfInBounds_toArray, List.set_cons_zero, List.set_cons_succ, i64_w, i32_w]
                          rfl
                        refine pure_ (i := 14) (N := some 46) (v := ?_) (a' := ?_) #[true, true, true, true, true, true, true, true, true, true, true, true, true, true, true] rfl rfl (any_of HT_.out (by kernel_rfl)) (fun _ _ _ h => h) (Or.inl ⟨by rfl, ?_⟩) ?_ ?_
                        rotate_left
                        · intro w'
                          go_simp
                          with_reducible rfl
                        rotate_left
                        · simp only [Act.put, List.setIfInBounds_toArray, List.set_cons_zero, List.set_cons_succ, i64_w, i32_w]
                          rfl
                        refine done_ (done_of HT_.out (by kernel_rfl)) ?_
                        try go_wp2
                        go_ret2
                        exact ⟨_, by first | rfl | (simp [errW_none, errW_some] <;> rfl) | (simp [*, errW_none, errW_some] <;> rfl), by first | exact Kd.R_nil _ _ _ _ _ | exact Kd.N_nil _ _ _ _ _ | exact Kd.V_nil _ _ _ _ _ | exact Kd.Q_nil _ _ _ _ _ | exact Kd.S_nil _ _ _ _ _ | (go_simp; exact Kd.R_nil _ _ _ _ _), by repeat (first | (with_reducible first | exact HB.out | apply below_alloc | apply pw_below_drewN | apply below_drew1 | refine below_set ?_ GE125.out) | exact HB.out)⟩
                    · rw [if_neg c27] at H
                      exact absurd H (by simp)
                  · rw [if_neg c26] at H
                    exact absurd H (by simp)
                · rw [if_neg c25] at H
                  exact absurd H (by simp)
              · rw [if_neg c24] at H
                exact absurd H (by simp)
      · replace c12 := Bool.eq_false_iff.mpr c12
        subst c12
        have H1 : (some (([] : List Int), 2)) = some (r1, r2) := by rw [if_neg (show ¬ (false = true) by decide)] at H; exact H
        clear H
        have H := H1
        clear H1
        simp only [Option.some.injEq, Prod.mk.injEq] at H
        obtain ⟨rfl, rfl⟩ := H
        go_enter Try.func22, Try.ntmps22
        go_wp2_with (first | ((with_reducible refine gate_dst (N := 4) rfl ?_); (try (refine gate_guard (by rfl) ?_; dsimp only)); refine box_event ?hg (N := 4) ?hd (cs := #[.int .i64 a0_0, .int .i64 a0_1, .int .i64 a0_2, .slice A0_3 l0_3.length c0_3]) (t := 24) ?hr ?_; (case hd => rfl); (case hg => rfl); (case hr => first | (go_simp; done) | (go_simp; rfl)); intro gb125 hg w55 hbox hb; have n0_ := Aside0.mk (Kd.V_below (Kd.V_elderB (by (with_reducible repeat (first | apply Kd.V_alloc | apply Kd.V_drewN | apply Kd.V_drew)); exact HO0_3.out) gb125 (Nat.le_of_eq hg.symm)) hb); have n1_ := Aside0.mk (Kd.V_below (Kd.V_elderB (by (with_reducible repeat (first | apply Kd.V_alloc | apply Kd.V_drewN | apply Kd.V_drew)); exact HO1.out) gb125 (Nat.le_of_eq hg.symm)) hb); have n2_ := Aside0.mk (below_step (by repeat (first | (with_reducible first | exact HB.out | apply below_alloc | apply pw_below_drewN | apply below_drew1) | exact HB.out)) hb); have n3_ := Aside0.mk (hbox); have n4_ := Aside0.mk ((by rw [hg]; exact (below_size (by repeat (first | (with_reducible first | exact HB.out | apply below_alloc | apply pw_below_drewN | apply below_drew1) | exact HB.out))) : w.heap.size ≤ gb125)); have n5_ := Aside0.mk ((by rw [hg]; exact (below_size (by repeat (first | (with_reducible first | exact HB.out | apply below_alloc | apply pw_below_drewN | apply below_drew1) | exact HB.out))) : w.heap.size ≤ gb125)); clear HO0_3; clear HO1; clear HB; have HO0_3 := n0_; have HO1 := n1_; have HB := n2_; have BK125 := n3_; have GW125 := n4_; have GE125 := n5_; clear n0_ n1_ n2_ n3_ n4_ n5_; clear hb hbox hg; have hcz56_0 : w55.cell? ⟨gb125, 0, none⟩ = some (.int .i64 a0_0) := (blk_cell BK125.out 0).trans rfl; have hcz56_1 : w55.cell? ⟨gb125, 1, none⟩ = some (.int .i64 a0_1) := (blk_cell BK125.out 1).trans rfl; have hcz56_2 : w55.cell? ⟨gb125, 2, none⟩ = some (.int .i64 a0_2) := (blk_cell BK125.out 2).trans rfl; have hcz56_3 : w55.cell? ⟨gb125, 3, none⟩ = some (.slice A0_3 l0_3.length c0_3) := (blk_cell BK125.out 3).trans rfl; have hfz56_0 := blk_frozen BK125.out 0; have hfz56_1 := blk_frozen BK125.out 1; have hfz56_2 := blk_frozen BK125.out 2; have hfz56_3 := blk_frozen BK125.out 3) | ((with_reducible refine gate_callee (f := 15) rfl ?_); refine goesL_ (some 13) rfl rfl Try.func15 (by kernel_rfl) rfl #[.agg #[.int .i64 a0_0, .int .i64 a0_1, .int .i64 a0_2, .slice A0_3 l0_3.length c0_3]] rfl (by (try simp only [List.map_toArray, List.map_cons, List.map_nil]); first | done | rfl | (simp only [List.length_drop, List.length_take]; rfl)) ?_; (with_reducible refine (grammar_Check.calls k a0_0 a0_1 a0_2 _ _ l0_3 t126 _ ?side1 ?side2 A5.out).mono ?_); (case side1 => repeat (first | exact (Kd.V_reads' HO0_3.out).2.2 | (with_reducible refine Kd.C_alloc ?_ _) | (with_reducible refine Kd.C_drewN ?_ _) | (with_reducible refine Kd.C_drew ?_))); (case side2 => exact (Kd.V_reads' HO0_3.out).2.1); rintro e w57 ⟨rfl, hb⟩; refine ⟨_, rfl, ?_⟩; have n0_ := Aside0.mk (Kd.V_below (by (with_reducible repeat (first | apply Kd.V_alloc | apply Kd.V_drewN | apply Kd.V_drew)); exact HO0_3.out) hb); have n1_ := Aside0.mk (Kd.V_below (by (with_reducible repeat (first | apply Kd.V_alloc | apply Kd.V_drewN | apply Kd.V_drew)); exact HO1.out) hb); have n2_ := Aside0.mk (blk_below (g := gb125) (o := .cells #[.int .i64 a0_0, .int .i64 a0_1, .int .i64 a0_2, .slice A0_3 l0_3.length c0_3] 24 (0, 0)) (by (with_reducible repeat (first | refine blk_drewN ?_ _ | refine blk_drew ?_ | refine blk_alloc ?_ _)); exact BK125.out) hb); have n3_ := Aside0.mk (below_step (by repeat (first | (with_reducible first | exact HB.out | apply below_alloc | apply pw_below_drewN | apply below_drew1 | refine below_set ?_ GE125.out) | exact HB.out)) hb); clear HO0_3; clear HO1; clear BK125; clear HB; have HO0_3 := n0_; have HO1 := n1_; have BK125 := n2_; have HB := n3_; clear n0_ n1_ n2_ n3_; (try clear hb); (try clear hb2); (try clear hk); (try clear hi); have hcz58_0 : w57.cell? ⟨gb125, 0, none⟩ = some (.int .i64 a0_0) := (blk_cell BK125.out 0).trans rfl; have hcz58_1 : w57.cell? ⟨gb125, 1, none⟩ = some (.int .i64 a0_1) := (blk_cell BK125.out 1).trans rfl; have hcz58_2 : w57.cell? ⟨gb125, 2, none⟩ = some (.int .i64 a0_2) := (blk_cell BK125.out 2).trans rfl; have hcz58_3 : w57.cell? ⟨gb125, 3, none⟩ = some (.slice A0_3 l0_3.length c0_3) := (blk_cell BK125.out 3).trans rfl; have hfz58_0 := blk_frozen BK125.out 0; have hfz58_1 := blk_frozen BK125.out 1; have hfz58_2 := blk_frozen BK125.out 2; have hfz58_3 := blk_frozen BK125.out 3) | ((with_reducible refine gate_callee (f := 45) rfl ?_); refine goesL_ (some 24) rfl rfl Try.func45 (by kernel_rfl) rfl #[.agg #[.int .i64 a0_0, .int .i64 a0_1, .int .i64 a0_2, .slice A0_3 l0_3.length c0_3], .slice A1 l1.length c1] rfl (by (try simp only [List.map_toArray, List.map_cons, List.map_nil]); first | done | rfl | (simp only [List.length_drop, List.length_take]; rfl)) ?_; (with_reducible refine (grammar_signs.calls a0_0 a0_1 a0_2 _ _ l0_3 _ _ l1 false _ ?side1 ?side2 ?side3 ?side4 A11.out).mono ?_); (case side1 => repeat (first | exact (Kd.V_reads' HO0_3.out).2.2 | (with_reducible refine Kd.C_alloc ?_ _) | (with_reducible refine Kd.C_drewN ?_ _) | (with_reducible refine Kd.C_drew ?_))); (case side2 => exact (Kd.V_reads' HO0_3.out).2.1); (case side3 => repeat (first | exact (Kd.V_reads' HO1.out).2.2 | (with_reducible refine Kd.C_alloc ?_ _) | (with_reducible refine Kd.C_drewN ?_ _) | (with_reducible refine Kd.C_drew ?_))); (case side4 => exact (Kd.V_reads' HO1.out).2.1); rintro e w59 ⟨rfl, hb⟩; refine ⟨_, rfl, ?_⟩; have n0_ := Aside0.mk (Kd.V_below (by (with_reducible repeat (first | apply Kd.V_alloc | apply Kd.V_drewN | apply Kd.V_drew)); exact HO0_3.out) hb); have n1_ := Aside0.mk (Kd.V_below (by (with_reducible repeat (first | apply Kd.V_alloc | apply Kd.V_drewN | apply Kd.V_drew)); exact HO1.out) hb); have n2_ := Aside0.mk (blk_below (g := gb125) (o := .cells #[.int .i64 a0_0, .int .i64 a0_1, .int .i64 a0_2, .slice A0_3 l0_3.length c0_3] 24 (0, 0)) (by (with_reducible repeat (first | refine blk_drewN ?_ _ | refine blk_drew ?_ | refine blk_alloc ?_ _)); exact BK125.out) hb); have n3_ := Aside0.mk (below_step (by repeat (first | (with_reducible first | exact HB.out | apply below_alloc | apply pw_below_drewN | apply below_drew1 | refine below_set ?_ GE125.out) | exact HB.out)) hb); clear HO0_3; clear HO1; clear BK125; clear HB; have HO0_3 := n0_; have HO1 := n1_; have BK125 := n2_; have HB := n3_; clear n0_ n1_ n2_ n3_; (try clear hb); (try clear hb2); (try clear hk); (try clear hi)))
        go_ret2
        exact ⟨_, by first | rfl | (simp [errW_none, errW_some] <;> rfl) | (simp [*, errW_none, errW_some] <;> rfl), by first | exact Kd.R_nil _ _ _ _ _ | exact Kd.N_nil _ _ _ _ _ | exact Kd.V_nil _ _ _ _ _ | exact Kd.Q_nil _ _ _ _ _ | exact Kd.S_nil _ _ _ _ _ | (go_simp; exact Kd.R_nil _ _ _ _ _), by repeat (first | (with_reducible first | exact HB.out | apply below_alloc | apply pw_below_drewN | apply below_drew1 | refine below_set ?_ GE125.out) | exact HB.out)⟩
  · rw [if_neg c6] at H
    have c6b0 : (t126 == 0) = false := beq_eq_false_iff_ne.mpr c6
    have c6b1 : (t126 != 0) = true := bne_iff_ne.mpr c6
    simp only [Option.some.injEq, Prod.mk.injEq] at H
    obtain ⟨rfl, rfl⟩ := H
    go_enter Try.func22, Try.ntmps22
    go_wp2_with (first | ((with_reducible refine gate_dst (N := 4) rfl ?_); (try (refine gate_guard (by rfl) ?_; dsimp only)); refine box_event ?hg (N := 4) ?hd (cs := #[.int .i64 a0_0, .int .i64 a0_1, .int .i64 a0_2, .slice A0_3 l0_3.length c0_3]) (t := 24) ?hr ?_; (case hd => rfl); (case hg => rfl); (case hr => first | (go_simp; done) | (go_simp; rfl)); intro gb125 hg w60 hbox hb; have n0_ := Aside0.mk (Kd.V_below (Kd.V_elderB (by (with_reducible repeat (first | apply Kd.V_alloc | apply Kd.V_drewN | apply Kd.V_drew)); exact HO0_3.out) gb125 (Nat.le_of_eq hg.symm)) hb); have n1_ := Aside0.mk (Kd.V_below (Kd.V_elderB (by (with_reducible repeat (first | apply Kd.V_alloc | apply Kd.V_drewN | apply Kd.V_drew)); exact HO1.out) gb125 (Nat.le_of_eq hg.symm)) hb); have n2_ := Aside0.mk (below_step (by repeat (first | (with_reducible first | exact HB.out | apply below_alloc | apply pw_below_drewN | apply below_drew1) | exact HB.out)) hb); have n3_ := Aside0.mk (hbox); have n4_ := Aside0.mk ((by rw [hg]; exact (below_size (by repeat (first | (with_reducible first | exact HB.out | apply below_alloc | apply pw_below_drewN | apply below_drew1) | exact HB.out))) : w.heap.size ≤ gb125)); have n5_ := Aside0.mk ((by rw [hg]; exact (below_size (by repeat (first | (with_reducible first | exact HB.out | apply below_alloc | apply pw_below_drewN | apply below_drew1) | exact HB.out))) : w.heap.size ≤ gb125)); clear HO0_3; clear HO1; clear HB; have HO0_3 := n0_; have HO1 := n1_; have HB := n2_; have BK125 := n3_; have GW125 := n4_; have GE125 := n5_; clear n0_ n1_ n2_ n3_ n4_ n5_; clear hb hbox hg; have hcz61_0 : w60.cell? ⟨gb125, 0, none⟩ = some (.int .i64 a0_0) := (blk_cell BK125.out 0).trans rfl; have hcz61_1 : w60.cell? ⟨gb125, 1, none⟩ = some (.int .i64 a0_1) := (blk_cell BK125.out 1).trans rfl; have hcz61_2 : w60.cell? ⟨gb125, 2, none⟩ = some (.int .i64 a0_2) := (blk_cell BK125.out 2).trans rfl; have hcz61_3 : w60.cell? ⟨gb125, 3, none⟩ = some (.slice A0_3 l0_3.length c0_3) := (blk_cell BK125.out 3).trans rfl; have hfz61_0 := blk_frozen BK125.out 0; have hfz61_1 := blk_frozen BK125.out 1; have hfz61_2 := blk_frozen BK125.out 2; have hfz61_3 := blk_frozen BK125.out 3) | ((with_reducible refine gate_callee (f := 15) rfl ?_); refine goesL_ (some 13) rfl rfl Try.func15 (by kernel_rfl) rfl #[.agg #[.int .i64 a0_0, .int .i64 a0_1, .int .i64 a0_2, .slice A0_3 l0_3.length c0_3]] rfl (by (try simp only [List.map_toArray, List.map_cons, List.map_nil]); first | done | rfl | (simp only [List.length_drop, List.length_take]; rfl)) ?_; (with_reducible refine (grammar_Check.calls k a0_0 a0_1 a0_2 _ _ l0_3 t126 _ ?side1 ?side2 A5.out).mono ?_); (case side1 => repeat (first | exact (Kd.V_reads' HO0_3.out).2.2 | (with_reducible refine Kd.C_alloc ?_ _) | (with_reducible refine Kd.C_drewN ?_ _) | (with_reducible refine Kd.C_drew ?_))); (case side2 => exact (Kd.V_reads' HO0_3.out).2.1); rintro e w62 ⟨rfl, hb⟩; refine ⟨_, rfl, ?_⟩; have n0_ := Aside0.mk (Kd.V_below (by (with_reducible repeat (first | apply Kd.V_alloc | apply Kd.V_drewN | apply Kd.V_drew)); exact HO0_3.out) hb); have n1_ := Aside0.mk (Kd.V_below (by (with_reducible repeat (first | apply Kd.V_alloc | apply Kd.V_drewN | apply Kd.V_drew)); exact HO1.out) hb); have n2_ := Aside0.mk (blk_below (g := gb125) (o := .cells #[.int .i64 a0_0, .int .i64 a0_1, .int .i64 a0_2, .slice A0_3 l0_3.length c0_3] 24 (0, 0)) (by (with_reducible repeat (first | refine blk_drewN ?_ _ | refine blk_drew ?_ | refine blk_alloc ?_ _)); exact BK125.out) hb); have n3_ := Aside0.mk (below_step (by repeat (first | (with_reducible first | exact HB.out | apply below_alloc | apply pw_below_drewN | apply below_drew1 | refine below_set ?_ GE125.out) | exact HB.out)) hb); clear HO0_3; clear HO1; clear BK125; clear HB; have HO0_3 := n0_; have HO1 := n1_; have BK125 := n2_; have HB := n3_; clear n0_ n1_ n2_ n3_; (try clear hb); (try clear hb2); (try clear hk); (try clear hi)))
    go_ret2
    exact ⟨_, by first | rfl | (simp [errW_none, errW_some] <;> rfl) | (simp [*, errW_none, errW_some] <;> rfl), by first | exact Kd.R_nil _ _ _ _ _ | exact Kd.N_nil _ _ _ _ _ | exact Kd.V_nil _ _ _ _ _ | exact Kd.Q_nil _ _ _ _ _ | exact Kd.S_nil _ _ _ _ _ | (go_simp; exact Kd.R_nil _ _ _ _ _), by repeat (first | (with_reducible first | exact HB.out | apply below_alloc | apply pw_below_drewN | apply below_drew1 | refine below_set ?_ GE125.out) | exact HB.out)⟩

end Go.Proofs.Ytnjfcbhbebokeaa.PGrammarSteps
