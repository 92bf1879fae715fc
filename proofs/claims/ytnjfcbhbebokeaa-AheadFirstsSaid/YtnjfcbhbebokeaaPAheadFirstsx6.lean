-- Written by a program of this session: a turn of the print kit's own.
import Derived.Test.YtnjfcbhbebokeaaPAheadFirstsx0
import Derived.Test.YtnjfcbhbebokeaaPAheadFirstsx4
import Derived.Test.YtnjfcbhbebokeaaPAheadFirstsx5
namespace Go.Proofs.Ytnjfcbhbebokeaa.PAheadFirsts
open Go.RowKit Go.Proofs.YtnjfcbhbebokeaaW.PrintWords Go.Proofs.YtnjfcbhbebokeaaW.PrintLast Go.Proofs.YtnjfcbhbebokeaaW.PrintMore
attribute [local go_sem] max2_int min2_int max_two min_two max_three min_three max_four min_four   -- for this text's walks alone
set_option linter.unusedVariables false
set_option linter.unusedSimpArgs false

/-! ### ahead_First: function 35 -/
def ahead_First.f (k : Nat) (a0_0 : Int) (a0_1 : Int) (a0_2 : Int) (l0_3 : List (S38)) : Option (List Int × Int) := (grammar_Check.f k a0_0 a0_1 a0_2 l0_3).bind fun t140 => (if t140 = 0 then ((grammar_Least.f k a0_0 a0_1 a0_2 l0_3 false).bind fun t141 => ((ahead_firsts.f k a0_0 a0_1 a0_2 l0_3 t141).bind fun t142 => (some (t142, 0)))) else (some (([] : List Int), t140)))
theorem ahead_First.mono : ∀ a0 a1 a2 a3 k, LeO (ahead_First.f k a0 a1 a2 a3) (ahead_First.f (k + 1) a0 a1 a2 a3) := by
  intro a0 a1 a2 a3 k
  unfold ahead_First.f
  repeat' first
      | (with_reducible exact ahead_firsts.mono _ _ _ _ _ _)
      | (with_reducible exact grammar_Check.mono _ _ _ _ _)
      | (with_reducible exact grammar_Least.mono _ _ _ _ _ _)
      | (with_reducible exact LeO.refl _)
      | (with_reducible exact LeO.none _)
      | (with_reducible refine LeO.ite ?_ ?_)
      | (with_reducible refine LeO.bind ?_ (fun _ => ?_))
      | exact ahead_firsts.mono _ _ _ _ _ _
      | exact grammar_Check.mono _ _ _ _ _
      | exact grammar_Least.mono _ _ _ _ _ _
      | exact LeO.none _
      | refine LeO.ite ?_ ?_
      | refine LeO.bind ?_ (fun _ => ?_)
set_option maxHeartbeats 8000000 in
set_option maxRecDepth 100000 in
theorem ahead_First.calls (k : Nat) (a0_0 : Int) (a0_1 : Int) (a0_2 : Int) (A0_3 : Option Addr) (c0_3 : Nat) (l0_3 : List (S38)) (r1 : List Int) (r2 : Int) (w : World) (hr0_3 : Kd.C k38 w A0_3 l0_3.length l0_3) (hc0_3 : l0_3.length ≤ c0_3) (h : ahead_First.f k a0_0 a0_1 a0_2 l0_3 = some (r1, r2)) :
    Calls Try.prog 35 #[.agg #[.int .i64 a0_0, .int .i64 a0_1, .int .i64 a0_2, .slice A0_3 l0_3.length c0_3]] w fun e w' => ∃ v0_ : Value, e = .returned (.tuple #[v0_, .int .i64 r2]) ∧ Kd.R (Kd.int .u32) 28 w' w.heap.size (fun _ => True) v0_ r1 ∧ Below w.heap.size w w' := by
  have hu24 := Try.underlying24
  have HR0_3 := Aside0.mk hr0_3
  have HC0_3 := Aside0.mk hc0_3
  clear hr0_3 hc0_3
  have HB := Aside0.mk (Below.refl w.heap.size w)
  have H : ((grammar_Check.f k a0_0 a0_1 a0_2 l0_3).bind fun t140 => (if t140 = 0 then ((grammar_Least.f k a0_0 a0_1 a0_2 l0_3 false).bind fun t141 => ((ahead_firsts.f k a0_0 a0_1 a0_2 l0_3 t141).bind fun t142 => (some (t142, 0)))) else (some (([] : List Int), t140)))) = some (r1, r2) := h
  clear h
  replace H := Option.bind_eq_some_iff.mp H
  obtain ⟨t140, A20, H⟩ := H
  replace H : (if t140 = 0 then ((grammar_Least.f k a0_0 a0_1 a0_2 l0_3 false).bind fun t141 => ((ahead_firsts.f k a0_0 a0_1 a0_2 l0_3 t141).bind fun t142 => (some (t142, 0)))) else (some (([] : List Int), t140))) = some (r1, r2) := H
  have A2 := Aside0.mk A20
  clear A20
  by_cases c3 : t140 = 0
  · rw [if_pos c3] at H
    have c3b0 : (t140 == 0) = true := beq_iff_eq.mpr c3
    have c3b1 : (t140 != 0) = false := bne_eq_false_iff_eq.mpr c3
    clear c3
    replace H := Option.bind_eq_some_iff.mp H
    obtain ⟨t141, A40, H⟩ := H
    replace H : ((ahead_firsts.f k a0_0 a0_1 a0_2 l0_3 t141).bind fun t142 => (some (t142, 0))) = some (r1, r2) := H
    have A4 := Aside0.mk A40
    clear A40
    replace H := Option.bind_eq_some_iff.mp H
    obtain ⟨t142, A50, H⟩ := H
    replace H : (some (t142, 0)) = some (r1, r2) := H
    have A5 := Aside0.mk A50
    clear A50
    simp only [Option.some.injEq, Prod.mk.injEq] at H
    obtain ⟨rfl, rfl⟩ := H
    go_enter Try.func35, Try.ntmps35
    try go_wp2_with (first | ((with_reducible refine gate_dst (N := 1) rfl ?_); refine box_event ?hg (N := 1) ?hd (cs := #[.int .i64 a0_0, .int .i64 a0_1, .int .i64 a0_2, .slice A0_3 l0_3.length c0_3]) (t := 24) ?hr ?_; (case hd => rfl); (case hg => rfl); (case hr => first | (go_simp; done) | (go_simp; rfl)); intro gb139 hg w6 hbox hb; have n0_ := Aside0.mk (below_step (by repeat (first | (with_reducible first | exact HB.out | apply below_alloc | apply pw_below_drewN | apply below_drew1) | exact HB.out)) hb); have n1_ := Aside0.mk (hbox); have n2_ := Aside0.mk ((by rw [hg]; exact (below_size (by repeat (first | (with_reducible first | exact HB.out | apply below_alloc | apply pw_below_drewN | apply below_drew1) | exact HB.out))) : w.heap.size ≤ gb139)); have n3_ := Aside0.mk ((by rw [hg]; exact (below_size (by repeat (first | (with_reducible first | exact HB.out | apply below_alloc | apply pw_below_drewN | apply below_drew1) | exact HB.out))) : w.heap.size ≤ gb139)); clear HB; have HB := n0_; have BK139 := n1_; have GW139 := n2_; have GE139 := n3_; clear n0_ n1_ n2_ n3_; clear hb hbox hg; have hcz7_0 : w6.cell? ⟨gb139, 0, none⟩ = some (.int .i64 a0_0) := (blk_cell BK139.out 0).trans rfl; have hcz7_1 : w6.cell? ⟨gb139, 1, none⟩ = some (.int .i64 a0_1) := (blk_cell BK139.out 1).trans rfl; have hcz7_2 : w6.cell? ⟨gb139, 2, none⟩ = some (.int .i64 a0_2) := (blk_cell BK139.out 2).trans rfl; have hcz7_3 : w6.cell? ⟨gb139, 3, none⟩ = some (.slice A0_3 l0_3.length c0_3) := (blk_cell BK139.out 3).trans rfl; have hfz7_0 := blk_frozen BK139.out 0; have hfz7_1 := blk_frozen BK139.out 1; have hfz7_2 := blk_frozen BK139.out 2; have hfz7_3 := blk_frozen BK139.out 3) | ((with_reducible refine gate_callee (f := 15) rfl ?_); refine goesL_ (some 6) rfl rfl Try.func15 (by kernel_rfl) rfl #[.agg #[.int .i64 a0_0, .int .i64 a0_1, .int .i64 a0_2, .slice A0_3 l0_3.length c0_3]] rfl (by (try simp only [List.map_toArray, List.map_cons, List.map_nil]); first | done | rfl | (simp only [List.length_drop, List.length_take]; rfl)) ?_; (with_reducible refine (grammar_Check.calls k a0_0 a0_1 a0_2 _ _ l0_3 t140 _ ?side1 ?side2 A2.out).mono ?_); (case side1 => repeat (first | exact (Kd.C_below HR0_3.out HB.out) | (with_reducible refine Kd.C_alloc ?_ _) | (with_reducible refine Kd.C_drewN ?_ _) | (with_reducible refine Kd.C_drew ?_))); (case side2 => exact HC0_3.out); rintro e w8 ⟨rfl, hb⟩; refine ⟨_, rfl, ?_⟩; have n0_ := Aside0.mk (blk_below (g := gb139) (o := .cells #[.int .i64 a0_0, .int .i64 a0_1, .int .i64 a0_2, .slice A0_3 l0_3.length c0_3] 24 (0, 0)) (by (with_reducible repeat (first | refine blk_drewN ?_ _ | refine blk_drew ?_ | refine blk_alloc ?_ _)); exact BK139.out) hb); have n1_ := Aside0.mk (below_step (by repeat (first | (with_reducible first | exact HB.out | apply below_alloc | apply pw_below_drewN | apply below_drew1 | refine below_set ?_ GE139.out) | exact HB.out)) hb); clear BK139; clear HB; have BK139 := n0_; have HB := n1_; clear n0_ n1_; (try clear hb); (try clear hb2); (try clear hk); (try clear hi)))
    have n0_ := Aside0.mk (blk_drew BK139.out)
    have n1_ := Aside0.mk (below_drew1 HB.out)
    clear BK139
    clear HB
    have BK139 := n0_
    have HB := n1_
    clear n0_ n1_
    refine start_ (n := 6) (S := fun w' => w'.cell? ⟨gb139, 0, none⟩ = some (.int .i64 a0_0) ∧ w'.cell? ⟨gb139, 1, none⟩ = some (.int .i64 a0_1) ∧ w'.cell? ⟨gb139, 2, none⟩ = some (.int .i64 a0_2) ∧ w'.cell? ⟨gb139, 3, none⟩ = some (.slice A0_3 l0_3.length c0_3)) (ds := []) #[false, false, false, false, false, false] (by kernel_rfl) rfl rfl ⟨(blk_cell BK139.out 0).trans rfl, (blk_cell BK139.out 1).trans rfl, (blk_cell BK139.out 2).trans rfl, (blk_cell BK139.out 3).trans rfl⟩ (fun hHeld => ?_)
    generalize w8.drew = w9 at BK139 HB hHeld ⊢
    refine take_ (i := 0) (N := some 10) (v := ?_) (a' := ?_) #[true, false, false, false, false, false] rfl rfl (by kernel_rfl) (fun _ _ _ h => h) (Or.inl ⟨by rfl, ?_⟩) hHeld ?_ ?_
    rotate_left
    · rintro w' ⟨s0, s1, s2, s3⟩
      go_simp
      with_reducible rfl
    rotate_left
    · simp only [Act.put, List.setIfInBounds_toArray, List.set_cons_zero, List.set_cons_succ, i64_w, i32_w]
      rfl
    refine take_ (i := 1) (N := some 11) (v := ?_) (a' := ?_) #[true, true, false, false, false, false] rfl rfl (by kernel_rfl) (fun _ _ _ h => h) (Or.inl ⟨by rfl, ?_⟩) hHeld ?_ ?_
    rotate_left
    · rintro w' ⟨s0, s1, s2, s3⟩
      go_simp
      with_reducible rfl
    rotate_left
    · simp only [Act.put, List.setIfInBounds_toArray, List.set_cons_zero, List.set_cons_succ, i64_w, i32_w]
      rfl
    refine one_ (i := 2) (N := some 12) #[true, true, true, false, false, false] rfl rfl (by kernel_rfl) (by decide) (fun K hK => ?_)
    refine goes_ Try.func47 (by kernel_rfl) rfl #[.agg #[.int .i64 a0_0, .int .i64 a0_1, .int .i64 a0_2, .slice A0_3 l0_3.length c0_3], .bool false] (by rfl) rfl rfl (by (try simp only [List.map_toArray, List.map_cons, List.map_nil]); first | done | rfl | (simp only [List.length_drop, List.length_take]; rfl)) ?_
    with_reducible refine (grammar_Least.calls k a0_0 a0_1 a0_2 _ _ l0_3 false t141 _ ?side1 ?side2 A4.out).mono ?_
    (case side1 => repeat (first | exact (Kd.C_below HR0_3.out HB.out) | (with_reducible refine Kd.C_alloc ?_ _) | (with_reducible refine Kd.C_drewN ?_ _) | (with_reducible refine Kd.C_drew ?_)))
    (case side2 => exact HC0_3.out)
    rintro e w10 ⟨rfl, hb⟩
    refine ⟨_, rfl, ?_⟩
    have n0_ := Aside0.mk (blk_below (g := gb139) (o := .cells #[.int .i64 a0_0, .int .i64 a0_1, .int .i64 a0_2, .slice A0_3 l0_3.length c0_3] 24 (0, 0)) (by (with_reducible repeat (first | refine blk_drewN ?_ _ | refine blk_drew ?_ | refine blk_alloc ?_ _)); exact BK139.out) hb)
    have n1_ := Aside0.mk (below_step (by repeat (first | (with_reducible first | exact HB.out | apply below_alloc | apply pw_below_drewN | apply below_drew1 | refine below_set ?_ GE139.out) | exact HB.out)) hb)
    clear BK139
    clear HB
    have BK139 := n0_
    have HB := n1_
    clear n0_ n1_
    (try clear hb)
    (try clear hb2)
    (try clear hk)
    (try clear hi)
    refine hK.out _ _ ⟨(blk_cell BK139.out 0).trans rfl, (blk_cell BK139.out 1).trans rfl, (blk_cell BK139.out 2).trans rfl, (blk_cell BK139.out 3).trans rfl⟩ (fun hHeld => ?_)
    clear hK K
    refine norm_ (a' := ?_) ?_ ?_
    rotate_left
    · show Act.put _ (some 12) _ = _
      simp only [Act.put, List.setIfInBounds_toArray, List.set_cons_zero, List.set_cons_succ, i64_w, i32_w]
      rfl
    refine one_ (i := 3) (N := some 13) #[true, true, true, true, false, false] rfl rfl (by kernel_rfl) (by decide) (fun K hK => ?_)
    refine goes_ Try.func59 (by kernel_rfl) rfl #[.agg #[.int .i64 a0_0, .int .i64 a0_1, .int .i64 a0_2, .slice A0_3 l0_3.length c0_3], .int .u32 t141] (by rfl) rfl rfl (by (try simp only [List.map_toArray, List.map_cons, List.map_nil]); first | done | rfl | (simp only [List.length_drop, List.length_take]; rfl)) ?_
    with_reducible refine (ahead_firsts.calls k a0_0 a0_1 a0_2 _ _ l0_3 t141 t142 _ ?side1 ?side2 A5.out).mono ?_
    (case side1 => repeat (first | exact (Kd.C_below HR0_3.out HB.out) | (with_reducible refine Kd.C_alloc ?_ _) | (with_reducible refine Kd.C_drewN ?_ _) | (with_reducible refine Kd.C_drew ?_)))
    (case side2 => exact HC0_3.out)
    rintro e w11 ⟨v143, rfl, ho0, hb⟩
    refine ⟨_, rfl, ?_⟩
    have n0_ := Aside0.mk (Kd.R_lower ho0 (below_size (by repeat (first | (with_reducible first | exact HB.out | apply below_alloc | apply pw_below_drewN | apply below_drew1 | refine below_set ?_ GE139.out) | exact HB.out))))
    have n1_ := Aside0.mk (blk_below (g := gb139) (o := .cells #[.int .i64 a0_0, .int .i64 a0_1, .int .i64 a0_2, .slice A0_3 l0_3.length c0_3] 24 (0, 0)) (by (with_reducible repeat (first | refine blk_drewN ?_ _ | refine blk_drew ?_ | refine blk_alloc ?_ _)); exact BK139.out) hb)
    have n2_ := Aside0.mk (below_step (by repeat (first | (with_reducible first | exact HB.out | apply below_alloc | apply pw_below_drewN | apply below_drew1 | refine below_set ?_ GE139.out) | exact HB.out)) hb)
    clear BK139
    clear HB
    have HO144 := n0_
    have BK139 := n1_
    have HB := n2_
    clear n0_ n1_ n2_
    (try clear hb)
    (try clear hb2)
    (try clear hk)
    (try clear hi)
    (try clear ho0)
    refine hK.out _ _ ⟨(blk_cell BK139.out 0).trans rfl, (blk_cell BK139.out 1).trans rfl, (blk_cell BK139.out 2).trans rfl, (blk_cell BK139.out 3).trans rfl⟩ (fun hHeld => ?_)
    clear hK K
    refine norm_ (a' := ?_) ?_ ?_
    rotate_left
    · show Act.put _ (some 13) _ = _
      simp only [Act.put, List.setIfInBounds_toArray, List.set_cons_zero, List.set_cons_succ, i64_w, i32_w]
      rfl
    refine pure_ (i := 4) (N := some 2) (v := ?_) (a' := ?_) #[true, true, true, true, true, false] rfl rfl (by kernel_rfl) (fun _ _ _ h => h) (Or.inl ⟨by rfl, ?_⟩) ?_ ?_
    rotate_left
    · intro w'
      go_simp
      with_reducible rfl
    rotate_left
    · simp only [Act.put, List.setIfInBounds_toArray, List.set_cons_zero, List.set_cons_succ, i64_w, i32_w]
      rfl
    refine pure_ (i := 5) (N := some 3) (v := ?_) (a' := ?_) #[true, true, true, true, true, true] rfl rfl (by kernel_rfl) (fun _ _ _ h => h) (Or.inl ⟨by rfl, ?_⟩) ?_ ?_
    rotate_left
    · intro w'
      go_simp
      with_reducible rfl
    rotate_left
    · simp only [Act.put, List.setIfInBounds_toArray, List.set_cons_zero, List.set_cons_succ, i64_w, i32_w]
      rfl
    refine done_ (by kernel_rfl) ?_
    try go_wp2
    go_ret2
    exact ⟨_, by first | rfl | (simp [errW_none, errW_some] <;> rfl) | (simp [*, errW_none, errW_some] <;> rfl), by (with_reducible repeat (first | apply Kd.R_alloc | apply Kd.R_drewN | apply Kd.R_drew)); exact HO144.out, by repeat (first | (with_reducible first | exact HB.out | apply below_alloc | apply pw_below_drewN | apply below_drew1 | refine below_set ?_ GE139.out) | exact HB.out)⟩
  · rw [if_neg c3] at H
    have c3b0 : (t140 == 0) = false := beq_eq_false_iff_ne.mpr c3
    have c3b1 : (t140 != 0) = true := bne_iff_ne.mpr c3
    simp only [Option.some.injEq, Prod.mk.injEq] at H
    obtain ⟨rfl, rfl⟩ := H
    go_enter Try.func35, Try.ntmps35
    go_wp2_with (first | ((with_reducible refine gate_dst (N := 1) rfl ?_); refine box_event ?hg (N := 1) ?hd (cs := #[.int .i64 a0_0, .int .i64 a0_1, .int .i64 a0_2, .slice A0_3 l0_3.length c0_3]) (t := 24) ?hr ?_; (case hd => rfl); (case hg => rfl); (case hr => first | (go_simp; done) | (go_simp; rfl)); intro gb139 hg w12 hbox hb; have n0_ := Aside0.mk (below_step (by repeat (first | (with_reducible first | exact HB.out | apply below_alloc | apply pw_below_drewN | apply below_drew1) | exact HB.out)) hb); have n1_ := Aside0.mk (hbox); have n2_ := Aside0.mk ((by rw [hg]; exact (below_size (by repeat (first | (with_reducible first | exact HB.out | apply below_alloc | apply pw_below_drewN | apply below_drew1) | exact HB.out))) : w.heap.size ≤ gb139)); have n3_ := Aside0.mk ((by rw [hg]; exact (below_size (by repeat (first | (with_reducible first | exact HB.out | apply below_alloc | apply pw_below_drewN | apply below_drew1) | exact HB.out))) : w.heap.size ≤ gb139)); clear HB; have HB := n0_; have BK139 := n1_; have GW139 := n2_; have GE139 := n3_; clear n0_ n1_ n2_ n3_; clear hb hbox hg; have hcz13_0 : w12.cell? ⟨gb139, 0, none⟩ = some (.int .i64 a0_0) := (blk_cell BK139.out 0).trans rfl; have hcz13_1 : w12.cell? ⟨gb139, 1, none⟩ = some (.int .i64 a0_1) := (blk_cell BK139.out 1).trans rfl; have hcz13_2 : w12.cell? ⟨gb139, 2, none⟩ = some (.int .i64 a0_2) := (blk_cell BK139.out 2).trans rfl; have hcz13_3 : w12.cell? ⟨gb139, 3, none⟩ = some (.slice A0_3 l0_3.length c0_3) := (blk_cell BK139.out 3).trans rfl; have hfz13_0 := blk_frozen BK139.out 0; have hfz13_1 := blk_frozen BK139.out 1; have hfz13_2 := blk_frozen BK139.out 2; have hfz13_3 := blk_frozen BK139.out 3) | ((with_reducible refine gate_callee (f := 15) rfl ?_); refine goesL_ (some 6) rfl rfl Try.func15 (by kernel_rfl) rfl #[.agg #[.int .i64 a0_0, .int .i64 a0_1, .int .i64 a0_2, .slice A0_3 l0_3.length c0_3]] rfl (by (try simp only [List.map_toArray, List.map_cons, List.map_nil]); first | done | rfl | (simp only [List.length_drop, List.length_take]; rfl)) ?_; (with_reducible refine (grammar_Check.calls k a0_0 a0_1 a0_2 _ _ l0_3 t140 _ ?side1 ?side2 A2.out).mono ?_); (case side1 => repeat (first | exact (Kd.C_below HR0_3.out HB.out) | (with_reducible refine Kd.C_alloc ?_ _) | (with_reducible refine Kd.C_drewN ?_ _) | (with_reducible refine Kd.C_drew ?_))); (case side2 => exact HC0_3.out); rintro e w14 ⟨rfl, hb⟩; refine ⟨_, rfl, ?_⟩; have n0_ := Aside0.mk (blk_below (g := gb139) (o := .cells #[.int .i64 a0_0, .int .i64 a0_1, .int .i64 a0_2, .slice A0_3 l0_3.length c0_3] 24 (0, 0)) (by (with_reducible repeat (first | refine blk_drewN ?_ _ | refine blk_drew ?_ | refine blk_alloc ?_ _)); exact BK139.out) hb); have n1_ := Aside0.mk (below_step (by repeat (first | (with_reducible first | exact HB.out | apply below_alloc | apply pw_below_drewN | apply below_drew1 | refine below_set ?_ GE139.out) | exact HB.out)) hb); clear BK139; clear HB; have BK139 := n0_; have HB := n1_; clear n0_ n1_; (try clear hb); (try clear hb2); (try clear hk); (try clear hi)))
    go_ret2
    exact ⟨_, by first | rfl | (simp [errW_none, errW_some] <;> rfl) | (simp [*, errW_none, errW_some] <;> rfl), by first | exact Kd.R_nil _ _ _ _ _ | exact Kd.N_nil _ _ _ _ _ | exact Kd.V_nil _ _ _ _ _ | exact Kd.Q_nil _ _ _ _ _ | exact Kd.S_nil _ _ _ _ _ | (go_simp; exact Kd.R_nil _ _ _ _ _), by repeat (first | (with_reducible first | exact HB.out | apply below_alloc | apply pw_below_drewN | apply below_drew1 | refine below_set ?_ GE139.out) | exact HB.out)⟩

/-! ### coppicerref_Has: function 46 -/
def coppicerref_Has.l0 : Nat → Int → List Int → Int → Int → Option (Bool)
  | 0, _, _, _, _ => none
  | k + 1, x1, x7, x8, x9 => if x9 < x8 then (if 0 ≤ x9 then (if x9 < (x7.length : Int) then (if x1 = (rd x7 x9) then (some true) else (coppicerref_Has.l0 k x1 x7 x8 (wrap64 (x9 + 1)))) else (none)) else (none)) else (some false)
def coppicerref_Has.f (k : Nat) (l0 : List Int) (a1 : Int) : Option (Bool) := coppicerref_Has.l0 k a1 l0 (l0.length : Int) 0
theorem coppicerref_Has.mono_l : ∀ k, (∀ y0 y1 y2 y3, LeO (coppicerref_Has.l0 k y0 y1 y2 y3) (coppicerref_Has.l0 (k + 1) y0 y1 y2 y3))
  | 0 => fun _ _ _ _ r h => by simp [coppicerref_Has.l0] at h
  | k + 1 => by
    have ih0 := coppicerref_Has.mono_l k
    · intro y0 y1 y2 y3
      unfold coppicerref_Has.l0
      repeat' first
      | (with_reducible exact ih0 _ _ _ _)
      | (with_reducible exact LeO.refl _)
      | (with_reducible exact LeO.none _)
      | (with_reducible refine LeO.ite ?_ ?_)
      | (with_reducible refine LeO.bind ?_ (fun _ => ?_))
      | exact ih0 _ _ _ _
      | exact LeO.none _
      | refine LeO.ite ?_ ?_
      | refine LeO.bind ?_ (fun _ => ?_)
theorem coppicerref_Has.mono : ∀ a0 a1 k, LeO (coppicerref_Has.f k a0 a1) (coppicerref_Has.f (k + 1) a0 a1) := by
  intro a0 a1 k
  have ih0 := coppicerref_Has.mono_l k
  unfold coppicerref_Has.f
  repeat' first
      | (with_reducible exact ih0 _ _ _ _)
      | (with_reducible exact LeO.refl _)
      | (with_reducible exact LeO.none _)
      | (with_reducible refine LeO.ite ?_ ?_)
      | (with_reducible refine LeO.bind ?_ (fun _ => ?_))
      | exact ih0 _ _ _ _
      | exact LeO.none _
      | refine LeO.ite ?_ ?_
      | refine LeO.bind ?_ (fun _ => ?_)
set_option maxHeartbeats 8000000 in
set_option maxRecDepth 100000 in
theorem coppicerref_Has.calls (k : Nat) (A0 : Option Addr) (c0 : Nat) (l0 : List Int) (a1 : Int) (r : Bool) (w : World) (hr0 : Kd.C (Kd.int .i64) w A0 l0.length l0) (hc0 : l0.length ≤ c0) (h : coppicerref_Has.f k l0 a1 = some r) :
    Calls Try.prog 46 #[.slice A0 l0.length c0, .int .i64 a1] w fun e w' => e = .returned (.bool r) ∧ Drawn0 w w' := by
  have HR0 := Aside0.mk hr0
  have HC0 := Aside0.mk hc0
  clear hr0 hc0
  have H : (coppicerref_Has.l0 k a1 l0 (l0.length : Int) 0) = some r := h
  clear h
  have H' := Aside0.mk H
  clear H
  go_enter Try.func46, Try.ntmps46
  go_wp2
  go_loopg [9] k (fun kq v9 w' => ∃ (x9_1 : Int), v9 = .int .i64 x9_1 ∧ Aside0 (coppicerref_Has.l0 kq a1 l0 (l0.length : Int) x9_1 = some r) ∧ Aside0 (kq ≤ k) ∧ Drawn0 w w')
  case atStart => exact ⟨(0), (by first | rfl | (simp; done) | (simp [*]; done)), H', ⟨Nat.le_refl _⟩, by repeat (first | exact Drawn0.refl _ | apply Drawn0.step)⟩
  case round =>
    clear H'
    try clear p2
    obtain ⟨x9_1, rfl, HA, HK1, ⟨m1, rfl⟩⟩ := hrel
    cases gk with
    | zero => exact absurd HA.out (by simp [coppicerref_Has.l0])
    | succ k1 =>
      have H := HA.out
      clear HA
      simp only [coppicerref_Has.l0] at H
      by_cases c3 : x9_1 < (l0.length : Int)
      · rw [if_pos c3] at H
        have c3b0 : decide (x9_1 < (l0.length : Int)) = true := decide_eq_true c3
        clear c3
        by_cases c4 : 0 ≤ x9_1
        · rw [if_pos c4] at H
          have c4b0 : decide (0 ≤ x9_1) = true := decide_eq_true c4
          clear c4
          by_cases c5 : x9_1 < (l0.length : Int)
          · rw [if_pos c5] at H
            have c5b0 : decide (x9_1 < (l0.length : Int)) = true := decide_eq_true c5
            clear c5
            by_cases c6 : a1 = (rd l0 x9_1)
            · rw [if_pos c6] at H
              have c6b0 : (a1 == (rd l0 x9_1)) = true := beq_iff_eq.mpr c6
              have c6b1 : (a1 != (rd l0 x9_1)) = false := bne_eq_false_iff_eq.mpr c6
              clear c6
              obtain rfl := Option.some.inj H
              have p145 : 0 ≤ (x9_1 : Int) := of_decide_eq_true (by first | (with_reducible assumption) | assumption)
              have q145 : x9_1 < (l0.length : Int) := of_decide_eq_true (by first | (with_reducible assumption) | assumption)
              obtain ⟨ad145, e145, hx145_0⟩ := Kd.at_int HR0.out x9_1 p145 q145
              cases e145
              replace p145 := eq_true p145
              replace q145 := eq_true q145
              go_wp2
              go_ret
              exact ⟨by first | rfl | (simp; done) | (simp [*]; done), by repeat (first | exact Drawn0.refl _ | apply Drawn0.step)⟩
            · rw [if_neg c6] at H
              have c6b0 : (a1 == (rd l0 x9_1)) = false := beq_eq_false_iff_ne.mpr c6
              have c6b1 : (a1 != (rd l0 x9_1)) = true := bne_iff_ne.mpr c6
              have H' := Aside0.mk H
              clear H
              have p145 : 0 ≤ (x9_1 : Int) := of_decide_eq_true (by first | (with_reducible assumption) | assumption)
              have q145 : x9_1 < (l0.length : Int) := of_decide_eq_true (by first | (with_reducible assumption) | assumption)
              obtain ⟨ad145, e145, hx145_0⟩ := Kd.at_int HR0.out x9_1 p145 q145
              cases e145
              replace p145 := eq_true p145
              replace q145 := eq_true q145
              go_wp2
              go_roundg k1
              case measure => have := HK1.out; omega
              case rel => exact ⟨(wrap64 (x9_1 + 1)), (by first | rfl | (simp; done) | (simp [*]; done)), H', ⟨by have := HK1.out; omega⟩, by repeat (first | exact Drawn0.refl _ | apply Drawn0.step)⟩
          · rw [if_neg c5] at H
            exact absurd H (by simp)
        · rw [if_neg c4] at H
          exact absurd H (by simp)
      · rw [if_neg c3] at H
        have c3b0 : decide (x9_1 < (l0.length : Int)) = false := decide_eq_false c3
        clear c3
        obtain rfl := Option.some.inj H
        go_wp2
        go_ret
        exact ⟨by first | rfl | (simp; done) | (simp [*]; done), by repeat (first | exact Drawn0.refl _ | apply Drawn0.step)⟩

/-! ### coppicerref_Makes: function 48 -/
mutual
def coppicerref_Makes.l0 : Nat → Int → Int → Bool → List (S38) → Int → Int → Int → Int → Int → List (S38) → Option (Bool)
  | 0, _, _, _, _, _, _, _, _, _, _ => none
  | k + 1, x1, x2, x3, x23, x24, x25, x147000, x147001, x147002, x147003 => if x25 < x24 then (if 0 ≤ x25 then (if x25 < (x23.length : Int) then (if ((rd_T38 x23 x25).f0) = (wrap64 (x1 - x147000)) then (coppicerref_Makes.l1 k x1 x2 x3 true x23 x24 x25 ((rd_T38 x23 x25).f1) (((rd_T38 x23 x25).f1).length : Int) 0 x147000 x147001 x147002 x147003) else (coppicerref_Makes.l0 k x1 x2 x3 x23 x24 (wrap64 (x25 + 1)) x147000 x147001 x147002 x147003)) else (none)) else (none)) else (some false)
def coppicerref_Makes.l1 : Nat → Int → Int → Bool → Bool → List (S38) → Int → Int → List Int → Int → Int → Int → Int → Int → List (S38) → Option (Bool)
  | 0, _, _, _, _, _, _, _, _, _, _, _, _, _, _ => none
  | k + 1, x1, x2, x3, x11, x23, x24, x25, x37, x38, x39, x147000, x147001, x147002, x147003 => if x39 < x38 then (if 0 ≤ x39 then (if x39 < (x37.length : Int) then (if x11 = true then ((coppicerref_Makes.f k x147000 x147001 x147002 x147003 (rd x37 x39) (wrap64 (x2 - 1)) x3).bind fun t150 => (coppicerref_Makes.l1 k x1 x2 x3 t150 x23 x24 x25 x37 x38 (wrap64 (x39 + 1)) x147000 x147001 x147002 x147003)) else (coppicerref_Makes.l1 k x1 x2 x3 false x23 x24 x25 x37 x38 (wrap64 (x39 + 1)) x147000 x147001 x147002 x147003)) else (none)) else (none)) else (if x11 = true then (some true) else (coppicerref_Makes.l0 k x1 x2 x3 x23 x24 (wrap64 (x25 + 1)) x147000 x147001 x147002 x147003))
def coppicerref_Makes.f : Nat → Int → Int → Int → List (S38) → Int → Int → Bool → Option (Bool)
  | 0, _, _, _, _, _, _, _ => none
  | k + 1, a0_0, a0_1, a0_2, l0_3, a1, a2, a3 => if a1 < a0_0 then (some (!a3)) else (if a2 = 0 then (some false) else (coppicerref_Makes.l0 k a1 a2 a3 l0_3 (l0_3.length : Int) 0 a0_0 a0_1 a0_2 l0_3))
end
theorem coppicerref_Makes.mono_l : ∀ k, (∀ y0 y1 y2 y3 y4 y5 y6, LeO (coppicerref_Makes.f k y0 y1 y2 y3 y4 y5 y6) (coppicerref_Makes.f (k + 1) y0 y1 y2 y3 y4 y5 y6)) ∧ (∀ y0 y1 y2 y3 y4 y5 y6 y7 y8 y9, LeO (coppicerref_Makes.l0 k y0 y1 y2 y3 y4 y5 y6 y7 y8 y9) (coppicerref_Makes.l0 (k + 1) y0 y1 y2 y3 y4 y5 y6 y7 y8 y9)) ∧ (∀ y0 y1 y2 y3 y4 y5 y6 y7 y8 y9 y10 y11 y12 y13, LeO (coppicerref_Makes.l1 k y0 y1 y2 y3 y4 y5 y6 y7 y8 y9 y10 y11 y12 y13) (coppicerref_Makes.l1 (k + 1) y0 y1 y2 y3 y4 y5 y6 y7 y8 y9 y10 y11 y12 y13))
  | 0 => ⟨fun _ _ _ _ _ _ _ r h => by simp [coppicerref_Makes.f] at h, fun _ _ _ _ _ _ _ _ _ _ r h => by simp [coppicerref_Makes.l0] at h, fun _ _ _ _ _ _ _ _ _ _ _ _ _ _ r h => by simp [coppicerref_Makes.l1] at h⟩
  | k + 1 => by
    obtain ⟨ih0, ih1, ih2⟩ := coppicerref_Makes.mono_l k
    refine ⟨?_, ?_, ?_⟩
    · intro y0 y1 y2 y3 y4 y5 y6
      unfold coppicerref_Makes.f
      repeat' first
      | (with_reducible exact ih0 _ _ _ _ _ _ _)
      | (with_reducible exact ih1 _ _ _ _ _ _ _ _ _ _)
      | (with_reducible exact ih2 _ _ _ _ _ _ _ _ _ _ _ _ _ _)
      | (with_reducible exact LeO.refl _)
      | (with_reducible exact LeO.none _)
      | (with_reducible refine LeO.ite ?_ ?_)
      | (with_reducible refine LeO.bind ?_ (fun _ => ?_))
      | exact ih0 _ _ _ _ _ _ _
      | exact ih1 _ _ _ _ _ _ _ _ _ _
      | exact ih2 _ _ _ _ _ _ _ _ _ _ _ _ _ _
      | exact LeO.none _
      | refine LeO.ite ?_ ?_
      | refine LeO.bind ?_ (fun _ => ?_)
    · intro y0 y1 y2 y3 y4 y5 y6 y7 y8 y9
      unfold coppicerref_Makes.l0
      repeat' first
      | (with_reducible exact ih0 _ _ _ _ _ _ _)
      | (with_reducible exact ih1 _ _ _ _ _ _ _ _ _ _)
      | (with_reducible exact ih2 _ _ _ _ _ _ _ _ _ _ _ _ _ _)
      | (with_reducible exact LeO.refl _)
      | (with_reducible exact LeO.none _)
      | (with_reducible refine LeO.ite ?_ ?_)
      | (with_reducible refine LeO.bind ?_ (fun _ => ?_))
      | exact ih0 _ _ _ _ _ _ _
      | exact ih1 _ _ _ _ _ _ _ _ _ _
      | exact ih2 _ _ _ _ _ _ _ _ _ _ _ _ _ _
      | exact LeO.none _
      | refine LeO.ite ?_ ?_
      | refine LeO.bind ?_ (fun _ => ?_)
    · intro y0 y1 y2 y3 y4 y5 y6 y7 y8 y9 y10 y11 y12 y13
      unfold coppicerref_Makes.l1
      repeat' first
      | (with_reducible exact ih0 _ _ _ _ _ _ _)
      | (with_reducible exact ih1 _ _ _ _ _ _ _ _ _ _)
      | (with_reducible exact ih2 _ _ _ _ _ _ _ _ _ _ _ _ _ _)
      | (with_reducible exact LeO.refl _)
      | (with_reducible exact LeO.none _)
      | (with_reducible refine LeO.ite ?_ ?_)
      | (with_reducible refine LeO.bind ?_ (fun _ => ?_))
      | exact ih0 _ _ _ _ _ _ _
      | exact ih1 _ _ _ _ _ _ _ _ _ _
      | exact ih2 _ _ _ _ _ _ _ _ _ _ _ _ _ _
      | exact LeO.none _
      | refine LeO.ite ?_ ?_
      | refine LeO.bind ?_ (fun _ => ?_)
theorem coppicerref_Makes.mono : ∀ a0 a1 a2 a3 a4 a5 a6 k, LeO (coppicerref_Makes.f k a0 a1 a2 a3 a4 a5 a6) (coppicerref_Makes.f (k + 1) a0 a1 a2 a3 a4 a5 a6) := by
  intro a0 a1 a2 a3 a4 a5 a6 k
  obtain ⟨ih0, ih1, ih2⟩ := coppicerref_Makes.mono_l k
  exact ih0 a0 a1 a2 a3 a4 a5 a6
set_option maxHeartbeats 8000000 in
set_option maxRecDepth 100000 in
theorem coppicerref_Makes.calls (k : Nat) : ∀ (a0_0 : Int) (a0_1 : Int) (a0_2 : Int) (A0_3 : Option Addr) (c0_3 : Nat) (l0_3 : List (S38)) (a1 : Int) (a2 : Int) (a3 : Bool) (r : Bool) (w : World) (hr0_3 : Kd.C k38 w A0_3 l0_3.length l0_3) (hc0_3 : l0_3.length ≤ c0_3) (h : coppicerref_Makes.f k a0_0 a0_1 a0_2 l0_3 a1 a2 a3 = some r),
    Calls Try.prog 48 #[.agg #[.int .i64 a0_0, .int .i64 a0_1, .int .i64 a0_2, .slice A0_3 l0_3.length c0_3], .int .i64 a1, .int .i64 a2, .bool a3] w fun e w' => e = .returned (.bool r) ∧ Below w.heap.size w w' := by
  induction k using Nat.strongRecOn with
  | _ k ih =>
  intro a0_0 a0_1 a0_2 A0_3 c0_3 l0_3 a1 a2 a3 r w hr0_3 hc0_3 h
  cases k with
  | zero => exact absurd h (by simp [coppicerref_Makes.f])
  | succ k =>
  simp only [coppicerref_Makes.f] at h
  have hu24 := Try.underlying24
  have hu38 := Try.underlying38
  have HR0_3 := Aside0.mk hr0_3
  have HC0_3 := Aside0.mk hc0_3
  clear hr0_3 hc0_3
  have HB := Aside0.mk (Below.refl w.heap.size w)
  have H : (if a1 < a0_0 then (some (!a3)) else (if a2 = 0 then (some false) else (coppicerref_Makes.l0 k a1 a2 a3 l0_3 (l0_3.length : Int) 0 a0_0 a0_1 a0_2 l0_3))) = some r := h
  clear h
  by_cases c5 : a1 < a0_0
  · rw [if_pos c5] at H
    have c5b0 : decide (a1 < a0_0) = true := decide_eq_true c5
    clear c5
    obtain rfl := Option.some.inj H
    go_enter Try.func48, Try.ntmps48
    go_wp2_with (first | ((with_reducible refine gate_dst (N := 4) rfl ?_); refine box_event ?hg (N := 4) ?hd (cs := #[.int .i64 a0_0, .int .i64 a0_1, .int .i64 a0_2, .slice A0_3 l0_3.length c0_3]) (t := 24) ?hr ?_; (case hd => rfl); (case hg => rfl); (case hr => first | (go_simp; done) | (go_simp; rfl)); intro gb146 hg w6 hbox hb; have n0_ := Aside0.mk (below_step (by repeat (first | (with_reducible first | exact HB.out | apply below_alloc | apply pw_below_drewN | apply below_drew1) | exact HB.out)) hb); have n1_ := Aside0.mk (hbox); have n2_ := Aside0.mk ((by rw [hg]; exact (below_size (by repeat (first | (with_reducible first | exact HB.out | apply below_alloc | apply pw_below_drewN | apply below_drew1) | exact HB.out))) : w.heap.size ≤ gb146)); have n3_ := Aside0.mk ((by rw [hg]; exact (below_size (by repeat (first | (with_reducible first | exact HB.out | apply below_alloc | apply pw_below_drewN | apply below_drew1) | exact HB.out))) : w.heap.size ≤ gb146)); clear HB; have HB := n0_; have BK146 := n1_; have GW146 := n2_; have GE146 := n3_; clear n0_ n1_ n2_ n3_; clear hb hbox hg; have hcz7_0 : w6.cell? ⟨gb146, 0, none⟩ = some (.int .i64 a0_0) := (blk_cell BK146.out 0).trans rfl; have hcz7_1 : w6.cell? ⟨gb146, 1, none⟩ = some (.int .i64 a0_1) := (blk_cell BK146.out 1).trans rfl; have hcz7_2 : w6.cell? ⟨gb146, 2, none⟩ = some (.int .i64 a0_2) := (blk_cell BK146.out 2).trans rfl; have hcz7_3 : w6.cell? ⟨gb146, 3, none⟩ = some (.slice A0_3 l0_3.length c0_3) := (blk_cell BK146.out 3).trans rfl; have hfz7_0 := blk_frozen BK146.out 0; have hfz7_1 := blk_frozen BK146.out 1; have hfz7_2 := blk_frozen BK146.out 2; have hfz7_3 := blk_frozen BK146.out 3))
    go_ret
    exact ⟨by first | rfl | (simp [errW_none, errW_some] <;> rfl) | (simp [*, errW_none, errW_some] <;> rfl), by repeat (first | (with_reducible first | exact HB.out | apply below_alloc | apply pw_below_drewN | apply below_drew1 | refine below_set ?_ GE146.out) | exact HB.out)⟩
  · rw [if_neg c5] at H
    have c5b0 : decide (a1 < a0_0) = false := decide_eq_false c5
    clear c5
    by_cases c8 : a2 = 0
    · rw [if_pos c8] at H
      have c8b0 : (a2 == 0) = true := beq_iff_eq.mpr c8
      have c8b1 : (a2 != 0) = false := bne_eq_false_iff_eq.mpr c8
      clear c8
      obtain rfl := Option.some.inj H
      go_enter Try.func48, Try.ntmps48
      go_wp2_with (first | ((with_reducible refine gate_dst (N := 4) rfl ?_); refine box_event ?hg (N := 4) ?hd (cs := #[.int .i64 a0_0, .int .i64 a0_1, .int .i64 a0_2, .slice A0_3 l0_3.length c0_3]) (t := 24) ?hr ?_; (case hd => rfl); (case hg => rfl); (case hr => first | (go_simp; done) | (go_simp; rfl)); intro gb146 hg w9 hbox hb; have n0_ := Aside0.mk (below_step (by repeat (first | (with_reducible first | exact HB.out | apply below_alloc | apply pw_below_drewN | apply below_drew1) | exact HB.out)) hb); have n1_ := Aside0.mk (hbox); have n2_ := Aside0.mk ((by rw [hg]; exact (below_size (by repeat (first | (with_reducible first | exact HB.out | apply below_alloc | apply pw_below_drewN | apply below_drew1) | exact HB.out))) : w.heap.size ≤ gb146)); have n3_ := Aside0.mk ((by rw [hg]; exact (below_size (by repeat (first | (with_reducible first | exact HB.out | apply below_alloc | apply pw_below_drewN | apply below_drew1) | exact HB.out))) : w.heap.size ≤ gb146)); clear HB; have HB := n0_; have BK146 := n1_; have GW146 := n2_; have GE146 := n3_; clear n0_ n1_ n2_ n3_; clear hb hbox hg; have hcz10_0 : w9.cell? ⟨gb146, 0, none⟩ = some (.int .i64 a0_0) := (blk_cell BK146.out 0).trans rfl; have hcz10_1 : w9.cell? ⟨gb146, 1, none⟩ = some (.int .i64 a0_1) := (blk_cell BK146.out 1).trans rfl; have hcz10_2 : w9.cell? ⟨gb146, 2, none⟩ = some (.int .i64 a0_2) := (blk_cell BK146.out 2).trans rfl; have hcz10_3 : w9.cell? ⟨gb146, 3, none⟩ = some (.slice A0_3 l0_3.length c0_3) := (blk_cell BK146.out 3).trans rfl; have hfz10_0 := blk_frozen BK146.out 0; have hfz10_1 := blk_frozen BK146.out 1; have hfz10_2 := blk_frozen BK146.out 2; have hfz10_3 := blk_frozen BK146.out 3))
      go_ret
      exact ⟨by first | rfl | (simp [errW_none, errW_some] <;> rfl) | (simp [*, errW_none, errW_some] <;> rfl), by repeat (first | (with_reducible first | exact HB.out | apply below_alloc | apply pw_below_drewN | apply below_drew1 | refine below_set ?_ GE146.out) | exact HB.out)⟩
    · rw [if_neg c8] at H
      have c8b0 : (a2 == 0) = false := beq_eq_false_iff_ne.mpr c8
      have c8b1 : (a2 != 0) = true := bne_iff_ne.mpr c8
      have H' := Aside0.mk H
      clear H
      go_enter Try.func48, Try.ntmps48
      go_wp2_with (first | ((with_reducible refine gate_dst (N := 4) rfl ?_); refine box_event ?hg (N := 4) ?hd (cs := #[.int .i64 a0_0, .int .i64 a0_1, .int .i64 a0_2, .slice A0_3 l0_3.length c0_3]) (t := 24) ?hr ?_; (case hd => rfl); (case hg => rfl); (case hr => first | (go_simp; done) | (go_simp; rfl)); intro gb146 hg w11 hbox hb; have n0_ := Aside0.mk (below_step (by repeat (first | (with_reducible first | exact HB.out | apply below_alloc | apply pw_below_drewN | apply below_drew1) | exact HB.out)) hb); have n1_ := Aside0.mk (hbox); have n2_ := Aside0.mk ((by rw [hg]; exact (below_size (by repeat (first | (with_reducible first | exact HB.out | apply below_alloc | apply pw_below_drewN | apply below_drew1) | exact HB.out))) : w.heap.size ≤ gb146)); have n3_ := Aside0.mk ((by rw [hg]; exact (below_size (by repeat (first | (with_reducible first | exact HB.out | apply below_alloc | apply pw_below_drewN | apply below_drew1) | exact HB.out))) : w.heap.size ≤ gb146)); clear HB; have HB := n0_; have BK146 := n1_; have GW146 := n2_; have GE146 := n3_; clear n0_ n1_ n2_ n3_; clear hb hbox hg; have hcz12_0 : w11.cell? ⟨gb146, 0, none⟩ = some (.int .i64 a0_0) := (blk_cell BK146.out 0).trans rfl; have hcz12_1 : w11.cell? ⟨gb146, 1, none⟩ = some (.int .i64 a0_1) := (blk_cell BK146.out 1).trans rfl; have hcz12_2 : w11.cell? ⟨gb146, 2, none⟩ = some (.int .i64 a0_2) := (blk_cell BK146.out 2).trans rfl; have hcz12_3 : w11.cell? ⟨gb146, 3, none⟩ = some (.slice A0_3 l0_3.length c0_3) := (blk_cell BK146.out 3).trans rfl; have hfz12_0 := blk_frozen BK146.out 0; have hfz12_1 := blk_frozen BK146.out 1; have hfz12_2 := blk_frozen BK146.out 2; have hfz12_3 := blk_frozen BK146.out 3))
      go_loopg [25] k (fun kq v25 w' => ∃ (x25_1 : Int), v25 = .int .i64 x25_1 ∧ Aside0 (coppicerref_Makes.l0 kq a1 a2 a3 l0_3 (l0_3.length : Int) x25_1 a0_0 a0_1 a0_2 l0_3 = some r) ∧ Aside0 (kq ≤ k) ∧ Aside0 (w'.heap[gb146]? = some (.cells #[.int .i64 a0_0, .int .i64 a0_1, .int .i64 a0_2, (.slice A0_3 l0_3.length c0_3)] 24 (0, 0))) ∧ Aside0 (Below w.heap.size w w'))
      case atStart => exact ⟨(0), (by first | rfl | (simp; done) | (simp [*]; done)), H', ⟨Nat.le_refl _⟩, ⟨by (with_reducible repeat (first | refine blk_drewN ?_ _ | refine blk_drew ?_ | refine blk_alloc ?_ _)); exact BK146.out⟩, ⟨by repeat (first | (with_reducible first | exact HB.out | apply below_alloc | apply pw_below_drewN | apply below_drew1 | refine below_set ?_ GE146.out) | exact HB.out)⟩⟩
      case round =>
        clear H'
        try clear p2
        try clear c4
        try clear c5
        try clear c5b0
        try clear c8
        try clear c8b0
        try clear c8b1
        try clear hcz10_0
        try clear hcz10_1
        try clear hcz10_2
        try clear hcz10_3
        try clear hcz12_0
        try clear hcz12_1
        try clear hcz12_2
        try clear hcz12_3
        try clear hcz7_0
        try clear hcz7_1
        try clear hcz7_2
        try clear hcz7_3
        try clear hfz10_0
        try clear hfz10_1
        try clear hfz10_2
        try clear hfz10_3
        try clear hfz12_0
        try clear hfz12_1
        try clear hfz12_2
        try clear hfz12_3
        try clear hfz7_0
        try clear hfz7_1
        try clear hfz7_2
        try clear hfz7_3
        obtain ⟨x25_1, rfl, HA, HK1, BK146, HB⟩ := hrel
        cases gk with
        | zero => exact absurd HA.out (by simp [coppicerref_Makes.l0])
        | succ k1 =>
          have H := HA.out
          clear HA
          simp only [coppicerref_Makes.l0] at H
          by_cases c13 : x25_1 < (l0_3.length : Int)
          · rw [if_pos c13] at H
            have c13b0 : decide (x25_1 < (l0_3.length : Int)) = true := decide_eq_true c13
            clear c13
            by_cases c14 : 0 ≤ x25_1
            · rw [if_pos c14] at H
              have c14b0 : decide (0 ≤ x25_1) = true := decide_eq_true c14
              clear c14
              by_cases c15 : x25_1 < (l0_3.length : Int)
              · rw [if_pos c15] at H
                have c15b0 : decide (x25_1 < (l0_3.length : Int)) = true := decide_eq_true c15
                clear c15
                by_cases c16 : ((rd_T38 l0_3 x25_1).f0) = (wrap64 (a1 - a0_0))
                · rw [if_pos c16] at H
                  have c16b0 : (((rd_T38 l0_3 x25_1).f0) == (wrap64 (a1 - a0_0))) = true := beq_iff_eq.mpr c16
                  have c16b1 : (((rd_T38 l0_3 x25_1).f0) != (wrap64 (a1 - a0_0))) = false := bne_eq_false_iff_eq.mpr c16
                  clear c16
                  have H' := Aside0.mk H
                  clear H
                  have p147 : 0 ≤ (x25_1 : Int) := of_decide_eq_true (by first | (with_reducible assumption) | assumption)
                  have q147 : x25_1 < (l0_3.length : Int) := of_decide_eq_true (by first | (with_reducible assumption) | assumption)
                  obtain ⟨ad147, A147_1, c147_1, e147, hx147_0, hx147_1, hl147_1, hi147_1⟩ := at_T38 HR0_3.out x25_1 p147 q147
                  cases e147
                  replace hx147_0 := (HB.out.cell (World.block_lt_of_cell? w _ hx147_0)).trans hx147_0
                  replace hx147_1 := (HB.out.cell (World.block_lt_of_cell? w _ hx147_1)).trans hx147_1
                  have HR147_1 := Aside0.mk hi147_1
                  have HC147_1 := Aside0.mk hl147_1
                  clear hi147_1 hl147_1
                  replace p147 := eq_true p147
                  replace q147 := eq_true q147
                  go_wp2_with (first | ((with_reducible refine gate_dst (N := 10) rfl ?_); refine box_event ?hg (N := 10) ?hd (cs := #[.int .i64 0, .slice none 0 0]) (t := 38) ?hr ?_; (case hd => rfl); (case hg => rfl); (case hr => first | (go_simp; done) | (go_simp; rfl)); intro gb148 hg w17 hbox hb; have n0_ := Aside0.mk (blk_below (g := gb146) (o := .cells #[.int .i64 a0_0, .int .i64 a0_1, .int .i64 a0_2, .slice (some ad147) l0_3.length c0_3] 24 (0, 0)) (by (with_reducible repeat (first | refine blk_drewN ?_ _ | refine blk_drew ?_ | refine blk_alloc ?_ _)); exact BK146.out) hb); have n1_ := Aside0.mk (below_step (by repeat (first | (with_reducible first | exact HB.out | apply below_alloc | apply pw_below_drewN | apply below_drew1 | refine below_set ?_ GE146.out) | exact HB.out)) hb); have n2_ := Aside0.mk (hbox); have n3_ := Aside0.mk ((by rw [hg]; exact (below_size (by repeat (first | (with_reducible first | exact HB.out | apply below_alloc | apply pw_below_drewN | apply below_drew1 | refine below_set ?_ GE146.out) | exact HB.out))) : w.heap.size ≤ gb148)); have n4_ := Aside0.mk ((by rw [hg]; exact (below_size (by repeat (first | (with_reducible first | exact HB.out | apply below_alloc | apply pw_below_drewN | apply below_drew1 | refine below_set ?_ GE146.out) | exact HB.out))) : w.heap.size ≤ gb148)); have n5_ := Aside0.mk ((by rw [hg]; exact Nat.ne_of_lt (blk_lt (g := gb146) (o := .cells #[.int .i64 a0_0, .int .i64 a0_1, .int .i64 a0_2, .slice (some ad147) l0_3.length c0_3] 24 (0, 0)) (by (with_reducible repeat (first | refine blk_drewN ?_ _ | refine blk_drew ?_ | refine blk_alloc ?_ _)); exact BK146.out)) : gb146 ≠ gb148)); have n6_ := Aside0.mk ((by rw [hg]; exact Nat.ne_of_gt (blk_lt (g := gb146) (o := .cells #[.int .i64 a0_0, .int .i64 a0_1, .int .i64 a0_2, .slice (some ad147) l0_3.length c0_3] 24 (0, 0)) (by (with_reducible repeat (first | refine blk_drewN ?_ _ | refine blk_drew ?_ | refine blk_alloc ?_ _)); exact BK146.out)) : gb148 ≠ gb146)); clear BK146; clear HB; have BK146 := n0_; have HB := n1_; have BK148 := n2_; have GW148 := n3_; have GE148 := n4_; have NB146_148 := n5_; have NB148_146 := n6_; clear n0_ n1_ n2_ n3_ n4_ n5_ n6_; clear hb hbox hg; have hnb18 := NB148_146.out; have hnc18 := NB146_148.out; have hcz19_0 : w17.cell? ⟨gb148, 0, none⟩ = some (.int .i64 0) := (blk_cell BK148.out 0).trans rfl; have hcz19_1 : w17.cell? ⟨gb148, 1, none⟩ = some (.slice none 0 0) := (blk_cell BK148.out 1).trans rfl; have hfz19_0 := blk_frozen BK148.out 0; have hfz19_1 := blk_frozen BK148.out 1; have hcz20_0 : w17.cell? ⟨gb146, 0, none⟩ = some (.int .i64 a0_0) := (blk_cell BK146.out 0).trans rfl; have hcz20_1 : w17.cell? ⟨gb146, 1, none⟩ = some (.int .i64 a0_1) := (blk_cell BK146.out 1).trans rfl; have hcz20_2 : w17.cell? ⟨gb146, 2, none⟩ = some (.int .i64 a0_2) := (blk_cell BK146.out 2).trans rfl; have hcz20_3 : w17.cell? ⟨gb146, 3, none⟩ = some (.slice (some ad147) l0_3.length c0_3) := (blk_cell BK146.out 3).trans rfl; have hfz20_0 := blk_frozen BK146.out 0; have hfz20_1 := blk_frozen BK146.out 1; have hfz20_2 := blk_frozen BK146.out 2; have hfz20_3 := blk_frozen BK146.out 3))
                  go_loopg [11, 39] k1 (fun kq v11 v39 w' => ∃ (x11_2 : Bool) (x39_2 : Int), v11 = .bool x11_2 ∧ v39 = .int .i64 x39_2 ∧ Aside0 (coppicerref_Makes.l1 kq a1 a2 a3 x11_2 l0_3 (l0_3.length : Int) x25_1 ((rd_T38 l0_3 x25_1).f1) (((rd_T38 l0_3 x25_1).f1).length : Int) x39_2 a0_0 a0_1 a0_2 l0_3 = some r) ∧ Aside0 (kq ≤ k1) ∧ Aside0 (w'.heap[gb146]? = some (.cells #[.int .i64 a0_0, .int .i64 a0_1, .int .i64 a0_2, (.slice (some ad147) l0_3.length c0_3)] 24 (0, 0))) ∧ Aside0 (w'.heap[gb148]? = some (.cells #[.int .i64 ((rd_T38 l0_3 x25_1).f0), (.slice A147_1 ((rd_T38 l0_3 x25_1).f1).length c147_1)] 38 (0, 0))) ∧ Aside0 (Below w.heap.size w w'))
                  case atStart => exact ⟨(true), (0), (by first | rfl | (simp; done) | (simp [*]; done)), (by first | rfl | (simp; done) | (simp [*]; done)), H', ⟨Nat.le_refl _⟩, ⟨by (with_reducible repeat (first | refine blk_drewN ?_ _ | refine blk_drew ?_ | refine blk_alloc ?_ _)); refine blk_far ?_ NB146_148.out _; (with_reducible repeat (first | refine blk_drewN ?_ _ | refine blk_drew ?_ | refine blk_alloc ?_ _)); refine blk_far ?_ NB146_148.out _; (with_reducible repeat (first | refine blk_drewN ?_ _ | refine blk_drew ?_ | refine blk_alloc ?_ _)); exact BK146.out⟩, ⟨by (with_reducible repeat (first | refine blk_drewN ?_ _ | refine blk_drew ?_ | refine blk_alloc ?_ _)); refine blk_put (cs := #[.int .i64 ((rd_T38 l0_3 x25_1).f0), .slice none 0 0]) ?_ 1 _ rfl; (with_reducible repeat (first | refine blk_drewN ?_ _ | refine blk_drew ?_ | refine blk_alloc ?_ _)); refine blk_put (cs := #[.int .i64 0, .slice none 0 0]) ?_ 0 _ rfl; (with_reducible repeat (first | refine blk_drewN ?_ _ | refine blk_drew ?_ | refine blk_alloc ?_ _)); exact BK148.out⟩, ⟨by repeat (first | (with_reducible first | exact HB.out | apply below_alloc | apply pw_below_drewN | apply below_drew1 | refine below_set ?_ GE146.out | refine below_set ?_ GE148.out) | exact HB.out)⟩⟩
                  case round =>
                    clear H'
                    try clear c1
                    try clear p1
                    try clear q1
                    try clear hx1
                    try clear p2
                    try clear c4
                    try clear c5
                    try clear c5b0
                    try clear p6
                    try clear c8
                    try clear c8b0
                    try clear c8b1
                    try clear c13
                    try clear c13b0
                    try clear c14
                    try clear c14b0
                    try clear p14
                    try clear q14
                    try clear hx14
                    try clear c15
                    try clear c15b0
                    try clear c16
                    try clear c16b0
                    try clear c16b1
                    try clear c18
                    try clear hcz10_0
                    try clear hcz10_1
                    try clear hcz10_2
                    try clear hcz10_3
                    try clear hcz12_0
                    try clear hcz12_1
                    try clear hcz12_2
                    try clear hcz12_3
                    try clear hcz19_0
                    try clear hcz19_1
                    try clear hcz20_0
                    try clear hcz20_1
                    try clear hcz20_2
                    try clear hcz20_3
                    try clear hcz7_0
                    try clear hcz7_1
                    try clear hcz7_2
                    try clear hcz7_3
                    try clear hfz10_0
                    try clear hfz10_1
                    try clear hfz10_2
                    try clear hfz10_3
                    try clear hfz12_0
                    try clear hfz12_1
                    try clear hfz12_2
                    try clear hfz12_3
                    try clear hfz19_0
                    try clear hfz19_1
                    try clear hfz20_0
                    try clear hfz20_1
                    try clear hfz20_2
                    try clear hfz20_3
                    try clear hfz7_0
                    try clear hfz7_1
                    try clear hfz7_2
                    try clear hfz7_3
                    try clear hx147_0
                    try clear hx147_1
                    try clear p147
                    try clear p2
                    try clear q147
                    obtain ⟨x11_2, x39_2, rfl, rfl, HA, HK2, BK146, BK148, HB⟩ := hrel
                    cases gk with
                    | zero => exact absurd HA.out (by simp [coppicerref_Makes.l1])
                    | succ k2 =>
                      have H := HA.out
                      clear HA
                      simp only [coppicerref_Makes.l1] at H
                      by_cases c21 : x39_2 < (((rd_T38 l0_3 x25_1).f1).length : Int)
                      · rw [if_pos c21] at H
                        have c21b0 : decide (x39_2 < (((rd_T38 l0_3 x25_1).f1).length : Int)) = true := decide_eq_true c21
                        clear c21
                        by_cases c22 : 0 ≤ x39_2
                        · rw [if_pos c22] at H
                          have c22b0 : decide (0 ≤ x39_2) = true := decide_eq_true c22
                          clear c22
                          by_cases c23 : x39_2 < (((rd_T38 l0_3 x25_1).f1).length : Int)
                          · rw [if_pos c23] at H
                            have c23b0 : decide (x39_2 < (((rd_T38 l0_3 x25_1).f1).length : Int)) = true := decide_eq_true c23
                            clear c23
                            by_cases c24 : x11_2 = true
                            · subst c24
                              have H1 : ((coppicerref_Makes.f k2 a0_0 a0_1 a0_2 l0_3 (rd ((rd_T38 l0_3 x25_1).f1) x39_2) (wrap64 (a2 - 1)) a3).bind fun t150 => (coppicerref_Makes.l1 k2 a1 a2 a3 t150 l0_3 (l0_3.length : Int) x25_1 ((rd_T38 l0_3 x25_1).f1) (((rd_T38 l0_3 x25_1).f1).length : Int) (wrap64 (x39_2 + 1)) a0_0 a0_1 a0_2 l0_3)) = some r := by rw [if_pos rfl] at H; exact H
                              clear H
                              have H := H1
                              clear H1
                              replace H := Option.bind_eq_some_iff.mp H
                              obtain ⟨t150, A250, H⟩ := H
                              replace H : (coppicerref_Makes.l1 k2 a1 a2 a3 t150 l0_3 (l0_3.length : Int) x25_1 ((rd_T38 l0_3 x25_1).f1) (((rd_T38 l0_3 x25_1).f1).length : Int) (wrap64 (x39_2 + 1)) a0_0 a0_1 a0_2 l0_3) = some r := H
                              have A25 := Aside0.mk A250
                              clear A250
                              have H' := Aside0.mk H
                              clear H
                              have p149 : 0 ≤ (x39_2 : Int) := of_decide_eq_true (by first | (with_reducible assumption) | assumption)
                              have q149 : x39_2 < (((rd_T38 l0_3 x25_1).f1).length : Int) := of_decide_eq_true (by first | (with_reducible assumption) | assumption)
                              obtain ⟨ad149, e149, hx149_0⟩ := Kd.at_int HR147_1.out x39_2 p149 q149
                              cases e149
                              replace hx149_0 := (HB.out.cell (World.block_lt_of_cell? w _ hx149_0)).trans hx149_0
                              replace p149 := eq_true p149
                              replace q149 := eq_true q149
                              have hnb26 := NB146_148.out
                              have hnc26 := NB148_146.out
                              have hcz27_0 : wr.cell? ⟨gb146, 0, none⟩ = some (.int .i64 a0_0) := (blk_cell BK146.out 0).trans rfl
                              have hcz27_1 : wr.cell? ⟨gb146, 1, none⟩ = some (.int .i64 a0_1) := (blk_cell BK146.out 1).trans rfl
                              have hcz27_2 : wr.cell? ⟨gb146, 2, none⟩ = some (.int .i64 a0_2) := (blk_cell BK146.out 2).trans rfl
                              have hcz27_3 : wr.cell? ⟨gb146, 3, none⟩ = some (.slice (some ad147) l0_3.length c0_3) := (blk_cell BK146.out 3).trans rfl
                              have hfz27_0 := blk_frozen BK146.out 0
                              have hfz27_1 := blk_frozen BK146.out 1
                              have hfz27_2 := blk_frozen BK146.out 2
                              have hfz27_3 := blk_frozen BK146.out 3
                              go_wp2_with (first | (go_at_call 48; (with_reducible refine (ih k2 (by have := HK1.out; have := HK2.out; omega) a0_0 a0_1 a0_2 _ _ l0_3 (rd ((rd_T38 l0_3 x25_1).f1) x39_2) (wrap64 (a2 - 1)) a3 t150 _ ?side1 ?side2 A25.out).mono ?_); (case side1 => repeat (first | exact (Kd.C_below HR0_3.out HB.out) | (with_reducible refine Kd.C_alloc ?_ _) | (with_reducible refine Kd.C_drewN ?_ _) | (with_reducible refine Kd.C_drew ?_))); (case side2 => exact HC0_3.out); rintro e w28 ⟨rfl, hb⟩; have n0_ := Aside0.mk (blk_below (g := gb146) (o := .cells #[.int .i64 a0_0, .int .i64 a0_1, .int .i64 a0_2, .slice (some ad147) l0_3.length c0_3] 24 (0, 0)) (by (with_reducible repeat (first | refine blk_drewN ?_ _ | refine blk_drew ?_ | refine blk_alloc ?_ _)); exact BK146.out) hb); have n1_ := Aside0.mk (blk_below (g := gb148) (o := .cells #[.int .i64 ((rd_T38 l0_3 x25_1).f0), .slice (some ad149) ((rd_T38 l0_3 x25_1).f1).length c147_1] 38 (0, 0)) (by (with_reducible repeat (first | refine blk_drewN ?_ _ | refine blk_drew ?_ | refine blk_alloc ?_ _)); exact BK148.out) hb); have n2_ := Aside0.mk (below_step (by repeat (first | (with_reducible first | exact HB.out | apply below_alloc | apply pw_below_drewN | apply below_drew1 | refine below_set ?_ GE146.out | refine below_set ?_ GE148.out) | exact HB.out)) hb); clear BK146; clear BK148; clear HB; have BK146 := n0_; have BK148 := n1_; have HB := n2_; clear n0_ n1_ n2_; (try clear hb); (try clear hb2); (try clear hk); (try clear hi)))
                              go_roundg k2
                              case measure => have := HK1.out; have := HK2.out; omega
                              case rel => exact ⟨(t150), (wrap64 (x39_2 + 1)), (by first | rfl | (simp; done) | (simp [*]; done)), (by first | rfl | (simp; done) | (simp [*]; done)), H', ⟨by have := HK1.out; have := HK2.out; omega⟩, ⟨by (with_reducible repeat (first | refine blk_drewN ?_ _ | refine blk_drew ?_ | refine blk_alloc ?_ _)); exact BK146.out⟩, ⟨by (with_reducible repeat (first | refine blk_drewN ?_ _ | refine blk_drew ?_ | refine blk_alloc ?_ _)); exact BK148.out⟩, ⟨by repeat (first | (with_reducible first | exact HB.out | apply below_alloc | apply pw_below_drewN | apply below_drew1 | refine below_set ?_ GE146.out | refine below_set ?_ GE148.out) | exact HB.out)⟩⟩
                            · replace c24 := Bool.eq_false_iff.mpr c24
                              subst c24
                              have H1 : (coppicerref_Makes.l1 k2 a1 a2 a3 false l0_3 (l0_3.length : Int) x25_1 ((rd_T38 l0_3 x25_1).f1) (((rd_T38 l0_3 x25_1).f1).length : Int) (wrap64 (x39_2 + 1)) a0_0 a0_1 a0_2 l0_3) = some r := by rw [if_neg (show ¬ (false = true) by decide)] at H; exact H
                              clear H
                              have H := H1
                              clear H1
                              have H' := Aside0.mk H
                              clear H
                              have p149 : 0 ≤ (x39_2 : Int) := of_decide_eq_true (by first | (with_reducible assumption) | assumption)
                              have q149 : x39_2 < (((rd_T38 l0_3 x25_1).f1).length : Int) := of_decide_eq_true (by first | (with_reducible assumption) | assumption)
                              obtain ⟨ad149, e149, hx149_0⟩ := Kd.at_int HR147_1.out x39_2 p149 q149
                              cases e149
                              replace hx149_0 := (HB.out.cell (World.block_lt_of_cell? w _ hx149_0)).trans hx149_0
                              replace p149 := eq_true p149
                              replace q149 := eq_true q149
                              go_wp2
                              go_roundg k2
                              case measure => have := HK1.out; have := HK2.out; omega
                              case rel => exact ⟨(false), (wrap64 (x39_2 + 1)), (by first | rfl | (simp; done) | (simp [*]; done)), (by first | rfl | (simp; done) | (simp [*]; done)), H', ⟨by have := HK1.out; have := HK2.out; omega⟩, ⟨by (with_reducible repeat (first | refine blk_drewN ?_ _ | refine blk_drew ?_ | refine blk_alloc ?_ _)); exact BK146.out⟩, ⟨by (with_reducible repeat (first | refine blk_drewN ?_ _ | refine blk_drew ?_ | refine blk_alloc ?_ _)); exact BK148.out⟩, ⟨by repeat (first | (with_reducible first | exact HB.out | apply below_alloc | apply pw_below_drewN | apply below_drew1 | refine below_set ?_ GE146.out | refine below_set ?_ GE148.out) | exact HB.out)⟩⟩
                          · rw [if_neg c23] at H
                            exact absurd H (by simp)
                        · rw [if_neg c22] at H
                          exact absurd H (by simp)
                      · rw [if_neg c21] at H
                        have c21b0 : decide (x39_2 < (((rd_T38 l0_3 x25_1).f1).length : Int)) = false := decide_eq_false c21
                        clear c21
                        by_cases c29 : x11_2 = true
                        · subst c29
                          have H1 : (some true) = some r := by rw [if_pos rfl] at H; exact H
                          clear H
                          have H := H1
                          clear H1
                          obtain rfl := Option.some.inj H
                          go_wp2
                          go_ret
                          exact ⟨by first | rfl | (simp [errW_none, errW_some] <;> rfl) | (simp [*, errW_none, errW_some] <;> rfl), by repeat (first | (with_reducible first | exact HB.out | apply below_alloc | apply pw_below_drewN | apply below_drew1 | refine below_set ?_ GE146.out | refine below_set ?_ GE148.out) | exact HB.out)⟩
                        · replace c29 := Bool.eq_false_iff.mpr c29
                          subst c29
                          have H1 : (coppicerref_Makes.l0 k2 a1 a2 a3 l0_3 (l0_3.length : Int) (wrap64 (x25_1 + 1)) a0_0 a0_1 a0_2 l0_3) = some r := by rw [if_neg (show ¬ (false = true) by decide)] at H; exact H
                          clear H
                          have H := H1
                          clear H1
                          have H' := Aside0.mk H
                          clear H
                          go_wp2
                          go_roundg k2
                          case measure => have := HK1.out; have := HK2.out; omega
                          case rel => exact ⟨(wrap64 (x25_1 + 1)), (by first | rfl | (simp; done) | (simp [*]; done)), H', ⟨by have := HK1.out; have := HK2.out; omega⟩, ⟨by (with_reducible repeat (first | refine blk_drewN ?_ _ | refine blk_drew ?_ | refine blk_alloc ?_ _)); exact BK146.out⟩, ⟨by repeat (first | (with_reducible first | exact HB.out | apply below_alloc | apply pw_below_drewN | apply below_drew1 | refine below_set ?_ GE146.out | refine below_set ?_ GE148.out) | exact HB.out)⟩⟩
                · rw [if_neg c16] at H
                  have c16b0 : (((rd_T38 l0_3 x25_1).f0) == (wrap64 (a1 - a0_0))) = false := beq_eq_false_iff_ne.mpr c16
                  have c16b1 : (((rd_T38 l0_3 x25_1).f0) != (wrap64 (a1 - a0_0))) = true := bne_iff_ne.mpr c16
                  have H' := Aside0.mk H
                  clear H
                  have p147 : 0 ≤ (x25_1 : Int) := of_decide_eq_true (by first | (with_reducible assumption) | assumption)
                  have q147 : x25_1 < (l0_3.length : Int) := of_decide_eq_true (by first | (with_reducible assumption) | assumption)
                  obtain ⟨ad147, A147_1, c147_1, e147, hx147_0, hx147_1, hl147_1, hi147_1⟩ := at_T38 HR0_3.out x25_1 p147 q147
                  cases e147
                  replace hx147_0 := (HB.out.cell (World.block_lt_of_cell? w _ hx147_0)).trans hx147_0
                  replace hx147_1 := (HB.out.cell (World.block_lt_of_cell? w _ hx147_1)).trans hx147_1
                  have HR147_1 := Aside0.mk hi147_1
                  have HC147_1 := Aside0.mk hl147_1
                  clear hi147_1 hl147_1
                  replace p147 := eq_true p147
                  replace q147 := eq_true q147
                  go_wp2_with (first | ((with_reducible refine gate_dst (N := 10) rfl ?_); refine box_event ?hg (N := 10) ?hd (cs := #[.int .i64 0, .slice none 0 0]) (t := 38) ?hr ?_; (case hd => rfl); (case hg => rfl); (case hr => first | (go_simp; done) | (go_simp; rfl)); intro gb148 hg w30 hbox hb; have n0_ := Aside0.mk (blk_below (g := gb146) (o := .cells #[.int .i64 a0_0, .int .i64 a0_1, .int .i64 a0_2, .slice (some ad147) l0_3.length c0_3] 24 (0, 0)) (by (with_reducible repeat (first | refine blk_drewN ?_ _ | refine blk_drew ?_ | refine blk_alloc ?_ _)); exact BK146.out) hb); have n1_ := Aside0.mk (below_step (by repeat (first | (with_reducible first | exact HB.out | apply below_alloc | apply pw_below_drewN | apply below_drew1 | refine below_set ?_ GE146.out) | exact HB.out)) hb); have n2_ := Aside0.mk (hbox); have n3_ := Aside0.mk ((by rw [hg]; exact (below_size (by repeat (first | (with_reducible first | exact HB.out | apply below_alloc | apply pw_below_drewN | apply below_drew1 | refine below_set ?_ GE146.out) | exact HB.out))) : w.heap.size ≤ gb148)); have n4_ := Aside0.mk ((by rw [hg]; exact (below_size (by repeat (first | (with_reducible first | exact HB.out | apply below_alloc | apply pw_below_drewN | apply below_drew1 | refine below_set ?_ GE146.out) | exact HB.out))) : w.heap.size ≤ gb148)); have n5_ := Aside0.mk ((by rw [hg]; exact Nat.ne_of_lt (blk_lt (g := gb146) (o := .cells #[.int .i64 a0_0, .int .i64 a0_1, .int .i64 a0_2, .slice (some ad147) l0_3.length c0_3] 24 (0, 0)) (by (with_reducible repeat (first | refine blk_drewN ?_ _ | refine blk_drew ?_ | refine blk_alloc ?_ _)); exact BK146.out)) : gb146 ≠ gb148)); have n6_ := Aside0.mk ((by rw [hg]; exact Nat.ne_of_gt (blk_lt (g := gb146) (o := .cells #[.int .i64 a0_0, .int .i64 a0_1, .int .i64 a0_2, .slice (some ad147) l0_3.length c0_3] 24 (0, 0)) (by (with_reducible repeat (first | refine blk_drewN ?_ _ | refine blk_drew ?_ | refine blk_alloc ?_ _)); exact BK146.out)) : gb148 ≠ gb146)); clear BK146; clear HB; have BK146 := n0_; have HB := n1_; have BK148 := n2_; have GW148 := n3_; have GE148 := n4_; have NB146_148 := n5_; have NB148_146 := n6_; clear n0_ n1_ n2_ n3_ n4_ n5_ n6_; clear hb hbox hg; have hnb31 := NB148_146.out; have hnc31 := NB146_148.out; have hcz32_0 : w30.cell? ⟨gb148, 0, none⟩ = some (.int .i64 0) := (blk_cell BK148.out 0).trans rfl; have hcz32_1 : w30.cell? ⟨gb148, 1, none⟩ = some (.slice none 0 0) := (blk_cell BK148.out 1).trans rfl; have hfz32_0 := blk_frozen BK148.out 0; have hfz32_1 := blk_frozen BK148.out 1; have hcz33_0 : w30.cell? ⟨gb146, 0, none⟩ = some (.int .i64 a0_0) := (blk_cell BK146.out 0).trans rfl; have hcz33_1 : w30.cell? ⟨gb146, 1, none⟩ = some (.int .i64 a0_1) := (blk_cell BK146.out 1).trans rfl; have hcz33_2 : w30.cell? ⟨gb146, 2, none⟩ = some (.int .i64 a0_2) := (blk_cell BK146.out 2).trans rfl; have hcz33_3 : w30.cell? ⟨gb146, 3, none⟩ = some (.slice (some ad147) l0_3.length c0_3) := (blk_cell BK146.out 3).trans rfl; have hfz33_0 := blk_frozen BK146.out 0; have hfz33_1 := blk_frozen BK146.out 1; have hfz33_2 := blk_frozen BK146.out 2; have hfz33_3 := blk_frozen BK146.out 3))
                  go_roundg k1
                  case measure => have := HK1.out; omega
                  case rel => exact ⟨(wrap64 (x25_1 + 1)), (by first | rfl | (simp; done) | (simp [*]; done)), H', ⟨by have := HK1.out; omega⟩, ⟨by (with_reducible repeat (first | refine blk_drewN ?_ _ | refine blk_drew ?_ | refine blk_alloc ?_ _)); refine blk_far ?_ NB146_148.out _; (with_reducible repeat (first | refine blk_drewN ?_ _ | refine blk_drew ?_ | refine blk_alloc ?_ _)); refine blk_far ?_ NB146_148.out _; (with_reducible repeat (first | refine blk_drewN ?_ _ | refine blk_drew ?_ | refine blk_alloc ?_ _)); exact BK146.out⟩, ⟨by repeat (first | (with_reducible first | exact HB.out | apply below_alloc | apply pw_below_drewN | apply below_drew1 | refine below_set ?_ GE146.out | refine below_set ?_ GE148.out) | exact HB.out)⟩⟩
              · rw [if_neg c15] at H
                exact absurd H (by simp)
            · rw [if_neg c14] at H
              exact absurd H (by simp)
          · rw [if_neg c13] at H
            have c13b0 : decide (x25_1 < (l0_3.length : Int)) = false := decide_eq_false c13
            clear c13
            obtain rfl := Option.some.inj H
            go_wp2
            go_ret
            exact ⟨by first | rfl | (simp [errW_none, errW_some] <;> rfl) | (simp [*, errW_none, errW_some] <;> rfl), by repeat (first | (with_reducible first | exact HB.out | apply below_alloc | apply pw_below_drewN | apply below_drew1 | refine below_set ?_ GE146.out) | exact HB.out)⟩

/-! ### coppicerref_Names: function 20 -/
def coppicerref_Names.l0 : Nat → Bool → Int → Int → Int → Int → Int → List (S38) → Option (Int)
  | 0, _, _, _, _, _, _, _ => none
  | k + 1, x1, x5, x6, x152000, x152001, x152002, x152003 => if x6 < x152001 then ((coppicerref_Makes.f k x152000 x152001 x152002 x152003 (wrap64 (x152000 + x6)) x152001 x1).bind fun t152 => (if t152 = true then (if 0 ≤ (IntKind.u64.wrap (x6)) then (coppicerref_Names.l0 k x1 ((x5 + (shl .u32 1 (IntKind.u64.wrap (x6)))) % 4294967296) (wrap64 (x6 + 1)) x152000 x152001 x152002 x152003) else (none)) else (coppicerref_Names.l0 k x1 x5 (wrap64 (x6 + 1)) x152000 x152001 x152002 x152003))) else (some x5)
def coppicerref_Names.f (k : Nat) (a0_0 : Int) (a0_1 : Int) (a0_2 : Int) (l0_3 : List (S38)) (a1 : Bool) : Option (Int) := coppicerref_Names.l0 k a1 0 0 a0_0 a0_1 a0_2 l0_3
theorem coppicerref_Names.mono_l : ∀ k, (∀ y0 y1 y2 y3 y4 y5 y6, LeO (coppicerref_Names.l0 k y0 y1 y2 y3 y4 y5 y6) (coppicerref_Names.l0 (k + 1) y0 y1 y2 y3 y4 y5 y6))
  | 0 => fun _ _ _ _ _ _ _ r h => by simp [coppicerref_Names.l0] at h
  | k + 1 => by
    have ih0 := coppicerref_Names.mono_l k
    · intro y0 y1 y2 y3 y4 y5 y6
      unfold coppicerref_Names.l0
      repeat' first
      | (with_reducible exact ih0 _ _ _ _ _ _ _)
      | (with_reducible exact coppicerref_Makes.mono _ _ _ _ _ _ _ _)
      | (with_reducible exact LeO.refl _)
      | (with_reducible exact LeO.none _)
      | (with_reducible refine LeO.ite ?_ ?_)
      | (with_reducible refine LeO.bind ?_ (fun _ => ?_))
      | exact ih0 _ _ _ _ _ _ _
      | exact coppicerref_Makes.mono _ _ _ _ _ _ _ _
      | exact LeO.none _
      | refine LeO.ite ?_ ?_
      | refine LeO.bind ?_ (fun _ => ?_)
theorem coppicerref_Names.mono : ∀ a0 a1 a2 a3 a4 k, LeO (coppicerref_Names.f k a0 a1 a2 a3 a4) (coppicerref_Names.f (k + 1) a0 a1 a2 a3 a4) := by
  intro a0 a1 a2 a3 a4 k
  have ih0 := coppicerref_Names.mono_l k
  unfold coppicerref_Names.f
  repeat' first
      | (with_reducible exact ih0 _ _ _ _ _ _ _)
      | (with_reducible exact coppicerref_Makes.mono _ _ _ _ _ _ _ _)
      | (with_reducible exact LeO.refl _)
      | (with_reducible exact LeO.none _)
      | (with_reducible refine LeO.ite ?_ ?_)
      | (with_reducible refine LeO.bind ?_ (fun _ => ?_))
      | exact ih0 _ _ _ _ _ _ _
      | exact coppicerref_Makes.mono _ _ _ _ _ _ _ _
      | exact LeO.none _
      | refine LeO.ite ?_ ?_
      | refine LeO.bind ?_ (fun _ => ?_)
set_option maxHeartbeats 8000000 in
set_option maxRecDepth 100000 in
theorem coppicerref_Names.calls (k : Nat) (a0_0 : Int) (a0_1 : Int) (a0_2 : Int) (A0_3 : Option Addr) (c0_3 : Nat) (l0_3 : List (S38)) (a1 : Bool) (r : Int) (w : World) (hr0_3 : Kd.C k38 w A0_3 l0_3.length l0_3) (hc0_3 : l0_3.length ≤ c0_3) (h : coppicerref_Names.f k a0_0 a0_1 a0_2 l0_3 a1 = some r) :
    Calls Try.prog 20 #[.agg #[.int .i64 a0_0, .int .i64 a0_1, .int .i64 a0_2, .slice A0_3 l0_3.length c0_3], .bool a1] w fun e w' => e = .returned (.int .u32 r) ∧ Below w.heap.size w w' := by
  have hu24 := Try.underlying24
  have HR0_3 := Aside0.mk hr0_3
  have HC0_3 := Aside0.mk hc0_3
  clear hr0_3 hc0_3
  have HB := Aside0.mk (Below.refl w.heap.size w)
  have H : (coppicerref_Names.l0 k a1 0 0 a0_0 a0_1 a0_2 l0_3) = some r := h
  clear h
  have H' := Aside0.mk H
  clear H
  go_enter Try.func20, Try.ntmps20
  go_wp2_with (first | ((with_reducible refine gate_dst (N := 2) rfl ?_); refine box_event ?hg (N := 2) ?hd (cs := #[.int .i64 a0_0, .int .i64 a0_1, .int .i64 a0_2, .slice A0_3 l0_3.length c0_3]) (t := 24) ?hr ?_; (case hd => rfl); (case hg => rfl); (case hr => first | (go_simp; done) | (go_simp; rfl)); intro gb151 hg w3 hbox hb; have n0_ := Aside0.mk (below_step (by repeat (first | (with_reducible first | exact HB.out | apply below_alloc | apply pw_below_drewN | apply below_drew1) | exact HB.out)) hb); have n1_ := Aside0.mk (hbox); have n2_ := Aside0.mk ((by rw [hg]; exact (below_size (by repeat (first | (with_reducible first | exact HB.out | apply below_alloc | apply pw_below_drewN | apply below_drew1) | exact HB.out))) : w.heap.size ≤ gb151)); have n3_ := Aside0.mk ((by rw [hg]; exact (below_size (by repeat (first | (with_reducible first | exact HB.out | apply below_alloc | apply pw_below_drewN | apply below_drew1) | exact HB.out))) : w.heap.size ≤ gb151)); clear HB; have HB := n0_; have BK151 := n1_; have GW151 := n2_; have GE151 := n3_; clear n0_ n1_ n2_ n3_; clear hb hbox hg))
  go_loopg [5, 6] k (fun kq v5 v6 w' => ∃ (x5_1 : Int) (x6_1 : Int), v5 = .int .u32 x5_1 ∧ v6 = .int .i64 x6_1 ∧ Aside0 (coppicerref_Names.l0 kq a1 x5_1 x6_1 a0_0 a0_1 a0_2 l0_3 = some r) ∧ Aside0 (kq ≤ k) ∧ Aside0 (w'.heap[gb151]? = some (.cells #[.int .i64 a0_0, .int .i64 a0_1, .int .i64 a0_2, (.slice A0_3 l0_3.length c0_3)] 24 (0, 0))) ∧ Aside0 (Below w.heap.size w w'))
  case atStart => exact ⟨(0), (0), (by first | rfl | (simp; done) | (simp [*]; done)), (by first | rfl | (simp; done) | (simp [*]; done)), H', ⟨Nat.le_refl _⟩, ⟨by (with_reducible repeat (first | refine blk_drewN ?_ _ | refine blk_drew ?_ | refine blk_alloc ?_ _)); exact BK151.out⟩, ⟨by repeat (first | (with_reducible first | exact HB.out | apply below_alloc | apply pw_below_drewN | apply below_drew1 | refine below_set ?_ GE151.out) | exact HB.out)⟩⟩
  case round =>
    clear H'
    try clear c2
    try clear p2
    obtain ⟨x5_1, x6_1, rfl, rfl, HA, HK1, BK151, HB⟩ := hrel
    cases gk with
    | zero => exact absurd HA.out (by simp [coppicerref_Names.l0])
    | succ k1 =>
      have H := HA.out
      clear HA
      simp only [coppicerref_Names.l0] at H
      by_cases c4 : x6_1 < a0_1
      · rw [if_pos c4] at H
        have c4b0 : decide (x6_1 < a0_1) = true := decide_eq_true c4
        clear c4
        replace H := Option.bind_eq_some_iff.mp H
        obtain ⟨t152, A50, H⟩ := H
        replace H : (if t152 = true then (if 0 ≤ (IntKind.u64.wrap (x6_1)) then (coppicerref_Names.l0 k1 a1 ((x5_1 + (shl .u32 1 (IntKind.u64.wrap (x6_1)))) % 4294967296) (wrap64 (x6_1 + 1)) a0_0 a0_1 a0_2 l0_3) else (none)) else (coppicerref_Names.l0 k1 a1 x5_1 (wrap64 (x6_1 + 1)) a0_0 a0_1 a0_2 l0_3)) = some r := H
        have A5 := Aside0.mk A50
        clear A50
        by_cases c6 : t152 = true
        · subst c6
          have H1 : (if 0 ≤ (IntKind.u64.wrap (x6_1)) then (coppicerref_Names.l0 k1 a1 ((x5_1 + (shl .u32 1 (IntKind.u64.wrap (x6_1)))) % 4294967296) (wrap64 (x6_1 + 1)) a0_0 a0_1 a0_2 l0_3) else (none)) = some r := by rw [if_pos rfl] at H; exact H
          clear H
          have H := H1
          clear H1
          obtain ⟨ji7, hji7⟩ : ∃ j_ : Int, (IntKind.u64.wrap (x6_1)) = j_ := ⟨_, rfl⟩
          replace H : (if 0 ≤ (ji7) then (coppicerref_Names.l0 k1 a1 ((x5_1 + (shl .u32 1 (ji7))) % 4294967296) (wrap64 (x6_1 + 1)) a0_0 a0_1 a0_2 l0_3) else (none)) = some r := by first | (rw [hji7] at H; exact H) | (simp only [hji7] at H ⊢; exact H)
          (try rw [hji7] at A5)
          by_cases c8 : 0 ≤ (ji7)
          · rw [if_pos c8] at H
            have c8b0 := eq_true c8
            have c8b1 : decide (0 ≤ (ji7)) = true := decide_eq_true c8
            clear c8
            obtain ⟨ji9, hji9⟩ : ∃ j_ : Int, (shl .u32 1 (ji7)) = j_ := ⟨_, rfl⟩
            replace H : (coppicerref_Names.l0 k1 a1 ((x5_1 + (ji9)) % 4294967296) (wrap64 (x6_1 + 1)) a0_0 a0_1 a0_2 l0_3) = some r := by first | (rw [hji9] at H; exact H) | (simp only [hji9] at H ⊢; exact H)
            (try rw [hji9] at A5)
            have hji9_ : (IntKind.u32.wrap (1 * 2 ^ min (ji7).toNat 32)) = ji9 := hji9
            have hji9z : (ji7) ≤ 32 → (IntKind.u32.wrap (1 * 2 ^ (ji7).toNat)) = ji9 := shl_small hji9
            have hji9u : (IntKind.u32.wrap (2 ^ min (ji7).toNat 32)) = ji9 := by have h_ := hji9_; rw [Int.one_mul] at h_; exact h_
            have hji9v : (ji7) ≤ 32 → (IntKind.u32.wrap (2 ^ (ji7).toNat)) = ji9 := fun hle_ => by have h_ := hji9z hle_; rw [Int.one_mul] at h_; exact h_
            have H' := Aside0.mk H
            clear H
            have hcz10_0 : wr.cell? ⟨gb151, 0, none⟩ = some (.int .i64 a0_0) := (blk_cell BK151.out 0).trans rfl
            have hcz10_1 : wr.cell? ⟨gb151, 1, none⟩ = some (.int .i64 a0_1) := (blk_cell BK151.out 1).trans rfl
            have hcz10_2 : wr.cell? ⟨gb151, 2, none⟩ = some (.int .i64 a0_2) := (blk_cell BK151.out 2).trans rfl
            have hcz10_3 : wr.cell? ⟨gb151, 3, none⟩ = some (.slice A0_3 l0_3.length c0_3) := (blk_cell BK151.out 3).trans rfl
            have hfz10_0 := blk_frozen BK151.out 0
            have hfz10_1 := blk_frozen BK151.out 1
            have hfz10_2 := blk_frozen BK151.out 2
            have hfz10_3 := blk_frozen BK151.out 3
            go_wp2_with (first | ((with_reducible refine gate_callee (f := 48) rfl ?_); refine goesL_ (some 21) rfl rfl Try.func48 (by kernel_rfl) rfl #[.agg #[.int .i64 a0_0, .int .i64 a0_1, .int .i64 a0_2, .slice A0_3 l0_3.length c0_3], .int .i64 (wrap64 (a0_0 + x6_1)), .int .i64 a0_1, .bool a1] rfl (by (try simp only [List.map_toArray, List.map_cons, List.map_nil]); first | done | rfl | (simp only [List.length_drop, List.length_take]; rfl)) ?_; (with_reducible refine (coppicerref_Makes.calls k1 a0_0 a0_1 a0_2 _ _ l0_3 (wrap64 (a0_0 + x6_1)) a0_1 a1 true _ ?side1 ?side2 A5.out).mono ?_); (case side1 => repeat (first | exact (Kd.C_below HR0_3.out HB.out) | (with_reducible refine Kd.C_alloc ?_ _) | (with_reducible refine Kd.C_drewN ?_ _) | (with_reducible refine Kd.C_drew ?_))); (case side2 => exact HC0_3.out); rintro e w11 ⟨rfl, hb⟩; refine ⟨_, rfl, ?_⟩; have n0_ := Aside0.mk (blk_below (g := gb151) (o := .cells #[.int .i64 a0_0, .int .i64 a0_1, .int .i64 a0_2, .slice A0_3 l0_3.length c0_3] 24 (0, 0)) (by (with_reducible repeat (first | refine blk_drewN ?_ _ | refine blk_drew ?_ | refine blk_alloc ?_ _)); exact BK151.out) hb); have n1_ := Aside0.mk (below_step (by repeat (first | (with_reducible first | exact HB.out | apply below_alloc | apply pw_below_drewN | apply below_drew1 | refine below_set ?_ GE151.out) | exact HB.out)) hb); clear BK151; clear HB; have BK151 := n0_; have HB := n1_; clear n0_ n1_; (try clear hb); (try clear hb2); (try clear hk); (try clear hi)))
            (first | go_roundg k1 | (simp only [← hji9]; go_roundg k1) | (simp only [← hji7, ← hji9]; go_roundg k1))
            case measure => have := HK1.out; omega
            case rel => exact ⟨((x5_1 + (ji9)) % 4294967296), (wrap64 (x6_1 + 1)), (by first | rfl | (simp; done) | (simp only [← hji9] <;> (first | rfl | simp)) | (simp [*]; done)), (by first | rfl | (simp; done) | (simp [*]; done)), H', ⟨by have := HK1.out; omega⟩, ⟨by (with_reducible repeat (first | refine blk_drewN ?_ _ | refine blk_drew ?_ | refine blk_alloc ?_ _)); exact BK151.out⟩, ⟨by repeat (first | (with_reducible first | exact HB.out | apply below_alloc | apply pw_below_drewN | apply below_drew1 | refine below_set ?_ GE151.out) | exact HB.out)⟩⟩
          · rw [if_neg c8] at H
            exact absurd H (by simp)
        · replace c6 := Bool.eq_false_iff.mpr c6
          subst c6
          have H1 : (coppicerref_Names.l0 k1 a1 x5_1 (wrap64 (x6_1 + 1)) a0_0 a0_1 a0_2 l0_3) = some r := by rw [if_neg (show ¬ (false = true) by decide)] at H; exact H
          clear H
          have H := H1
          clear H1
          have H' := Aside0.mk H
          clear H
          have hcz12_0 : wr.cell? ⟨gb151, 0, none⟩ = some (.int .i64 a0_0) := (blk_cell BK151.out 0).trans rfl
          have hcz12_1 : wr.cell? ⟨gb151, 1, none⟩ = some (.int .i64 a0_1) := (blk_cell BK151.out 1).trans rfl
          have hcz12_2 : wr.cell? ⟨gb151, 2, none⟩ = some (.int .i64 a0_2) := (blk_cell BK151.out 2).trans rfl
          have hcz12_3 : wr.cell? ⟨gb151, 3, none⟩ = some (.slice A0_3 l0_3.length c0_3) := (blk_cell BK151.out 3).trans rfl
          have hfz12_0 := blk_frozen BK151.out 0
          have hfz12_1 := blk_frozen BK151.out 1
          have hfz12_2 := blk_frozen BK151.out 2
          have hfz12_3 := blk_frozen BK151.out 3
          go_wp2_with (first | ((with_reducible refine gate_callee (f := 48) rfl ?_); refine goesL_ (some 21) rfl rfl Try.func48 (by kernel_rfl) rfl #[.agg #[.int .i64 a0_0, .int .i64 a0_1, .int .i64 a0_2, .slice A0_3 l0_3.length c0_3], .int .i64 (wrap64 (a0_0 + x6_1)), .int .i64 a0_1, .bool a1] rfl (by (try simp only [List.map_toArray, List.map_cons, List.map_nil]); first | done | rfl | (simp only [List.length_drop, List.length_take]; rfl)) ?_; (with_reducible refine (coppicerref_Makes.calls k1 a0_0 a0_1 a0_2 _ _ l0_3 (wrap64 (a0_0 + x6_1)) a0_1 a1 false _ ?side1 ?side2 A5.out).mono ?_); (case side1 => repeat (first | exact (Kd.C_below HR0_3.out HB.out) | (with_reducible refine Kd.C_alloc ?_ _) | (with_reducible refine Kd.C_drewN ?_ _) | (with_reducible refine Kd.C_drew ?_))); (case side2 => exact HC0_3.out); rintro e w13 ⟨rfl, hb⟩; refine ⟨_, rfl, ?_⟩; have n0_ := Aside0.mk (blk_below (g := gb151) (o := .cells #[.int .i64 a0_0, .int .i64 a0_1, .int .i64 a0_2, .slice A0_3 l0_3.length c0_3] 24 (0, 0)) (by (with_reducible repeat (first | refine blk_drewN ?_ _ | refine blk_drew ?_ | refine blk_alloc ?_ _)); exact BK151.out) hb); have n1_ := Aside0.mk (below_step (by repeat (first | (with_reducible first | exact HB.out | apply below_alloc | apply pw_below_drewN | apply below_drew1 | refine below_set ?_ GE151.out) | exact HB.out)) hb); clear BK151; clear HB; have BK151 := n0_; have HB := n1_; clear n0_ n1_; (try clear hb); (try clear hb2); (try clear hk); (try clear hi)))
          go_roundg k1
          case measure => have := HK1.out; omega
          case rel => exact ⟨(x5_1), (wrap64 (x6_1 + 1)), (by first | rfl | (simp; done) | (simp [*]; done)), (by first | rfl | (simp; done) | (simp [*]; done)), H', ⟨by have := HK1.out; omega⟩, ⟨by (with_reducible repeat (first | refine blk_drewN ?_ _ | refine blk_drew ?_ | refine blk_alloc ?_ _)); exact BK151.out⟩, ⟨by repeat (first | (with_reducible first | exact HB.out | apply below_alloc | apply pw_below_drewN | apply below_drew1 | refine below_set ?_ GE151.out) | exact HB.out)⟩⟩
      · rw [if_neg c4] at H
        have c4b0 : decide (x6_1 < a0_1) = false := decide_eq_false c4
        clear c4
        obtain rfl := Option.some.inj H
        have hcz14_0 : wr.cell? ⟨gb151, 0, none⟩ = some (.int .i64 a0_0) := (blk_cell BK151.out 0).trans rfl
        have hcz14_1 : wr.cell? ⟨gb151, 1, none⟩ = some (.int .i64 a0_1) := (blk_cell BK151.out 1).trans rfl
        have hcz14_2 : wr.cell? ⟨gb151, 2, none⟩ = some (.int .i64 a0_2) := (blk_cell BK151.out 2).trans rfl
        have hcz14_3 : wr.cell? ⟨gb151, 3, none⟩ = some (.slice A0_3 l0_3.length c0_3) := (blk_cell BK151.out 3).trans rfl
        have hfz14_0 := blk_frozen BK151.out 0
        have hfz14_1 := blk_frozen BK151.out 1
        have hfz14_2 := blk_frozen BK151.out 2
        have hfz14_3 := blk_frozen BK151.out 3
        go_wp2
        go_ret
        exact ⟨by first | rfl | (simp [errW_none, errW_some] <;> rfl) | (simp [*, errW_none, errW_some] <;> rfl), by repeat (first | (with_reducible first | exact HB.out | apply below_alloc | apply pw_below_drewN | apply below_drew1 | refine below_set ?_ GE151.out) | exact HB.out)⟩

/-! ### coppicerref_Bit: function 62 -/
def coppicerref_Bit.f (a0 : Int) (a1 : Int) : Option (Bool) := if a1 ≥ 0 then (if a1 < 32 then (if 0 ≤ (IntKind.u64.wrap (a1)) then (some ((Go.bits .and .u32 a0 (shl .u32 1 (IntKind.u64.wrap (a1)))) != 0)) else (none)) else (some false)) else (some false)
set_option maxHeartbeats 8000000 in
set_option maxRecDepth 100000 in
theorem coppicerref_Bit.calls (a0 : Int) (a1 : Int) (r : Bool) (w : World) (h : coppicerref_Bit.f a0 a1 = some r) :
    Calls Try.prog 62 #[.int .u32 a0, .int .i64 a1] w fun e w' => e = .returned (.bool r) ∧ Drawn0 w w' := by
  have H : (if a1 ≥ 0 then (if a1 < 32 then (if 0 ≤ (IntKind.u64.wrap (a1)) then (some ((Go.bits .and .u32 a0 (shl .u32 1 (IntKind.u64.wrap (a1)))) != 0)) else (none)) else (some false)) else (some false)) = some r := h
  clear h
  by_cases c3 : a1 ≥ 0
  · rw [if_pos c3] at H
    have c3b0 : decide (0 ≤ a1) = true := decide_eq_true c3
    clear c3
    by_cases c4 : a1 < 32
    · rw [if_pos c4] at H
      have c4b0 : decide (a1 < 32) = true := decide_eq_true c4
      clear c4
      obtain ⟨ji5, hji5⟩ : ∃ j_ : Int, (IntKind.u64.wrap (a1)) = j_ := ⟨_, rfl⟩
      replace H : (if 0 ≤ (ji5) then (some ((Go.bits .and .u32 a0 (shl .u32 1 (ji5))) != 0)) else (none)) = some r := by first | (rw [hji5] at H; exact H) | (simp only [hji5] at H ⊢; exact H)
      by_cases c6 : 0 ≤ (ji5)
      · rw [if_pos c6] at H
        have c6b0 := eq_true c6
        have c6b1 : decide (0 ≤ (ji5)) = true := decide_eq_true c6
        clear c6
        obtain ⟨ji7, hji7⟩ : ∃ j_ : Int, (shl .u32 1 (ji5)) = j_ := ⟨_, rfl⟩
        replace H : (some ((Go.bits .and .u32 a0 (ji7)) != 0)) = some r := by first | (rw [hji7] at H; exact H) | (simp only [hji7] at H ⊢; exact H)
        have hji7_ : (IntKind.u32.wrap (1 * 2 ^ min (ji5).toNat 32)) = ji7 := hji7
        have hji7z : (ji5) ≤ 32 → (IntKind.u32.wrap (1 * 2 ^ (ji5).toNat)) = ji7 := shl_small hji7
        have hji7u : (IntKind.u32.wrap (2 ^ min (ji5).toNat 32)) = ji7 := by have h_ := hji7_; rw [Int.one_mul] at h_; exact h_
        have hji7v : (ji5) ≤ 32 → (IntKind.u32.wrap (2 ^ (ji5).toNat)) = ji7 := fun hle_ => by have h_ := hji7z hle_; rw [Int.one_mul] at h_; exact h_
        obtain rfl := Option.some.inj H
        go_enter Try.func62, Try.ntmps62
        go_wp2
        go_ret
        exact ⟨by first | rfl | (simp; done) | (simp only [← hji5, ← hji7] <;> (first | rfl | simp)) | (simp [*]; done), by repeat (first | exact Drawn0.refl _ | apply Drawn0.step)⟩
      · rw [if_neg c6] at H
        exact absurd H (by simp)
    · rw [if_neg c4] at H
      have c4b0 : decide (a1 < 32) = false := decide_eq_false c4
      clear c4
      obtain rfl := Option.some.inj H
      go_enter Try.func62, Try.ntmps62
      go_wp2
      go_ret
      exact ⟨by first | rfl | (simp; done) | (simp [*]; done), by repeat (first | exact Drawn0.refl _ | apply Drawn0.step)⟩
  · rw [if_neg c3] at H
    have c3b0 : decide (0 ≤ a1) = false := decide_eq_false c3
    clear c3
    obtain rfl := Option.some.inj H
    go_enter Try.func62, Try.ntmps62
    go_wp2
    go_ret
    exact ⟨by first | rfl | (simp; done) | (simp [*]; done), by repeat (first | exact Drawn0.refl _ | apply Drawn0.step)⟩

end Go.Proofs.Ytnjfcbhbebokeaa.PAheadFirsts
