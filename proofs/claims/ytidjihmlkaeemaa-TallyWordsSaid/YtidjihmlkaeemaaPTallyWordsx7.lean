-- Written by a program of this session: a turn of the print kit's own.
import Derived.Test.YtidjihmlkaeemaaPTallyWordsx0
import Derived.Test.YtidjihmlkaeemaaPTallyWordsx6
namespace Go.Proofs.Ytidjihmlkaeemaa.PTallyWords
open Go.RowKit Go.Proofs.YtidjihmlkaeemaaW.PrintWords Go.Proofs.YtidjihmlkaeemaaW.PrintLast Go.Proofs.YtidjihmlkaeemaaW.PrintMore
attribute [local go_sem] max2_int min2_int max_two min_two max_three min_three max_four min_four   -- for this text's walks alone
set_option linter.unusedVariables false
set_option linter.unusedSimpArgs false

/-! ### tally_wrong: function 58 -/
def tally_wrong.f (k : Nat) (a0_0 : Int) (a0_1 : Int) (l0_2 : List (List Int)) (a0_3 : Int) (a0_4 : Int) (a1 : Int) : Option (Int) := (machine_Check.f k a0_0 a0_1 l0_2 a0_3 a0_4).bind fun t153 => (if t153 = 0 then (if a1 < 0 then (some 1) else (if a1 > 12 then (some 1) else (some 0))) else (some t153))
theorem tally_wrong.mono : ∀ a0 a1 a2 a3 a4 a5 k, LeO (tally_wrong.f k a0 a1 a2 a3 a4 a5) (tally_wrong.f (k + 1) a0 a1 a2 a3 a4 a5) := by
  intro a0 a1 a2 a3 a4 a5 k
  unfold tally_wrong.f
  repeat' first
      | (with_reducible exact machine_Check.mono _ _ _ _ _ _)
      | (with_reducible exact LeO.refl _)
      | (with_reducible exact LeO.none _)
      | (with_reducible refine LeO.ite ?_ ?_)
      | (with_reducible refine LeO.bind ?_ (fun _ => ?_))
      | exact machine_Check.mono _ _ _ _ _ _
      | exact LeO.none _
      | refine LeO.ite ?_ ?_
      | refine LeO.bind ?_ (fun _ => ?_)
set_option maxHeartbeats 8000000 in
set_option maxRecDepth 100000 in
theorem tally_wrong.calls (k : Nat) (a0_0 : Int) (a0_1 : Int) (A0_2 : Option Addr) (c0_2 : Nat) (l0_2 : List (List Int)) (a0_3 : Int) (a0_4 : Int) (a1 : Int) (r : Int) (w : World) (hr0_2 : Kd.C (Kd.slice 3 (Kd.int .i64)) w A0_2 l0_2.length l0_2) (hc0_2 : l0_2.length ≤ c0_2) (h : tally_wrong.f k a0_0 a0_1 l0_2 a0_3 a0_4 a1 = some r) :
    Calls Try.prog 58 #[.agg #[.int .i64 a0_0, .int .i64 a0_1, .slice A0_2 l0_2.length c0_2, .int .i64 a0_3, .int .u32 a0_4], .int .i64 a1] w fun e w' => e = .returned (.int .i64 r) ∧ Below w.heap.size w w' := by
  have hu41 := Try.underlying41
  have HR0_2 := Aside0.mk hr0_2
  have HC0_2 := Aside0.mk hc0_2
  clear hr0_2 hc0_2
  have HB := Aside0.mk (Below.refl w.heap.size w)
  have H : ((machine_Check.f k a0_0 a0_1 l0_2 a0_3 a0_4).bind fun t153 => (if t153 = 0 then (if a1 < 0 then (some 1) else (if a1 > 12 then (some 1) else (some 0))) else (some t153))) = some r := h
  clear h
  replace H := Option.bind_eq_some_iff.mp H
  obtain ⟨t153, A30, H⟩ := H
  replace H : (if t153 = 0 then (if a1 < 0 then (some 1) else (if a1 > 12 then (some 1) else (some 0))) else (some t153)) = some r := H
  have A3 := Aside0.mk A30
  clear A30
  by_cases c4 : t153 = 0
  · rw [if_pos c4] at H
    have c4b0 : (t153 == 0) = true := beq_iff_eq.mpr c4
    have c4b1 : (t153 != 0) = false := bne_eq_false_iff_eq.mpr c4
    clear c4
    by_cases c5 : a1 < 0
    · rw [if_pos c5] at H
      have c5b0 : decide (a1 < 0) = true := decide_eq_true c5
      clear c5
      obtain rfl := Option.some.inj H
      go_enter Try.func58, Try.ntmps58
      go_wp2_with (first | ((with_reducible refine gate_dst (N := 2) rfl ?_); refine box_event ?hg (N := 2) ?hd (cs := #[.int .i64 a0_0, .int .i64 a0_1, .slice A0_2 l0_2.length c0_2, .int .i64 a0_3, .int .u32 a0_4]) (t := 41) ?hr ?_; (case hd => rfl); (case hg => rfl); (case hr => first | (go_simp; done) | (go_simp; rfl)); intro gb152 hg w6 hbox hb; have n0_ := Aside0.mk (below_step (by repeat (first | (with_reducible first | exact HB.out | apply below_alloc | apply pw_below_drewN | apply below_drew1) | exact HB.out)) hb); have n1_ := Aside0.mk (hbox); have n2_ := Aside0.mk ((by rw [hg]; exact (below_size (by repeat (first | (with_reducible first | exact HB.out | apply below_alloc | apply pw_below_drewN | apply below_drew1) | exact HB.out))) : w.heap.size ≤ gb152)); have n3_ := Aside0.mk ((by rw [hg]; exact (below_size (by repeat (first | (with_reducible first | exact HB.out | apply below_alloc | apply pw_below_drewN | apply below_drew1) | exact HB.out))) : w.heap.size ≤ gb152)); clear HB; have HB := n0_; have BK152 := n1_; have GW152 := n2_; have GE152 := n3_; clear n0_ n1_ n2_ n3_; clear hb hbox hg; have hcz7_0 : w6.cell? ⟨gb152, 0, none⟩ = some (.int .i64 a0_0) := (blk_cell BK152.out 0).trans rfl; have hcz7_1 : w6.cell? ⟨gb152, 1, none⟩ = some (.int .i64 a0_1) := (blk_cell BK152.out 1).trans rfl; have hcz7_2 : w6.cell? ⟨gb152, 2, none⟩ = some (.slice A0_2 l0_2.length c0_2) := (blk_cell BK152.out 2).trans rfl; have hcz7_3 : w6.cell? ⟨gb152, 3, none⟩ = some (.int .i64 a0_3) := (blk_cell BK152.out 3).trans rfl; have hcz7_4 : w6.cell? ⟨gb152, 4, none⟩ = some (.int .u32 a0_4) := (blk_cell BK152.out 4).trans rfl; have hfz7_0 := blk_frozen BK152.out 0; have hfz7_1 := blk_frozen BK152.out 1; have hfz7_2 := blk_frozen BK152.out 2; have hfz7_3 := blk_frozen BK152.out 3; have hfz7_4 := blk_frozen BK152.out 4) | ((with_reducible refine gate_callee (f := 24) rfl ?_); refine goesL_ (some 7) rfl rfl Try.func24 (by kernel_rfl) rfl #[.agg #[.int .i64 a0_0, .int .i64 a0_1, .slice A0_2 l0_2.length c0_2, .int .i64 a0_3, .int .u32 a0_4]] rfl (by (try simp only [List.map_toArray, List.map_cons, List.map_nil]); first | done | rfl | (simp only [List.length_drop, List.length_take]; rfl)) ?_; (with_reducible refine (machine_Check.calls k a0_0 a0_1 _ _ l0_2 a0_3 a0_4 t153 _ ?side1 ?side2 A3.out).mono ?_); (case side1 => repeat (first | exact (Kd.C_below HR0_2.out HB.out) | (with_reducible refine Kd.C_alloc ?_ _) | (with_reducible refine Kd.C_drewN ?_ _) | (with_reducible refine Kd.C_drew ?_))); (case side2 => exact HC0_2.out); rintro e w8 ⟨rfl, hb⟩; refine ⟨_, rfl, ?_⟩; have n0_ := Aside0.mk (blk_below (g := gb152) (o := .cells #[.int .i64 a0_0, .int .i64 a0_1, .slice A0_2 l0_2.length c0_2, .int .i64 a0_3, .int .u32 a0_4] 41 (0, 0)) (by (with_reducible repeat (first | refine blk_drewN ?_ _ | refine blk_drew ?_ | refine blk_alloc ?_ _)); exact BK152.out) hb); have n1_ := Aside0.mk (below_step (by repeat (first | (with_reducible first | exact HB.out | apply below_alloc | apply pw_below_drewN | apply below_drew1 | refine below_set ?_ GE152.out) | exact HB.out)) hb); clear BK152; clear HB; have BK152 := n0_; have HB := n1_; clear n0_ n1_; (try clear hb); (try clear hb2); (try clear hk); (try clear hi)))
      go_ret
      exact ⟨by first | rfl | (simp [errW_none, errW_some] <;> rfl) | (simp [*, errW_none, errW_some] <;> rfl), by repeat (first | (with_reducible first | exact HB.out | apply below_alloc | apply pw_below_drewN | apply below_drew1 | refine below_set ?_ GE152.out) | exact HB.out)⟩
    · rw [if_neg c5] at H
      have c5b0 : decide (a1 < 0) = false := decide_eq_false c5
      clear c5
      by_cases c9 : a1 > 12
      · rw [if_pos c9] at H
        have c9b0 : decide (12 < a1) = true := decide_eq_true c9
        clear c9
        obtain rfl := Option.some.inj H
        go_enter Try.func58, Try.ntmps58
        go_wp2_with (first | ((with_reducible refine gate_dst (N := 2) rfl ?_); refine box_event ?hg (N := 2) ?hd (cs := #[.int .i64 a0_0, .int .i64 a0_1, .slice A0_2 l0_2.length c0_2, .int .i64 a0_3, .int .u32 a0_4]) (t := 41) ?hr ?_; (case hd => rfl); (case hg => rfl); (case hr => first | (go_simp; done) | (go_simp; rfl)); intro gb152 hg w10 hbox hb; have n0_ := Aside0.mk (below_step (by repeat (first | (with_reducible first | exact HB.out | apply below_alloc | apply pw_below_drewN | apply below_drew1) | exact HB.out)) hb); have n1_ := Aside0.mk (hbox); have n2_ := Aside0.mk ((by rw [hg]; exact (below_size (by repeat (first | (with_reducible first | exact HB.out | apply below_alloc | apply pw_below_drewN | apply below_drew1) | exact HB.out))) : w.heap.size ≤ gb152)); have n3_ := Aside0.mk ((by rw [hg]; exact (below_size (by repeat (first | (with_reducible first | exact HB.out | apply below_alloc | apply pw_below_drewN | apply below_drew1) | exact HB.out))) : w.heap.size ≤ gb152)); clear HB; have HB := n0_; have BK152 := n1_; have GW152 := n2_; have GE152 := n3_; clear n0_ n1_ n2_ n3_; clear hb hbox hg; have hcz11_0 : w10.cell? ⟨gb152, 0, none⟩ = some (.int .i64 a0_0) := (blk_cell BK152.out 0).trans rfl; have hcz11_1 : w10.cell? ⟨gb152, 1, none⟩ = some (.int .i64 a0_1) := (blk_cell BK152.out 1).trans rfl; have hcz11_2 : w10.cell? ⟨gb152, 2, none⟩ = some (.slice A0_2 l0_2.length c0_2) := (blk_cell BK152.out 2).trans rfl; have hcz11_3 : w10.cell? ⟨gb152, 3, none⟩ = some (.int .i64 a0_3) := (blk_cell BK152.out 3).trans rfl; have hcz11_4 : w10.cell? ⟨gb152, 4, none⟩ = some (.int .u32 a0_4) := (blk_cell BK152.out 4).trans rfl; have hfz11_0 := blk_frozen BK152.out 0; have hfz11_1 := blk_frozen BK152.out 1; have hfz11_2 := blk_frozen BK152.out 2; have hfz11_3 := blk_frozen BK152.out 3; have hfz11_4 := blk_frozen BK152.out 4) | ((with_reducible refine gate_callee (f := 24) rfl ?_); refine goesL_ (some 7) rfl rfl Try.func24 (by kernel_rfl) rfl #[.agg #[.int .i64 a0_0, .int .i64 a0_1, .slice A0_2 l0_2.length c0_2, .int .i64 a0_3, .int .u32 a0_4]] rfl (by (try simp only [List.map_toArray, List.map_cons, List.map_nil]); first | done | rfl | (simp only [List.length_drop, List.length_take]; rfl)) ?_; (with_reducible refine (machine_Check.calls k a0_0 a0_1 _ _ l0_2 a0_3 a0_4 t153 _ ?side1 ?side2 A3.out).mono ?_); (case side1 => repeat (first | exact (Kd.C_below HR0_2.out HB.out) | (with_reducible refine Kd.C_alloc ?_ _) | (with_reducible refine Kd.C_drewN ?_ _) | (with_reducible refine Kd.C_drew ?_))); (case side2 => exact HC0_2.out); rintro e w12 ⟨rfl, hb⟩; refine ⟨_, rfl, ?_⟩; have n0_ := Aside0.mk (blk_below (g := gb152) (o := .cells #[.int .i64 a0_0, .int .i64 a0_1, .slice A0_2 l0_2.length c0_2, .int .i64 a0_3, .int .u32 a0_4] 41 (0, 0)) (by (with_reducible repeat (first | refine blk_drewN ?_ _ | refine blk_drew ?_ | refine blk_alloc ?_ _)); exact BK152.out) hb); have n1_ := Aside0.mk (below_step (by repeat (first | (with_reducible first | exact HB.out | apply below_alloc | apply pw_below_drewN | apply below_drew1 | refine below_set ?_ GE152.out) | exact HB.out)) hb); clear BK152; clear HB; have BK152 := n0_; have HB := n1_; clear n0_ n1_; (try clear hb); (try clear hb2); (try clear hk); (try clear hi)))
        go_ret
        exact ⟨by first | rfl | (simp [errW_none, errW_some] <;> rfl) | (simp [*, errW_none, errW_some] <;> rfl), by repeat (first | (with_reducible first | exact HB.out | apply below_alloc | apply pw_below_drewN | apply below_drew1 | refine below_set ?_ GE152.out) | exact HB.out)⟩
      · rw [if_neg c9] at H
        have c9b0 : decide (12 < a1) = false := decide_eq_false c9
        clear c9
        obtain rfl := Option.some.inj H
        go_enter Try.func58, Try.ntmps58
        go_wp2_with (first | ((with_reducible refine gate_dst (N := 2) rfl ?_); refine box_event ?hg (N := 2) ?hd (cs := #[.int .i64 a0_0, .int .i64 a0_1, .slice A0_2 l0_2.length c0_2, .int .i64 a0_3, .int .u32 a0_4]) (t := 41) ?hr ?_; (case hd => rfl); (case hg => rfl); (case hr => first | (go_simp; done) | (go_simp; rfl)); intro gb152 hg w13 hbox hb; have n0_ := Aside0.mk (below_step (by repeat (first | (with_reducible first | exact HB.out | apply below_alloc | apply pw_below_drewN | apply below_drew1) | exact HB.out)) hb); have n1_ := Aside0.mk (hbox); have n2_ := Aside0.mk ((by rw [hg]; exact (below_size (by repeat (first | (with_reducible first | exact HB.out | apply below_alloc | apply pw_below_drewN | apply below_drew1) | exact HB.out))) : w.heap.size ≤ gb152)); have n3_ := Aside0.mk ((by rw [hg]; exact (below_size (by repeat (first | (with_reducible first | exact HB.out | apply below_alloc | apply pw_below_drewN | apply below_drew1) | exact HB.out))) : w.heap.size ≤ gb152)); clear HB; have HB := n0_; have BK152 := n1_; have GW152 := n2_; have GE152 := n3_; clear n0_ n1_ n2_ n3_; clear hb hbox hg; have hcz14_0 : w13.cell? ⟨gb152, 0, none⟩ = some (.int .i64 a0_0) := (blk_cell BK152.out 0).trans rfl; have hcz14_1 : w13.cell? ⟨gb152, 1, none⟩ = some (.int .i64 a0_1) := (blk_cell BK152.out 1).trans rfl; have hcz14_2 : w13.cell? ⟨gb152, 2, none⟩ = some (.slice A0_2 l0_2.length c0_2) := (blk_cell BK152.out 2).trans rfl; have hcz14_3 : w13.cell? ⟨gb152, 3, none⟩ = some (.int .i64 a0_3) := (blk_cell BK152.out 3).trans rfl; have hcz14_4 : w13.cell? ⟨gb152, 4, none⟩ = some (.int .u32 a0_4) := (blk_cell BK152.out 4).trans rfl; have hfz14_0 := blk_frozen BK152.out 0; have hfz14_1 := blk_frozen BK152.out 1; have hfz14_2 := blk_frozen BK152.out 2; have hfz14_3 := blk_frozen BK152.out 3; have hfz14_4 := blk_frozen BK152.out 4) | ((with_reducible refine gate_callee (f := 24) rfl ?_); refine goesL_ (some 7) rfl rfl Try.func24 (by kernel_rfl) rfl #[.agg #[.int .i64 a0_0, .int .i64 a0_1, .slice A0_2 l0_2.length c0_2, .int .i64 a0_3, .int .u32 a0_4]] rfl (by (try simp only [List.map_toArray, List.map_cons, List.map_nil]); first | done | rfl | (simp only [List.length_drop, List.length_take]; rfl)) ?_; (with_reducible refine (machine_Check.calls k a0_0 a0_1 _ _ l0_2 a0_3 a0_4 t153 _ ?side1 ?side2 A3.out).mono ?_); (case side1 => repeat (first | exact (Kd.C_below HR0_2.out HB.out) | (with_reducible refine Kd.C_alloc ?_ _) | (with_reducible refine Kd.C_drewN ?_ _) | (with_reducible refine Kd.C_drew ?_))); (case side2 => exact HC0_2.out); rintro e w15 ⟨rfl, hb⟩; refine ⟨_, rfl, ?_⟩; have n0_ := Aside0.mk (blk_below (g := gb152) (o := .cells #[.int .i64 a0_0, .int .i64 a0_1, .slice A0_2 l0_2.length c0_2, .int .i64 a0_3, .int .u32 a0_4] 41 (0, 0)) (by (with_reducible repeat (first | refine blk_drewN ?_ _ | refine blk_drew ?_ | refine blk_alloc ?_ _)); exact BK152.out) hb); have n1_ := Aside0.mk (below_step (by repeat (first | (with_reducible first | exact HB.out | apply below_alloc | apply pw_below_drewN | apply below_drew1 | refine below_set ?_ GE152.out) | exact HB.out)) hb); clear BK152; clear HB; have BK152 := n0_; have HB := n1_; clear n0_ n1_; (try clear hb); (try clear hb2); (try clear hk); (try clear hi)))
        go_ret
        exact ⟨by first | rfl | (simp [errW_none, errW_some] <;> rfl) | (simp [*, errW_none, errW_some] <;> rfl), by repeat (first | (with_reducible first | exact HB.out | apply below_alloc | apply pw_below_drewN | apply below_drew1 | refine below_set ?_ GE152.out) | exact HB.out)⟩
  · rw [if_neg c4] at H
    have c4b0 : (t153 == 0) = false := beq_eq_false_iff_ne.mpr c4
    have c4b1 : (t153 != 0) = true := bne_iff_ne.mpr c4
    obtain rfl := Option.some.inj H
    go_enter Try.func58, Try.ntmps58
    go_wp2_with (first | ((with_reducible refine gate_dst (N := 2) rfl ?_); refine box_event ?hg (N := 2) ?hd (cs := #[.int .i64 a0_0, .int .i64 a0_1, .slice A0_2 l0_2.length c0_2, .int .i64 a0_3, .int .u32 a0_4]) (t := 41) ?hr ?_; (case hd => rfl); (case hg => rfl); (case hr => first | (go_simp; done) | (go_simp; rfl)); intro gb152 hg w16 hbox hb; have n0_ := Aside0.mk (below_step (by repeat (first | (with_reducible first | exact HB.out | apply below_alloc | apply pw_below_drewN | apply below_drew1) | exact HB.out)) hb); have n1_ := Aside0.mk (hbox); have n2_ := Aside0.mk ((by rw [hg]; exact (below_size (by repeat (first | (with_reducible first | exact HB.out | apply below_alloc | apply pw_below_drewN | apply below_drew1) | exact HB.out))) : w.heap.size ≤ gb152)); have n3_ := Aside0.mk ((by rw [hg]; exact (below_size (by repeat (first | (with_reducible first | exact HB.out | apply below_alloc | apply pw_below_drewN | apply below_drew1) | exact HB.out))) : w.heap.size ≤ gb152)); clear HB; have HB := n0_; have BK152 := n1_; have GW152 := n2_; have GE152 := n3_; clear n0_ n1_ n2_ n3_; clear hb hbox hg; have hcz17_0 : w16.cell? ⟨gb152, 0, none⟩ = some (.int .i64 a0_0) := (blk_cell BK152.out 0).trans rfl; have hcz17_1 : w16.cell? ⟨gb152, 1, none⟩ = some (.int .i64 a0_1) := (blk_cell BK152.out 1).trans rfl; have hcz17_2 : w16.cell? ⟨gb152, 2, none⟩ = some (.slice A0_2 l0_2.length c0_2) := (blk_cell BK152.out 2).trans rfl; have hcz17_3 : w16.cell? ⟨gb152, 3, none⟩ = some (.int .i64 a0_3) := (blk_cell BK152.out 3).trans rfl; have hcz17_4 : w16.cell? ⟨gb152, 4, none⟩ = some (.int .u32 a0_4) := (blk_cell BK152.out 4).trans rfl; have hfz17_0 := blk_frozen BK152.out 0; have hfz17_1 := blk_frozen BK152.out 1; have hfz17_2 := blk_frozen BK152.out 2; have hfz17_3 := blk_frozen BK152.out 3; have hfz17_4 := blk_frozen BK152.out 4) | ((with_reducible refine gate_callee (f := 24) rfl ?_); refine goesL_ (some 7) rfl rfl Try.func24 (by kernel_rfl) rfl #[.agg #[.int .i64 a0_0, .int .i64 a0_1, .slice A0_2 l0_2.length c0_2, .int .i64 a0_3, .int .u32 a0_4]] rfl (by (try simp only [List.map_toArray, List.map_cons, List.map_nil]); first | done | rfl | (simp only [List.length_drop, List.length_take]; rfl)) ?_; (with_reducible refine (machine_Check.calls k a0_0 a0_1 _ _ l0_2 a0_3 a0_4 t153 _ ?side1 ?side2 A3.out).mono ?_); (case side1 => repeat (first | exact (Kd.C_below HR0_2.out HB.out) | (with_reducible refine Kd.C_alloc ?_ _) | (with_reducible refine Kd.C_drewN ?_ _) | (with_reducible refine Kd.C_drew ?_))); (case side2 => exact HC0_2.out); rintro e w18 ⟨rfl, hb⟩; refine ⟨_, rfl, ?_⟩; have n0_ := Aside0.mk (blk_below (g := gb152) (o := .cells #[.int .i64 a0_0, .int .i64 a0_1, .slice A0_2 l0_2.length c0_2, .int .i64 a0_3, .int .u32 a0_4] 41 (0, 0)) (by (with_reducible repeat (first | refine blk_drewN ?_ _ | refine blk_drew ?_ | refine blk_alloc ?_ _)); exact BK152.out) hb); have n1_ := Aside0.mk (below_step (by repeat (first | (with_reducible first | exact HB.out | apply below_alloc | apply pw_below_drewN | apply below_drew1 | refine below_set ?_ GE152.out) | exact HB.out)) hb); clear BK152; clear HB; have BK152 := n0_; have HB := n1_; clear n0_ n1_; (try clear hb); (try clear hb2); (try clear hk); (try clear hi)))
    go_ret
    exact ⟨by first | rfl | (simp [errW_none, errW_some] <;> rfl) | (simp [*, errW_none, errW_some] <;> rfl), by repeat (first | (with_reducible first | exact HB.out | apply below_alloc | apply pw_below_drewN | apply below_drew1 | refine below_set ?_ GE152.out) | exact HB.out)⟩

/-! ### tally_ways: function 59 -/
mutual
def tally_ways.l0 : Nat → Int → List Int → Int → Int → Int → Int → List (List Int) → Int → Int → Option (List Int)
  | 0, _, _, _, _, _, _, _, _, _ => none
  | k + 1, x1, x5, x16, x17, x155000, x155001, x155002, x155003, x155004 => if x17 < x16 then (if 0 ≤ x17 then (if x17 < (x5.length : Int) then (tally_ways.l0 k x1 (x5.set (x17 : Int).toNat (wrap64 (Go.bits .and .u32 (shr .u32 x155004 x17) 1))) x16 (wrap64 (x17 + 1)) x155000 x155001 x155002 x155003 x155004) else (none)) else (none)) else (tally_ways.l1 k x5 x1 0 x155000 x155001 x155002 x155003 x155004)
def tally_ways.l1 : Nat → List Int → Int → Int → Int → Int → List (List Int) → Int → Int → Option (List Int)
  | 0, _, _, _, _, _, _, _, _ => none
  | k + 1, x5, x30, x31, x155000, x155001, x155002, x155003, x155004 => if x31 < x30 then (if 0 ≤ x155000 then (if (x155000 : Int).toNat ≤ 35184372088832 then (tally_ways.l2 k x5 (List.replicate (x155000 : Int).toNat 0) x30 x31 x155002 (x155002.length : Int) 0 x155000 x155001 x155002 x155003 x155004) else (none)) else (none)) else (some x5)
def tally_ways.l2 : Nat → List Int → List Int → Int → Int → List (List Int) → Int → Int → Int → Int → List (List Int) → Int → Int → Option (List Int)
  | 0, _, _, _, _, _, _, _, _, _, _, _, _ => none
  | k + 1, x5, x7, x30, x31, x37, x38, x39, x155000, x155001, x155002, x155003, x155004 => if x39 < x38 then (if 0 ≤ x39 then (if x39 < (x37.length : Int) then (tally_ways.l3 k x5 x7 x39 x30 x31 x37 x38 x39 (rd_L1 x37 x39) ((rd_L1 x37 x39).length : Int) 0 x155000 x155001 x155002 x155003 x155004) else (none)) else (none)) else (tally_ways.l1 k x7 x30 (wrap64 (x31 + 1)) x155000 x155001 x155002 x155003 x155004)
def tally_ways.l3 : Nat → List Int → List Int → Int → Int → Int → List (List Int) → Int → Int → List Int → Int → Int → Int → Int → List (List Int) → Int → Int → Option (List Int)
  | 0, _, _, _, _, _, _, _, _, _, _, _, _, _, _, _, _ => none
  | k + 1, x5, x7, x8, x30, x31, x37, x38, x39, x44, x45, x46, x155000, x155001, x155002, x155003, x155004 => if x46 < x45 then (if 0 ≤ x46 then (if x46 < (x44.length : Int) then (if 0 ≤ x8 then (if x8 < (x7.length : Int) then (if 0 ≤ (rd x44 x46) then (if (rd x44 x46) < (x5.length : Int) then (tally_ways.l3 k x5 (x7.set (x8 : Int).toNat (wrap64 ((rd x7 x8) + (rd x5 (rd x44 x46))))) x8 x30 x31 x37 x38 x39 x44 x45 (wrap64 (x46 + 1)) x155000 x155001 x155002 x155003 x155004) else (none)) else (none)) else (none)) else (none)) else (none)) else (none)) else (tally_ways.l2 k x5 x7 x30 x31 x37 x38 (wrap64 (x39 + 1)) x155000 x155001 x155002 x155003 x155004)
end
def tally_ways.f (k : Nat) (a0_0 : Int) (a0_1 : Int) (l0_2 : List (List Int)) (a0_3 : Int) (a0_4 : Int) (a1 : Int) : Option (List Int) := if 0 ≤ a0_0 then (if (a0_0 : Int).toNat ≤ 35184372088832 then ((some (List.replicate (a0_0 : Int).toNat 0 : List Int)).bind fun y155 => (tally_ways.l0 k a1 y155 (y155.length : Int) 0 a0_0 a0_1 l0_2 a0_3 a0_4)) else (none)) else (none)
theorem tally_ways.mono_l : ∀ k, (∀ y0 y1 y2 y3 y4 y5 y6 y7 y8, LeO (tally_ways.l0 k y0 y1 y2 y3 y4 y5 y6 y7 y8) (tally_ways.l0 (k + 1) y0 y1 y2 y3 y4 y5 y6 y7 y8)) ∧ (∀ y0 y1 y2 y3 y4 y5 y6 y7, LeO (tally_ways.l1 k y0 y1 y2 y3 y4 y5 y6 y7) (tally_ways.l1 (k + 1) y0 y1 y2 y3 y4 y5 y6 y7)) ∧ (∀ y0 y1 y2 y3 y4 y5 y6 y7 y8 y9 y10 y11, LeO (tally_ways.l2 k y0 y1 y2 y3 y4 y5 y6 y7 y8 y9 y10 y11) (tally_ways.l2 (k + 1) y0 y1 y2 y3 y4 y5 y6 y7 y8 y9 y10 y11)) ∧ (∀ y0 y1 y2 y3 y4 y5 y6 y7 y8 y9 y10 y11 y12 y13 y14 y15, LeO (tally_ways.l3 k y0 y1 y2 y3 y4 y5 y6 y7 y8 y9 y10 y11 y12 y13 y14 y15) (tally_ways.l3 (k + 1) y0 y1 y2 y3 y4 y5 y6 y7 y8 y9 y10 y11 y12 y13 y14 y15))
  | 0 => ⟨fun _ _ _ _ _ _ _ _ _ r h => by simp [tally_ways.l0] at h, fun _ _ _ _ _ _ _ _ r h => by simp [tally_ways.l1] at h, fun _ _ _ _ _ _ _ _ _ _ _ _ r h => by simp [tally_ways.l2] at h, fun _ _ _ _ _ _ _ _ _ _ _ _ _ _ _ _ r h => by simp [tally_ways.l3] at h⟩
  | k + 1 => by
    obtain ⟨ih0, ih1, ih2, ih3⟩ := tally_ways.mono_l k
    refine ⟨?_, ?_, ?_, ?_⟩
    · intro y0 y1 y2 y3 y4 y5 y6 y7 y8
      unfold tally_ways.l0
      repeat' first
      | (with_reducible exact ih0 _ _ _ _ _ _ _ _ _)
      | (with_reducible exact ih1 _ _ _ _ _ _ _ _)
      | (with_reducible exact ih2 _ _ _ _ _ _ _ _ _ _ _ _)
      | (with_reducible exact ih3 _ _ _ _ _ _ _ _ _ _ _ _ _ _ _ _)
      | (with_reducible exact LeO.refl _)
      | (with_reducible exact LeO.none _)
      | (with_reducible refine LeO.ite ?_ ?_)
      | (with_reducible refine LeO.bind ?_ (fun _ => ?_))
      | exact ih0 _ _ _ _ _ _ _ _ _
      | exact ih1 _ _ _ _ _ _ _ _
      | exact ih2 _ _ _ _ _ _ _ _ _ _ _ _
      | exact ih3 _ _ _ _ _ _ _ _ _ _ _ _ _ _ _ _
      | exact LeO.none _
      | refine LeO.ite ?_ ?_
      | refine LeO.bind ?_ (fun _ => ?_)
    · intro y0 y1 y2 y3 y4 y5 y6 y7
      unfold tally_ways.l1
      repeat' first
      | (with_reducible exact ih0 _ _ _ _ _ _ _ _ _)
      | (with_reducible exact ih1 _ _ _ _ _ _ _ _)
      | (with_reducible exact ih2 _ _ _ _ _ _ _ _ _ _ _ _)
      | (with_reducible exact ih3 _ _ _ _ _ _ _ _ _ _ _ _ _ _ _ _)
      | (with_reducible exact LeO.refl _)
      | (with_reducible exact LeO.none _)
      | (with_reducible refine LeO.ite ?_ ?_)
      | (with_reducible refine LeO.bind ?_ (fun _ => ?_))
      | exact ih0 _ _ _ _ _ _ _ _ _
      | exact ih1 _ _ _ _ _ _ _ _
      | exact ih2 _ _ _ _ _ _ _ _ _ _ _ _
      | exact ih3 _ _ _ _ _ _ _ _ _ _ _ _ _ _ _ _
      | exact LeO.none _
      | refine LeO.ite ?_ ?_
      | refine LeO.bind ?_ (fun _ => ?_)
    · intro y0 y1 y2 y3 y4 y5 y6 y7 y8 y9 y10 y11
      unfold tally_ways.l2
      repeat' first
      | (with_reducible exact ih0 _ _ _ _ _ _ _ _ _)
      | (with_reducible exact ih1 _ _ _ _ _ _ _ _)
      | (with_reducible exact ih2 _ _ _ _ _ _ _ _ _ _ _ _)
      | (with_reducible exact ih3 _ _ _ _ _ _ _ _ _ _ _ _ _ _ _ _)
      | (with_reducible exact LeO.refl _)
      | (with_reducible exact LeO.none _)
      | (with_reducible refine LeO.ite ?_ ?_)
      | (with_reducible refine LeO.bind ?_ (fun _ => ?_))
      | exact ih0 _ _ _ _ _ _ _ _ _
      | exact ih1 _ _ _ _ _ _ _ _
      | exact ih2 _ _ _ _ _ _ _ _ _ _ _ _
      | exact ih3 _ _ _ _ _ _ _ _ _ _ _ _ _ _ _ _
      | exact LeO.none _
      | refine LeO.ite ?_ ?_
      | refine LeO.bind ?_ (fun _ => ?_)
    · intro y0 y1 y2 y3 y4 y5 y6 y7 y8 y9 y10 y11 y12 y13 y14 y15
      unfold tally_ways.l3
      repeat' first
      | (with_reducible exact ih0 _ _ _ _ _ _ _ _ _)
      | (with_reducible exact ih1 _ _ _ _ _ _ _ _)
      | (with_reducible exact ih2 _ _ _ _ _ _ _ _ _ _ _ _)
      | (with_reducible exact ih3 _ _ _ _ _ _ _ _ _ _ _ _ _ _ _ _)
      | (with_reducible exact LeO.refl _)
      | (with_reducible exact LeO.none _)
      | (with_reducible refine LeO.ite ?_ ?_)
      | (with_reducible refine LeO.bind ?_ (fun _ => ?_))
      | exact ih0 _ _ _ _ _ _ _ _ _
      | exact ih1 _ _ _ _ _ _ _ _
      | exact ih2 _ _ _ _ _ _ _ _ _ _ _ _
      | exact ih3 _ _ _ _ _ _ _ _ _ _ _ _ _ _ _ _
      | exact LeO.none _
      | refine LeO.ite ?_ ?_
      | refine LeO.bind ?_ (fun _ => ?_)
theorem tally_ways.mono : ∀ a0 a1 a2 a3 a4 a5 k, LeO (tally_ways.f k a0 a1 a2 a3 a4 a5) (tally_ways.f (k + 1) a0 a1 a2 a3 a4 a5) := by
  intro a0 a1 a2 a3 a4 a5 k
  obtain ⟨ih0, ih1, ih2, ih3⟩ := tally_ways.mono_l k
  unfold tally_ways.f
  repeat' first
      | (with_reducible exact ih0 _ _ _ _ _ _ _ _ _)
      | (with_reducible exact ih1 _ _ _ _ _ _ _ _)
      | (with_reducible exact ih2 _ _ _ _ _ _ _ _ _ _ _ _)
      | (with_reducible exact ih3 _ _ _ _ _ _ _ _ _ _ _ _ _ _ _ _)
      | (with_reducible exact LeO.refl _)
      | (with_reducible exact LeO.none _)
      | (with_reducible refine LeO.ite ?_ ?_)
      | (with_reducible refine LeO.bind ?_ (fun _ => ?_))
      | exact ih0 _ _ _ _ _ _ _ _ _
      | exact ih1 _ _ _ _ _ _ _ _
      | exact ih2 _ _ _ _ _ _ _ _ _ _ _ _
      | exact ih3 _ _ _ _ _ _ _ _ _ _ _ _ _ _ _ _
      | exact LeO.none _
      | refine LeO.ite ?_ ?_
      | refine LeO.bind ?_ (fun _ => ?_)
def tally_ways.T16 : Bool × List (List Nat × List Nat) := (true, [([], []), ([], []), ([0, 1], [0, 1]), ([2], [2]), ([], []), ([], []), ([4, 5], [4, 5]), ([6], [6]), ([3, 7], [3, 7]), ([0, 1, 0, 1, 2, 3, 4, 5, 6, 7, 8], [0, 1]), ([9, 8, 0, 1, 2, 3, 4, 5, 6, 7, 8], [8, 9])])
def tally_ways.B16 : List Nat := [0, 0, 3, 7, 0, 0, 48, 112, 255, 511, 1023]
theorem tally_ways.tab16 : rtab .any (opsOf Try.f59 16) = tally_ways.T16 := by kernel_rfl
theorem tally_ways.bits16 : waitsOk tally_ways.T16.2 tally_ways.B16 = true := by kernel_rfl
set_option maxHeartbeats 8000000 in
set_option maxRecDepth 100000 in
theorem tally_ways.calls (k : Nat) (a0_0 : Int) (a0_1 : Int) (A0_2 : Option Addr) (c0_2 : Nat) (l0_2 : List (List Int)) (a0_3 : Int) (a0_4 : Int) (a1 : Int) (r : List Int) (w : World) (hr0_2 : Kd.C (Kd.slice 3 (Kd.int .i64)) w A0_2 l0_2.length l0_2) (hc0_2 : l0_2.length ≤ c0_2) (h : tally_ways.f k a0_0 a0_1 l0_2 a0_3 a0_4 a1 = some r) :
    Calls Try.prog 59 #[.agg #[.int .i64 a0_0, .int .i64 a0_1, .slice A0_2 l0_2.length c0_2, .int .i64 a0_3, .int .u32 a0_4], .int .i64 a1] w fun e w' => ∃ v0_ : Value, e = .returned (v0_) ∧ Kd.R (Kd.int .i64) 2 w' w.heap.size (fun _ => True) v0_ r ∧ Below w.heap.size w w' := by
  have hu41 := Try.underlying41
  have HR0_2 := Aside0.mk hr0_2
  have HC0_2 := Aside0.mk hc0_2
  clear hr0_2 hc0_2
  have HB := Aside0.mk (Below.refl w.heap.size w)
  have H : (if 0 ≤ a0_0 then (if (a0_0 : Int).toNat ≤ 35184372088832 then ((some (List.replicate (a0_0 : Int).toNat 0 : List Int)).bind fun y155 => (tally_ways.l0 k a1 y155 (y155.length : Int) 0 a0_0 a0_1 l0_2 a0_3 a0_4)) else (none)) else (none)) = some r := h
  clear h
  by_cases c3 : 0 ≤ a0_0
  · rw [if_pos c3] at H
    have c3b0 := eq_true c3
    have c3b1 : decide (0 ≤ a0_0) = true := decide_eq_true c3
    clear c3
    by_cases c4 : (a0_0 : Int).toNat ≤ 35184372088832
    · rw [if_pos c4] at H
      have c4b0 := eq_true c4
      have c4b1 : decide ((a0_0 : Int).toNat ≤ 35184372088832) = true := decide_eq_true c4
      clear c4
      obtain ⟨y155, hy155⟩ : ∃ y_ : List Int, y_ = (List.replicate (a0_0 : Int).toNat 0) := ⟨_, rfl⟩
      replace H : (tally_ways.l0 k a1 y155 (y155.length : Int) 0 a0_0 a0_1 l0_2 a0_3 a0_4) = some r := by first | (rw [hy155]; with_reducible exact H) | (have H2_ := (Option.bind_some _ _).symm.trans H; rw [hy155]; with_reducible exact H2_) | (have H2_ := (Option.bind_some _ _).symm.trans H; with_reducible exact H2_) | with_reducible exact H | (rw [hy155]; exact H) | exact H
      have Ny155 := Aside0.mk hy155
      clear hy155
      have H' := Aside0.mk H
      clear H
      go_enter Try.func59, Try.ntmps59
      go_wp2_with (first | ((with_reducible refine gate_dst (N := 2) rfl ?_); refine box_event ?hg (N := 2) ?hd (cs := #[.int .i64 a0_0, .int .i64 a0_1, .slice A0_2 l0_2.length c0_2, .int .i64 a0_3, .int .u32 a0_4]) (t := 41) ?hr ?_; (case hd => rfl); (case hg => rfl); (case hr => first | (go_simp; done) | (go_simp; rfl)); intro gb154 hg w5 hbox hb; have n0_ := Aside0.mk (below_step (by repeat (first | (with_reducible first | exact HB.out | apply below_alloc | apply pw_below_drewN | apply below_drew1) | exact HB.out)) hb); have n1_ := Aside0.mk (hbox); have n2_ := Aside0.mk ((by rw [hg]; exact (below_size (by repeat (first | (with_reducible first | exact HB.out | apply below_alloc | apply pw_below_drewN | apply below_drew1) | exact HB.out))) : w.heap.size ≤ gb154)); have n3_ := Aside0.mk ((by rw [hg]; exact (below_size (by repeat (first | (with_reducible first | exact HB.out | apply below_alloc | apply pw_below_drewN | apply below_drew1) | exact HB.out))) : w.heap.size ≤ gb154)); clear HB; have HB := n0_; have BK154 := n1_; have GW154 := n2_; have GE154 := n3_; clear n0_ n1_ n2_ n3_; clear hb hbox hg; have hcz6_0 : w5.cell? ⟨gb154, 0, none⟩ = some (.int .i64 a0_0) := (blk_cell BK154.out 0).trans rfl; have hcz6_1 : w5.cell? ⟨gb154, 1, none⟩ = some (.int .i64 a0_1) := (blk_cell BK154.out 1).trans rfl; have hcz6_2 : w5.cell? ⟨gb154, 2, none⟩ = some (.slice A0_2 l0_2.length c0_2) := (blk_cell BK154.out 2).trans rfl; have hcz6_3 : w5.cell? ⟨gb154, 3, none⟩ = some (.int .i64 a0_3) := (blk_cell BK154.out 3).trans rfl; have hcz6_4 : w5.cell? ⟨gb154, 4, none⟩ = some (.int .u32 a0_4) := (blk_cell BK154.out 4).trans rfl; have hfz6_0 := blk_frozen BK154.out 0; have hfz6_1 := blk_frozen BK154.out 1; have hfz6_2 := blk_frozen BK154.out 2; have hfz6_3 := blk_frozen BK154.out 3; have hfz6_4 := blk_frozen BK154.out 4) | ((with_reducible refine gate_dst (N := 14) rfl ?_); refine Kd.R_make (Kd.int .i64) _ 2 rfl (N := 14) rfl 90 _ _ rfl a0_0 rfl rfl Try.underlying90 (.int .i64 0) 8 info2 rfl (by decide) (by omega) 0 (ok := fun _ => True) (okp := fun _ => True) rfl (fun _ hk => hk) trivial (of_decide_eq_true (by first | (with_reducible assumption) | assumption)) (Nat.le_trans (Nat.mul_le_mul_right _ (of_decide_eq_true (by first | (with_reducible assumption) | assumption) : a0_0.toNat ≤ 35184372088832)) (by omega)) (Below.refl _ _) (Nat.le_refl _) ?_; intro v156 w7 ho8 hb hg_ hnew_; clear hg_ hnew_; (first | rw [← Ny155.out] at ho8 | (simp only [Int.reduceToNat] at ho8; rw [← Ny155.out] at ho8)); have n0_ := Aside0.mk (Kd.R_lower ho8 (below_size (by repeat (first | (with_reducible first | exact HB.out | apply below_alloc | apply pw_below_drewN | apply below_drew1 | refine below_set ?_ GE154.out) | exact HB.out)))); have n1_ := Aside0.mk (blk_below (g := gb154) (o := .cells #[.int .i64 a0_0, .int .i64 a0_1, .slice A0_2 l0_2.length c0_2, .int .i64 a0_3, .int .u32 a0_4] 41 (0, 0)) (by (with_reducible repeat (first | refine blk_drewN ?_ _ | refine blk_drew ?_ | refine blk_alloc ?_ _)); exact BK154.out) hb); have n2_ := Aside0.mk (below_step (by repeat (first | (with_reducible first | exact HB.out | apply below_alloc | apply pw_below_drewN | apply below_drew1 | refine below_set ?_ GE154.out) | exact HB.out)) hb); clear BK154; clear HB; have HO157 := n0_; have BK154 := n1_; have HB := n2_; clear n0_ n1_ n2_; clear hb ho8; obtain ⟨Ao9, co9, eo9⟩ := Kd.R_slice HO157.out; subst eo9))
      go_loopg [17] k (fun kq v17 w' => ∃ (x5_1 : List Int) (x17_1 : Int), v17 = .int .i64 x17_1 ∧ Aside0 (tally_ways.l0 kq a1 x5_1 (y155.length : Int) x17_1 a0_0 a0_1 l0_2 a0_3 a0_4 = some r) ∧ Aside0 (kq ≤ k) ∧ Aside0 (Kd.R (Kd.int .i64) 2 w' w.heap.size (fun _ => True) (.slice Ao9 y155.length co9) x5_1) ∧ Aside0 (w'.heap[gb154]? = some (.cells #[.int .i64 a0_0, .int .i64 a0_1, (.slice A0_2 l0_2.length c0_2), .int .i64 a0_3, .int .u32 a0_4] 41 (0, 0))) ∧ Aside0 (Below w.heap.size w w'))
      case atStart => exact ⟨(y155), (0), (by first | rfl | (simp; done) | (simp [*]; done)), H', ⟨Nat.le_refl _⟩, ⟨by (with_reducible repeat (first | apply Kd.R_alloc | apply Kd.R_drewN | apply Kd.R_drew)); exact HO157.out⟩, ⟨by (with_reducible repeat (first | refine blk_drewN ?_ _ | refine blk_drew ?_ | refine blk_alloc ?_ _)); exact BK154.out⟩, ⟨by repeat (first | (with_reducible first | exact HB.out | apply below_alloc | apply pw_below_drewN | apply below_drew1 | refine below_set ?_ GE154.out) | exact HB.out)⟩⟩
      case round =>
        clear H'
        try clear p2
        try clear c3
        try clear c3b0
        try clear c3b1
        try clear c4
        try clear c4b0
        try clear c4b1
        try clear c5
        try clear hcz6_0
        try clear hcz6_1
        try clear hcz6_2
        try clear hcz6_3
        try clear hcz6_4
        try clear hfz6_0
        try clear hfz6_1
        try clear hfz6_2
        try clear hfz6_3
        try clear hfz6_4
        obtain ⟨x5_1, x17_1, rfl, HA, HK1, HO_5, BK154, HB⟩ := hrel
        have hl5_1 := (Kd.R_reads' HO_5.out).1
        rw [hl5_1] at HO_5
        (try simp only [hl5_1])
        (try simp only [hl5_1] at BK154)
        cases gk with
        | zero => exact absurd HA.out (by simp [tally_ways.l0])
        | succ k1 =>
          have H := HA.out
          clear HA
          simp only [tally_ways.l0] at H
          by_cases c10 : x17_1 < (y155.length : Int)
          · rw [if_pos c10] at H
            have c10b0 : decide (x17_1 < (y155.length : Int)) = true := decide_eq_true c10
            (try (have c10b0h := c10b0; simp only [hl5_1] at c10b0h))
            clear c10
            by_cases c11 : 0 ≤ x17_1
            · rw [if_pos c11] at H
              have c11b0 := eq_true c11
              have c11b1 : decide (0 ≤ x17_1) = true := decide_eq_true c11
              clear c11
              obtain ⟨ji12, hji12⟩ : ∃ j_ : Int, (shr .u32 a0_4 x17_1) = j_ := ⟨_, rfl⟩
              replace H : (if x17_1 < (x5_1.length : Int) then (tally_ways.l0 k1 a1 (x5_1.set (x17_1 : Int).toNat (wrap64 (Go.bits .and .u32 (ji12) 1))) (y155.length : Int) (wrap64 (x17_1 + 1)) a0_0 a0_1 l0_2 a0_3 a0_4) else (none)) = some r := by first | (rw [hji12] at H; exact H) | (simp only [hji12] at H ⊢; exact H)
              have hji12_ : (a0_4 / 2 ^ min x17_1.toNat 32) = ji12 := hji12
              have hji12z : x17_1 ≤ 32 → (a0_4 / 2 ^ x17_1.toNat) = ji12 := shr_small hji12
              by_cases c13 : x17_1 < (x5_1.length : Int)
              · rw [if_pos c13] at H
                have c13b0 : decide (x17_1 < (x5_1.length : Int)) = true := decide_eq_true c13
                (try (have c13b0h := c13b0; simp only [hl5_1] at c13b0h))
                clear c13
                obtain ⟨y158, hy158⟩ : ∃ y_ : List Int, y_ = (x5_1.set (x17_1 : Int).toNat (wrap64 (Go.bits .and .u32 (ji12) 1))) := ⟨_, rfl⟩
                replace H : (tally_ways.l0 k1 a1 y158 (y155.length : Int) (wrap64 (x17_1 + 1)) a0_0 a0_1 l0_2 a0_3 a0_4) = some r := by first | (rw [hy158]; with_reducible exact H) | (have H2_ := (Option.bind_some _ _).symm.trans H; rw [hy158]; with_reducible exact H2_) | (have H2_ := (Option.bind_some _ _).symm.trans H; with_reducible exact H2_) | with_reducible exact H | (rw [hy158]; exact H) | exact H
                have Ny158 := Aside0.mk hy158
                clear hy158
                have H' := Aside0.mk H
                clear H
                have hcz15_0 : wr.cell? ⟨gb154, 0, none⟩ = some (.int .i64 a0_0) := (blk_cell BK154.out 0).trans rfl
                have hcz15_1 : wr.cell? ⟨gb154, 1, none⟩ = some (.int .i64 a0_1) := (blk_cell BK154.out 1).trans rfl
                have hcz15_2 : wr.cell? ⟨gb154, 2, none⟩ = some (.slice A0_2 l0_2.length c0_2) := (blk_cell BK154.out 2).trans rfl
                have hcz15_3 : wr.cell? ⟨gb154, 3, none⟩ = some (.int .i64 a0_3) := (blk_cell BK154.out 3).trans rfl
                have hcz15_4 : wr.cell? ⟨gb154, 4, none⟩ = some (.int .u32 a0_4) := (blk_cell BK154.out 4).trans rfl
                have hfz15_0 := blk_frozen BK154.out 0
                have hfz15_1 := blk_frozen BK154.out 1
                have hfz15_2 := blk_frozen BK154.out 2
                have hfz15_3 := blk_frozen BK154.out 3
                have hfz15_4 := blk_frozen BK154.out 4
                have p14 : 0 ≤ (x17_1 : Int) := of_decide_eq_true (by first | (with_reducible assumption) | assumption)
                have q14 : (x17_1 : Int) < ((x5_1.length : Int) : Int) := of_decide_eq_true (by first | (with_reducible assumption) | assumption)
                obtain ⟨go14, co14, eo14, gb14, gl14, cl14, HG14⟩ := Kd.R_form HO_5.out (by omega)
                (first | cases eo14 | (injection eo14 with ea_ en_ ec_; (first | subst ea_ | (injection ea_ with ea_; subst ea_)); subst ec_; clear en_))
                have GB14 := Aside0.mk gb14
                have GG14 := Aside0.mk HG14
                clear gb14 gl14 HG14
                obtain ⟨hx14_0, hf14_0⟩ := Kd.R_celln 0 HO_5.out (x17_1 : Int) p14 q14
                replace p14 := eq_true p14
                replace q14 := eq_true q14
                obtain ⟨hy16_, hz16_⟩ := Kd.R_celln 0 HO_5.out (x17_1 : Int) (of_decide_eq_true (by first | (with_reducible assumption) | assumption)) (of_decide_eq_true (by first | (with_reducible assumption) | assumption))
                have HP16 := Kd.R_putg HO_5.out (x17_1 : Int) (wrap64 (Go.bits .and .u32 (ji12) 1))
                go_wp2_with (first | ((with_reducible refine gate_store (t := 2) (p := 28) rfl ?_); refine store_event (t := 2) (p := 28) (v := ?vo_w17) (w1 := (wr.setCell ⟨go14, (x17_1 : Int).toNat, none⟩ (.int .i64 (wrap64 (Go.bits .and .u32 (ji12) 1))))) ?hg ?ho ?hn ?hr ?_; (case ho => rfl); (case hg => rfl); (case hn => rfl); (case hr => first | (go_simp; done) | (go_simp; rfl)); intro w17 hw; have hg : wr.grownBy w17 (some go14) := (by rw [hw]; exact HP16.2); have hp_ : Kd.R (Kd.int .i64) 2 w17 w.heap.size (fun _ => True) (.slice (some ⟨go14, 0, none⟩) x5_1.length co9) y158 := (by rw [hw, Ny158.out]; exact HP16.1); clear HP16; have n0_ := Aside0.mk (hp_); have n1_ := Aside0.mk (blk_grown (g := gb154) (o := .cells #[.int .i64 a0_0, .int .i64 a0_1, .slice A0_2 l0_2.length c0_2, .int .i64 a0_3, .int .u32 a0_4] 41 (0, 0)) (by (with_reducible repeat (first | refine blk_drewN ?_ _ | refine blk_drew ?_ | refine blk_alloc ?_ _)); exact BK154.out) hg (Kd.R_ne HO_5.out BK154.out (by decide))); have n2_ := Aside0.mk ((by rw [hw]; exact below_set (HB.out) GB14.out : Below w.heap.size w w17)); clear HO_5; clear BK154; clear HB; have HO_5 := n0_; have BK154 := n1_; have HB := n2_; clear n0_ n1_ n2_; clear hg hw hp_))
                (try simp only [← hl5_1])
                (first | go_roundg k1 | (simp only [← hji12]; go_roundg k1))
                case measure => have := HK1.out; omega
                case rel => exact ⟨(y158), (wrap64 (x17_1 + 1)), (by first | rfl | (simp; done) | (simp [*]; done)), H', ⟨by have := HK1.out; omega⟩, ⟨by (try simp only [hl5_1]); (with_reducible repeat (first | apply Kd.R_alloc | apply Kd.R_drewN | apply Kd.R_drew)); exact HO_5.out⟩, ⟨by (try simp only [hl5_1]); (with_reducible repeat (first | refine blk_drewN ?_ _ | refine blk_drew ?_ | refine blk_alloc ?_ _)); exact BK154.out⟩, ⟨by repeat (first | (with_reducible first | exact HB.out | apply below_alloc | apply pw_below_drewN | apply below_drew1 | refine below_set ?_ GE154.out) | exact HB.out)⟩⟩
              · rw [if_neg c13] at H
                exact absurd H (by simp)
            · rw [if_neg c11] at H
              exact absurd H (by simp)
          · rw [if_neg c10] at H
            have c10b0 : decide (x17_1 < (y155.length : Int)) = false := decide_eq_false c10
            (try (have c10b0h := c10b0; simp only [hl5_1] at c10b0h))
            clear c10
            have H' := Aside0.mk H
            clear H
            go_wp2
            go_loopg [5, 31] k1 (fun kq v5 v31 w' => ∃ (x5_2 : List Int) (x31_2 : Int), v31 = .int .i64 x31_2 ∧ Aside0 (tally_ways.l1 kq x5_2 a1 x31_2 a0_0 a0_1 l0_2 a0_3 a0_4 = some r) ∧ Aside0 (kq ≤ k1) ∧ Aside0 (Kd.R (Kd.int .i64) 2 w' w.heap.size (fun _ => True) v5 x5_2) ∧ Aside0 (w'.heap[gb154]? = some (.cells #[.int .i64 a0_0, .int .i64 a0_1, (.slice A0_2 l0_2.length c0_2), .int .i64 a0_3, .int .u32 a0_4] 41 (0, 0))) ∧ Aside0 (Below w.heap.size w w'))
            case atStart => exact ⟨(x5_1), (0), (by first | rfl | (simp; done) | (simp [*]; done)), H', ⟨Nat.le_refl _⟩, ⟨by (try simp only [hl5_1]); (with_reducible repeat (first | apply Kd.R_alloc | apply Kd.R_drewN | apply Kd.R_drew)); exact HO_5.out⟩, ⟨by (try simp only [hl5_1]); (with_reducible repeat (first | refine blk_drewN ?_ _ | refine blk_drew ?_ | refine blk_alloc ?_ _)); exact BK154.out⟩, ⟨by repeat (first | (with_reducible first | exact HB.out | apply below_alloc | apply pw_below_drewN | apply below_drew1 | refine below_set ?_ GE154.out) | exact HB.out)⟩⟩
            case round =>
              clear H'
              try clear c1
              try clear p1
              try clear q1
              try clear hx1
              try clear p2
              try clear c3
              try clear c3b0
              try clear c3b1
              try clear c4
              try clear c4b0
              try clear c4b1
              try clear c5
              try clear p6
              try clear c10
              try clear c10b0
              try clear c11
              try clear c11b0
              try clear c11b1
              try clear c13
              try clear c13b0
              try clear p14
              try clear q14
              try clear hx14
              try clear hf14
              try clear hcz15_0
              try clear hcz15_1
              try clear hcz15_2
              try clear hcz15_3
              try clear hcz15_4
              try clear hcz6_0
              try clear hcz6_1
              try clear hcz6_2
              try clear hcz6_3
              try clear hcz6_4
              try clear hfz15_0
              try clear hfz15_1
              try clear hfz15_2
              try clear hfz15_3
              try clear hfz15_4
              try clear hfz6_0
              try clear hfz6_1
              try clear hfz6_2
              try clear hfz6_3
              try clear hfz6_4
              try clear hx14_0
              try clear p14
              try clear p2
              try clear q14
              obtain ⟨x5_2, x31_2, rfl, HA, HK2, HO_5, BK154, HB⟩ := hrel
              cases gk with
              | zero => exact absurd HA.out (by simp [tally_ways.l1])
              | succ k2 =>
                have H := HA.out
                clear HA
                simp only [tally_ways.l1] at H
                by_cases c18 : x31_2 < a1
                · rw [if_pos c18] at H
                  have c18b0 : decide (x31_2 < a1) = true := decide_eq_true c18
                  clear c18
                  by_cases c19 : 0 ≤ a0_0
                  · rw [if_pos c19] at H
                    have c19b0 := eq_true c19
                    have c19b1 : decide (0 ≤ a0_0) = true := decide_eq_true c19
                    clear c19
                    by_cases c20 : (a0_0 : Int).toNat ≤ 35184372088832
                    · rw [if_pos c20] at H
                      have c20b0 := eq_true c20
                      have c20b1 : decide ((a0_0 : Int).toNat ≤ 35184372088832) = true := decide_eq_true c20
                      clear c20
                      obtain ⟨y159, hy159⟩ : ∃ y_ : List Int, y_ = (List.replicate (a0_0 : Int).toNat 0) := ⟨_, rfl⟩
                      replace H : (tally_ways.l2 k2 x5_2 y159 a1 x31_2 l0_2 (l0_2.length : Int) 0 a0_0 a0_1 l0_2 a0_3 a0_4) = some r := by first | (rw [hy159]; with_reducible exact H) | (have H2_ := (Option.bind_some _ _).symm.trans H; rw [hy159]; with_reducible exact H2_) | (have H2_ := (Option.bind_some _ _).symm.trans H; with_reducible exact H2_) | with_reducible exact H | (rw [hy159]; exact H) | exact H
                      have Ny159 := Aside0.mk hy159
                      clear hy159
                      have H' := Aside0.mk H
                      clear H
                      have hcz21_0 : wr.cell? ⟨gb154, 0, none⟩ = some (.int .i64 a0_0) := (blk_cell BK154.out 0).trans rfl
                      have hcz21_1 : wr.cell? ⟨gb154, 1, none⟩ = some (.int .i64 a0_1) := (blk_cell BK154.out 1).trans rfl
                      have hcz21_2 : wr.cell? ⟨gb154, 2, none⟩ = some (.slice A0_2 l0_2.length c0_2) := (blk_cell BK154.out 2).trans rfl
                      have hcz21_3 : wr.cell? ⟨gb154, 3, none⟩ = some (.int .i64 a0_3) := (blk_cell BK154.out 3).trans rfl
                      have hcz21_4 : wr.cell? ⟨gb154, 4, none⟩ = some (.int .u32 a0_4) := (blk_cell BK154.out 4).trans rfl
                      have hfz21_0 := blk_frozen BK154.out 0
                      have hfz21_1 := blk_frozen BK154.out 1
                      have hfz21_2 := blk_frozen BK154.out 2
                      have hfz21_3 := blk_frozen BK154.out 3
                      have hfz21_4 := blk_frozen BK154.out 4
                      go_wp2_with (first | ((with_reducible refine gate_dst (N := 35) rfl ?_); refine Kd.R_make (Kd.int .i64) _ 2 rfl (N := 35) rfl 90 _ _ rfl a0_0 rfl rfl Try.underlying90 (.int .i64 0) 8 info2 rfl (by decide) (by omega) 0 (ok := fun _ => True) (okp := fun _ => True) rfl (fun _ hk => hk) trivial (of_decide_eq_true (by first | (with_reducible assumption) | assumption)) (Nat.le_trans (Nat.mul_le_mul_right _ (of_decide_eq_true (by first | (with_reducible assumption) | assumption) : a0_0.toNat ≤ 35184372088832)) (by omega)) (Below.refl _ _) (Nat.le_refl _) ?_; intro v160 w22 ho23 hb hg_ hnew_; clear hg_ hnew_; (first | rw [← Ny159.out] at ho23 | (simp only [Int.reduceToNat] at ho23; rw [← Ny159.out] at ho23)); have n0_ := Aside0.mk (Kd.R_elder' (by (with_reducible repeat (first | apply Kd.R_alloc | apply Kd.R_drewN | apply Kd.R_drew)); exact HO_5.out) (Kd.R_base ho23) hb); have n1_ := Aside0.mk (Kd.R_lower (Kd.R_new' ho23 (Kd.R_lt (by (with_reducible repeat (first | apply Kd.R_alloc | apply Kd.R_drewN | apply Kd.R_drew)); exact HO_5.out))) (below_size (by repeat (first | (with_reducible first | exact HB.out | apply below_alloc | apply pw_below_drewN | apply below_drew1 | refine below_set ?_ GE154.out) | exact HB.out)))); have n2_ := Aside0.mk (blk_below (g := gb154) (o := .cells #[.int .i64 a0_0, .int .i64 a0_1, .slice A0_2 l0_2.length c0_2, .int .i64 a0_3, .int .u32 a0_4] 41 (0, 0)) (by (with_reducible repeat (first | refine blk_drewN ?_ _ | refine blk_drew ?_ | refine blk_alloc ?_ _)); exact BK154.out) hb); have n3_ := Aside0.mk (below_step (by repeat (first | (with_reducible first | exact HB.out | apply below_alloc | apply pw_below_drewN | apply below_drew1 | refine below_set ?_ GE154.out) | exact HB.out)) hb); clear HO_5; clear BK154; clear HB; have HO_5 := n0_; have HO161 := n1_; have BK154 := n2_; have HB := n3_; clear n0_ n1_ n2_ n3_; clear hb ho23; have hcz24_0 : w22.cell? ⟨gb154, 0, none⟩ = some (.int .i64 a0_0) := (blk_cell BK154.out 0).trans rfl; have hcz24_1 : w22.cell? ⟨gb154, 1, none⟩ = some (.int .i64 a0_1) := (blk_cell BK154.out 1).trans rfl; have hcz24_2 : w22.cell? ⟨gb154, 2, none⟩ = some (.slice A0_2 l0_2.length c0_2) := (blk_cell BK154.out 2).trans rfl; have hcz24_3 : w22.cell? ⟨gb154, 3, none⟩ = some (.int .i64 a0_3) := (blk_cell BK154.out 3).trans rfl; have hcz24_4 : w22.cell? ⟨gb154, 4, none⟩ = some (.int .u32 a0_4) := (blk_cell BK154.out 4).trans rfl; have hfz24_0 := blk_frozen BK154.out 0; have hfz24_1 := blk_frozen BK154.out 1; have hfz24_2 := blk_frozen BK154.out 2; have hfz24_3 := blk_frozen BK154.out 3; have hfz24_4 := blk_frozen BK154.out 4))
                      go_loopg [39] k2 (fun kq v39 w' => ∃ (x7_3 : List Int) (x39_3 : Int), v39 = .int .i64 x39_3 ∧ Aside0 (tally_ways.l2 kq x5_2 x7_3 a1 x31_2 l0_2 (l0_2.length : Int) x39_3 a0_0 a0_1 l0_2 a0_3 a0_4 = some r) ∧ Aside0 (kq ≤ k2) ∧ Aside0 (Kd.R (Kd.int .i64) 2 w' w.heap.size (fun k_ => some k_ ≠ (v160 : Value).ownBlock) u5 x5_2) ∧ Aside0 (Kd.R (Kd.int .i64) 2 w' w.heap.size (fun k_ => some k_ ≠ (u5 : Value).ownBlock) v160 x7_3) ∧ Aside0 (w'.heap[gb154]? = some (.cells #[.int .i64 a0_0, .int .i64 a0_1, (.slice A0_2 l0_2.length c0_2), .int .i64 a0_3, .int .u32 a0_4] 41 (0, 0))) ∧ Aside0 (Below w.heap.size w w'))
                      case atStart => exact ⟨(y159), (0), (by first | rfl | (simp; done) | (simp [*]; done)), H', ⟨Nat.le_refl _⟩, ⟨by (try simp only [hl5_1]); (with_reducible repeat (first | apply Kd.R_alloc | apply Kd.R_drewN | apply Kd.R_drew)); exact Kd.R_mono HO_5.out (fun _ hk => hk.2)⟩, ⟨by (try simp only [hl5_1]); (with_reducible repeat (first | apply Kd.R_alloc | apply Kd.R_drewN | apply Kd.R_drew)); exact Kd.R_mono HO161.out (fun _ hk => hk.2)⟩, ⟨by (try simp only [hl5_1]); (with_reducible repeat (first | refine blk_drewN ?_ _ | refine blk_drew ?_ | refine blk_alloc ?_ _)); exact BK154.out⟩, ⟨by repeat (first | (with_reducible first | exact HB.out | apply below_alloc | apply pw_below_drewN | apply below_drew1 | refine below_set ?_ GE154.out) | exact HB.out)⟩⟩
                      case round =>
                        clear H'
                        try clear c1
                        try clear p1
                        try clear q1
                        try clear hx1
                        try clear c2
                        try clear p2
                        try clear c3
                        try clear c3b0
                        try clear c3b1
                        try clear c4
                        try clear c4b0
                        try clear c4b1
                        try clear c5
                        try clear p6
                        try clear c10
                        try clear c10b0
                        try clear c11
                        try clear c11b0
                        try clear c11b1
                        try clear c13
                        try clear c13b0
                        try clear p14
                        try clear q14
                        try clear hx14
                        try clear hf14
                        try clear c18
                        try clear c18b0
                        try clear c19
                        try clear c19b0
                        try clear c19b1
                        try clear c20
                        try clear c20b0
                        try clear c20b1
                        try clear hcz15_0
                        try clear hcz15_1
                        try clear hcz15_2
                        try clear hcz15_3
                        try clear hcz15_4
                        try clear hcz21_0
                        try clear hcz21_1
                        try clear hcz21_2
                        try clear hcz21_3
                        try clear hcz21_4
                        try clear hcz24_0
                        try clear hcz24_1
                        try clear hcz24_2
                        try clear hcz24_3
                        try clear hcz24_4
                        try clear hcz6_0
                        try clear hcz6_1
                        try clear hcz6_2
                        try clear hcz6_3
                        try clear hcz6_4
                        try clear hfz15_0
                        try clear hfz15_1
                        try clear hfz15_2
                        try clear hfz15_3
                        try clear hfz15_4
                        try clear hfz21_0
                        try clear hfz21_1
                        try clear hfz21_2
                        try clear hfz21_3
                        try clear hfz21_4
                        try clear hfz24_0
                        try clear hfz24_1
                        try clear hfz24_2
                        try clear hfz24_3
                        try clear hfz24_4
                        try clear hfz6_0
                        try clear hfz6_1
                        try clear hfz6_2
                        try clear hfz6_3
                        try clear hfz6_4
                        try clear hx14_0
                        try clear p1
                        try clear p14
                        try clear p2
                        try clear p6
                        try clear q1
                        try clear q14
                        obtain ⟨x7_3, x39_3, rfl, HA, HK3, HO_5, HO_7, BK154, HB⟩ := hrel
                        cases gk with
                        | zero => exact absurd HA.out (by simp [tally_ways.l2])
                        | succ k3 =>
                          have H := HA.out
                          clear HA
                          simp only [tally_ways.l2] at H
                          by_cases c25 : x39_3 < (l0_2.length : Int)
                          · rw [if_pos c25] at H
                            have c25b0 : decide (x39_3 < (l0_2.length : Int)) = true := decide_eq_true c25
                            (try (have c25b0h := c25b0; simp only [hl5_1] at c25b0h))
                            clear c25
                            by_cases c26 : 0 ≤ x39_3
                            · rw [if_pos c26] at H
                              have c26b0 : decide (0 ≤ x39_3) = true := decide_eq_true c26
                              clear c26
                              by_cases c27 : x39_3 < (l0_2.length : Int)
                              · rw [if_pos c27] at H
                                have c27b0 : decide (x39_3 < (l0_2.length : Int)) = true := decide_eq_true c27
                                (try (have c27b0h := c27b0; simp only [hl5_1] at c27b0h))
                                clear c27
                                have H' := Aside0.mk H
                                clear H
                                have p162 : 0 ≤ (x39_3 : Int) := of_decide_eq_true (by first | (with_reducible assumption) | assumption)
                                have q162 : x39_3 < (l0_2.length : Int) := of_decide_eq_true (by first | (with_reducible assumption) | assumption)
                                obtain ⟨ad162, A162_0, c162_0, e162, hx162_0, hl162_0, hi162_0⟩ := at_L1 HR0_2.out x39_3 p162 q162
                                cases e162
                                replace hx162_0 := (HB.out.cell (World.block_lt_of_cell? w _ hx162_0)).trans hx162_0
                                have HR162_0 := Aside0.mk hi162_0
                                have HC162_0 := Aside0.mk hl162_0
                                clear hi162_0 hl162_0
                                replace p162 := eq_true p162
                                replace q162 := eq_true q162
                                go_wp2
                                go_loopg [46] k3 (fun kq v46 w' => ∃ (x7_4 : List Int) (x46_4 : Int), v46 = .int .i64 x46_4 ∧ Aside0 (tally_ways.l3 kq x5_2 x7_4 x39_3 a1 x31_2 l0_2 (l0_2.length : Int) x39_3 (rd_L1 l0_2 x39_3) ((rd_L1 l0_2 x39_3).length : Int) x46_4 a0_0 a0_1 l0_2 a0_3 a0_4 = some r) ∧ Aside0 (kq ≤ k3) ∧ Aside0 (Kd.R (Kd.int .i64) 2 w' w.heap.size (fun k_ => some k_ ≠ (v160 : Value).ownBlock) u5 x5_2) ∧ Aside0 (Kd.R (Kd.int .i64) 2 w' w.heap.size (fun k_ => some k_ ≠ (u5 : Value).ownBlock) v160 x7_4) ∧ Aside0 (w'.heap[gb154]? = some (.cells #[.int .i64 a0_0, .int .i64 a0_1, (.slice (some ad162) l0_2.length c0_2), .int .i64 a0_3, .int .u32 a0_4] 41 (0, 0))) ∧ Aside0 (Below w.heap.size w w'))
                                case atStart => exact ⟨(x7_3), (0), (by first | rfl | (simp; done) | (simp [*]; done)), H', ⟨Nat.le_refl _⟩, ⟨by (try simp only [hl5_1]); (with_reducible repeat (first | apply Kd.R_alloc | apply Kd.R_drewN | apply Kd.R_drew)); exact HO_5.out⟩, ⟨by (try simp only [hl5_1]); (with_reducible repeat (first | apply Kd.R_alloc | apply Kd.R_drewN | apply Kd.R_drew)); exact HO_7.out⟩, ⟨by (try simp only [hl5_1]); (with_reducible repeat (first | refine blk_drewN ?_ _ | refine blk_drew ?_ | refine blk_alloc ?_ _)); exact BK154.out⟩, ⟨by repeat (first | (with_reducible first | exact HB.out | apply below_alloc | apply pw_below_drewN | apply below_drew1 | refine below_set ?_ GE154.out) | exact HB.out)⟩⟩
                                case round =>
                                  clear H'
                                  try clear c1
                                  try clear p1
                                  try clear q1
                                  try clear hx1
                                  try clear c2
                                  try clear p2
                                  try clear c3
                                  try clear c3b0
                                  try clear c3b1
                                  try clear c4
                                  try clear c4b0
                                  try clear c4b1
                                  try clear c5
                                  try clear p6
                                  try clear c10
                                  try clear c10b0
                                  try clear c11
                                  try clear c11b0
                                  try clear c11b1
                                  try clear c13
                                  try clear c13b0
                                  try clear p14
                                  try clear q14
                                  try clear hx14
                                  try clear hf14
                                  try clear c16
                                  try clear p16
                                  try clear q16
                                  try clear hx16
                                  try clear c18
                                  try clear c18b0
                                  try clear c19
                                  try clear c19b0
                                  try clear c19b1
                                  try clear c20
                                  try clear c20b0
                                  try clear c20b1
                                  try clear c25
                                  try clear c25b0
                                  try clear c26
                                  try clear c26b0
                                  try clear c27
                                  try clear c27b0
                                  try clear hcz15_0
                                  try clear hcz15_1
                                  try clear hcz15_2
                                  try clear hcz15_3
                                  try clear hcz15_4
                                  try clear hcz21_0
                                  try clear hcz21_1
                                  try clear hcz21_2
                                  try clear hcz21_3
                                  try clear hcz21_4
                                  try clear hcz24_0
                                  try clear hcz24_1
                                  try clear hcz24_2
                                  try clear hcz24_3
                                  try clear hcz24_4
                                  try clear hcz6_0
                                  try clear hcz6_1
                                  try clear hcz6_2
                                  try clear hcz6_3
                                  try clear hcz6_4
                                  try clear hfz15_0
                                  try clear hfz15_1
                                  try clear hfz15_2
                                  try clear hfz15_3
                                  try clear hfz15_4
                                  try clear hfz21_0
                                  try clear hfz21_1
                                  try clear hfz21_2
                                  try clear hfz21_3
                                  try clear hfz21_4
                                  try clear hfz24_0
                                  try clear hfz24_1
                                  try clear hfz24_2
                                  try clear hfz24_3
                                  try clear hfz24_4
                                  try clear hfz6_0
                                  try clear hfz6_1
                                  try clear hfz6_2
                                  try clear hfz6_3
                                  try clear hfz6_4
                                  try clear hx14_0
                                  try clear hx162_0
                                  try clear p1
                                  try clear p14
                                  try clear p162
                                  try clear p2
                                  try clear p6
                                  try clear q1
                                  try clear q14
                                  try clear q162
                                  obtain ⟨x7_4, x46_4, rfl, HA, HK4, HO_5, HO_7, BK154, HB⟩ := hrel
                                  cases gk with
                                  | zero => exact absurd HA.out (by simp [tally_ways.l3])
                                  | succ k4 =>
                                    have H := HA.out
                                    clear HA
                                    simp only [tally_ways.l3] at H
                                    by_cases c28 : x46_4 < ((rd_L1 l0_2 x39_3).length : Int)
                                    · rw [if_pos c28] at H
                                      have c28b0 : decide (x46_4 < ((rd_L1 l0_2 x39_3).length : Int)) = true := decide_eq_true c28
                                      (try (have c28b0h := c28b0; simp only [hl5_1] at c28b0h))
                                      clear c28
                                      by_cases c29 : 0 ≤ x46_4
                                      · rw [if_pos c29] at H
                                        have c29b0 : decide (0 ≤ x46_4) = true := decide_eq_true c29
                                        clear c29
                                        by_cases c30 : x46_4 < ((rd_L1 l0_2 x39_3).length : Int)
                                        · rw [if_pos c30] at H
                                          have c30b0 : decide (x46_4 < ((rd_L1 l0_2 x39_3).length : Int)) = true := decide_eq_true c30
                                          (try (have c30b0h := c30b0; simp only [hl5_1] at c30b0h))
                                          clear c30
                                          by_cases c31 : 0 ≤ x39_3
                                          · rw [if_pos c31] at H
                                            have c31b0 : decide (0 ≤ x39_3) = true := decide_eq_true c31
                                            clear c31
                                            by_cases c32 : x39_3 < (x7_4.length : Int)
                                            · rw [if_pos c32] at H
                                              have c32b0 : decide (x39_3 < (x7_4.length : Int)) = true := decide_eq_true c32
                                              (try (have c32b0h := c32b0; simp only [hl5_1] at c32b0h))
                                              clear c32
                                              by_cases c33 : 0 ≤ (rd (rd_L1 l0_2 x39_3) x46_4)
                                              · rw [if_pos c33] at H
                                                have c33b0 : decide (0 ≤ (rd (rd_L1 l0_2 x39_3) x46_4)) = true := decide_eq_true c33
                                                clear c33
                                                by_cases c34 : (rd (rd_L1 l0_2 x39_3) x46_4) < (x5_2.length : Int)
                                                · rw [if_pos c34] at H
                                                  have c34b0 : decide ((rd (rd_L1 l0_2 x39_3) x46_4) < (x5_2.length : Int)) = true := decide_eq_true c34
                                                  (try (have c34b0h := c34b0; simp only [hl5_1] at c34b0h))
                                                  clear c34
                                                  obtain ⟨y166, hy166⟩ : ∃ y_ : List Int, y_ = (x7_4.set (x39_3 : Int).toNat (wrap64 ((rd x7_4 x39_3) + (rd x5_2 (rd (rd_L1 l0_2 x39_3) x46_4))))) := ⟨_, rfl⟩
                                                  replace H : (tally_ways.l3 k4 x5_2 y166 x39_3 a1 x31_2 l0_2 (l0_2.length : Int) x39_3 (rd_L1 l0_2 x39_3) ((rd_L1 l0_2 x39_3).length : Int) (wrap64 (x46_4 + 1)) a0_0 a0_1 l0_2 a0_3 a0_4) = some r := by first | (rw [hy166]; with_reducible exact H) | (have H2_ := (Option.bind_some _ _).symm.trans H; rw [hy166]; with_reducible exact H2_) | (have H2_ := (Option.bind_some _ _).symm.trans H; with_reducible exact H2_) | with_reducible exact H | (rw [hy166]; exact H) | exact H
                                                  have Ny166 := Aside0.mk hy166
                                                  clear hy166
                                                  have H' := Aside0.mk H
                                                  clear H
                                                  have p163 : 0 ≤ (x46_4 : Int) := of_decide_eq_true (by first | (with_reducible assumption) | assumption)
                                                  have q163 : x46_4 < ((rd_L1 l0_2 x39_3).length : Int) := of_decide_eq_true (by first | (with_reducible assumption) | assumption)
                                                  obtain ⟨ad163, e163, hx163_0⟩ := Kd.at_int HR162_0.out x46_4 p163 q163
                                                  cases e163
                                                  replace hx163_0 := (HB.out.cell (World.block_lt_of_cell? w _ hx163_0)).trans hx163_0
                                                  replace p163 := eq_true p163
                                                  replace q163 := eq_true q163
                                                  try go_wp2
                                                  have n0_ := Aside0.mk (Kd.R_drew HO_5.out)
                                                  have n1_ := Aside0.mk (Kd.R_drew HO_7.out)
                                                  have n2_ := Aside0.mk (blk_drew BK154.out)
                                                  have n3_ := Aside0.mk (below_drew1 HB.out)
                                                  clear HO_5
                                                  clear HO_7
                                                  clear BK154
                                                  clear HB
                                                  have HO_5 := n0_
                                                  have HO_7 := n1_
                                                  have BK154 := n2_
                                                  have HB := n3_
                                                  clear n0_ n1_ n2_ n3_
                                                  obtain ⟨Ao37, co37, eo37⟩ := Kd.R_slice HO_7.out
                                                  (first | subst eo37 | (injection eo37 with f1_ f2_ f3_; have f4_ := f1_.symm; have f5_ := f3_.symm; clear f1_ f2_ f3_; subst f4_; subst f5_))
                                                  have p164 : 0 ≤ (x39_3 : Int) := of_decide_eq_true (by first | (with_reducible assumption) | assumption)
                                                  have q164 : x39_3 < (x7_4.length : Int) := of_decide_eq_true (by first | (with_reducible assumption) | assumption)
                                                  obtain ⟨ad164, e164, hx164_0⟩ := Kd.at_int (Kd.R_reads' HO_7.out).2.2 x39_3 p164 q164
                                                  cases e164
                                                  replace p164 := eq_true p164
                                                  replace q164 := eq_true q164
                                                  obtain ⟨Ao38, co38, eo38⟩ := Kd.R_slice HO_5.out
                                                  (first | subst eo38 | (injection eo38 with f1_ f2_ f3_; have f4_ := f1_.symm; have f5_ := f3_.symm; clear f1_ f2_ f3_; subst f4_; subst f5_))
                                                  have p165 : 0 ≤ ((rd (rd_L1 l0_2 x39_3) x46_4) : Int) := of_decide_eq_true (by first | (with_reducible assumption) | assumption)
                                                  have q165 : (rd (rd_L1 l0_2 x39_3) x46_4) < (x5_2.length : Int) := of_decide_eq_true (by first | (with_reducible assumption) | assumption)
                                                  obtain ⟨ad165, e165, hx165_0⟩ := Kd.at_int (Kd.R_reads' HO_5.out).2.2 (rd (rd_L1 l0_2 x39_3) x46_4) p165 q165
                                                  cases e165
                                                  replace p165 := eq_true p165
                                                  replace q165 := eq_true q165
                                                  have p35 : 0 ≤ (x39_3 : Int) := of_decide_eq_true (by first | (with_reducible assumption) | assumption)
                                                  have q35 : (x39_3 : Int) < ((x7_4.length : Int) : Int) := of_decide_eq_true (by first | (with_reducible assumption) | assumption)
                                                  obtain ⟨go35, co35, eo35, gb35, gl35, cl35, HG35⟩ := Kd.R_form HO_7.out (by omega)
                                                  (first | cases eo35 | (injection eo35 with ea_ en_ ec_; (first | subst ea_ | (injection ea_ with ea_; subst ea_)); subst ec_; clear en_))
                                                  have GB35 := Aside0.mk gb35
                                                  have GG35 := Aside0.mk HG35
                                                  clear gb35 gl35 HG35
                                                  (first | simp only [add_plain] at hx164_0 | skip)
                                                  obtain ⟨hx35_0, hf35_0⟩ := Kd.R_celln 0 HO_7.out (x39_3 : Int) p35 q35
                                                  replace p35 := eq_true p35
                                                  replace q35 := eq_true q35
                                                  have HP39 := Kd.R_putn HO_7.out (x39_3 : Int) (wrap64 ((rd x7_4 x39_3) + (rd x5_2 (rd (rd_L1 l0_2 x39_3) x46_4))))
                                                  rw [← Ny166.out] at HP39
                                                  have HQ39 := Aside0.mk HP39
                                                  clear HP39
                                                  refine start_ (n := 11) (S := fun w' => w'.cell? ⟨go35, (x39_3).toNat, none⟩ = some (.int .i64 (rd x7_4 x39_3)) ∧ w'.cell? (ad165.add ((rd (rd_L1 l0_2 x39_3) x46_4)).toNat) = some (.int .i64 (rd x5_2 (rd (rd_L1 l0_2 x39_3) x46_4)))) (ds := [10]) #[false, false, false, false, false, false, false, false, false, false, false] (by kernel_rfl) rfl rfl ⟨hx164_0, hx165_0⟩ (fun hHeld => ?_); refine with_tabW tally_ways.tab16 tally_ways.bits16 (fun HT_ HW_ => ?_)
                                                  generalize wr.drew = w36 at HO_5 HO_7 BK154 HB GG35 HQ39 hf35_0 hx164_0 hx165_0 hx35_0 hHeld ⊢
                                                  refine pure_ (i := 0) (N := some 50) (v := ?_) (a' := ?_) #[true, false, false, false, false, false, false, false, false, false, false] rfl rfl (any_of HT_.out (by kernel_rfl)) (fun _ _ _ h => h) (Or.inl ⟨by rfl, ?_⟩) ?_ ?_
                                                  rotate_left
                                                  · intro w'
                                                    go_simp
                                                    with_reducible rfl
                                                  rotate_left
                                                  · simp only [Act.put, List.setIfInBounds_toArray, List.set_cons_zero, List.set_cons_succ, i64_w, i32_w]
                                                    rfl
                                                  refine pure_ (i := 1) (N := some 51) (v := ?_) (a' := ?_) #[true, true, false, false, false, false, false, false, false, false, false] rfl rfl (any_of HT_.out (by kernel_rfl)) (fun _ _ _ h => h) (Or.inl ⟨by rfl, ?_⟩) ?_ ?_
                                                  rotate_left
                                                  · intro w'
                                                    go_simp
                                                    with_reducible rfl
                                                  rotate_left
                                                  · simp only [Act.put, List.setIfInBounds_toArray, List.set_cons_zero, List.set_cons_succ, i64_w, i32_w]
                                                    rfl
                                                  refine pure_ (i := 2) (N := some 52) (v := ?_) (a' := ?_) #[true, true, true, false, false, false, false, false, false, false, false] rfl rfl (any_of HT_.out (by kernel_rfl)) (fun _ _ _ h => h) (Or.inl ⟨by rfl, ?_⟩) ?_ ?_
                                                  rotate_left
                                                  · intro w'
                                                    go_simp
                                                    with_reducible rfl
                                                  rotate_left
                                                  · simp only [Act.put, List.setIfInBounds_toArray, List.set_cons_zero, List.set_cons_succ, i64_w, i32_w]
                                                    rfl
                                                  refine pure_ (i := 4) (N := some 54) (v := ?_) (a' := ?_) #[true, true, true, false, true, false, false, false, false, false, false] rfl rfl (any_of HT_.out (by kernel_rfl)) (fun _ _ _ h => h) (Or.inl ⟨by rfl, ?_⟩) ?_ ?_
                                                  rotate_left
                                                  · intro w'
                                                    go_simp
                                                    with_reducible rfl
                                                  rotate_left
                                                  · simp only [Act.put, List.setIfInBounds_toArray, List.set_cons_zero, List.set_cons_succ, i64_w, i32_w]
                                                    rfl
                                                  refine pure_ (i := 5) (N := some 55) (v := ?_) (a' := ?_) #[true, true, true, false, true, true, false, false, false, false, false] rfl rfl (any_of HT_.out (by kernel_rfl)) (fun _ _ _ h => h) (Or.inl ⟨by rfl, ?_⟩) ?_ ?_
                                                  rotate_left
                                                  · intro w'
                                                    go_simp
                                                    with_reducible rfl
                                                  rotate_left
                                                  · simp only [Act.put, List.setIfInBounds_toArray, List.set_cons_zero, List.set_cons_succ, i64_w, i32_w]
                                                    rfl
                                                  refine pure_ (i := 6) (N := some 56) (v := ?_) (a' := ?_) #[true, true, true, false, true, true, true, false, false, false, false] rfl rfl (any_of HT_.out (by kernel_rfl)) (fun _ _ _ h => h) (Or.inl ⟨by rfl, ?_⟩) ?_ ?_
                                                  rotate_left
                                                  · intro w'
                                                    go_simp
                                                    with_reducible rfl
                                                  rotate_left
                                                  · simp only [Act.put, List.setIfInBounds_toArray, List.set_cons_zero, List.set_cons_succ, i64_w, i32_w]
                                                    rfl
                                                  refine take_ (i := 3) (N := some 53) (v := ?_) (a' := ?_) #[true, true, true, true, true, true, true, false, false, false, false] rfl rfl (take_ofW HT_.out HW_.out (by kernel_rfl)) (fun _ _ _ h => h) (Or.inl ⟨by rfl, ?_⟩) hHeld ?_ ?_
                                                  rotate_left
                                                  · rintro w' ⟨s0, s1⟩
                                                    go_simp
                                                    with_reducible rfl
                                                  rotate_left
                                                  · simp only [Act.put, List.setIfInBounds_toArray, List.set_cons_zero, List.set_cons_succ, i64_w, i32_w]
                                                    rfl
                                                  refine take_ (i := 7) (N := some 57) (v := ?_) (a' := ?_) #[true, true, true, true, true, true, true, true, false, false, false] rfl rfl (take_ofW HT_.out HW_.out (by kernel_rfl)) (fun _ _ _ h => h) (Or.inl ⟨by rfl, ?_⟩) hHeld ?_ ?_
                                                  rotate_left
                                                  · rintro w' ⟨s0, s1⟩
                                                    go_simp
                                                    with_reducible rfl
                                                  rotate_left
                                                  · simp only [Act.put, List.setIfInBounds_toArray, List.set_cons_zero, List.set_cons_succ, i64_w, i32_w]
                                                    rfl
                                                  refine pure_ (i := 8) (N := some 58) (v := ?_) (a' := ?_) #[true, true, true, true, true, true, true, true, true, false, false] rfl rfl (any_of HT_.out (by kernel_rfl)) (fun _ _ _ h => h) (Or.inl ⟨by rfl, ?_⟩) ?_ ?_
                                                  rotate_left
                                                  · intro w'
                                                    go_simp
                                                    with_reducible rfl
                                                  rotate_left
                                                  · simp only [Act.put, List.setIfInBounds_toArray, List.set_cons_zero, List.set_cons_succ, i64_w, i32_w]
                                                    rfl
                                                  refine pure_ (i := 9) (N := some 59) (v := ?_) (a' := ?_) #[true, true, true, true, true, true, true, true, true, true, false] rfl rfl (any_of HT_.out (by kernel_rfl)) (fun _ _ _ h => h) (Or.inl ⟨by rfl, ?_⟩) ?_ ?_
                                                  rotate_left
                                                  · intro w'
                                                    go_simp
                                                    with_reducible rfl
                                                  rotate_left
                                                  · simp only [Act.put, List.setIfInBounds_toArray, List.set_cons_zero, List.set_cons_succ, i64_w, i32_w]
                                                    rfl
                                                  refine last_ (i := 10) (N := none) #[true, true, true, true, true, true, true, true, true, true, true] rfl rfl (one_of HT_.out (by kernel_rfl)) (by decide) (fun K hK => ?_)
                                                  refine skip_ (w1 := ?_) (by rfl) rfl ?_ ?_
                                                  rotate_left
                                                  · go_simp
                                                    rfl
                                                  refine hK.out _ _ ?_
                                                  clear hK K
                                                  refine done_ (done_of HT_.out (by kernel_rfl)) ?_
                                                  try go_wp2
                                                  go_roundg k4
                                                  case measure => have := HK1.out; have := HK2.out; have := HK3.out; have := HK4.out; omega
                                                  case rel => exact ⟨(y166), (wrap64 (x46_4 + 1)), (by first | rfl | (simp; done) | (simp [*]; done)), H', ⟨by have := HK1.out; have := HK2.out; have := HK3.out; have := HK4.out; omega⟩, ⟨by (try simp only [hl5_1]); (with_reducible repeat (first | apply Kd.R_alloc | apply Kd.R_drewN | apply Kd.R_drew)); exact Kd.R_mono (Kd.R_far (p := ⟨go35, (x39_3 : Int).toNat, none⟩) (Kd.R_mono HO_5.out (fun k_ hk => (⟨hk, fun e_ => hk (by rw [e_]; rfl)⟩ : _ ∧ k_ ≠ go35))) (fun _ hk => hk.2) (.int .i64 (wrap64 ((rd x7_4 x39_3) + (rd x5_2 (rd (rd_L1 l0_2 x39_3) x46_4)))))) (fun _ hk => hk.1)⟩, ⟨by (try simp only [hl5_1]); (with_reducible repeat (first | apply Kd.R_alloc | apply Kd.R_drewN | apply Kd.R_drew)); exact HQ39.out⟩, ⟨by (try simp only [hl5_1]); (with_reducible repeat (first | refine blk_drewN ?_ _ | refine blk_drew ?_ | refine blk_alloc ?_ _)); refine blk_far ?_ (by have h_ := Kd.R_ne HO_7.out BK154.out (by decide); intro e_; exact h_ (by rw [e_]; rfl)) _; (with_reducible repeat (first | refine blk_drewN ?_ _ | refine blk_drew ?_ | refine blk_alloc ?_ _)); exact BK154.out⟩, ⟨by repeat (first | (with_reducible first | exact HB.out | apply below_alloc | apply pw_below_drewN | apply below_drew1 | refine below_set ?_ GB35.out | refine below_set ?_ GE154.out) | exact HB.out)⟩⟩
                                                · rw [if_neg c34] at H
                                                  exact absurd H (by simp)
                                              · rw [if_neg c33] at H
                                                exact absurd H (by simp)
                                            · rw [if_neg c32] at H
                                              exact absurd H (by simp)
                                          · rw [if_neg c31] at H
                                            exact absurd H (by simp)
                                        · rw [if_neg c30] at H
                                          exact absurd H (by simp)
                                      · rw [if_neg c29] at H
                                        exact absurd H (by simp)
                                    · rw [if_neg c28] at H
                                      have c28b0 : decide (x46_4 < ((rd_L1 l0_2 x39_3).length : Int)) = false := decide_eq_false c28
                                      (try (have c28b0h := c28b0; simp only [hl5_1] at c28b0h))
                                      clear c28
                                      have H' := Aside0.mk H
                                      clear H
                                      go_wp2
                                      go_roundg k4
                                      case measure => have := HK1.out; have := HK2.out; have := HK3.out; have := HK4.out; omega
                                      case rel => exact ⟨(x7_4), (wrap64 (x39_3 + 1)), (by first | rfl | (simp; done) | (simp [*]; done)), H', ⟨by have := HK1.out; have := HK2.out; have := HK3.out; have := HK4.out; omega⟩, ⟨by (try simp only [hl5_1]); (with_reducible repeat (first | apply Kd.R_alloc | apply Kd.R_drewN | apply Kd.R_drew)); exact HO_5.out⟩, ⟨by (try simp only [hl5_1]); (with_reducible repeat (first | apply Kd.R_alloc | apply Kd.R_drewN | apply Kd.R_drew)); exact HO_7.out⟩, ⟨by (try simp only [hl5_1]); (with_reducible repeat (first | refine blk_drewN ?_ _ | refine blk_drew ?_ | refine blk_alloc ?_ _)); exact BK154.out⟩, ⟨by repeat (first | (with_reducible first | exact HB.out | apply below_alloc | apply pw_below_drewN | apply below_drew1 | refine below_set ?_ GE154.out) | exact HB.out)⟩⟩
                              · rw [if_neg c27] at H
                                exact absurd H (by simp)
                            · rw [if_neg c26] at H
                              exact absurd H (by simp)
                          · rw [if_neg c25] at H
                            have c25b0 : decide (x39_3 < (l0_2.length : Int)) = false := decide_eq_false c25
                            (try (have c25b0h := c25b0; simp only [hl5_1] at c25b0h))
                            clear c25
                            have H' := Aside0.mk H
                            clear H
                            go_wp2
                            go_roundg k3
                            case measure => have := HK1.out; have := HK2.out; have := HK3.out; omega
                            case rel => exact ⟨(x7_3), (wrap64 (x31_2 + 1)), (by first | rfl | (simp; done) | (simp [*]; done)), H', ⟨by have := HK1.out; have := HK2.out; have := HK3.out; omega⟩, ⟨by (try simp only [hl5_1]); (with_reducible repeat (first | apply Kd.R_alloc | apply Kd.R_drewN | apply Kd.R_drew)); exact Kd.R_mono HO_7.out (fun _ hk => trivial)⟩, ⟨by (try simp only [hl5_1]); (with_reducible repeat (first | refine blk_drewN ?_ _ | refine blk_drew ?_ | refine blk_alloc ?_ _)); exact BK154.out⟩, ⟨by repeat (first | (with_reducible first | exact HB.out | apply below_alloc | apply pw_below_drewN | apply below_drew1 | refine below_set ?_ GE154.out) | exact HB.out)⟩⟩
                    · rw [if_neg c20] at H
                      exact absurd H (by simp)
                  · rw [if_neg c19] at H
                    exact absurd H (by simp)
                · rw [if_neg c18] at H
                  have c18b0 : decide (x31_2 < a1) = false := decide_eq_false c18
                  clear c18
                  obtain rfl := Option.some.inj H
                  go_wp2
                  go_ret
                  exact ⟨_, by first | rfl | (simp [errW_none, errW_some] <;> rfl) | (simp [*, errW_none, errW_some] <;> rfl), by (with_reducible repeat (first | apply Kd.R_alloc | apply Kd.R_drewN | apply Kd.R_drew)); exact HO_5.out, by repeat (first | (with_reducible first | exact HB.out | apply below_alloc | apply pw_below_drewN | apply below_drew1 | refine below_set ?_ GE154.out) | exact HB.out)⟩
    · rw [if_neg c4] at H
      exact absurd H (by simp)
  · rw [if_neg c3] at H
    exact absurd H (by simp)

end Go.Proofs.Ytidjihmlkaeemaa.PTallyWords
