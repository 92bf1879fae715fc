-- Written by a program of this session: a turn of the print kit's own.
import Derived.Test.YtidjihmlkaeemaaPTallyWordsx0
import Derived.Test.YtidjihmlkaeemaaPTallyWordsx1
import Derived.Test.YtidjihmlkaeemaaPTallyWordsx3
import Derived.Test.YtidjihmlkaeemaaPTallyWordsx4
import Derived.Test.YtidjihmlkaeemaaPTallyWordsx8
import Derived.Test.YtidjihmlkaeemaaPTallyWordsx9
namespace Go.Proofs.Ytidjihmlkaeemaa.PTallyWords
open Go.RowKit Go.Proofs.YtidjihmlkaeemaaW.PrintWords Go.Proofs.YtidjihmlkaeemaaW.PrintLast Go.Proofs.YtidjihmlkaeemaaW.PrintMore
attribute [local go_sem] max2_int min2_int max_two min_two max_three min_three max_four min_four   -- for this text's walks alone
set_option linter.unusedVariables false
set_option linter.unusedSimpArgs false

/-! ### coppicerlaw_TallyWords: function 11 -/
mutual
def coppicerlaw_TallyWords.j0 : Nat → Int → Int → List Int → Int → Int → Bool → Int → Int → List (List Int) → Int → Int → Option (Bool)
  | 0, _, _, _, _, _, _, _, _, _, _, _ => none
  | k + 1, x1, x2, x7, x8, x9, x34, x198000, x198001, x198002, x198003, x198004 => if x34 = true then (coppicerlaw_TallyWords.j1 k x1 x2 x7 x8 5 x198000 x198001 x198002 x198003 x198004) else (coppicerlaw_TallyWords.j1 k x1 x2 x7 x8 x9 x198000 x198001 x198002 x198003 x198004)
def coppicerlaw_TallyWords.j1 : Nat → Int → Int → List Int → Int → Int → Int → Int → List (List Int) → Int → Int → Option (Bool)
  | 0, _, _, _, _, _, _, _, _, _, _ => none
  | k + 1, x1, x2, x7, x8, x9, x198000, x198001, x198002, x198003, x198004 => if x9 = 0 then (if x8 = 0 then (if (x7.length : Int) = x1 then ((coppicerref_WordCheck.f k x198001 x7).bind fun t204 => (if t204 = 0 then ((coppicerref_Takes.f k x198000 x198001 x198002 x198003 x198004 x7).bind fun t205 => (if t205 = true then ((coppicerref_Place.f k x198000 x198001 x198002 x198003 x198004 x7).bind fun t206 => (some (t206 == x2))) else (some false))) else (some false))) else (some false)) else (some false)) else (if x8 = x9 then (some ((x7.length : Int) == 0)) else (some false))
end
def coppicerlaw_TallyWords.f (k : Nat) (a0_0 : Int) (a0_1 : Int) (l0_2 : List (List Int)) (a0_3 : Int) (a0_4 : Int) (a1 : Int) (a2 : Int) : Option (Bool) := (tally_Word.f k a0_0 a0_1 l0_2 a0_3 a0_4 a1 a2).bind fun bt198 => ((coppicerlaw_tallyCode.f k a0_0 a0_1 l0_2 a0_3 a0_4 a1).bind fun t202 => (if t202 = 0 then (if a2 < 0 then (coppicerlaw_TallyWords.j0 k a1 a2 bt198.1 bt198.2 t202 true a0_0 a0_1 l0_2 a0_3 a0_4) else ((coppicerref_Many.f k a0_0 a0_1 l0_2 a0_3 a0_4 a0_3 a1).bind fun t203 => (coppicerlaw_TallyWords.j0 k a1 a2 bt198.1 bt198.2 t202 (decide (a2 ≥ t203)) a0_0 a0_1 l0_2 a0_3 a0_4))) else (coppicerlaw_TallyWords.j0 k a1 a2 bt198.1 bt198.2 t202 false a0_0 a0_1 l0_2 a0_3 a0_4)))
theorem coppicerlaw_TallyWords.mono_l : ∀ k, (∀ y0 y1 y2 y3 y4 y5 y6 y7 y8 y9 y10, LeO (coppicerlaw_TallyWords.j0 k y0 y1 y2 y3 y4 y5 y6 y7 y8 y9 y10) (coppicerlaw_TallyWords.j0 (k + 1) y0 y1 y2 y3 y4 y5 y6 y7 y8 y9 y10)) ∧ (∀ y0 y1 y2 y3 y4 y5 y6 y7 y8 y9, LeO (coppicerlaw_TallyWords.j1 k y0 y1 y2 y3 y4 y5 y6 y7 y8 y9) (coppicerlaw_TallyWords.j1 (k + 1) y0 y1 y2 y3 y4 y5 y6 y7 y8 y9))
  | 0 => ⟨fun _ _ _ _ _ _ _ _ _ _ _ r h => by simp [coppicerlaw_TallyWords.j0] at h, fun _ _ _ _ _ _ _ _ _ _ r h => by simp [coppicerlaw_TallyWords.j1] at h⟩
  | k + 1 => by
    obtain ⟨ih0, ih1⟩ := coppicerlaw_TallyWords.mono_l k
    refine ⟨?_, ?_⟩
    · intro y0 y1 y2 y3 y4 y5 y6 y7 y8 y9 y10
      unfold coppicerlaw_TallyWords.j0
      repeat' first
      | (with_reducible exact ih0 _ _ _ _ _ _ _ _ _ _ _)
      | (with_reducible exact ih1 _ _ _ _ _ _ _ _ _ _)
      | (with_reducible exact coppicerlaw_tallyCode.mono _ _ _ _ _ _ _)
      | (with_reducible exact coppicerref_Many.mono _ _ _ _ _ _ _ _)
      | (with_reducible exact coppicerref_Place.mono _ _ _ _ _ _ _)
      | (with_reducible exact coppicerref_Takes.mono _ _ _ _ _ _ _)
      | (with_reducible exact coppicerref_WordCheck.mono _ _ _)
      | (with_reducible exact tally_Word.mono _ _ _ _ _ _ _ _)
      | (with_reducible exact LeO.refl _)
      | (with_reducible exact LeO.none _)
      | (with_reducible refine LeO.ite ?_ ?_)
      | (with_reducible refine LeO.bind ?_ (fun _ => ?_))
      | exact ih0 _ _ _ _ _ _ _ _ _ _ _
      | exact ih1 _ _ _ _ _ _ _ _ _ _
      | exact coppicerlaw_tallyCode.mono _ _ _ _ _ _ _
      | exact coppicerref_Many.mono _ _ _ _ _ _ _ _
      | exact coppicerref_Place.mono _ _ _ _ _ _ _
      | exact coppicerref_Takes.mono _ _ _ _ _ _ _
      | exact coppicerref_WordCheck.mono _ _ _
      | exact tally_Word.mono _ _ _ _ _ _ _ _
      | exact LeO.none _
      | refine LeO.ite ?_ ?_
      | refine LeO.bind ?_ (fun _ => ?_)
    · intro y0 y1 y2 y3 y4 y5 y6 y7 y8 y9
      unfold coppicerlaw_TallyWords.j1
      repeat' first
      | (with_reducible exact ih0 _ _ _ _ _ _ _ _ _ _ _)
      | (with_reducible exact ih1 _ _ _ _ _ _ _ _ _ _)
      | (with_reducible exact coppicerlaw_tallyCode.mono _ _ _ _ _ _ _)
      | (with_reducible exact coppicerref_Many.mono _ _ _ _ _ _ _ _)
      | (with_reducible exact coppicerref_Place.mono _ _ _ _ _ _ _)
      | (with_reducible exact coppicerref_Takes.mono _ _ _ _ _ _ _)
      | (with_reducible exact coppicerref_WordCheck.mono _ _ _)
      | (with_reducible exact tally_Word.mono _ _ _ _ _ _ _ _)
      | (with_reducible exact LeO.refl _)
      | (with_reducible exact LeO.none _)
      | (with_reducible refine LeO.ite ?_ ?_)
      | (with_reducible refine LeO.bind ?_ (fun _ => ?_))
      | exact ih0 _ _ _ _ _ _ _ _ _ _ _
      | exact ih1 _ _ _ _ _ _ _ _ _ _
      | exact coppicerlaw_tallyCode.mono _ _ _ _ _ _ _
      | exact coppicerref_Many.mono _ _ _ _ _ _ _ _
      | exact coppicerref_Place.mono _ _ _ _ _ _ _
      | exact coppicerref_Takes.mono _ _ _ _ _ _ _
      | exact coppicerref_WordCheck.mono _ _ _
      | exact tally_Word.mono _ _ _ _ _ _ _ _
      | exact LeO.none _
      | refine LeO.ite ?_ ?_
      | refine LeO.bind ?_ (fun _ => ?_)
theorem coppicerlaw_TallyWords.mono : ∀ a0 a1 a2 a3 a4 a5 a6 k, LeO (coppicerlaw_TallyWords.f k a0 a1 a2 a3 a4 a5 a6) (coppicerlaw_TallyWords.f (k + 1) a0 a1 a2 a3 a4 a5 a6) := by
  intro a0 a1 a2 a3 a4 a5 a6 k
  obtain ⟨ih0, ih1⟩ := coppicerlaw_TallyWords.mono_l k
  unfold coppicerlaw_TallyWords.f
  repeat' first
      | (with_reducible exact ih0 _ _ _ _ _ _ _ _ _ _ _)
      | (with_reducible exact ih1 _ _ _ _ _ _ _ _ _ _)
      | (with_reducible exact coppicerlaw_tallyCode.mono _ _ _ _ _ _ _)
      | (with_reducible exact coppicerref_Many.mono _ _ _ _ _ _ _ _)
      | (with_reducible exact coppicerref_Place.mono _ _ _ _ _ _ _)
      | (with_reducible exact coppicerref_Takes.mono _ _ _ _ _ _ _)
      | (with_reducible exact coppicerref_WordCheck.mono _ _ _)
      | (with_reducible exact tally_Word.mono _ _ _ _ _ _ _ _)
      | (with_reducible exact LeO.refl _)
      | (with_reducible exact LeO.none _)
      | (with_reducible refine LeO.ite ?_ ?_)
      | (with_reducible refine LeO.bind ?_ (fun _ => ?_))
      | exact ih0 _ _ _ _ _ _ _ _ _ _ _
      | exact ih1 _ _ _ _ _ _ _ _ _ _
      | exact coppicerlaw_tallyCode.mono _ _ _ _ _ _ _
      | exact coppicerref_Many.mono _ _ _ _ _ _ _ _
      | exact coppicerref_Place.mono _ _ _ _ _ _ _
      | exact coppicerref_Takes.mono _ _ _ _ _ _ _
      | exact coppicerref_WordCheck.mono _ _ _
      | exact tally_Word.mono _ _ _ _ _ _ _ _
      | exact LeO.none _
      | refine LeO.ite ?_ ?_
      | refine LeO.bind ?_ (fun _ => ?_)
set_option maxHeartbeats 8000000 in
set_option maxRecDepth 100000 in
theorem coppicerlaw_TallyWords.calls (k : Nat) (a0_0 : Int) (a0_1 : Int) (A0_2 : Option Addr) (c0_2 : Nat) (l0_2 : List (List Int)) (a0_3 : Int) (a0_4 : Int) (a1 : Int) (a2 : Int) (r : Bool) (w : World) (hr0_2 : Kd.C (Kd.slice 3 (Kd.int .i64)) w A0_2 l0_2.length l0_2) (hc0_2 : l0_2.length ≤ c0_2) (h : coppicerlaw_TallyWords.f k a0_0 a0_1 l0_2 a0_3 a0_4 a1 a2 = some r) :
    Calls Try.prog 11 #[.agg #[.int .i64 a0_0, .int .i64 a0_1, .slice A0_2 l0_2.length c0_2, .int .i64 a0_3, .int .u32 a0_4], .int .i64 a1, .int .i64 a2] w fun e w' => e = .returned (.bool r) ∧ Below w.heap.size w w' := by
  have hu41 := Try.underlying41
  have HR0_2 := Aside0.mk hr0_2
  have HC0_2 := Aside0.mk hc0_2
  clear hr0_2 hc0_2
  have HB := Aside0.mk (Below.refl w.heap.size w)
  have H : ((tally_Word.f k a0_0 a0_1 l0_2 a0_3 a0_4 a1 a2).bind fun bt198 => ((coppicerlaw_tallyCode.f k a0_0 a0_1 l0_2 a0_3 a0_4 a1).bind fun t202 => (if t202 = 0 then (if a2 < 0 then (coppicerlaw_TallyWords.j0 k a1 a2 bt198.1 bt198.2 t202 true a0_0 a0_1 l0_2 a0_3 a0_4) else ((coppicerref_Many.f k a0_0 a0_1 l0_2 a0_3 a0_4 a0_3 a1).bind fun t203 => (coppicerlaw_TallyWords.j0 k a1 a2 bt198.1 bt198.2 t202 (decide (a2 ≥ t203)) a0_0 a0_1 l0_2 a0_3 a0_4))) else (coppicerlaw_TallyWords.j0 k a1 a2 bt198.1 bt198.2 t202 false a0_0 a0_1 l0_2 a0_3 a0_4)))) = some r := h
  clear h
  replace H := Option.bind_eq_some_iff.mp H
  obtain ⟨⟨t198, t201⟩, A40, H⟩ := H
  replace H : ((coppicerlaw_tallyCode.f k a0_0 a0_1 l0_2 a0_3 a0_4 a1).bind fun t202 => (if t202 = 0 then (if a2 < 0 then (coppicerlaw_TallyWords.j0 k a1 a2 t198 t201 t202 true a0_0 a0_1 l0_2 a0_3 a0_4) else ((coppicerref_Many.f k a0_0 a0_1 l0_2 a0_3 a0_4 a0_3 a1).bind fun t203 => (coppicerlaw_TallyWords.j0 k a1 a2 t198 t201 t202 (decide (a2 ≥ t203)) a0_0 a0_1 l0_2 a0_3 a0_4))) else (coppicerlaw_TallyWords.j0 k a1 a2 t198 t201 t202 false a0_0 a0_1 l0_2 a0_3 a0_4))) = some r := H
  have A4 := Aside0.mk A40
  clear A40
  replace H := Option.bind_eq_some_iff.mp H
  obtain ⟨t202, A50, H⟩ := H
  replace H : (if t202 = 0 then (if a2 < 0 then (coppicerlaw_TallyWords.j0 k a1 a2 t198 t201 t202 true a0_0 a0_1 l0_2 a0_3 a0_4) else ((coppicerref_Many.f k a0_0 a0_1 l0_2 a0_3 a0_4 a0_3 a1).bind fun t203 => (coppicerlaw_TallyWords.j0 k a1 a2 t198 t201 t202 (decide (a2 ≥ t203)) a0_0 a0_1 l0_2 a0_3 a0_4))) else (coppicerlaw_TallyWords.j0 k a1 a2 t198 t201 t202 false a0_0 a0_1 l0_2 a0_3 a0_4)) = some r := H
  have A5 := Aside0.mk A50
  clear A50
  have HC6 := Aside0.mk H
  clear H
  go_enter Try.func11, Try.ntmps11
  go_upto_region 3 with (first | ((with_reducible refine gate_dst (N := 3) rfl ?_); (try (refine gate_guard (by rfl) ?_; dsimp only)); refine box_event ?hg (N := 3) ?hd (cs := #[.int .i64 a0_0, .int .i64 a0_1, .slice A0_2 l0_2.length c0_2, .int .i64 a0_3, .int .u32 a0_4]) (t := 41) ?hr ?_; (case hd => rfl); (case hg => rfl); (case hr => first | (go_simp; done) | (go_simp; rfl)); intro gb197 hg w7 hbox hb; have n0_ := Aside0.mk (below_step (by repeat (first | (with_reducible first | exact HB.out | apply below_alloc | apply pw_below_drewN | apply below_drew1) | exact HB.out)) hb); have n1_ := Aside0.mk (hbox); have n2_ := Aside0.mk ((by rw [hg]; exact (below_size (by repeat (first | (with_reducible first | exact HB.out | apply below_alloc | apply pw_below_drewN | apply below_drew1) | exact HB.out))) : w.heap.size ≤ gb197)); have n3_ := Aside0.mk ((by rw [hg]; exact (below_size (by repeat (first | (with_reducible first | exact HB.out | apply below_alloc | apply pw_below_drewN | apply below_drew1) | exact HB.out))) : w.heap.size ≤ gb197)); clear HB; have HB := n0_; have BK197 := n1_; have GW197 := n2_; have GE197 := n3_; clear n0_ n1_ n2_ n3_; clear hb hbox hg; have hcz8_0 : w7.cell? ⟨gb197, 0, none⟩ = some (.int .i64 a0_0) := (blk_cell BK197.out 0).trans rfl; have hcz8_1 : w7.cell? ⟨gb197, 1, none⟩ = some (.int .i64 a0_1) := (blk_cell BK197.out 1).trans rfl; have hcz8_2 : w7.cell? ⟨gb197, 2, none⟩ = some (.slice A0_2 l0_2.length c0_2) := (blk_cell BK197.out 2).trans rfl; have hcz8_3 : w7.cell? ⟨gb197, 3, none⟩ = some (.int .i64 a0_3) := (blk_cell BK197.out 3).trans rfl; have hcz8_4 : w7.cell? ⟨gb197, 4, none⟩ = some (.int .u32 a0_4) := (blk_cell BK197.out 4).trans rfl; have hfz8_0 := blk_frozen BK197.out 0; have hfz8_1 := blk_frozen BK197.out 1; have hfz8_2 := blk_frozen BK197.out 2; have hfz8_3 := blk_frozen BK197.out 3; have hfz8_4 := blk_frozen BK197.out 4) | ((with_reducible refine gate_callee (f := 37) rfl ?_); refine goesL_ (some 14) rfl rfl Try.func37 (by kernel_rfl) rfl #[.agg #[.int .i64 a0_0, .int .i64 a0_1, .slice A0_2 l0_2.length c0_2, .int .i64 a0_3, .int .u32 a0_4], .int .i64 a1, .int .i64 a2] rfl (by (try simp only [List.map_toArray, List.map_cons, List.map_nil]); first | done | rfl | (simp only [List.length_drop, List.length_take]; rfl)) ?_; (with_reducible refine (tally_Word.calls k a0_0 a0_1 _ _ l0_2 a0_3 a0_4 a1 a2 t198 t201 _ ?side1 ?side2 A4.out).mono ?_); (case side1 => repeat (first | exact (Kd.C_below HR0_2.out HB.out) | (with_reducible refine Kd.C_alloc ?_ _) | (with_reducible refine Kd.C_drewN ?_ _) | (with_reducible refine Kd.C_drew ?_))); (case side2 => exact HC0_2.out); rintro e w9 ⟨v199, rfl, ho0, hb⟩; refine ⟨_, rfl, ?_⟩; have n0_ := Aside0.mk (Kd.R_lower ho0 (below_size (by repeat (first | (with_reducible first | exact HB.out | apply below_alloc | apply pw_below_drewN | apply below_drew1 | refine below_set ?_ GE197.out) | exact HB.out)))); have n1_ := Aside0.mk (blk_below (g := gb197) (o := .cells #[.int .i64 a0_0, .int .i64 a0_1, .slice A0_2 l0_2.length c0_2, .int .i64 a0_3, .int .u32 a0_4] 41 (0, 0)) (by (with_reducible repeat (first | refine blk_drewN ?_ _ | refine blk_drew ?_ | refine blk_alloc ?_ _)); exact BK197.out) hb); have n2_ := Aside0.mk (below_step (by repeat (first | (with_reducible first | exact HB.out | apply below_alloc | apply pw_below_drewN | apply below_drew1 | refine below_set ?_ GE197.out) | exact HB.out)) hb); clear BK197; clear HB; have HO200 := n0_; have BK197 := n1_; have HB := n2_; clear n0_ n1_ n2_; (try clear hb); (try clear hb2); (try clear hk); (try clear hi); (try clear ho0); have hcz10_0 : w9.cell? ⟨gb197, 0, none⟩ = some (.int .i64 a0_0) := (blk_cell BK197.out 0).trans rfl; have hcz10_1 : w9.cell? ⟨gb197, 1, none⟩ = some (.int .i64 a0_1) := (blk_cell BK197.out 1).trans rfl; have hcz10_2 : w9.cell? ⟨gb197, 2, none⟩ = some (.slice A0_2 l0_2.length c0_2) := (blk_cell BK197.out 2).trans rfl; have hcz10_3 : w9.cell? ⟨gb197, 3, none⟩ = some (.int .i64 a0_3) := (blk_cell BK197.out 3).trans rfl; have hcz10_4 : w9.cell? ⟨gb197, 4, none⟩ = some (.int .u32 a0_4) := (blk_cell BK197.out 4).trans rfl; have hfz10_0 := blk_frozen BK197.out 0; have hfz10_1 := blk_frozen BK197.out 1; have hfz10_2 := blk_frozen BK197.out 2; have hfz10_3 := blk_frozen BK197.out 3; have hfz10_4 := blk_frozen BK197.out 4) | ((with_reducible refine gate_callee (f := 35) rfl ?_); refine goesL_ (some 19) rfl rfl Try.func35 (by kernel_rfl) rfl #[.agg #[.int .i64 a0_0, .int .i64 a0_1, .slice A0_2 l0_2.length c0_2, .int .i64 a0_3, .int .u32 a0_4], .int .i64 a1] rfl (by (try simp only [List.map_toArray, List.map_cons, List.map_nil]); first | done | rfl | (simp only [List.length_drop, List.length_take]; rfl)) ?_; (with_reducible refine (coppicerlaw_tallyCode.calls k a0_0 a0_1 _ _ l0_2 a0_3 a0_4 a1 t202 _ ?side1 ?side2 A5.out).mono ?_); (case side1 => repeat (first | exact (Kd.C_below HR0_2.out HB.out) | (with_reducible refine Kd.C_alloc ?_ _) | (with_reducible refine Kd.C_drewN ?_ _) | (with_reducible refine Kd.C_drew ?_))); (case side2 => exact HC0_2.out); rintro e w11 ⟨rfl, hb⟩; refine ⟨_, rfl, ?_⟩; have n0_ := Aside0.mk (Kd.R_below (by (with_reducible repeat (first | apply Kd.R_alloc | apply Kd.R_drewN | apply Kd.R_drew)); exact HO200.out) hb); have n1_ := Aside0.mk (blk_below (g := gb197) (o := .cells #[.int .i64 a0_0, .int .i64 a0_1, .slice A0_2 l0_2.length c0_2, .int .i64 a0_3, .int .u32 a0_4] 41 (0, 0)) (by (with_reducible repeat (first | refine blk_drewN ?_ _ | refine blk_drew ?_ | refine blk_alloc ?_ _)); exact BK197.out) hb); have n2_ := Aside0.mk (below_step (by repeat (first | (with_reducible first | exact HB.out | apply below_alloc | apply pw_below_drewN | apply below_drew1 | refine below_set ?_ GE197.out) | exact HB.out)) hb); clear HO200; clear BK197; clear HB; have HO200 := n0_; have BK197 := n1_; have HB := n2_; clear n0_ n1_ n2_; (try clear hb); (try clear hb2); (try clear hk); (try clear hi)))
  (try simp only [Act.put, List.setIfInBounds_toArray, List.set_cons_zero, List.set_cons_succ])
  go_cut [34] (fun v34 wc => ∃ (kq : Nat) (x34_5 : Bool), v34 = .bool x34_5 ∧ Aside0 (coppicerlaw_TallyWords.j0 kq a1 a2 t198 t201 t202 x34_5 a0_0 a0_1 l0_2 a0_3 a0_4 = some r) ∧ Aside0 (kq ≤ k) ∧ Aside0 (Kd.R (Kd.int .i64) 3 wc w.heap.size (fun _ => True) v199 t198) ∧ Aside0 (wc.heap[gb197]? = some (.cells #[.int .i64 a0_0, .int .i64 a0_1, (.slice A0_2 l0_2.length c0_2), .int .i64 a0_3, .int .u32 a0_4] 41 (0, 0))) ∧ Aside0 (Below w.heap.size w wc))
  case first =>
    have H := HC6.out
    clear HC6
    by_cases c12 : t202 = 0
    · rw [if_pos c12] at H
      have c12b0 : (t202 == 0) = true := beq_iff_eq.mpr c12
      have c12b1 : (t202 != 0) = false := bne_eq_false_iff_eq.mpr c12
      clear c12
      (first | rw [c12b0] | (simp only [i64_w, i32_w]; rw [c12b0]) | skip)
      by_cases c13 : a2 < 0
      · rw [if_pos c13] at H
        have c13b0 : decide (a2 < 0) = true := decide_eq_true c13
        clear c13
        have H' := Aside0.mk H
        clear H
        go_wp2
        go_meet
        case rel => exact ⟨_, (true), (by first | rfl | (simp; done) | (simp [*]; done)), H', ⟨by first | omega | exact Nat.le_refl _⟩, ⟨by (with_reducible repeat (first | apply Kd.R_alloc | apply Kd.R_drewN | apply Kd.R_drew)); exact HO200.out⟩, ⟨by (with_reducible repeat (first | refine blk_drewN ?_ _ | refine blk_drew ?_ | refine blk_alloc ?_ _)); exact BK197.out⟩, ⟨by repeat (first | (with_reducible first | exact HB.out | apply below_alloc | apply pw_below_drewN | apply below_drew1 | refine below_set ?_ GE197.out) | exact HB.out)⟩⟩
      · rw [if_neg c13] at H
        have c13b0 : decide (a2 < 0) = false := decide_eq_false c13
        clear c13
        replace H := Option.bind_eq_some_iff.mp H
        obtain ⟨t203, A140, H⟩ := H
        replace H : (coppicerlaw_TallyWords.j0 k a1 a2 t198 t201 t202 (decide (a2 ≥ t203)) a0_0 a0_1 l0_2 a0_3 a0_4) = some r := H
        have A14 := Aside0.mk A140
        clear A140
        have H' := Aside0.mk H
        clear H
        have hcz15_0 : w11.cell? ⟨gb197, 0, none⟩ = some (.int .i64 a0_0) := (blk_cell BK197.out 0).trans rfl
        have hcz15_1 : w11.cell? ⟨gb197, 1, none⟩ = some (.int .i64 a0_1) := (blk_cell BK197.out 1).trans rfl
        have hcz15_2 : w11.cell? ⟨gb197, 2, none⟩ = some (.slice A0_2 l0_2.length c0_2) := (blk_cell BK197.out 2).trans rfl
        have hcz15_3 : w11.cell? ⟨gb197, 3, none⟩ = some (.int .i64 a0_3) := (blk_cell BK197.out 3).trans rfl
        have hcz15_4 : w11.cell? ⟨gb197, 4, none⟩ = some (.int .u32 a0_4) := (blk_cell BK197.out 4).trans rfl
        have hfz15_0 := blk_frozen BK197.out 0
        have hfz15_1 := blk_frozen BK197.out 1
        have hfz15_2 := blk_frozen BK197.out 2
        have hfz15_3 := blk_frozen BK197.out 3
        have hfz15_4 := blk_frozen BK197.out 4
        go_wp2_with (first | (go_at_call 36; (with_reducible refine (coppicerref_Many.calls k a0_0 a0_1 _ _ l0_2 a0_3 a0_4 a0_3 a1 t203 _ ?side1 ?side2 A14.out).mono ?_); (case side1 => repeat (first | exact (Kd.C_below HR0_2.out HB.out) | (with_reducible refine Kd.C_alloc ?_ _) | (with_reducible refine Kd.C_drewN ?_ _) | (with_reducible refine Kd.C_drew ?_))); (case side2 => exact HC0_2.out); rintro e w16 ⟨rfl, hb⟩; have n0_ := Aside0.mk (Kd.R_below (by (with_reducible repeat (first | apply Kd.R_alloc | apply Kd.R_drewN | apply Kd.R_drew)); exact HO200.out) hb); have n1_ := Aside0.mk (blk_below (g := gb197) (o := .cells #[.int .i64 a0_0, .int .i64 a0_1, .slice A0_2 l0_2.length c0_2, .int .i64 a0_3, .int .u32 a0_4] 41 (0, 0)) (by (with_reducible repeat (first | refine blk_drewN ?_ _ | refine blk_drew ?_ | refine blk_alloc ?_ _)); exact BK197.out) hb); have n2_ := Aside0.mk (below_step (by repeat (first | (with_reducible first | exact HB.out | apply below_alloc | apply pw_below_drewN | apply below_drew1 | refine below_set ?_ GE197.out) | exact HB.out)) hb); clear HO200; clear BK197; clear HB; have HO200 := n0_; have BK197 := n1_; have HB := n2_; clear n0_ n1_ n2_; (try clear hb); (try clear hb2); (try clear hk); (try clear hi)))
        go_meet
        case rel => exact ⟨_, (decide (a2 ≥ t203)), (by first | rfl | (simp; done) | (simp [*]; done)), H', ⟨by first | omega | exact Nat.le_refl _⟩, ⟨by (with_reducible repeat (first | apply Kd.R_alloc | apply Kd.R_drewN | apply Kd.R_drew)); exact HO200.out⟩, ⟨by (with_reducible repeat (first | refine blk_drewN ?_ _ | refine blk_drew ?_ | refine blk_alloc ?_ _)); exact BK197.out⟩, ⟨by repeat (first | (with_reducible first | exact HB.out | apply below_alloc | apply pw_below_drewN | apply below_drew1 | refine below_set ?_ GE197.out) | exact HB.out)⟩⟩
    · rw [if_neg c12] at H
      have c12b0 : (t202 == 0) = false := beq_eq_false_iff_ne.mpr c12
      have c12b1 : (t202 != 0) = true := bne_iff_ne.mpr c12
      (first | rw [c12b0] | (simp only [i64_w, i32_w]; rw [c12b0]) | skip)
      have H' := Aside0.mk H
      clear H
      go_wp2
      go_meet
      case rel => exact ⟨_, (false), (by first | rfl | (simp; done) | (simp [*]; done)), H', ⟨by first | omega | exact Nat.le_refl _⟩, ⟨by (with_reducible repeat (first | apply Kd.R_alloc | apply Kd.R_drewN | apply Kd.R_drew)); exact HO200.out⟩, ⟨by (with_reducible repeat (first | refine blk_drewN ?_ _ | refine blk_drew ?_ | refine blk_alloc ?_ _)); exact BK197.out⟩, ⟨by repeat (first | (with_reducible first | exact HB.out | apply below_alloc | apply pw_below_drewN | apply below_drew1 | refine below_set ?_ GE197.out) | exact HB.out)⟩⟩
  case rest =>
    clear HC6
    try clear c1
    try clear p2
    try clear c3
    try clear c11
    try clear c12
    try clear c12b0
    try clear c12b1
    try clear c13
    try clear c13b0
    try clear hcz10_0
    try clear hcz10_1
    try clear hcz10_2
    try clear hcz10_3
    try clear hcz10_4
    try clear hcz15_0
    try clear hcz15_1
    try clear hcz15_2
    try clear hcz15_3
    try clear hcz15_4
    try clear hcz8_0
    try clear hcz8_1
    try clear hcz8_2
    try clear hcz8_3
    try clear hcz8_4
    try clear hfz10_0
    try clear hfz10_1
    try clear hfz10_2
    try clear hfz10_3
    try clear hfz10_4
    try clear hfz15_0
    try clear hfz15_1
    try clear hfz15_2
    try clear hfz15_3
    try clear hfz15_4
    try clear hfz8_0
    try clear hfz8_1
    try clear hfz8_2
    try clear hfz8_3
    try clear hfz8_4
    obtain ⟨kq, x34_5, rfl, HA, HJ5, HO_7, BK197, HB⟩ := hcut
    cases kq with
    | zero => exact absurd HA.out (by simp [coppicerlaw_TallyWords.j0])
    | succ kj5 =>
      have H := HA.out
      clear HA
      simp only [coppicerlaw_TallyWords.j0] at H
      have HC17 := Aside0.mk H
      clear H
      go_upto_if 34 with (fail)
      go_cut [9] (fun v9 wc => ∃ (kq : Nat) (x9_16 : Int), v9 = .int .i64 x9_16 ∧ Aside0 (coppicerlaw_TallyWords.j1 kq a1 a2 t198 t201 x9_16 a0_0 a0_1 l0_2 a0_3 a0_4 = some r) ∧ Aside0 (kq ≤ kj5) ∧ Aside0 (Kd.R (Kd.int .i64) 3 wc w.heap.size (fun _ => True) v199 t198) ∧ Aside0 (wc.heap[gb197]? = some (.cells #[.int .i64 a0_0, .int .i64 a0_1, (.slice A0_2 l0_2.length c0_2), .int .i64 a0_3, .int .u32 a0_4] 41 (0, 0))) ∧ Aside0 (Below w.heap.size w wc))
      case first =>
        have H := HC17.out
        clear HC17
        by_cases c18 : x34_5 = true
        · subst c18
          have H1 : (coppicerlaw_TallyWords.j1 kj5 a1 a2 t198 t201 5 a0_0 a0_1 l0_2 a0_3 a0_4) = some r := by rw [if_pos rfl] at H; exact H
          clear H
          have H := H1
          clear H1
          have H' := Aside0.mk H
          clear H
          go_wp2
          go_meet
          case rel => exact ⟨_, (5), (by first | rfl | (simp; done) | (simp [*]; done)), H', ⟨by have := HJ5.out; first | omega | exact Nat.le_refl _⟩, ⟨by (with_reducible repeat (first | apply Kd.R_alloc | apply Kd.R_drewN | apply Kd.R_drew)); exact HO_7.out⟩, ⟨by (with_reducible repeat (first | refine blk_drewN ?_ _ | refine blk_drew ?_ | refine blk_alloc ?_ _)); exact BK197.out⟩, ⟨by repeat (first | (with_reducible first | exact HB.out | apply below_alloc | apply pw_below_drewN | apply below_drew1 | refine below_set ?_ GE197.out) | exact HB.out)⟩⟩
        · replace c18 := Bool.eq_false_iff.mpr c18
          subst c18
          have H1 : (coppicerlaw_TallyWords.j1 kj5 a1 a2 t198 t201 t202 a0_0 a0_1 l0_2 a0_3 a0_4) = some r := by rw [if_neg (show ¬ (false = true) by decide)] at H; exact H
          clear H
          have H := H1
          clear H1
          have H' := Aside0.mk H
          clear H
          go_wp2
          go_meet
          case rel => exact ⟨_, (t202), (by first | rfl | (simp; done) | (simp [*]; done)), H', ⟨by have := HJ5.out; first | omega | exact Nat.le_refl _⟩, ⟨by (with_reducible repeat (first | apply Kd.R_alloc | apply Kd.R_drewN | apply Kd.R_drew)); exact HO_7.out⟩, ⟨by (with_reducible repeat (first | refine blk_drewN ?_ _ | refine blk_drew ?_ | refine blk_alloc ?_ _)); exact BK197.out⟩, ⟨by repeat (first | (with_reducible first | exact HB.out | apply below_alloc | apply pw_below_drewN | apply below_drew1 | refine below_set ?_ GE197.out) | exact HB.out)⟩⟩
      case rest =>
        clear HC17
        try clear c1
        try clear p2
        try clear c3
        try clear c11
        try clear c12
        try clear c12b0
        try clear c12b1
        try clear c13
        try clear c13b0
        try clear c18
        try clear hcz10_0
        try clear hcz10_1
        try clear hcz10_2
        try clear hcz10_3
        try clear hcz10_4
        try clear hcz15_0
        try clear hcz15_1
        try clear hcz15_2
        try clear hcz15_3
        try clear hcz15_4
        try clear hcz8_0
        try clear hcz8_1
        try clear hcz8_2
        try clear hcz8_3
        try clear hcz8_4
        try clear hfz10_0
        try clear hfz10_1
        try clear hfz10_2
        try clear hfz10_3
        try clear hfz10_4
        try clear hfz15_0
        try clear hfz15_1
        try clear hfz15_2
        try clear hfz15_3
        try clear hfz15_4
        try clear hfz8_0
        try clear hfz8_1
        try clear hfz8_2
        try clear hfz8_3
        try clear hfz8_4
        try clear p2
        obtain ⟨kq, x9_16, rfl, HA, HJ16, HO_7, BK197, HB⟩ := hcut
        cases kq with
        | zero => exact absurd HA.out (by simp [coppicerlaw_TallyWords.j1])
        | succ kj16 =>
          have H := HA.out
          clear HA
          simp only [coppicerlaw_TallyWords.j1] at H
          by_cases c19 : x9_16 = 0
          · rw [if_pos c19] at H
            have c19b0 : (x9_16 == 0) = true := beq_iff_eq.mpr c19
            have c19b1 : (x9_16 != 0) = false := bne_eq_false_iff_eq.mpr c19
            clear c19
            by_cases c20 : t201 = 0
            · rw [if_pos c20] at H
              have c20b0 : (t201 == 0) = true := beq_iff_eq.mpr c20
              have c20b1 : (t201 != 0) = false := bne_eq_false_iff_eq.mpr c20
              clear c20
              by_cases c21 : (t198.length : Int) = a1
              · rw [if_pos c21] at H
                have c21b0 : ((t198.length : Int) == a1) = true := beq_iff_eq.mpr c21
                have c21b1 : ((t198.length : Int) != a1) = false := bne_eq_false_iff_eq.mpr c21
                clear c21
                replace H := Option.bind_eq_some_iff.mp H
                obtain ⟨t204, A220, H⟩ := H
                replace H : (if t204 = 0 then ((coppicerref_Takes.f kj16 a0_0 a0_1 l0_2 a0_3 a0_4 t198).bind fun t205 => (if t205 = true then ((coppicerref_Place.f kj16 a0_0 a0_1 l0_2 a0_3 a0_4 t198).bind fun t206 => (some (t206 == a2))) else (some false))) else (some false)) = some r := H
                have A22 := Aside0.mk A220
                clear A220
                by_cases c23 : t204 = 0
                · rw [if_pos c23] at H
                  have c23b0 : (t204 == 0) = true := beq_iff_eq.mpr c23
                  have c23b1 : (t204 != 0) = false := bne_eq_false_iff_eq.mpr c23
                  clear c23
                  replace H := Option.bind_eq_some_iff.mp H
                  obtain ⟨t205, A240, H⟩ := H
                  replace H : (if t205 = true then ((coppicerref_Place.f kj16 a0_0 a0_1 l0_2 a0_3 a0_4 t198).bind fun t206 => (some (t206 == a2))) else (some false)) = some r := H
                  have A24 := Aside0.mk A240
                  clear A240
                  by_cases c25 : t205 = true
                  · subst c25
                    have H1 : ((coppicerref_Place.f kj16 a0_0 a0_1 l0_2 a0_3 a0_4 t198).bind fun t206 => (some (t206 == a2))) = some r := by rw [if_pos rfl] at H; exact H
                    clear H
                    have H := H1
                    clear H1
                    replace H := Option.bind_eq_some_iff.mp H
                    obtain ⟨t206, A260, H⟩ := H
                    replace H : (some (t206 == a2)) = some r := H
                    have A26 := Aside0.mk A260
                    clear A260
                    obtain rfl := Option.some.inj H
                    obtain ⟨Ao27, co27, eo27⟩ := Kd.R_slice HO_7.out
                    subst eo27
                    have hcz28_0 : wc.cell? ⟨gb197, 0, none⟩ = some (.int .i64 a0_0) := (blk_cell BK197.out 0).trans rfl
                    have hcz28_1 : wc.cell? ⟨gb197, 1, none⟩ = some (.int .i64 a0_1) := (blk_cell BK197.out 1).trans rfl
                    have hcz28_2 : wc.cell? ⟨gb197, 2, none⟩ = some (.slice A0_2 l0_2.length c0_2) := (blk_cell BK197.out 2).trans rfl
                    have hcz28_3 : wc.cell? ⟨gb197, 3, none⟩ = some (.int .i64 a0_3) := (blk_cell BK197.out 3).trans rfl
                    have hcz28_4 : wc.cell? ⟨gb197, 4, none⟩ = some (.int .u32 a0_4) := (blk_cell BK197.out 4).trans rfl
                    have hfz28_0 := blk_frozen BK197.out 0
                    have hfz28_1 := blk_frozen BK197.out 1
                    have hfz28_2 := blk_frozen BK197.out 2
                    have hfz28_3 := blk_frozen BK197.out 3
                    have hfz28_4 := blk_frozen BK197.out 4
                    go_wp2_with (first | (go_at_call 18; (with_reducible refine (coppicerref_WordCheck.calls kj16 a0_1 _ _ t198 t204 _ ?side1 ?side2 A22.out).mono ?_); (case side1 => repeat (first | exact (Kd.R_reads' HO_7.out).2.2 | (with_reducible refine Kd.C_alloc ?_ _) | (with_reducible refine Kd.C_drewN ?_ _) | (with_reducible refine Kd.C_drew ?_))); (case side2 => exact (Kd.R_reads' HO_7.out).2.1); rintro e w' ⟨rfl, ⟨nd, rfl⟩⟩) | (go_at_call 29; (with_reducible refine (coppicerref_Takes.calls kj16 a0_0 a0_1 _ _ l0_2 a0_3 a0_4 _ _ t198 true _ ?side1 ?side2 ?side3 ?side4 A24.out).mono ?_); (case side1 => repeat (first | exact (Kd.C_below HR0_2.out (by repeat (first | (with_reducible first | exact HB.out | apply below_alloc | apply pw_below_drewN | apply below_drew1 | refine below_set ?_ GE197.out) | exact HB.out))) | (with_reducible refine Kd.C_alloc ?_ _) | (with_reducible refine Kd.C_drewN ?_ _) | (with_reducible refine Kd.C_drew ?_))); (case side2 => exact HC0_2.out); (case side3 => repeat (first | exact (Kd.R_reads' HO_7.out).2.2 | (with_reducible refine Kd.C_alloc ?_ _) | (with_reducible refine Kd.C_drewN ?_ _) | (with_reducible refine Kd.C_drew ?_))); (case side4 => exact (Kd.R_reads' HO_7.out).2.1); rintro e w29 ⟨rfl, hb⟩; have n0_ := Aside0.mk (Kd.R_below (by (with_reducible repeat (first | apply Kd.R_alloc | apply Kd.R_drewN | apply Kd.R_drew)); exact HO_7.out) hb); have n1_ := Aside0.mk (blk_below (g := gb197) (o := .cells #[.int .i64 a0_0, .int .i64 a0_1, .slice A0_2 l0_2.length c0_2, .int .i64 a0_3, .int .u32 a0_4] 41 (0, 0)) (by (with_reducible repeat (first | refine blk_drewN ?_ _ | refine blk_drew ?_ | refine blk_alloc ?_ _)); exact BK197.out) hb); have n2_ := Aside0.mk (below_step (by repeat (first | (with_reducible first | exact HB.out | apply below_alloc | apply pw_below_drewN | apply below_drew1 | refine below_set ?_ GE197.out) | exact HB.out)) hb); clear HO_7; clear BK197; clear HB; have HO_7 := n0_; have BK197 := n1_; have HB := n2_; clear n0_ n1_ n2_; (try clear hb); (try clear hb2); (try clear hk); (try clear hi); have hcz30_0 : w29.cell? ⟨gb197, 0, none⟩ = some (.int .i64 a0_0) := (blk_cell BK197.out 0).trans rfl; have hcz30_1 : w29.cell? ⟨gb197, 1, none⟩ = some (.int .i64 a0_1) := (blk_cell BK197.out 1).trans rfl; have hcz30_2 : w29.cell? ⟨gb197, 2, none⟩ = some (.slice A0_2 l0_2.length c0_2) := (blk_cell BK197.out 2).trans rfl; have hcz30_3 : w29.cell? ⟨gb197, 3, none⟩ = some (.int .i64 a0_3) := (blk_cell BK197.out 3).trans rfl; have hcz30_4 : w29.cell? ⟨gb197, 4, none⟩ = some (.int .u32 a0_4) := (blk_cell BK197.out 4).trans rfl; have hfz30_0 := blk_frozen BK197.out 0; have hfz30_1 := blk_frozen BK197.out 1; have hfz30_2 := blk_frozen BK197.out 2; have hfz30_3 := blk_frozen BK197.out 3; have hfz30_4 := blk_frozen BK197.out 4) | (go_at_call 38; (with_reducible refine (coppicerref_Place.calls kj16 a0_0 a0_1 _ _ l0_2 a0_3 a0_4 _ _ t198 t206 _ ?side1 ?side2 ?side3 ?side4 A26.out).mono ?_); (case side1 => repeat (first | exact (Kd.C_below HR0_2.out HB.out) | (with_reducible refine Kd.C_alloc ?_ _) | (with_reducible refine Kd.C_drewN ?_ _) | (with_reducible refine Kd.C_drew ?_))); (case side2 => exact HC0_2.out); (case side3 => repeat (first | exact (Kd.R_reads' HO_7.out).2.2 | (with_reducible refine Kd.C_alloc ?_ _) | (with_reducible refine Kd.C_drewN ?_ _) | (with_reducible refine Kd.C_drew ?_))); (case side4 => exact (Kd.R_reads' HO_7.out).2.1); rintro e w31 ⟨rfl, hb⟩; have n0_ := Aside0.mk (Kd.R_below (by (with_reducible repeat (first | apply Kd.R_alloc | apply Kd.R_drewN | apply Kd.R_drew)); exact HO_7.out) hb); have n1_ := Aside0.mk (blk_below (g := gb197) (o := .cells #[.int .i64 a0_0, .int .i64 a0_1, .slice A0_2 l0_2.length c0_2, .int .i64 a0_3, .int .u32 a0_4] 41 (0, 0)) (by (with_reducible repeat (first | refine blk_drewN ?_ _ | refine blk_drew ?_ | refine blk_alloc ?_ _)); exact BK197.out) hb); have n2_ := Aside0.mk (below_step (by repeat (first | (with_reducible first | exact HB.out | apply below_alloc | apply pw_below_drewN | apply below_drew1 | refine below_set ?_ GE197.out) | exact HB.out)) hb); clear HO_7; clear BK197; clear HB; have HO_7 := n0_; have BK197 := n1_; have HB := n2_; clear n0_ n1_ n2_; (try clear hb); (try clear hb2); (try clear hk); (try clear hi)))
                    go_ret
                    exact ⟨by first | rfl | (simp [errW_none, errW_some] <;> rfl) | (simp [*, errW_none, errW_some] <;> rfl), by repeat (first | (with_reducible first | exact HB.out | apply below_alloc | apply pw_below_drewN | apply below_drew1 | refine below_set ?_ GE197.out) | exact HB.out)⟩
                  · replace c25 := Bool.eq_false_iff.mpr c25
                    subst c25
                    have H1 : (some false) = some r := by rw [if_neg (show ¬ (false = true) by decide)] at H; exact H
                    clear H
                    have H := H1
                    clear H1
                    obtain rfl := Option.some.inj H
                    obtain ⟨Ao32, co32, eo32⟩ := Kd.R_slice HO_7.out
                    subst eo32
                    have hcz33_0 : wc.cell? ⟨gb197, 0, none⟩ = some (.int .i64 a0_0) := (blk_cell BK197.out 0).trans rfl
                    have hcz33_1 : wc.cell? ⟨gb197, 1, none⟩ = some (.int .i64 a0_1) := (blk_cell BK197.out 1).trans rfl
                    have hcz33_2 : wc.cell? ⟨gb197, 2, none⟩ = some (.slice A0_2 l0_2.length c0_2) := (blk_cell BK197.out 2).trans rfl
                    have hcz33_3 : wc.cell? ⟨gb197, 3, none⟩ = some (.int .i64 a0_3) := (blk_cell BK197.out 3).trans rfl
                    have hcz33_4 : wc.cell? ⟨gb197, 4, none⟩ = some (.int .u32 a0_4) := (blk_cell BK197.out 4).trans rfl
                    have hfz33_0 := blk_frozen BK197.out 0
                    have hfz33_1 := blk_frozen BK197.out 1
                    have hfz33_2 := blk_frozen BK197.out 2
                    have hfz33_3 := blk_frozen BK197.out 3
                    have hfz33_4 := blk_frozen BK197.out 4
                    go_wp2_with (first | (go_at_call 18; (with_reducible refine (coppicerref_WordCheck.calls kj16 a0_1 _ _ t198 t204 _ ?side1 ?side2 A22.out).mono ?_); (case side1 => repeat (first | exact (Kd.R_reads' HO_7.out).2.2 | (with_reducible refine Kd.C_alloc ?_ _) | (with_reducible refine Kd.C_drewN ?_ _) | (with_reducible refine Kd.C_drew ?_))); (case side2 => exact (Kd.R_reads' HO_7.out).2.1); rintro e w' ⟨rfl, ⟨nd, rfl⟩⟩) | (go_at_call 29; (with_reducible refine (coppicerref_Takes.calls kj16 a0_0 a0_1 _ _ l0_2 a0_3 a0_4 _ _ t198 false _ ?side1 ?side2 ?side3 ?side4 A24.out).mono ?_); (case side1 => repeat (first | exact (Kd.C_below HR0_2.out (by repeat (first | (with_reducible first | exact HB.out | apply below_alloc | apply pw_below_drewN | apply below_drew1 | refine below_set ?_ GE197.out) | exact HB.out))) | (with_reducible refine Kd.C_alloc ?_ _) | (with_reducible refine Kd.C_drewN ?_ _) | (with_reducible refine Kd.C_drew ?_))); (case side2 => exact HC0_2.out); (case side3 => repeat (first | exact (Kd.R_reads' HO_7.out).2.2 | (with_reducible refine Kd.C_alloc ?_ _) | (with_reducible refine Kd.C_drewN ?_ _) | (with_reducible refine Kd.C_drew ?_))); (case side4 => exact (Kd.R_reads' HO_7.out).2.1); rintro e w34 ⟨rfl, hb⟩; have n0_ := Aside0.mk (Kd.R_below (by (with_reducible repeat (first | apply Kd.R_alloc | apply Kd.R_drewN | apply Kd.R_drew)); exact HO_7.out) hb); have n1_ := Aside0.mk (blk_below (g := gb197) (o := .cells #[.int .i64 a0_0, .int .i64 a0_1, .slice A0_2 l0_2.length c0_2, .int .i64 a0_3, .int .u32 a0_4] 41 (0, 0)) (by (with_reducible repeat (first | refine blk_drewN ?_ _ | refine blk_drew ?_ | refine blk_alloc ?_ _)); exact BK197.out) hb); have n2_ := Aside0.mk (below_step (by repeat (first | (with_reducible first | exact HB.out | apply below_alloc | apply pw_below_drewN | apply below_drew1 | refine below_set ?_ GE197.out) | exact HB.out)) hb); clear HO_7; clear BK197; clear HB; have HO_7 := n0_; have BK197 := n1_; have HB := n2_; clear n0_ n1_ n2_; (try clear hb); (try clear hb2); (try clear hk); (try clear hi)))
                    go_ret
                    exact ⟨by first | rfl | (simp [errW_none, errW_some] <;> rfl) | (simp [*, errW_none, errW_some] <;> rfl), by repeat (first | (with_reducible first | exact HB.out | apply below_alloc | apply pw_below_drewN | apply below_drew1 | refine below_set ?_ GE197.out) | exact HB.out)⟩
                · rw [if_neg c23] at H
                  have c23b0 : (t204 == 0) = false := beq_eq_false_iff_ne.mpr c23
                  have c23b1 : (t204 != 0) = true := bne_iff_ne.mpr c23
                  obtain rfl := Option.some.inj H
                  obtain ⟨Ao35, co35, eo35⟩ := Kd.R_slice HO_7.out
                  subst eo35
                  have hcz36_0 : wc.cell? ⟨gb197, 0, none⟩ = some (.int .i64 a0_0) := (blk_cell BK197.out 0).trans rfl
                  have hcz36_1 : wc.cell? ⟨gb197, 1, none⟩ = some (.int .i64 a0_1) := (blk_cell BK197.out 1).trans rfl
                  have hcz36_2 : wc.cell? ⟨gb197, 2, none⟩ = some (.slice A0_2 l0_2.length c0_2) := (blk_cell BK197.out 2).trans rfl
                  have hcz36_3 : wc.cell? ⟨gb197, 3, none⟩ = some (.int .i64 a0_3) := (blk_cell BK197.out 3).trans rfl
                  have hcz36_4 : wc.cell? ⟨gb197, 4, none⟩ = some (.int .u32 a0_4) := (blk_cell BK197.out 4).trans rfl
                  have hfz36_0 := blk_frozen BK197.out 0
                  have hfz36_1 := blk_frozen BK197.out 1
                  have hfz36_2 := blk_frozen BK197.out 2
                  have hfz36_3 := blk_frozen BK197.out 3
                  have hfz36_4 := blk_frozen BK197.out 4
                  go_wp2_with (first | (go_at_call 18; (with_reducible refine (coppicerref_WordCheck.calls kj16 a0_1 _ _ t198 t204 _ ?side1 ?side2 A22.out).mono ?_); (case side1 => repeat (first | exact (Kd.R_reads' HO_7.out).2.2 | (with_reducible refine Kd.C_alloc ?_ _) | (with_reducible refine Kd.C_drewN ?_ _) | (with_reducible refine Kd.C_drew ?_))); (case side2 => exact (Kd.R_reads' HO_7.out).2.1); rintro e w' ⟨rfl, ⟨nd, rfl⟩⟩))
                  go_ret
                  exact ⟨by first | rfl | (simp [errW_none, errW_some] <;> rfl) | (simp [*, errW_none, errW_some] <;> rfl), by repeat (first | (with_reducible first | exact HB.out | apply below_alloc | apply pw_below_drewN | apply below_drew1 | refine below_set ?_ GE197.out) | exact HB.out)⟩
              · rw [if_neg c21] at H
                have c21b0 : ((t198.length : Int) == a1) = false := beq_eq_false_iff_ne.mpr c21
                have c21b1 : ((t198.length : Int) != a1) = true := bne_iff_ne.mpr c21
                obtain rfl := Option.some.inj H
                obtain ⟨Ao37, co37, eo37⟩ := Kd.R_slice HO_7.out
                subst eo37
                go_wp2
                go_ret
                exact ⟨by first | rfl | (simp [errW_none, errW_some] <;> rfl) | (simp [*, errW_none, errW_some] <;> rfl), by repeat (first | (with_reducible first | exact HB.out | apply below_alloc | apply pw_below_drewN | apply below_drew1 | refine below_set ?_ GE197.out) | exact HB.out)⟩
            · rw [if_neg c20] at H
              have c20b0 : (t201 == 0) = false := beq_eq_false_iff_ne.mpr c20
              have c20b1 : (t201 != 0) = true := bne_iff_ne.mpr c20
              obtain rfl := Option.some.inj H
              go_wp2
              go_ret
              exact ⟨by first | rfl | (simp [errW_none, errW_some] <;> rfl) | (simp [*, errW_none, errW_some] <;> rfl), by repeat (first | (with_reducible first | exact HB.out | apply below_alloc | apply pw_below_drewN | apply below_drew1 | refine below_set ?_ GE197.out) | exact HB.out)⟩
          · rw [if_neg c19] at H
            have c19b0 : (x9_16 == 0) = false := beq_eq_false_iff_ne.mpr c19
            have c19b1 : (x9_16 != 0) = true := bne_iff_ne.mpr c19
            by_cases c38 : t201 = x9_16
            · rw [if_pos c38] at H
              have c38b0 : (t201 == x9_16) = true := beq_iff_eq.mpr c38
              have c38b1 : (t201 != x9_16) = false := bne_eq_false_iff_eq.mpr c38
              clear c38
              obtain rfl := Option.some.inj H
              obtain ⟨Ao39, co39, eo39⟩ := Kd.R_slice HO_7.out
              subst eo39
              go_wp2
              go_ret
              exact ⟨by first | rfl | (simp [errW_none, errW_some] <;> rfl) | (simp [*, errW_none, errW_some] <;> rfl), by repeat (first | (with_reducible first | exact HB.out | apply below_alloc | apply pw_below_drewN | apply below_drew1 | refine below_set ?_ GE197.out) | exact HB.out)⟩
            · rw [if_neg c38] at H
              have c38b0 : (t201 == x9_16) = false := beq_eq_false_iff_ne.mpr c38
              have c38b1 : (t201 != x9_16) = true := bne_iff_ne.mpr c38
              obtain rfl := Option.some.inj H
              go_wp2
              go_ret
              exact ⟨by first | rfl | (simp [errW_none, errW_some] <;> rfl) | (simp [*, errW_none, errW_some] <;> rfl), by repeat (first | (with_reducible first | exact HB.out | apply below_alloc | apply pw_below_drewN | apply below_drew1 | refine below_set ?_ GE197.out) | exact HB.out)⟩

end Go.Proofs.Ytidjihmlkaeemaa.PTallyWords
