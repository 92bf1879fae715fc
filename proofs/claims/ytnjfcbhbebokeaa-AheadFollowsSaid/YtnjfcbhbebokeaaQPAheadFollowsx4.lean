-- Printed by a turn of a template of the kit, and shortened: remarks and what nothing here uses are left out.
import Derived.Test.YtnjfcbhbebokeaaQPAheadFollowsx0
import Derived.Test.YtnjfcbhbebokeaaQPAheadFollowsx3
namespace Go.Proofs.Ytnjfcbhbebokeaa.PAheadFollows
open Go.RowKit Go.Proofs.YtnjfcbhbebokeaaW.PrintWords Go.Proofs.YtnjfcbhbebokeaaW.PrintLast Go.Proofs.YtnjfcbhbebokeaaW.PrintMore
attribute [local go_sem] max2_int min2_int max_two min_two max_three min_three max_four min_four
set_option linter.unusedVariables false
set_option linter.unusedSimpArgs false
mutual
def grammar_Check.j0 : Nat → Bool → Int → Int → Int → List (S38) → Option (Int)
  | 0, _, _, _, _, _ => none
  | k + 1, x35, x113000, x113001, x113002, x113003 => if x35 = true then (some 1) else (if x113002 < 0 then (grammar_Check.j1 k true x113000 x113001 x113002 x113003) else (grammar_Check.j1 k (decide (x113002 ≥ x113001)) x113000 x113001 x113002 x113003))
def grammar_Check.j1 : Nat → Bool → Int → Int → Int → List (S38) → Option (Int)
  | 0, _, _, _, _, _ => none
  | k + 1, x45, x113000, x113001, x113002, x113003 => if x45 = true then (some 2) else (grammar_Check.l0 k x113003 (x113003.length : Int) 0 x113000 x113001 x113002 x113003)
def grammar_Check.l0 : Nat → List (S38) → Int → Int → Int → Int → Int → List (S38) → Option (Int)
  | 0, _, _, _, _, _, _, _ => none
  | k + 1, x47, x48, x49, x113000, x113001, x113002, x113003 => if x49 < x48 then (if 0 ≤ x49 then (if x49 < (x47.length : Int) then (if ((rd_T38 x47 x49).f0) < 0 then (some 2) else (if ((rd_T38 x47 x49).f0) ≥ x113001 then (some 2) else ((grammar_signs.f x113000 x113001 x113002 x113003 ((rd_T38 x47 x49).f1)).bind fun t116 => (if t116 = true then (grammar_Check.l0 k x47 x48 (wrap64 (x49 + 1)) x113000 x113001 x113002 x113003) else (some 2))))) else (none)) else (none)) else (some 0)
end
def grammar_Check.f (k : Nat) (a0_0 : Int) (a0_1 : Int) (a0_2 : Int) (l0_3 : List (S38)) : Option (Int) := if a0_0 < 1 then (grammar_Check.j0 k true a0_0 a0_1 a0_2 l0_3) else (if a0_0 > 3 then (grammar_Check.j0 k true a0_0 a0_1 a0_2 l0_3) else (if a0_1 < 1 then (grammar_Check.j0 k true a0_0 a0_1 a0_2 l0_3) else (if a0_1 > 5 then (grammar_Check.j0 k true a0_0 a0_1 a0_2 l0_3) else (if (l0_3.length : Int) > 10 then (grammar_Check.j0 k true a0_0 a0_1 a0_2 l0_3) else ((grammar_Check_1_any.f l0_3).bind fun t113 => (grammar_Check.j0 k t113 a0_0 a0_1 a0_2 l0_3))))))
theorem grammar_Check.mono_l : ∀ k, (∀ y0 y1 y2 y3 y4, LeO (grammar_Check.j0 k y0 y1 y2 y3 y4) (grammar_Check.j0 (k + 1) y0 y1 y2 y3 y4)) ∧ (∀ y0 y1 y2 y3 y4, LeO (grammar_Check.j1 k y0 y1 y2 y3 y4) (grammar_Check.j1 (k + 1) y0 y1 y2 y3 y4)) ∧ (∀ y0 y1 y2 y3 y4 y5 y6, LeO (grammar_Check.l0 k y0 y1 y2 y3 y4 y5 y6) (grammar_Check.l0 (k + 1) y0 y1 y2 y3 y4 y5 y6))
  | 0 => ⟨fun _ _ _ _ _ r h => by simp [grammar_Check.j0] at h, fun _ _ _ _ _ r h => by simp [grammar_Check.j1] at h, fun _ _ _ _ _ _ _ r h => by simp [grammar_Check.l0] at h⟩
  | k + 1 => by
    obtain ⟨ih0, ih1, ih2⟩ := grammar_Check.mono_l k
    refine ⟨?_, ?_, ?_⟩
    · intro y0 y1 y2 y3 y4
      unfold grammar_Check.j0
      repeat' first
      | (with_reducible exact ih0 _ _ _ _ _)
      | (with_reducible exact ih1 _ _ _ _ _)
      | (with_reducible exact ih2 _ _ _ _ _ _ _)
      | (with_reducible exact LeO.refl _)
      | (with_reducible exact LeO.none _)
      | (with_reducible refine LeO.ite ?_ ?_)
      | (with_reducible refine LeO.bind ?_ (fun _ => ?_))
      | exact ih0 _ _ _ _ _
      | exact ih1 _ _ _ _ _
      | exact ih2 _ _ _ _ _ _ _
      | exact LeO.none _
      | refine LeO.ite ?_ ?_
      | refine LeO.bind ?_ (fun _ => ?_)
    · intro y0 y1 y2 y3 y4
      unfold grammar_Check.j1
      repeat' first
      | (with_reducible exact ih0 _ _ _ _ _)
      | (with_reducible exact ih1 _ _ _ _ _)
      | (with_reducible exact ih2 _ _ _ _ _ _ _)
      | (with_reducible exact LeO.refl _)
      | (with_reducible exact LeO.none _)
      | (with_reducible refine LeO.ite ?_ ?_)
      | (with_reducible refine LeO.bind ?_ (fun _ => ?_))
      | exact ih0 _ _ _ _ _
      | exact ih1 _ _ _ _ _
      | exact ih2 _ _ _ _ _ _ _
      | exact LeO.none _
      | refine LeO.ite ?_ ?_
      | refine LeO.bind ?_ (fun _ => ?_)
    · intro y0 y1 y2 y3 y4 y5 y6
      unfold grammar_Check.l0
      repeat' first
      | (with_reducible exact ih0 _ _ _ _ _)
      | (with_reducible exact ih1 _ _ _ _ _)
      | (with_reducible exact ih2 _ _ _ _ _ _ _)
      | (with_reducible exact LeO.refl _)
      | (with_reducible exact LeO.none _)
      | (with_reducible refine LeO.ite ?_ ?_)
      | (with_reducible refine LeO.bind ?_ (fun _ => ?_))
      | exact ih0 _ _ _ _ _
      | exact ih1 _ _ _ _ _
      | exact ih2 _ _ _ _ _ _ _
      | exact LeO.none _
      | refine LeO.ite ?_ ?_
      | refine LeO.bind ?_ (fun _ => ?_)
theorem grammar_Check.mono : ∀ a0 a1 a2 a3 k, LeO (grammar_Check.f k a0 a1 a2 a3) (grammar_Check.f (k + 1) a0 a1 a2 a3) := by
  intro a0 a1 a2 a3 k
  obtain ⟨ih0, ih1, ih2⟩ := grammar_Check.mono_l k
  unfold grammar_Check.f
  repeat' first
      | (with_reducible exact ih0 _ _ _ _ _)
      | (with_reducible exact ih1 _ _ _ _ _)
      | (with_reducible exact ih2 _ _ _ _ _ _ _)
      | (with_reducible exact LeO.refl _)
      | (with_reducible exact LeO.none _)
      | (with_reducible refine LeO.ite ?_ ?_)
      | (with_reducible refine LeO.bind ?_ (fun _ => ?_))
      | exact ih0 _ _ _ _ _
      | exact ih1 _ _ _ _ _
      | exact ih2 _ _ _ _ _ _ _
      | exact LeO.none _
      | refine LeO.ite ?_ ?_
      | refine LeO.bind ?_ (fun _ => ?_)
set_option maxHeartbeats 8000000 in
set_option maxRecDepth 100000 in
theorem grammar_Check.calls (k : Nat) (a0_0 : Int) (a0_1 : Int) (a0_2 : Int) (A0_3 : Option Addr) (c0_3 : Nat) (l0_3 : List (S38)) (r : Int) (w : World) (hr0_3 : Kd.C k38 w A0_3 l0_3.length l0_3) (hc0_3 : l0_3.length ≤ c0_3) (h : grammar_Check.f k a0_0 a0_1 a0_2 l0_3 = some r) :
    Calls Try.prog 15 #[.agg #[.int .i64 a0_0, .int .i64 a0_1, .int .i64 a0_2, .slice A0_3 l0_3.length c0_3]] w fun e w' => e = .returned (.int .i64 r) ∧ Below w.heap.size w w' := by
  (have hu24 := Try.underlying24); (have hu38 := Try.underlying38); (have HR0_3 := Aside0.mk hr0_3); (have HC0_3 := Aside0.mk hc0_3); (clear hr0_3 hc0_3); (have HB := Aside0.mk (Below.refl w.heap.size w)); (have H : (if a0_0 < 1 then (grammar_Check.j0 k true a0_0 a0_1 a0_2 l0_3) else (if a0_0 > 3 then (grammar_Check.j0 k true a0_0 a0_1 a0_2 l0_3) else (if a0_1 < 1 then (grammar_Check.j0 k true a0_0 a0_1 a0_2 l0_3) else (if a0_1 > 5 then (grammar_Check.j0 k true a0_0 a0_1 a0_2 l0_3) else (if (l0_3.length : Int) > 10 then (grammar_Check.j0 k true a0_0 a0_1 a0_2 l0_3) else ((grammar_Check_1_any.f l0_3).bind fun t113 => (grammar_Check.j0 k t113 a0_0 a0_1 a0_2 l0_3))))))) = some r := h); (clear h); (have HC2 := Aside0.mk H); (clear H)
  go_enter Try.func15, Try.ntmps15
  go_upto_region 2 with (first | ((with_reducible refine gate_dst (N := 1) rfl ?_); (try (refine gate_guard (by rfl) ?_; dsimp only)); refine box_event ?hg (N := 1) ?hd (cs := #[.int .i64 a0_0, .int .i64 a0_1, .int .i64 a0_2, .slice A0_3 l0_3.length c0_3]) (t := 24) ?hr ?_; (case hd => rfl); (case hg => rfl); (case hr => first | (go_simp; done) | (go_simp; rfl)); intro gb112 hg w3 hbox hb; have n0_ := Aside0.mk (below_step (by repeat (first | (with_reducible first | exact HB.out | apply below_alloc | apply pw_below_drewN | apply below_drew1) | exact HB.out)) hb); have n1_ := Aside0.mk (hbox); have n2_ := Aside0.mk ((by rw [hg]; exact (below_size (by repeat (first | (with_reducible first | exact HB.out | apply below_alloc | apply pw_below_drewN | apply below_drew1) | exact HB.out))) : w.heap.size ≤ gb112)); have n3_ := Aside0.mk ((by rw [hg]; exact (below_size (by repeat (first | (with_reducible first | exact HB.out | apply below_alloc | apply pw_below_drewN | apply below_drew1) | exact HB.out))) : w.heap.size ≤ gb112)); clear HB; have HB := n0_; have BK112 := n1_; have GW112 := n2_; have GE112 := n3_; clear n0_ n1_ n2_ n3_; clear hb hbox hg))
  (try simp only [Act.put, List.setIfInBounds_toArray, List.set_cons_zero, List.set_cons_succ])
  go_cut [35] (fun v35 wc => ∃ (kq : Nat) (x35_1 : Bool), v35 = .bool x35_1 ∧ Aside0 (grammar_Check.j0 kq x35_1 a0_0 a0_1 a0_2 l0_3 = some r) ∧ Aside0 (kq ≤ k) ∧ Aside0 (wc.heap[gb112]? = some (.cells #[.int .i64 a0_0, .int .i64 a0_1, .int .i64 a0_2, (.slice A0_3 l0_3.length c0_3)] 24 (0, 0))) ∧ Aside0 (Below w.heap.size w wc))
  case first =>
    (have H := HC2.out); (clear HC2)
    by_cases c4 : a0_0 < 1
    · rw [if_pos c4] at H
      (have c4b0 : decide (a0_0 < 1) = true := decide_eq_true c4); (clear c4)
      (first | rw [c4b0] | (simp only [i64_w, i32_w]; rw [c4b0]) | skip)
      (have H' := Aside0.mk H); (clear H); (have hcz5_0 : w3.cell? ⟨gb112, 0, none⟩ = some (.int .i64 a0_0) := (blk_cell BK112.out 0).trans rfl); (have hcz5_1 : w3.cell? ⟨gb112, 1, none⟩ = some (.int .i64 a0_1) := (blk_cell BK112.out 1).trans rfl); (have hcz5_2 : w3.cell? ⟨gb112, 2, none⟩ = some (.int .i64 a0_2) := (blk_cell BK112.out 2).trans rfl); (have hcz5_3 : w3.cell? ⟨gb112, 3, none⟩ = some (.slice A0_3 l0_3.length c0_3) := (blk_cell BK112.out 3).trans rfl); (have hfz5_0 := blk_frozen BK112.out 0); (have hfz5_1 := blk_frozen BK112.out 1); (have hfz5_2 := blk_frozen BK112.out 2); (have hfz5_3 := blk_frozen BK112.out 3)
      go_wp2
      go_meet
      case rel => exact ⟨_, (true), (by first | rfl | (simp; done) | (simp [*]; done)), H', ⟨by first | omega | exact Nat.le_refl _⟩, ⟨by (with_reducible repeat (first | refine blk_drewN ?_ _ | refine blk_drew ?_ | refine blk_alloc ?_ _)); exact BK112.out⟩, ⟨by repeat (first | (with_reducible first | exact HB.out | apply below_alloc | apply pw_below_drewN | apply below_drew1 | refine below_set ?_ GE112.out) | exact HB.out)⟩⟩
    (rw [if_neg c4] at H); (have c4b0 : decide (a0_0 < 1) = false := decide_eq_false c4); (clear c4)
    (first | rw [c4b0] | (simp only [i64_w, i32_w]; rw [c4b0]) | skip)
    by_cases c6 : a0_0 > 3
    · rw [if_pos c6] at H
      (have c6b0 : decide (3 < a0_0) = true := decide_eq_true c6); (clear c6); (have H' := Aside0.mk H); (clear H); (have hcz7_0 : w3.cell? ⟨gb112, 0, none⟩ = some (.int .i64 a0_0) := (blk_cell BK112.out 0).trans rfl); (have hcz7_1 : w3.cell? ⟨gb112, 1, none⟩ = some (.int .i64 a0_1) := (blk_cell BK112.out 1).trans rfl); (have hcz7_2 : w3.cell? ⟨gb112, 2, none⟩ = some (.int .i64 a0_2) := (blk_cell BK112.out 2).trans rfl); (have hcz7_3 : w3.cell? ⟨gb112, 3, none⟩ = some (.slice A0_3 l0_3.length c0_3) := (blk_cell BK112.out 3).trans rfl); (have hfz7_0 := blk_frozen BK112.out 0); (have hfz7_1 := blk_frozen BK112.out 1); (have hfz7_2 := blk_frozen BK112.out 2); (have hfz7_3 := blk_frozen BK112.out 3)
      go_wp2
      go_meet
      case rel => exact ⟨_, (true), (by first | rfl | (simp; done) | (simp [*]; done)), H', ⟨by first | omega | exact Nat.le_refl _⟩, ⟨by (with_reducible repeat (first | refine blk_drewN ?_ _ | refine blk_drew ?_ | refine blk_alloc ?_ _)); exact BK112.out⟩, ⟨by repeat (first | (with_reducible first | exact HB.out | apply below_alloc | apply pw_below_drewN | apply below_drew1 | refine below_set ?_ GE112.out) | exact HB.out)⟩⟩
    (rw [if_neg c6] at H); (have c6b0 : decide (3 < a0_0) = false := decide_eq_false c6); (clear c6)
    by_cases c8 : a0_1 < 1
    · rw [if_pos c8] at H
      (have c8b0 : decide (a0_1 < 1) = true := decide_eq_true c8); (clear c8); (have H' := Aside0.mk H); (clear H); (have hcz9_0 : w3.cell? ⟨gb112, 0, none⟩ = some (.int .i64 a0_0) := (blk_cell BK112.out 0).trans rfl); (have hcz9_1 : w3.cell? ⟨gb112, 1, none⟩ = some (.int .i64 a0_1) := (blk_cell BK112.out 1).trans rfl); (have hcz9_2 : w3.cell? ⟨gb112, 2, none⟩ = some (.int .i64 a0_2) := (blk_cell BK112.out 2).trans rfl); (have hcz9_3 : w3.cell? ⟨gb112, 3, none⟩ = some (.slice A0_3 l0_3.length c0_3) := (blk_cell BK112.out 3).trans rfl); (have hfz9_0 := blk_frozen BK112.out 0); (have hfz9_1 := blk_frozen BK112.out 1); (have hfz9_2 := blk_frozen BK112.out 2); (have hfz9_3 := blk_frozen BK112.out 3)
      go_wp2
      go_meet
      case rel => exact ⟨_, (true), (by first | rfl | (simp; done) | (simp [*]; done)), H', ⟨by first | omega | exact Nat.le_refl _⟩, ⟨by (with_reducible repeat (first | refine blk_drewN ?_ _ | refine blk_drew ?_ | refine blk_alloc ?_ _)); exact BK112.out⟩, ⟨by repeat (first | (with_reducible first | exact HB.out | apply below_alloc | apply pw_below_drewN | apply below_drew1 | refine below_set ?_ GE112.out) | exact HB.out)⟩⟩
    (rw [if_neg c8] at H); (have c8b0 : decide (a0_1 < 1) = false := decide_eq_false c8); (clear c8)
    by_cases c10 : a0_1 > 5
    · rw [if_pos c10] at H
      (have c10b0 : decide (5 < a0_1) = true := decide_eq_true c10); (clear c10); (have H' := Aside0.mk H); (clear H); (have hcz11_0 : w3.cell? ⟨gb112, 0, none⟩ = some (.int .i64 a0_0) := (blk_cell BK112.out 0).trans rfl); (have hcz11_1 : w3.cell? ⟨gb112, 1, none⟩ = some (.int .i64 a0_1) := (blk_cell BK112.out 1).trans rfl); (have hcz11_2 : w3.cell? ⟨gb112, 2, none⟩ = some (.int .i64 a0_2) := (blk_cell BK112.out 2).trans rfl); (have hcz11_3 : w3.cell? ⟨gb112, 3, none⟩ = some (.slice A0_3 l0_3.length c0_3) := (blk_cell BK112.out 3).trans rfl); (have hfz11_0 := blk_frozen BK112.out 0); (have hfz11_1 := blk_frozen BK112.out 1); (have hfz11_2 := blk_frozen BK112.out 2); (have hfz11_3 := blk_frozen BK112.out 3)
      go_wp2
      go_meet
      case rel => exact ⟨_, (true), (by first | rfl | (simp; done) | (simp [*]; done)), H', ⟨by first | omega | exact Nat.le_refl _⟩, ⟨by (with_reducible repeat (first | refine blk_drewN ?_ _ | refine blk_drew ?_ | refine blk_alloc ?_ _)); exact BK112.out⟩, ⟨by repeat (first | (with_reducible first | exact HB.out | apply below_alloc | apply pw_below_drewN | apply below_drew1 | refine below_set ?_ GE112.out) | exact HB.out)⟩⟩
    (rw [if_neg c10] at H); (have c10b0 : decide (5 < a0_1) = false := decide_eq_false c10); (clear c10)
    by_cases c12 : (l0_3.length : Int) > 10
    · rw [if_pos c12] at H
      (have c12b0 : decide (10 < (l0_3.length : Int)) = true := decide_eq_true c12); (have c12b1 : decide (10 < l0_3.length) = true := decide_eq_true (by omega)); (clear c12); (have H' := Aside0.mk H); (clear H); (have hcz13_0 : w3.cell? ⟨gb112, 0, none⟩ = some (.int .i64 a0_0) := (blk_cell BK112.out 0).trans rfl); (have hcz13_1 : w3.cell? ⟨gb112, 1, none⟩ = some (.int .i64 a0_1) := (blk_cell BK112.out 1).trans rfl); (have hcz13_2 : w3.cell? ⟨gb112, 2, none⟩ = some (.int .i64 a0_2) := (blk_cell BK112.out 2).trans rfl); (have hcz13_3 : w3.cell? ⟨gb112, 3, none⟩ = some (.slice A0_3 l0_3.length c0_3) := (blk_cell BK112.out 3).trans rfl); (have hfz13_0 := blk_frozen BK112.out 0); (have hfz13_1 := blk_frozen BK112.out 1); (have hfz13_2 := blk_frozen BK112.out 2); (have hfz13_3 := blk_frozen BK112.out 3)
      go_wp2
      go_meet
      case rel => exact ⟨_, (true), (by first | rfl | (simp; done) | (simp [*]; done)), H', ⟨by first | omega | exact Nat.le_refl _⟩, ⟨by (with_reducible repeat (first | refine blk_drewN ?_ _ | refine blk_drew ?_ | refine blk_alloc ?_ _)); exact BK112.out⟩, ⟨by repeat (first | (with_reducible first | exact HB.out | apply below_alloc | apply pw_below_drewN | apply below_drew1 | refine below_set ?_ GE112.out) | exact HB.out)⟩⟩
    (rw [if_neg c12] at H); (have c12b0 : decide (10 < (l0_3.length : Int)) = false := decide_eq_false c12); (have c12b1 : decide (10 < l0_3.length) = false := decide_eq_false (by omega)); (clear c12); (replace H := Option.bind_eq_some_iff.mp H); (obtain ⟨t113, A140, H⟩ := H); (replace H : (grammar_Check.j0 k t113 a0_0 a0_1 a0_2 l0_3) = some r := H); (have A14 := Aside0.mk A140); (clear A140); (have H' := Aside0.mk H); (clear H); (have hcz15_0 : w3.cell? ⟨gb112, 0, none⟩ = some (.int .i64 a0_0) := (blk_cell BK112.out 0).trans rfl); (have hcz15_1 : w3.cell? ⟨gb112, 1, none⟩ = some (.int .i64 a0_1) := (blk_cell BK112.out 1).trans rfl); (have hcz15_2 : w3.cell? ⟨gb112, 2, none⟩ = some (.int .i64 a0_2) := (blk_cell BK112.out 2).trans rfl); (have hcz15_3 : w3.cell? ⟨gb112, 3, none⟩ = some (.slice A0_3 l0_3.length c0_3) := (blk_cell BK112.out 3).trans rfl); (have hfz15_0 := blk_frozen BK112.out 0); (have hfz15_1 := blk_frozen BK112.out 1); (have hfz15_2 := blk_frozen BK112.out 2); (have hfz15_3 := blk_frozen BK112.out 3)
    go_wp2_with (first | (go_at_call 44; (with_reducible refine (grammar_Check_1_any.calls _ _ l0_3 t113 _ ?side1 ?side2 A14.out).mono ?_); (case side1 => repeat (first | exact (Kd.C_below HR0_3.out HB.out) | (with_reducible refine Kd.C_alloc ?_ _) | (with_reducible refine Kd.C_drewN ?_ _) | (with_reducible refine Kd.C_drew ?_))); (case side2 => exact HC0_3.out); rintro e w16 ⟨rfl, hb⟩; have n0_ := Aside0.mk (blk_below (g := gb112) (o := .cells #[.int .i64 a0_0, .int .i64 a0_1, .int .i64 a0_2, .slice A0_3 l0_3.length c0_3] 24 (0, 0)) (by (with_reducible repeat (first | refine blk_drewN ?_ _ | refine blk_drew ?_ | refine blk_alloc ?_ _)); exact BK112.out) hb); have n1_ := Aside0.mk (below_step (by repeat (first | (with_reducible first | exact HB.out | apply below_alloc | apply pw_below_drewN | apply below_drew1 | refine below_set ?_ GE112.out) | exact HB.out)) hb); clear BK112; clear HB; have BK112 := n0_; have HB := n1_; clear n0_ n1_; (try clear hb); (try clear hb2); (try clear hk); (try clear hi)))
    go_meet
    case rel => exact ⟨_, (t113), (by first | rfl | (simp; done) | (simp [*]; done)), H', ⟨by first | omega | exact Nat.le_refl _⟩, ⟨by (with_reducible repeat (first | refine blk_drewN ?_ _ | refine blk_drew ?_ | refine blk_alloc ?_ _)); exact BK112.out⟩, ⟨by repeat (first | (with_reducible first | exact HB.out | apply below_alloc | apply pw_below_drewN | apply below_drew1 | refine below_set ?_ GE112.out) | exact HB.out)⟩⟩
  case rest =>
    (clear HC2); (try clear c1); (try clear p2); (try clear c4); (try clear c4b0); (try clear c6); (try clear c6b0); (try clear c8); (try clear c8b0); (try clear c10); (try clear c10b0); (try clear c12); (try clear c12b0); (try clear c12b1); (try clear c15); (try clear hcz11_0); (try clear hcz11_1); (try clear hcz11_2); (try clear hcz11_3); (try clear hcz13_0); (try clear hcz13_1); (try clear hcz13_2); (try clear hcz13_3); (try clear hcz15_0); (try clear hcz15_1); (try clear hcz15_2); (try clear hcz15_3); (try clear hcz5_0); (try clear hcz5_1); (try clear hcz5_2); (try clear hcz5_3); (try clear hcz7_0); (try clear hcz7_1); (try clear hcz7_2); (try clear hcz7_3); (try clear hcz9_0); (try clear hcz9_1); (try clear hcz9_2); (try clear hcz9_3); (try clear hfz11_0); (try clear hfz11_1); (try clear hfz11_2); (try clear hfz11_3); (try clear hfz13_0); (try clear hfz13_1); (try clear hfz13_2); (try clear hfz13_3); (try clear hfz15_0); (try clear hfz15_1); (try clear hfz15_2); (try clear hfz15_3); (try clear hfz5_0); (try clear hfz5_1); (try clear hfz5_2); (try clear hfz5_3); (try clear hfz7_0); (try clear hfz7_1); (try clear hfz7_2); (try clear hfz7_3); (try clear hfz9_0); (try clear hfz9_1); (try clear hfz9_2); (try clear hfz9_3); (obtain ⟨kq, x35_1, rfl, HA, HJ1, BK112, HB⟩ := hcut)
    cases kq with
    | zero => exact absurd HA.out (by simp [grammar_Check.j0])
    | succ kj1 =>
      (have H := HA.out); (clear HA); (simp only [grammar_Check.j0] at H)
      by_cases c17 : x35_1 = true
      · subst c17
        (have H1 : (some 1) = some r := by rw [if_pos rfl] at H; exact H); (clear H); (have H := H1); (clear H1); (obtain rfl := Option.some.inj H)
        go_wp2
        go_ret
        exact ⟨by first | rfl | (simp [errW_none, errW_some] <;> rfl) | (simp [*, errW_none, errW_some] <;> rfl), by repeat (first | (with_reducible first | exact HB.out | apply below_alloc | apply pw_below_drewN | apply below_drew1 | refine below_set ?_ GE112.out) | exact HB.out)⟩
      (replace c17 := Bool.eq_false_iff.mpr c17); (subst c17); (have H1 : (if a0_2 < 0 then (grammar_Check.j1 kj1 true a0_0 a0_1 a0_2 l0_3) else (grammar_Check.j1 kj1 (decide (a0_2 ≥ a0_1)) a0_0 a0_1 a0_2 l0_3)) = some r := by rw [if_neg (show ¬ (false = true) by decide)] at H; exact H); (clear H); (have H := H1); (clear H1); (have HC18 := Aside0.mk H); (clear H)
      go_upto_region 4 with (fail)
      go_cut [45] (fun v45 wc => ∃ (kq : Nat) (x45_17 : Bool), v45 = .bool x45_17 ∧ Aside0 (grammar_Check.j1 kq x45_17 a0_0 a0_1 a0_2 l0_3 = some r) ∧ Aside0 (kq ≤ kj1) ∧ Aside0 (wc.heap[gb112]? = some (.cells #[.int .i64 a0_0, .int .i64 a0_1, .int .i64 a0_2, (.slice A0_3 l0_3.length c0_3)] 24 (0, 0))) ∧ Aside0 (Below w.heap.size w wc))
      case first =>
        (have H := HC18.out); (clear HC18)
        by_cases c19 : a0_2 < 0
        · rw [if_pos c19] at H
          (have c19b0 : decide (a0_2 < 0) = true := decide_eq_true c19); (clear c19)
          (first | rw [c19b0] | (simp only [i64_w, i32_w]; rw [c19b0]) | skip)
          (have H' := Aside0.mk H); (clear H); (have hcz20_0 : wc.cell? ⟨gb112, 0, none⟩ = some (.int .i64 a0_0) := (blk_cell BK112.out 0).trans rfl); (have hcz20_1 : wc.cell? ⟨gb112, 1, none⟩ = some (.int .i64 a0_1) := (blk_cell BK112.out 1).trans rfl); (have hcz20_2 : wc.cell? ⟨gb112, 2, none⟩ = some (.int .i64 a0_2) := (blk_cell BK112.out 2).trans rfl); (have hcz20_3 : wc.cell? ⟨gb112, 3, none⟩ = some (.slice A0_3 l0_3.length c0_3) := (blk_cell BK112.out 3).trans rfl); (have hfz20_0 := blk_frozen BK112.out 0); (have hfz20_1 := blk_frozen BK112.out 1); (have hfz20_2 := blk_frozen BK112.out 2); (have hfz20_3 := blk_frozen BK112.out 3)
          go_wp2
          go_meet
          case rel => exact ⟨_, (true), (by first | rfl | (simp; done) | (simp [*]; done)), H', ⟨by have := HJ1.out; first | omega | exact Nat.le_refl _⟩, ⟨by (with_reducible repeat (first | refine blk_drewN ?_ _ | refine blk_drew ?_ | refine blk_alloc ?_ _)); exact BK112.out⟩, ⟨by repeat (first | (with_reducible first | exact HB.out | apply below_alloc | apply pw_below_drewN | apply below_drew1 | refine below_set ?_ GE112.out) | exact HB.out)⟩⟩
        (rw [if_neg c19] at H); (have c19b0 : decide (a0_2 < 0) = false := decide_eq_false c19); (clear c19)
        (first | rw [c19b0] | (simp only [i64_w, i32_w]; rw [c19b0]) | skip)
        (have H' := Aside0.mk H); (clear H); (have hcz21_0 : wc.cell? ⟨gb112, 0, none⟩ = some (.int .i64 a0_0) := (blk_cell BK112.out 0).trans rfl); (have hcz21_1 : wc.cell? ⟨gb112, 1, none⟩ = some (.int .i64 a0_1) := (blk_cell BK112.out 1).trans rfl); (have hcz21_2 : wc.cell? ⟨gb112, 2, none⟩ = some (.int .i64 a0_2) := (blk_cell BK112.out 2).trans rfl); (have hcz21_3 : wc.cell? ⟨gb112, 3, none⟩ = some (.slice A0_3 l0_3.length c0_3) := (blk_cell BK112.out 3).trans rfl); (have hfz21_0 := blk_frozen BK112.out 0); (have hfz21_1 := blk_frozen BK112.out 1); (have hfz21_2 := blk_frozen BK112.out 2); (have hfz21_3 := blk_frozen BK112.out 3)
        go_wp2
        go_meet
        case rel => exact ⟨_, (decide (a0_2 ≥ a0_1)), (by first | rfl | (simp; done) | (simp [*]; done)), H', ⟨by have := HJ1.out; first | omega | exact Nat.le_refl _⟩, ⟨by (with_reducible repeat (first | refine blk_drewN ?_ _ | refine blk_drew ?_ | refine blk_alloc ?_ _)); exact BK112.out⟩, ⟨by repeat (first | (with_reducible first | exact HB.out | apply below_alloc | apply pw_below_drewN | apply below_drew1 | refine below_set ?_ GE112.out) | exact HB.out)⟩⟩
      case rest =>
        (clear HC18); (try clear c1); (try clear p2); (try clear c4); (try clear c4b0); (try clear c6); (try clear c6b0); (try clear c8); (try clear c8b0); (try clear c10); (try clear c10b0); (try clear c12); (try clear c12b0); (try clear c12b1); (try clear c15); (try clear c17); (try clear c19); (try clear c19b0); (try clear hcz11_0); (try clear hcz11_1); (try clear hcz11_2); (try clear hcz11_3); (try clear hcz13_0); (try clear hcz13_1); (try clear hcz13_2); (try clear hcz13_3); (try clear hcz15_0); (try clear hcz15_1); (try clear hcz15_2); (try clear hcz15_3); (try clear hcz20_0); (try clear hcz20_1); (try clear hcz20_2); (try clear hcz20_3); (try clear hcz21_0); (try clear hcz21_1); (try clear hcz21_2); (try clear hcz21_3); (try clear hcz5_0); (try clear hcz5_1); (try clear hcz5_2); (try clear hcz5_3); (try clear hcz7_0); (try clear hcz7_1); (try clear hcz7_2); (try clear hcz7_3); (try clear hcz9_0); (try clear hcz9_1); (try clear hcz9_2); (try clear hcz9_3); (try clear hfz11_0); (try clear hfz11_1); (try clear hfz11_2); (try clear hfz11_3); (try clear hfz13_0); (try clear hfz13_1); (try clear hfz13_2); (try clear hfz13_3); (try clear hfz15_0); (try clear hfz15_1); (try clear hfz15_2); (try clear hfz15_3); (try clear hfz20_0); (try clear hfz20_1); (try clear hfz20_2); (try clear hfz20_3); (try clear hfz21_0); (try clear hfz21_1); (try clear hfz21_2); (try clear hfz21_3); (try clear hfz5_0); (try clear hfz5_1); (try clear hfz5_2); (try clear hfz5_3); (try clear hfz7_0); (try clear hfz7_1); (try clear hfz7_2); (try clear hfz7_3); (try clear hfz9_0); (try clear hfz9_1); (try clear hfz9_2); (try clear hfz9_3); (try clear p2); (obtain ⟨kq, x45_17, rfl, HA, HJ17, BK112, HB⟩ := hcut)
        cases kq with
        | zero => exact absurd HA.out (by simp [grammar_Check.j1])
        | succ kj17 =>
          (have H := HA.out); (clear HA); (simp only [grammar_Check.j1] at H)
          by_cases c22 : x45_17 = true
          · subst c22
            (have H1 : (some 2) = some r := by rw [if_pos rfl] at H; exact H); (clear H); (have H := H1); (clear H1); (obtain rfl := Option.some.inj H)
            go_wp2
            go_ret
            exact ⟨by first | rfl | (simp [errW_none, errW_some] <;> rfl) | (simp [*, errW_none, errW_some] <;> rfl), by repeat (first | (with_reducible first | exact HB.out | apply below_alloc | apply pw_below_drewN | apply below_drew1 | refine below_set ?_ GE112.out) | exact HB.out)⟩
          (replace c22 := Bool.eq_false_iff.mpr c22); (subst c22); (have H1 : (grammar_Check.l0 kj17 l0_3 (l0_3.length : Int) 0 a0_0 a0_1 a0_2 l0_3) = some r := by rw [if_neg (show ¬ (false = true) by decide)] at H; exact H); (clear H); (have H := H1); (clear H1); (have H' := Aside0.mk H); (clear H); (have hcz23_0 : wc.cell? ⟨gb112, 0, none⟩ = some (.int .i64 a0_0) := (blk_cell BK112.out 0).trans rfl); (have hcz23_1 : wc.cell? ⟨gb112, 1, none⟩ = some (.int .i64 a0_1) := (blk_cell BK112.out 1).trans rfl); (have hcz23_2 : wc.cell? ⟨gb112, 2, none⟩ = some (.int .i64 a0_2) := (blk_cell BK112.out 2).trans rfl); (have hcz23_3 : wc.cell? ⟨gb112, 3, none⟩ = some (.slice A0_3 l0_3.length c0_3) := (blk_cell BK112.out 3).trans rfl); (have hfz23_0 := blk_frozen BK112.out 0); (have hfz23_1 := blk_frozen BK112.out 1); (have hfz23_2 := blk_frozen BK112.out 2); (have hfz23_3 := blk_frozen BK112.out 3)
          go_wp2
          go_loopg [49] kj17 (fun kq v49 w' => ∃ (x49_3 : Int), v49 = .int .i64 x49_3 ∧ Aside0 (grammar_Check.l0 kq l0_3 (l0_3.length : Int) x49_3 a0_0 a0_1 a0_2 l0_3 = some r) ∧ Aside0 (kq ≤ kj17) ∧ Aside0 (w'.heap[gb112]? = some (.cells #[.int .i64 a0_0, .int .i64 a0_1, .int .i64 a0_2, (.slice A0_3 l0_3.length c0_3)] 24 (0, 0))) ∧ Aside0 (Below w.heap.size w w'))
          case atStart => exact ⟨(0), (by first | rfl | (simp; done) | (simp [*]; done)), H', ⟨Nat.le_refl _⟩, ⟨by (with_reducible repeat (first | refine blk_drewN ?_ _ | refine blk_drew ?_ | refine blk_alloc ?_ _)); exact BK112.out⟩, ⟨by repeat (first | (with_reducible first | exact HB.out | apply below_alloc | apply pw_below_drewN | apply below_drew1 | refine below_set ?_ GE112.out) | exact HB.out)⟩⟩
          case round =>
            (clear H'); (try clear c1); (try clear c2); (try clear p2); (try clear c4); (try clear c4b0); (try clear c6); (try clear c6b0); (try clear c8); (try clear c8b0); (try clear c10); (try clear c10b0); (try clear c12); (try clear c12b0); (try clear c12b1); (try clear c15); (try clear c17); (try clear c19); (try clear c19b0); (try clear c22); (try clear hcz11_0); (try clear hcz11_1); (try clear hcz11_2); (try clear hcz11_3); (try clear hcz13_0); (try clear hcz13_1); (try clear hcz13_2); (try clear hcz13_3); (try clear hcz15_0); (try clear hcz15_1); (try clear hcz15_2); (try clear hcz15_3); (try clear hcz20_0); (try clear hcz20_1); (try clear hcz20_2); (try clear hcz20_3); (try clear hcz21_0); (try clear hcz21_1); (try clear hcz21_2); (try clear hcz21_3); (try clear hcz23_0); (try clear hcz23_1); (try clear hcz23_2); (try clear hcz23_3); (try clear hcz5_0); (try clear hcz5_1); (try clear hcz5_2); (try clear hcz5_3); (try clear hcz7_0); (try clear hcz7_1); (try clear hcz7_2); (try clear hcz7_3); (try clear hcz9_0); (try clear hcz9_1); (try clear hcz9_2); (try clear hcz9_3); (try clear hfz11_0); (try clear hfz11_1); (try clear hfz11_2); (try clear hfz11_3); (try clear hfz13_0); (try clear hfz13_1); (try clear hfz13_2); (try clear hfz13_3); (try clear hfz15_0); (try clear hfz15_1); (try clear hfz15_2); (try clear hfz15_3); (try clear hfz20_0); (try clear hfz20_1); (try clear hfz20_2); (try clear hfz20_3); (try clear hfz21_0); (try clear hfz21_1); (try clear hfz21_2); (try clear hfz21_3); (try clear hfz23_0); (try clear hfz23_1); (try clear hfz23_2); (try clear hfz23_3); (try clear hfz5_0); (try clear hfz5_1); (try clear hfz5_2); (try clear hfz5_3); (try clear hfz7_0); (try clear hfz7_1); (try clear hfz7_2); (try clear hfz7_3); (try clear hfz9_0); (try clear hfz9_1); (try clear hfz9_2); (try clear hfz9_3); (try clear p2); (obtain ⟨x49_3, rfl, HA, HK3, BK112, HB⟩ := hrel)
            cases gk with
            | zero => exact absurd HA.out (by simp [grammar_Check.l0])
            | succ k3 =>
              (have H := HA.out); (clear HA); (simp only [grammar_Check.l0] at H)
              by_cases c24 : x49_3 < (l0_3.length : Int)
              rotate_left
              · rw [if_neg c24] at H
                (have c24b0 : decide (x49_3 < (l0_3.length : Int)) = false := decide_eq_false c24); (clear c24); (obtain rfl := Option.some.inj H)
                go_wp2
                go_ret
                exact ⟨by first | rfl | (simp [errW_none, errW_some] <;> rfl) | (simp [*, errW_none, errW_some] <;> rfl), by repeat (first | (with_reducible first | exact HB.out | apply below_alloc | apply pw_below_drewN | apply below_drew1 | refine below_set ?_ GE112.out) | exact HB.out)⟩
              (rw [if_pos c24] at H); (have c24b0 : decide (x49_3 < (l0_3.length : Int)) = true := decide_eq_true c24); (clear c24)
              by_cases c25 : 0 ≤ x49_3
              rotate_left
              · rw [if_neg c25] at H
                exact absurd H (by simp)
              (rw [if_pos c25] at H); (have c25b0 : decide (0 ≤ x49_3) = true := decide_eq_true c25); (clear c25)
              by_cases c26 : x49_3 < (l0_3.length : Int)
              rotate_left
              · rw [if_neg c26] at H
                exact absurd H (by simp)
              (rw [if_pos c26] at H); (have c26b0 : decide (x49_3 < (l0_3.length : Int)) = true := decide_eq_true c26); (clear c26)
              by_cases c27 : ((rd_T38 l0_3 x49_3).f0) < 0
              · rw [if_pos c27] at H
                (have c27b0 : decide (((rd_T38 l0_3 x49_3).f0) < 0) = true := decide_eq_true c27); (clear c27); (obtain rfl := Option.some.inj H); (have p114 : 0 ≤ (x49_3 : Int) := of_decide_eq_true (by assumption)); (have q114 : x49_3 < (l0_3.length : Int) := of_decide_eq_true (by assumption)); (obtain ⟨ad114, A114_1, c114_1, e114, hx114_0, hx114_1, hl114_1, hi114_1⟩ := at_T38 HR0_3.out x49_3 p114 q114); (cases e114); (replace hx114_0 := (HB.out.cell (World.block_lt_of_cell? w _ hx114_0)).trans hx114_0); (replace hx114_1 := (HB.out.cell (World.block_lt_of_cell? w _ hx114_1)).trans hx114_1); (have HR114_1 := Aside0.mk hi114_1); (have HC114_1 := Aside0.mk hl114_1); (clear hi114_1 hl114_1); (replace p114 := eq_true p114); (replace q114 := eq_true q114)
                go_wp2_with (first | ((with_reducible refine gate_dst (N := 5) rfl ?_); (try (refine gate_guard (by rfl) ?_; dsimp only)); refine box_event ?hg (N := 5) ?hd (cs := #[.int .i64 0, .slice none 0 0]) (t := 38) ?hr ?_; (case hd => rfl); (case hg => rfl); (case hr => first | (go_simp; done) | (go_simp; rfl)); intro gb115 hg w28 hbox hb; have n0_ := Aside0.mk (blk_below (g := gb112) (o := .cells #[.int .i64 a0_0, .int .i64 a0_1, .int .i64 a0_2, .slice (some ad114) l0_3.length c0_3] 24 (0, 0)) (by (with_reducible repeat (first | refine blk_drewN ?_ _ | refine blk_drew ?_ | refine blk_alloc ?_ _)); exact BK112.out) hb); have n1_ := Aside0.mk (below_step (by repeat (first | (with_reducible first | exact HB.out | apply below_alloc | apply pw_below_drewN | apply below_drew1 | refine below_set ?_ GE112.out) | exact HB.out)) hb); have n2_ := Aside0.mk (hbox); have n3_ := Aside0.mk ((by rw [hg]; exact (below_size (by repeat (first | (with_reducible first | exact HB.out | apply below_alloc | apply pw_below_drewN | apply below_drew1 | refine below_set ?_ GE112.out) | exact HB.out))) : w.heap.size ≤ gb115)); have n4_ := Aside0.mk ((by rw [hg]; exact (below_size (by repeat (first | (with_reducible first | exact HB.out | apply below_alloc | apply pw_below_drewN | apply below_drew1 | refine below_set ?_ GE112.out) | exact HB.out))) : w.heap.size ≤ gb115)); have n5_ := Aside0.mk ((by rw [hg]; exact Nat.ne_of_lt (blk_lt (g := gb112) (o := .cells #[.int .i64 a0_0, .int .i64 a0_1, .int .i64 a0_2, .slice (some ad114) l0_3.length c0_3] 24 (0, 0)) (by (with_reducible repeat (first | refine blk_drewN ?_ _ | refine blk_drew ?_ | refine blk_alloc ?_ _)); exact BK112.out)) : gb112 ≠ gb115)); have n6_ := Aside0.mk ((by rw [hg]; exact Nat.ne_of_gt (blk_lt (g := gb112) (o := .cells #[.int .i64 a0_0, .int .i64 a0_1, .int .i64 a0_2, .slice (some ad114) l0_3.length c0_3] 24 (0, 0)) (by (with_reducible repeat (first | refine blk_drewN ?_ _ | refine blk_drew ?_ | refine blk_alloc ?_ _)); exact BK112.out)) : gb115 ≠ gb112)); clear BK112; clear HB; have BK112 := n0_; have HB := n1_; have BK115 := n2_; have GW115 := n3_; have GE115 := n4_; have NB112_115 := n5_; have NB115_112 := n6_; clear n0_ n1_ n2_ n3_ n4_ n5_ n6_; clear hb hbox hg; have hnb29 := NB115_112.out; have hnc29 := NB112_115.out; have hcz30_0 : w28.cell? ⟨gb115, 0, none⟩ = some (.int .i64 0) := (blk_cell BK115.out 0).trans rfl; have hcz30_1 : w28.cell? ⟨gb115, 1, none⟩ = some (.slice none 0 0) := (blk_cell BK115.out 1).trans rfl; have hfz30_0 := blk_frozen BK115.out 0; have hfz30_1 := blk_frozen BK115.out 1))
                go_ret
                exact ⟨by first | rfl | (simp [errW_none, errW_some] <;> rfl) | (simp [*, errW_none, errW_some] <;> rfl), by repeat (first | (with_reducible first | exact HB.out | apply below_alloc | apply pw_below_drewN | apply below_drew1 | refine below_set ?_ GE112.out | refine below_set ?_ GE115.out) | exact HB.out)⟩
              (rw [if_neg c27] at H); (have c27b0 : decide (((rd_T38 l0_3 x49_3).f0) < 0) = false := decide_eq_false c27); (clear c27)
              by_cases c31 : ((rd_T38 l0_3 x49_3).f0) ≥ a0_1
              · rw [if_pos c31] at H
                (have c31b0 : decide (a0_1 ≤ ((rd_T38 l0_3 x49_3).f0)) = true := decide_eq_true c31); (clear c31); (obtain rfl := Option.some.inj H); (have p114 : 0 ≤ (x49_3 : Int) := of_decide_eq_true (by assumption)); (have q114 : x49_3 < (l0_3.length : Int) := of_decide_eq_true (by assumption)); (obtain ⟨ad114, A114_1, c114_1, e114, hx114_0, hx114_1, hl114_1, hi114_1⟩ := at_T38 HR0_3.out x49_3 p114 q114); (cases e114); (replace hx114_0 := (HB.out.cell (World.block_lt_of_cell? w _ hx114_0)).trans hx114_0); (replace hx114_1 := (HB.out.cell (World.block_lt_of_cell? w _ hx114_1)).trans hx114_1); (have HR114_1 := Aside0.mk hi114_1); (have HC114_1 := Aside0.mk hl114_1); (clear hi114_1 hl114_1); (replace p114 := eq_true p114); (replace q114 := eq_true q114)
                go_wp2_with (first | ((with_reducible refine gate_dst (N := 5) rfl ?_); (try (refine gate_guard (by rfl) ?_; dsimp only)); refine box_event ?hg (N := 5) ?hd (cs := #[.int .i64 0, .slice none 0 0]) (t := 38) ?hr ?_; (case hd => rfl); (case hg => rfl); (case hr => first | (go_simp; done) | (go_simp; rfl)); intro gb115 hg w32 hbox hb; have n0_ := Aside0.mk (blk_below (g := gb112) (o := .cells #[.int .i64 a0_0, .int .i64 a0_1, .int .i64 a0_2, .slice (some ad114) l0_3.length c0_3] 24 (0, 0)) (by (with_reducible repeat (first | refine blk_drewN ?_ _ | refine blk_drew ?_ | refine blk_alloc ?_ _)); exact BK112.out) hb); have n1_ := Aside0.mk (below_step (by repeat (first | (with_reducible first | exact HB.out | apply below_alloc | apply pw_below_drewN | apply below_drew1 | refine below_set ?_ GE112.out) | exact HB.out)) hb); have n2_ := Aside0.mk (hbox); have n3_ := Aside0.mk ((by rw [hg]; exact (below_size (by repeat (first | (with_reducible first | exact HB.out | apply below_alloc | apply pw_below_drewN | apply below_drew1 | refine below_set ?_ GE112.out) | exact HB.out))) : w.heap.size ≤ gb115)); have n4_ := Aside0.mk ((by rw [hg]; exact (below_size (by repeat (first | (with_reducible first | exact HB.out | apply below_alloc | apply pw_below_drewN | apply below_drew1 | refine below_set ?_ GE112.out) | exact HB.out))) : w.heap.size ≤ gb115)); have n5_ := Aside0.mk ((by rw [hg]; exact Nat.ne_of_lt (blk_lt (g := gb112) (o := .cells #[.int .i64 a0_0, .int .i64 a0_1, .int .i64 a0_2, .slice (some ad114) l0_3.length c0_3] 24 (0, 0)) (by (with_reducible repeat (first | refine blk_drewN ?_ _ | refine blk_drew ?_ | refine blk_alloc ?_ _)); exact BK112.out)) : gb112 ≠ gb115)); have n6_ := Aside0.mk ((by rw [hg]; exact Nat.ne_of_gt (blk_lt (g := gb112) (o := .cells #[.int .i64 a0_0, .int .i64 a0_1, .int .i64 a0_2, .slice (some ad114) l0_3.length c0_3] 24 (0, 0)) (by (with_reducible repeat (first | refine blk_drewN ?_ _ | refine blk_drew ?_ | refine blk_alloc ?_ _)); exact BK112.out)) : gb115 ≠ gb112)); clear BK112; clear HB; have BK112 := n0_; have HB := n1_; have BK115 := n2_; have GW115 := n3_; have GE115 := n4_; have NB112_115 := n5_; have NB115_112 := n6_; clear n0_ n1_ n2_ n3_ n4_ n5_ n6_; clear hb hbox hg; have hnb33 := NB115_112.out; have hnc33 := NB112_115.out; have hcz34_0 : w32.cell? ⟨gb115, 0, none⟩ = some (.int .i64 0) := (blk_cell BK115.out 0).trans rfl; have hcz34_1 : w32.cell? ⟨gb115, 1, none⟩ = some (.slice none 0 0) := (blk_cell BK115.out 1).trans rfl; have hfz34_0 := blk_frozen BK115.out 0; have hfz34_1 := blk_frozen BK115.out 1; have hcz35_0 : w32.cell? ⟨gb112, 0, none⟩ = some (.int .i64 a0_0) := (blk_cell BK112.out 0).trans rfl; have hcz35_1 : w32.cell? ⟨gb112, 1, none⟩ = some (.int .i64 a0_1) := (blk_cell BK112.out 1).trans rfl; have hcz35_2 : w32.cell? ⟨gb112, 2, none⟩ = some (.int .i64 a0_2) := (blk_cell BK112.out 2).trans rfl; have hcz35_3 : w32.cell? ⟨gb112, 3, none⟩ = some (.slice (some ad114) l0_3.length c0_3) := (blk_cell BK112.out 3).trans rfl; have hfz35_0 := blk_frozen BK112.out 0; have hfz35_1 := blk_frozen BK112.out 1; have hfz35_2 := blk_frozen BK112.out 2; have hfz35_3 := blk_frozen BK112.out 3))
                go_ret
                exact ⟨by first | rfl | (simp [errW_none, errW_some] <;> rfl) | (simp [*, errW_none, errW_some] <;> rfl), by repeat (first | (with_reducible first | exact HB.out | apply below_alloc | apply pw_below_drewN | apply below_drew1 | refine below_set ?_ GE112.out | refine below_set ?_ GE115.out) | exact HB.out)⟩
              (rw [if_neg c31] at H); (have c31b0 : decide (a0_1 ≤ ((rd_T38 l0_3 x49_3).f0)) = false := decide_eq_false c31); (clear c31); (replace H := Option.bind_eq_some_iff.mp H); (obtain ⟨t116, A360, H⟩ := H); (replace H : (if t116 = true then (grammar_Check.l0 k3 l0_3 (l0_3.length : Int) (wrap64 (x49_3 + 1)) a0_0 a0_1 a0_2 l0_3) else (some 2)) = some r := H); (have A36 := Aside0.mk A360); (clear A360)
              by_cases c37 : t116 = true
              rotate_left
              · replace c37 := Bool.eq_false_iff.mpr c37
                (subst c37); (have H1 : (some 2) = some r := by rw [if_neg (show ¬ (false = true) by decide)] at H; exact H); (clear H); (have H := H1); (clear H1); (obtain rfl := Option.some.inj H); (have p114 : 0 ≤ (x49_3 : Int) := of_decide_eq_true (by assumption)); (have q114 : x49_3 < (l0_3.length : Int) := of_decide_eq_true (by assumption)); (obtain ⟨ad114, A114_1, c114_1, e114, hx114_0, hx114_1, hl114_1, hi114_1⟩ := at_T38 HR0_3.out x49_3 p114 q114); (cases e114); (replace hx114_0 := (HB.out.cell (World.block_lt_of_cell? w _ hx114_0)).trans hx114_0); (replace hx114_1 := (HB.out.cell (World.block_lt_of_cell? w _ hx114_1)).trans hx114_1); (have HR114_1 := Aside0.mk hi114_1); (have HC114_1 := Aside0.mk hl114_1); (clear hi114_1 hl114_1); (replace p114 := eq_true p114); (replace q114 := eq_true q114)
                go_wp2_with (first | ((with_reducible refine gate_dst (N := 5) rfl ?_); (try (refine gate_guard (by rfl) ?_; dsimp only)); refine box_event ?hg (N := 5) ?hd (cs := #[.int .i64 0, .slice none 0 0]) (t := 38) ?hr ?_; (case hd => rfl); (case hg => rfl); (case hr => first | (go_simp; done) | (go_simp; rfl)); intro gb115 hg w43 hbox hb; have n0_ := Aside0.mk (blk_below (g := gb112) (o := .cells #[.int .i64 a0_0, .int .i64 a0_1, .int .i64 a0_2, .slice (some ad114) l0_3.length c0_3] 24 (0, 0)) (by (with_reducible repeat (first | refine blk_drewN ?_ _ | refine blk_drew ?_ | refine blk_alloc ?_ _)); exact BK112.out) hb); have n1_ := Aside0.mk (below_step (by repeat (first | (with_reducible first | exact HB.out | apply below_alloc | apply pw_below_drewN | apply below_drew1 | refine below_set ?_ GE112.out) | exact HB.out)) hb); have n2_ := Aside0.mk (hbox); have n3_ := Aside0.mk ((by rw [hg]; exact (below_size (by repeat (first | (with_reducible first | exact HB.out | apply below_alloc | apply pw_below_drewN | apply below_drew1 | refine below_set ?_ GE112.out) | exact HB.out))) : w.heap.size ≤ gb115)); have n4_ := Aside0.mk ((by rw [hg]; exact (below_size (by repeat (first | (with_reducible first | exact HB.out | apply below_alloc | apply pw_below_drewN | apply below_drew1 | refine below_set ?_ GE112.out) | exact HB.out))) : w.heap.size ≤ gb115)); have n5_ := Aside0.mk ((by rw [hg]; exact Nat.ne_of_lt (blk_lt (g := gb112) (o := .cells #[.int .i64 a0_0, .int .i64 a0_1, .int .i64 a0_2, .slice (some ad114) l0_3.length c0_3] 24 (0, 0)) (by (with_reducible repeat (first | refine blk_drewN ?_ _ | refine blk_drew ?_ | refine blk_alloc ?_ _)); exact BK112.out)) : gb112 ≠ gb115)); have n6_ := Aside0.mk ((by rw [hg]; exact Nat.ne_of_gt (blk_lt (g := gb112) (o := .cells #[.int .i64 a0_0, .int .i64 a0_1, .int .i64 a0_2, .slice (some ad114) l0_3.length c0_3] 24 (0, 0)) (by (with_reducible repeat (first | refine blk_drewN ?_ _ | refine blk_drew ?_ | refine blk_alloc ?_ _)); exact BK112.out)) : gb115 ≠ gb112)); clear BK112; clear HB; have BK112 := n0_; have HB := n1_; have BK115 := n2_; have GW115 := n3_; have GE115 := n4_; have NB112_115 := n5_; have NB115_112 := n6_; clear n0_ n1_ n2_ n3_ n4_ n5_ n6_; clear hb hbox hg; have hnb44 := NB115_112.out; have hnc44 := NB112_115.out; have hcz45_0 : w43.cell? ⟨gb115, 0, none⟩ = some (.int .i64 0) := (blk_cell BK115.out 0).trans rfl; have hcz45_1 : w43.cell? ⟨gb115, 1, none⟩ = some (.slice none 0 0) := (blk_cell BK115.out 1).trans rfl; have hfz45_0 := blk_frozen BK115.out 0; have hfz45_1 := blk_frozen BK115.out 1; have hcz46_0 : w43.cell? ⟨gb112, 0, none⟩ = some (.int .i64 a0_0) := (blk_cell BK112.out 0).trans rfl; have hcz46_1 : w43.cell? ⟨gb112, 1, none⟩ = some (.int .i64 a0_1) := (blk_cell BK112.out 1).trans rfl; have hcz46_2 : w43.cell? ⟨gb112, 2, none⟩ = some (.int .i64 a0_2) := (blk_cell BK112.out 2).trans rfl; have hcz46_3 : w43.cell? ⟨gb112, 3, none⟩ = some (.slice (some ad114) l0_3.length c0_3) := (blk_cell BK112.out 3).trans rfl; have hfz46_0 := blk_frozen BK112.out 0; have hfz46_1 := blk_frozen BK112.out 1; have hfz46_2 := blk_frozen BK112.out 2; have hfz46_3 := blk_frozen BK112.out 3) | (go_at_call 45; (with_reducible refine (grammar_signs.calls a0_0 a0_1 a0_2 _ _ l0_3 _ _ ((rd_T38 l0_3 x49_3).f1) false _ ?side1 ?side2 ?side3 ?side4 A36.out).mono ?_); (case side1 => exact Kd.C_below HR0_3.out (by repeat (first | (with_reducible first | exact HB.out | apply below_alloc | apply pw_below_drewN | apply below_drew1 | refine below_set ?_ GE112.out | refine below_set ?_ GE115.out) | exact HB.out))); (case side2 => exact HC0_3.out); (case side3 => exact Kd.C_below HR114_1.out (by repeat (first | (with_reducible first | exact HB.out | apply below_alloc | apply pw_below_drewN | apply below_drew1 | refine below_set ?_ GE112.out | refine below_set ?_ GE115.out) | exact HB.out))); (case side4 => exact HC114_1.out); rintro e w47 ⟨rfl, hb⟩; have n0_ := Aside0.mk (blk_below (g := gb112) (o := .cells #[.int .i64 a0_0, .int .i64 a0_1, .int .i64 a0_2, .slice (some ad114) l0_3.length c0_3] 24 (0, 0)) (by (with_reducible repeat (first | refine blk_drewN ?_ _ | refine blk_drew ?_ | refine blk_alloc ?_ _)); refine blk_far ?_ NB112_115.out _; (with_reducible repeat (first | refine blk_drewN ?_ _ | refine blk_drew ?_ | refine blk_alloc ?_ _)); refine blk_far ?_ NB112_115.out _; (with_reducible repeat (first | refine blk_drewN ?_ _ | refine blk_drew ?_ | refine blk_alloc ?_ _)); exact BK112.out) hb); have n1_ := Aside0.mk (blk_below (g := gb115) (o := .cells #[.int .i64 ((rd_T38 l0_3 x49_3).f0), .slice A114_1 ((rd_T38 l0_3 x49_3).f1).length c114_1] 38 (0, 0)) (by (with_reducible repeat (first | refine blk_drewN ?_ _ | refine blk_drew ?_ | refine blk_alloc ?_ _)); refine blk_put (cs := #[.int .i64 ((rd_T38 l0_3 x49_3).f0), .slice none 0 0]) ?_ 1 _ rfl; (with_reducible repeat (first | refine blk_drewN ?_ _ | refine blk_drew ?_ | refine blk_alloc ?_ _)); refine blk_put (cs := #[.int .i64 0, .slice none 0 0]) ?_ 0 _ rfl; (with_reducible repeat (first | refine blk_drewN ?_ _ | refine blk_drew ?_ | refine blk_alloc ?_ _)); exact BK115.out) hb); have n2_ := Aside0.mk (below_step (by repeat (first | (with_reducible first | exact HB.out | apply below_alloc | apply pw_below_drewN | apply below_drew1 | refine below_set ?_ GE112.out | refine below_set ?_ GE115.out) | exact HB.out)) hb); clear BK112; clear BK115; clear HB; have BK112 := n0_; have BK115 := n1_; have HB := n2_; clear n0_ n1_ n2_; (try clear hb); (try clear hb2); (try clear hk); (try clear hi)))
                go_ret
                exact ⟨by first | rfl | (simp [errW_none, errW_some] <;> rfl) | (simp [*, errW_none, errW_some] <;> rfl), by repeat (first | (with_reducible first | exact HB.out | apply below_alloc | apply pw_below_drewN | apply below_drew1 | refine below_set ?_ GE112.out | refine below_set ?_ GE115.out) | exact HB.out)⟩
              (subst c37); (have H1 : (grammar_Check.l0 k3 l0_3 (l0_3.length : Int) (wrap64 (x49_3 + 1)) a0_0 a0_1 a0_2 l0_3) = some r := by rw [if_pos rfl] at H; exact H); (clear H); (have H := H1); (clear H1); (have H' := Aside0.mk H); (clear H); (have p114 : 0 ≤ (x49_3 : Int) := of_decide_eq_true (by assumption)); (have q114 : x49_3 < (l0_3.length : Int) := of_decide_eq_true (by assumption)); (obtain ⟨ad114, A114_1, c114_1, e114, hx114_0, hx114_1, hl114_1, hi114_1⟩ := at_T38 HR0_3.out x49_3 p114 q114); (cases e114); (replace hx114_0 := (HB.out.cell (World.block_lt_of_cell? w _ hx114_0)).trans hx114_0); (replace hx114_1 := (HB.out.cell (World.block_lt_of_cell? w _ hx114_1)).trans hx114_1); (have HR114_1 := Aside0.mk hi114_1); (have HC114_1 := Aside0.mk hl114_1); (clear hi114_1 hl114_1); (replace p114 := eq_true p114); (replace q114 := eq_true q114)
              go_wp2_with (first | ((with_reducible refine gate_dst (N := 5) rfl ?_); (try (refine gate_guard (by rfl) ?_; dsimp only)); refine box_event ?hg (N := 5) ?hd (cs := #[.int .i64 0, .slice none 0 0]) (t := 38) ?hr ?_; (case hd => rfl); (case hg => rfl); (case hr => first | (go_simp; done) | (go_simp; rfl)); intro gb115 hg w38 hbox hb; have n0_ := Aside0.mk (blk_below (g := gb112) (o := .cells #[.int .i64 a0_0, .int .i64 a0_1, .int .i64 a0_2, .slice (some ad114) l0_3.length c0_3] 24 (0, 0)) (by (with_reducible repeat (first | refine blk_drewN ?_ _ | refine blk_drew ?_ | refine blk_alloc ?_ _)); exact BK112.out) hb); have n1_ := Aside0.mk (below_step (by repeat (first | (with_reducible first | exact HB.out | apply below_alloc | apply pw_below_drewN | apply below_drew1 | refine below_set ?_ GE112.out) | exact HB.out)) hb); have n2_ := Aside0.mk (hbox); have n3_ := Aside0.mk ((by rw [hg]; exact (below_size (by repeat (first | (with_reducible first | exact HB.out | apply below_alloc | apply pw_below_drewN | apply below_drew1 | refine below_set ?_ GE112.out) | exact HB.out))) : w.heap.size ≤ gb115)); have n4_ := Aside0.mk ((by rw [hg]; exact (below_size (by repeat (first | (with_reducible first | exact HB.out | apply below_alloc | apply pw_below_drewN | apply below_drew1 | refine below_set ?_ GE112.out) | exact HB.out))) : w.heap.size ≤ gb115)); have n5_ := Aside0.mk ((by rw [hg]; exact Nat.ne_of_lt (blk_lt (g := gb112) (o := .cells #[.int .i64 a0_0, .int .i64 a0_1, .int .i64 a0_2, .slice (some ad114) l0_3.length c0_3] 24 (0, 0)) (by (with_reducible repeat (first | refine blk_drewN ?_ _ | refine blk_drew ?_ | refine blk_alloc ?_ _)); exact BK112.out)) : gb112 ≠ gb115)); have n6_ := Aside0.mk ((by rw [hg]; exact Nat.ne_of_gt (blk_lt (g := gb112) (o := .cells #[.int .i64 a0_0, .int .i64 a0_1, .int .i64 a0_2, .slice (some ad114) l0_3.length c0_3] 24 (0, 0)) (by (with_reducible repeat (first | refine blk_drewN ?_ _ | refine blk_drew ?_ | refine blk_alloc ?_ _)); exact BK112.out)) : gb115 ≠ gb112)); clear BK112; clear HB; have BK112 := n0_; have HB := n1_; have BK115 := n2_; have GW115 := n3_; have GE115 := n4_; have NB112_115 := n5_; have NB115_112 := n6_; clear n0_ n1_ n2_ n3_ n4_ n5_ n6_; clear hb hbox hg; have hnb39 := NB115_112.out; have hnc39 := NB112_115.out; have hcz40_0 : w38.cell? ⟨gb115, 0, none⟩ = some (.int .i64 0) := (blk_cell BK115.out 0).trans rfl; have hcz40_1 : w38.cell? ⟨gb115, 1, none⟩ = some (.slice none 0 0) := (blk_cell BK115.out 1).trans rfl; have hfz40_0 := blk_frozen BK115.out 0; have hfz40_1 := blk_frozen BK115.out 1; have hcz41_0 : w38.cell? ⟨gb112, 0, none⟩ = some (.int .i64 a0_0) := (blk_cell BK112.out 0).trans rfl; have hcz41_1 : w38.cell? ⟨gb112, 1, none⟩ = some (.int .i64 a0_1) := (blk_cell BK112.out 1).trans rfl; have hcz41_2 : w38.cell? ⟨gb112, 2, none⟩ = some (.int .i64 a0_2) := (blk_cell BK112.out 2).trans rfl; have hcz41_3 : w38.cell? ⟨gb112, 3, none⟩ = some (.slice (some ad114) l0_3.length c0_3) := (blk_cell BK112.out 3).trans rfl; have hfz41_0 := blk_frozen BK112.out 0; have hfz41_1 := blk_frozen BK112.out 1; have hfz41_2 := blk_frozen BK112.out 2; have hfz41_3 := blk_frozen BK112.out 3) | (go_at_call 45; (with_reducible refine (grammar_signs.calls a0_0 a0_1 a0_2 _ _ l0_3 _ _ ((rd_T38 l0_3 x49_3).f1) true _ ?side1 ?side2 ?side3 ?side4 A36.out).mono ?_); (case side1 => exact Kd.C_below HR0_3.out (by repeat (first | (with_reducible first | exact HB.out | apply below_alloc | apply pw_below_drewN | apply below_drew1 | refine below_set ?_ GE112.out | refine below_set ?_ GE115.out) | exact HB.out))); (case side2 => exact HC0_3.out); (case side3 => exact Kd.C_below HR114_1.out (by repeat (first | (with_reducible first | exact HB.out | apply below_alloc | apply pw_below_drewN | apply below_drew1 | refine below_set ?_ GE112.out | refine below_set ?_ GE115.out) | exact HB.out))); (case side4 => exact HC114_1.out); rintro e w42 ⟨rfl, hb⟩; have n0_ := Aside0.mk (blk_below (g := gb112) (o := .cells #[.int .i64 a0_0, .int .i64 a0_1, .int .i64 a0_2, .slice (some ad114) l0_3.length c0_3] 24 (0, 0)) (by (with_reducible repeat (first | refine blk_drewN ?_ _ | refine blk_drew ?_ | refine blk_alloc ?_ _)); refine blk_far ?_ NB112_115.out _; (with_reducible repeat (first | refine blk_drewN ?_ _ | refine blk_drew ?_ | refine blk_alloc ?_ _)); refine blk_far ?_ NB112_115.out _; (with_reducible repeat (first | refine blk_drewN ?_ _ | refine blk_drew ?_ | refine blk_alloc ?_ _)); exact BK112.out) hb); have n1_ := Aside0.mk (blk_below (g := gb115) (o := .cells #[.int .i64 ((rd_T38 l0_3 x49_3).f0), .slice A114_1 ((rd_T38 l0_3 x49_3).f1).length c114_1] 38 (0, 0)) (by (with_reducible repeat (first | refine blk_drewN ?_ _ | refine blk_drew ?_ | refine blk_alloc ?_ _)); refine blk_put (cs := #[.int .i64 ((rd_T38 l0_3 x49_3).f0), .slice none 0 0]) ?_ 1 _ rfl; (with_reducible repeat (first | refine blk_drewN ?_ _ | refine blk_drew ?_ | refine blk_alloc ?_ _)); refine blk_put (cs := #[.int .i64 0, .slice none 0 0]) ?_ 0 _ rfl; (with_reducible repeat (first | refine blk_drewN ?_ _ | refine blk_drew ?_ | refine blk_alloc ?_ _)); exact BK115.out) hb); have n2_ := Aside0.mk (below_step (by repeat (first | (with_reducible first | exact HB.out | apply below_alloc | apply pw_below_drewN | apply below_drew1 | refine below_set ?_ GE112.out | refine below_set ?_ GE115.out) | exact HB.out)) hb); clear BK112; clear BK115; clear HB; have BK112 := n0_; have BK115 := n1_; have HB := n2_; clear n0_ n1_ n2_; (try clear hb); (try clear hb2); (try clear hk); (try clear hi)))
              go_roundg k3
              case measure => have := HJ1.out; have := HJ17.out; have := HK3.out; omega
              case rel => exact ⟨(wrap64 (x49_3 + 1)), (by first | rfl | (simp; done) | (simp [*]; done)), H', ⟨by have := HJ1.out; have := HJ17.out; have := HK3.out; omega⟩, ⟨by (with_reducible repeat (first | refine blk_drewN ?_ _ | refine blk_drew ?_ | refine blk_alloc ?_ _)); exact BK112.out⟩, ⟨by repeat (first | (with_reducible first | exact HB.out | apply below_alloc | apply pw_below_drewN | apply below_drew1 | refine below_set ?_ GE112.out | refine below_set ?_ GE115.out) | exact HB.out)⟩⟩
def grammar_Least_1.f (a0 : Int) (a1_0 : Int) (a1_1 : Int) (a1_2 : Int) (l1_3 : List (S38)) (a2_0 : Bool) (a3_0 : Int) : Option (Bool) := if a0 < a1_0 then (if a2_0 = true then (if a0 ≥ a1_0 then (if 0 ≤ (wrap64 (a0 - a1_0)) then (some ((Go.bits .and .u32 (shr .u32 a3_0 (wrap64 (a0 - a1_0))) 1) == 0)) else (none)) else (some false)) else (some true)) else (if a0 ≥ a1_0 then (if 0 ≤ (wrap64 (a0 - a1_0)) then (some ((Go.bits .and .u32 (shr .u32 a3_0 (wrap64 (a0 - a1_0))) 1) == 0)) else (none)) else (some false))
set_option maxHeartbeats 8000000 in
set_option maxRecDepth 100000 in
theorem grammar_Least_1.calls (a0 : Int) (a1_0 : Int) (a1_1 : Int) (a1_2 : Int) (A1_3 : Option Addr) (c1_3 : Nat) (l1_3 : List (S38)) (g1 : Nat) (a2_0 : Bool) (g2 : Nat) (a3_0 : Int) (g3 : Nat) (r : Bool) (w : World) (hr1_3 : Kd.C k38 w A1_3 l1_3.length l1_3) (hc1_3 : l1_3.length ≤ c1_3) (hbk1 : w.heap[g1]? = some (.cells #[.int .i64 a1_0, .int .i64 a1_1, .int .i64 a1_2, .slice A1_3 l1_3.length c1_3] 24 (0, 0))) (hbk2 : w.heap[g2]? = some (.cells #[.bool a2_0] 4 (0, 0))) (hbk3 : w.heap[g3]? = some (.cells #[.int .u32 a3_0] 28 (0, 0))) (hnb1_2 : g1 ≠ g2) (hnb1_3 : g1 ≠ g3) (hnb2_3 : g2 ≠ g3) (h : grammar_Least_1.f a0 a1_0 a1_1 a1_2 l1_3 a2_0 a3_0 = some r) :
    Calls Try.prog 71 #[.int .i64 a0, .pointer (some ⟨g1, 0, none⟩), .pointer (some ⟨g2, 0, none⟩), .pointer (some ⟨g3, 0, none⟩)] w fun e w' => e = .returned (.bool r) ∧ Drawn0 w w' := by
  have hu4 := Try.underlying4
  have hu28 := Try.underlying28
  have HR1_3 := Aside0.mk hr1_3
  have HC1_3 := Aside0.mk hc1_3
  clear hr1_3 hc1_3
  have BK1 := Aside0.mk hbk1
  clear hbk1
  have BK2 := Aside0.mk hbk2
  clear hbk2
  have BK3 := Aside0.mk hbk3
  clear hbk3
  have NB1_2 := Aside0.mk hnb1_2
  have NB2_1 := Aside0.mk (Ne.symm hnb1_2)
  clear hnb1_2
  have NB1_3 := Aside0.mk hnb1_3
  have NB3_1 := Aside0.mk (Ne.symm hnb1_3)
  clear hnb1_3
  have NB2_3 := Aside0.mk hnb2_3
  have NB3_2 := Aside0.mk (Ne.symm hnb2_3)
  clear hnb2_3
  have H : (if a0 < a1_0 then (if a2_0 = true then (if a0 ≥ a1_0 then (if 0 ≤ (wrap64 (a0 - a1_0)) then (some ((Go.bits .and .u32 (shr .u32 a3_0 (wrap64 (a0 - a1_0))) 1) == 0)) else (none)) else (some false)) else (some true)) else (if a0 ≥ a1_0 then (if 0 ≤ (wrap64 (a0 - a1_0)) then (some ((Go.bits .and .u32 (shr .u32 a3_0 (wrap64 (a0 - a1_0))) 1) == 0)) else (none)) else (some false))) = some r := h
  clear h
  by_cases c5 : a0 < a1_0
  · rw [if_pos c5] at H
    have c5b0 : decide (a0 < a1_0) = true := decide_eq_true c5
    clear c5
    by_cases c6 : a2_0 = true
    · subst c6
      have H1 : (if a0 ≥ a1_0 then (if 0 ≤ (wrap64 (a0 - a1_0)) then (some ((Go.bits .and .u32 (shr .u32 a3_0 (wrap64 (a0 - a1_0))) 1) == 0)) else (none)) else (some false)) = some r := by rw [if_pos rfl] at H; exact H
      clear H
      have H := H1
      clear H1
      by_cases c7 : a0 ≥ a1_0
      · rw [if_pos c7] at H
        have c7b0 : decide (a1_0 ≤ a0) = true := decide_eq_true c7
        clear c7
        obtain ⟨ji8, hji8⟩ : ∃ j_ : Int, (wrap64 (a0 - a1_0)) = j_ := ⟨_, rfl⟩
        replace H : (if 0 ≤ (ji8) then (some ((Go.bits .and .u32 (shr .u32 a3_0 (ji8)) 1) == 0)) else (none)) = some r := by first | (rw [hji8] at H; exact H) | (simp only [hji8] at H ⊢; exact H)
        have hji8w : (IntKind.i64.wrap (a0 - a1_0)) = ji8 := (i64_w _).trans hji8
        by_cases c9 : 0 ≤ (ji8)
        · rw [if_pos c9] at H
          have c9b0 := eq_true c9
          have c9b1 : decide (0 ≤ (ji8)) = true := decide_eq_true c9
          clear c9
          obtain ⟨ji10, hji10⟩ : ∃ j_ : Int, (shr .u32 a3_0 (ji8)) = j_ := ⟨_, rfl⟩
          replace H : (some ((Go.bits .and .u32 (ji10) 1) == 0)) = some r := by first | (rw [hji10] at H; exact H) | (simp only [hji10] at H ⊢; exact H)
          have hji10_ : (a3_0 / 2 ^ min (ji8).toNat 32) = ji10 := hji10
          have hji10z : (ji8) ≤ 32 → (a3_0 / 2 ^ (ji8).toNat) = ji10 := shr_small hji10
          obtain rfl := Option.some.inj H
          have hnb11 := NB1_2.out
          have hnc11 := NB2_1.out
          have hnb12 := NB1_3.out
          have hnc12 := NB3_1.out
          have hcz13_0 : w.cell? ⟨g1, 0, none⟩ = some (.int .i64 a1_0) := (blk_cell BK1.out 0).trans rfl
          have hcz13_1 : w.cell? ⟨g1, 1, none⟩ = some (.int .i64 a1_1) := (blk_cell BK1.out 1).trans rfl
          have hcz13_2 : w.cell? ⟨g1, 2, none⟩ = some (.int .i64 a1_2) := (blk_cell BK1.out 2).trans rfl
          have hcz13_3 : w.cell? ⟨g1, 3, none⟩ = some (.slice A1_3 l1_3.length c1_3) := (blk_cell BK1.out 3).trans rfl
          have hfz13_0 := blk_frozen BK1.out 0
          have hfz13_1 := blk_frozen BK1.out 1
          have hfz13_2 := blk_frozen BK1.out 2
          have hfz13_3 := blk_frozen BK1.out 3
          have hnb14 := NB2_3.out
          have hnc14 := NB3_2.out
          have hcz15_0 : w.cell? ⟨g2, 0, none⟩ = some (.bool true) := (blk_cell BK2.out 0).trans rfl
          have hfz15_0 := blk_frozen BK2.out 0
          have hcz16_0 : w.cell? ⟨g3, 0, none⟩ = some (.int .u32 a3_0) := (blk_cell BK3.out 0).trans rfl
          have hfz16_0 := blk_frozen BK3.out 0
          go_enter Try.func71, Try.ntmps71
          go_wp2
          go_ret
          exact ⟨by first | rfl | (simp; done) | (simp only [← hji8, ← hji10] <;> (first | rfl | simp)) | (simp [*]; done), by repeat (first | exact Drawn0.refl _ | apply Drawn0.step)⟩
        · rw [if_neg c9] at H
          exact absurd H (by simp)
      · rw [if_neg c7] at H
        have c7b0 : decide (a1_0 ≤ a0) = false := decide_eq_false c7
        clear c7
        obtain rfl := Option.some.inj H
        have hnb17 := NB1_2.out
        have hnc17 := NB2_1.out
        have hnb18 := NB1_3.out
        have hnc18 := NB3_1.out
        have hcz19_0 : w.cell? ⟨g1, 0, none⟩ = some (.int .i64 a1_0) := (blk_cell BK1.out 0).trans rfl
        have hcz19_1 : w.cell? ⟨g1, 1, none⟩ = some (.int .i64 a1_1) := (blk_cell BK1.out 1).trans rfl
        have hcz19_2 : w.cell? ⟨g1, 2, none⟩ = some (.int .i64 a1_2) := (blk_cell BK1.out 2).trans rfl
        have hcz19_3 : w.cell? ⟨g1, 3, none⟩ = some (.slice A1_3 l1_3.length c1_3) := (blk_cell BK1.out 3).trans rfl
        have hfz19_0 := blk_frozen BK1.out 0
        have hfz19_1 := blk_frozen BK1.out 1
        have hfz19_2 := blk_frozen BK1.out 2
        have hfz19_3 := blk_frozen BK1.out 3
        have hnb20 := NB2_3.out
        have hnc20 := NB3_2.out
        have hcz21_0 : w.cell? ⟨g2, 0, none⟩ = some (.bool true) := (blk_cell BK2.out 0).trans rfl
        have hfz21_0 := blk_frozen BK2.out 0
        go_enter Try.func71, Try.ntmps71
        go_wp2
        go_ret
        exact ⟨by first | rfl | (simp; done) | (simp [*]; done), by repeat (first | exact Drawn0.refl _ | apply Drawn0.step)⟩
    · replace c6 := Bool.eq_false_iff.mpr c6
      subst c6
      have H1 : (some true) = some r := by rw [if_neg (show ¬ (false = true) by decide)] at H; exact H
      clear H
      have H := H1
      clear H1
      obtain rfl := Option.some.inj H
      have hnb22 := NB1_2.out
      have hnc22 := NB2_1.out
      have hnb23 := NB1_3.out
      have hnc23 := NB3_1.out
      have hcz24_0 : w.cell? ⟨g1, 0, none⟩ = some (.int .i64 a1_0) := (blk_cell BK1.out 0).trans rfl
      have hcz24_1 : w.cell? ⟨g1, 1, none⟩ = some (.int .i64 a1_1) := (blk_cell BK1.out 1).trans rfl
      have hcz24_2 : w.cell? ⟨g1, 2, none⟩ = some (.int .i64 a1_2) := (blk_cell BK1.out 2).trans rfl
      have hcz24_3 : w.cell? ⟨g1, 3, none⟩ = some (.slice A1_3 l1_3.length c1_3) := (blk_cell BK1.out 3).trans rfl
      have hfz24_0 := blk_frozen BK1.out 0
      have hfz24_1 := blk_frozen BK1.out 1
      have hfz24_2 := blk_frozen BK1.out 2
      have hfz24_3 := blk_frozen BK1.out 3
      have hnb25 := NB2_3.out
      have hnc25 := NB3_2.out
      have hcz26_0 : w.cell? ⟨g2, 0, none⟩ = some (.bool false) := (blk_cell BK2.out 0).trans rfl
      have hfz26_0 := blk_frozen BK2.out 0
      go_enter Try.func71, Try.ntmps71
      go_wp2
      go_ret
      exact ⟨by first | rfl | (simp; done) | (simp [*]; done), by repeat (first | exact Drawn0.refl _ | apply Drawn0.step)⟩
  · rw [if_neg c5] at H
    have c5b0 : decide (a0 < a1_0) = false := decide_eq_false c5
    clear c5
    by_cases c27 : a0 ≥ a1_0
    · rw [if_pos c27] at H
      have c27b0 : decide (a1_0 ≤ a0) = true := decide_eq_true c27
      clear c27
      obtain ⟨ji28, hji28⟩ : ∃ j_ : Int, (wrap64 (a0 - a1_0)) = j_ := ⟨_, rfl⟩
      replace H : (if 0 ≤ (ji28) then (some ((Go.bits .and .u32 (shr .u32 a3_0 (ji28)) 1) == 0)) else (none)) = some r := by first | (rw [hji28] at H; exact H) | (simp only [hji28] at H ⊢; exact H)
      have hji28w : (IntKind.i64.wrap (a0 - a1_0)) = ji28 := (i64_w _).trans hji28
      by_cases c29 : 0 ≤ (ji28)
      · rw [if_pos c29] at H
        have c29b0 := eq_true c29
        have c29b1 : decide (0 ≤ (ji28)) = true := decide_eq_true c29
        clear c29
        obtain ⟨ji30, hji30⟩ : ∃ j_ : Int, (shr .u32 a3_0 (ji28)) = j_ := ⟨_, rfl⟩
        replace H : (some ((Go.bits .and .u32 (ji30) 1) == 0)) = some r := by first | (rw [hji30] at H; exact H) | (simp only [hji30] at H ⊢; exact H)
        have hji30_ : (a3_0 / 2 ^ min (ji28).toNat 32) = ji30 := hji30
        have hji30z : (ji28) ≤ 32 → (a3_0 / 2 ^ (ji28).toNat) = ji30 := shr_small hji30
        obtain rfl := Option.some.inj H
        have hnb31 := NB1_2.out
        have hnc31 := NB2_1.out
        have hnb32 := NB1_3.out
        have hnc32 := NB3_1.out
        have hcz33_0 : w.cell? ⟨g1, 0, none⟩ = some (.int .i64 a1_0) := (blk_cell BK1.out 0).trans rfl
        have hcz33_1 : w.cell? ⟨g1, 1, none⟩ = some (.int .i64 a1_1) := (blk_cell BK1.out 1).trans rfl
        have hcz33_2 : w.cell? ⟨g1, 2, none⟩ = some (.int .i64 a1_2) := (blk_cell BK1.out 2).trans rfl
        have hcz33_3 : w.cell? ⟨g1, 3, none⟩ = some (.slice A1_3 l1_3.length c1_3) := (blk_cell BK1.out 3).trans rfl
        have hfz33_0 := blk_frozen BK1.out 0
        have hfz33_1 := blk_frozen BK1.out 1
        have hfz33_2 := blk_frozen BK1.out 2
        have hfz33_3 := blk_frozen BK1.out 3
        have hnb34 := NB3_2.out
        have hnc34 := NB2_3.out
        have hcz35_0 : w.cell? ⟨g3, 0, none⟩ = some (.int .u32 a3_0) := (blk_cell BK3.out 0).trans rfl
        have hfz35_0 := blk_frozen BK3.out 0
        go_enter Try.func71, Try.ntmps71
        go_wp2
        go_ret
        exact ⟨by first | rfl | (simp; done) | (simp only [← hji28, ← hji30] <;> (first | rfl | simp)) | (simp [*]; done), by repeat (first | exact Drawn0.refl _ | apply Drawn0.step)⟩
      · rw [if_neg c29] at H
        exact absurd H (by simp)
    · rw [if_neg c27] at H
      have c27b0 : decide (a1_0 ≤ a0) = false := decide_eq_false c27
      clear c27
      obtain rfl := Option.some.inj H
      have hnb36 := NB1_2.out
      have hnc36 := NB2_1.out
      have hnb37 := NB1_3.out
      have hnc37 := NB3_1.out
      have hcz38_0 : w.cell? ⟨g1, 0, none⟩ = some (.int .i64 a1_0) := (blk_cell BK1.out 0).trans rfl
      have hcz38_1 : w.cell? ⟨g1, 1, none⟩ = some (.int .i64 a1_1) := (blk_cell BK1.out 1).trans rfl
      have hcz38_2 : w.cell? ⟨g1, 2, none⟩ = some (.int .i64 a1_2) := (blk_cell BK1.out 2).trans rfl
      have hcz38_3 : w.cell? ⟨g1, 3, none⟩ = some (.slice A1_3 l1_3.length c1_3) := (blk_cell BK1.out 3).trans rfl
      have hfz38_0 := blk_frozen BK1.out 0
      have hfz38_1 := blk_frozen BK1.out 1
      have hfz38_2 := blk_frozen BK1.out 2
      have hfz38_3 := blk_frozen BK1.out 3
      go_enter Try.func71, Try.ntmps71
      go_wp2
      go_ret
      exact ⟨by first | rfl | (simp; done) | (simp [*]; done), by repeat (first | exact Drawn0.refl _ | apply Drawn0.step)⟩
def grammar_Least_1_any.f (l0 : List Int) (a1_0 : Int) (a1_1 : Int) (a1_2 : Int) (l1_3 : List (S38)) (a2_0 : Bool) (a3_0 : Int) : Option Bool := anyO (fun x : Int => grammar_Least_1.f x a1_0 a1_1 a1_2 l1_3 a2_0 a3_0) l0
set_option maxHeartbeats 8000000 in
set_option maxRecDepth 100000 in
theorem grammar_Least_1_any.calls (A0 : Option Addr) (c0 : Nat) (l0 : List Int) (a1_0 : Int) (a1_1 : Int) (a1_2 : Int) (A1_3 : Option Addr) (c1_3 : Nat) (l1_3 : List (S38)) (g1 : Nat) (a2_0 : Bool) (g2 : Nat) (a3_0 : Int) (g3 : Nat) (r : Bool) (w : World) (hr0 : Kd.C (Kd.int .i64) w A0 l0.length l0) (hc0 : l0.length ≤ c0) (hr1_3 : Kd.C k38 w A1_3 l1_3.length l1_3) (hc1_3 : l1_3.length ≤ c1_3) (hbk1 : w.heap[g1]? = some (.cells #[.int .i64 a1_0, .int .i64 a1_1, .int .i64 a1_2, .slice A1_3 l1_3.length c1_3] 24 (0, 0))) (hbk2 : w.heap[g2]? = some (.cells #[.bool a2_0] 4 (0, 0))) (hbk3 : w.heap[g3]? = some (.cells #[.int .u32 a3_0] 28 (0, 0))) (hnb1_2 : g1 ≠ g2) (hnb1_3 : g1 ≠ g3) (hnb2_3 : g2 ≠ g3) (h : grammar_Least_1_any.f l0 a1_0 a1_1 a1_2 l1_3 a2_0 a3_0 = some r) :
    Calls Try.prog 69 #[.slice A0 l0.length c0, .func (.func 71) #[] #[.pointer (some ⟨g1, 0, none⟩), .pointer (some ⟨g2, 0, none⟩), .pointer (some ⟨g3, 0, none⟩)]] w fun e w' => e = .returned (.bool r) ∧ Below w.heap.size w w' := by
  refine slices_ContainsFunc_Sint_int.anyO (fun x : Int => grammar_Least_1.f x a1_0 a1_1 a1_2 l1_3 a2_0 a3_0) 71 #[.pointer (some ⟨g1, 0, none⟩), .pointer (some ⟨g2, 0, none⟩), .pointer (some ⟨g3, 0, none⟩)] (enters_of Try.func71 (by kernel_rfl) rfl) A0 c0 l0 w r h hr0 ?_
  intro W x cs b hx hB hK hp
  obtain rfl := hK
  refine (grammar_Least_1.calls x a1_0 a1_1 a1_2 A1_3 c1_3 l1_3 g1 a2_0 g2 a3_0 g3 b W  (Kd.C_below hr1_3 hB) hc1_3 (blk_below hbk1 hB) (blk_below hbk2 hB) (blk_below hbk3 hB) hnb1_2 hnb1_3 hnb2_3 hp).mono ?_
  rintro e w' ⟨rfl, h2⟩
  exact ⟨rfl, below_step hB h2.below⟩
end Go.Proofs.Ytnjfcbhbebokeaa.PAheadFollows
