-- Written by a program of this session: a turn of the print kit's own.
import Derived.Test.YtdbomblcijejcaaPStorePacksx0
namespace Go.Proofs.Ytdbomblcijejcaa.PStorePacks
open Go.RowKit Go.Proofs.YtdbomblcijejcaaW.PrintWords Go.Proofs.YtdbomblcijejcaaW.PrintLast Go.Proofs.YtdbomblcijejcaaW.PrintMore
attribute [local go_sem] max2_int min2_int max_two min_two max_three min_three max_four min_four   -- for this text's walks alone
set_option linter.unusedVariables false
set_option linter.unusedSimpArgs false

/-! ### store_numbers: function 14 -/
mutual
def store_numbers.l0 : Nat → List Int → List (S40) → Int → Int → Option (List Int)
  | 0, _, _, _, _ => none
  | k + 1, x3, x15, x16, x17 => if x17 < x16 then (if 0 ≤ x17 then (if x17 < (x15.length : Int) then ((some (([(rd_T40 x15 x17).f0, (rd_T40 x15 x17).f1, (rd_T40 x15 x17).f2, (((rd_T40 x15 x17).f3).length : Int)] : List Int) : List Int)).bind fun y107 => (if x3.length + y107.length < 17592186044416 then (store_numbers.l1 k (x3 ++ y107) x15 x16 x17 ((rd_T40 x15 x17).f3) (((rd_T40 x15 x17).f3).length : Int) 0) else (none))) else (none)) else (none)) else (some x3)
def store_numbers.l1 : Nat → List Int → List (S40) → Int → Int → List (List Int) → Int → Int → Option (List Int)
  | 0, _, _, _, _, _, _, _ => none
  | k + 1, x3, x15, x16, x17, x34, x35, x36 => if x36 < x35 then (if 0 ≤ x36 then (if x36 < (x34.length : Int) then (if x3.length < 17592186044416 then ((some (x3 ++ [((rd_L1 x34 x36).length : Int)] : List Int)).bind fun y114 => (if y114.length + (rd_L1 x34 x36).length < 17592186044416 then (store_numbers.l1 k (y114 ++ (rd_L1 x34 x36)) x15 x16 x17 x34 x35 (wrap64 (x36 + 1))) else (none))) else (none)) else (none)) else (none)) else (store_numbers.l0 k x3 x15 x16 (wrap64 (x17 + 1)))
end
def store_numbers.f (k : Nat) (l0_0 : List (S40)) (a0_1 : Int) : Option (List Int) := store_numbers.l0 k (([a0_1, (l0_0.length : Int)] : List Int)) l0_0 (l0_0.length : Int) 0
theorem store_numbers.mono_l : ∀ k, (∀ y0 y1 y2 y3, LeO (store_numbers.l0 k y0 y1 y2 y3) (store_numbers.l0 (k + 1) y0 y1 y2 y3)) ∧ (∀ y0 y1 y2 y3 y4 y5 y6, LeO (store_numbers.l1 k y0 y1 y2 y3 y4 y5 y6) (store_numbers.l1 (k + 1) y0 y1 y2 y3 y4 y5 y6))
  | 0 => ⟨fun _ _ _ _ r h => by simp [store_numbers.l0] at h, fun _ _ _ _ _ _ _ r h => by simp [store_numbers.l1] at h⟩
  | k + 1 => by
    obtain ⟨ih0, ih1⟩ := store_numbers.mono_l k
    refine ⟨?_, ?_⟩
    · intro y0 y1 y2 y3
      unfold store_numbers.l0
      repeat' first
      | (with_reducible exact ih0 _ _ _ _)
      | (with_reducible exact ih1 _ _ _ _ _ _ _)
      | (with_reducible exact LeO.refl _)
      | (with_reducible exact LeO.none _)
      | (with_reducible refine LeO.ite ?_ ?_)
      | (with_reducible refine LeO.bind ?_ (fun _ => ?_))
      | exact ih0 _ _ _ _
      | exact ih1 _ _ _ _ _ _ _
      | exact LeO.none _
      | refine LeO.ite ?_ ?_
      | refine LeO.bind ?_ (fun _ => ?_)
    · intro y0 y1 y2 y3 y4 y5 y6
      unfold store_numbers.l1
      repeat' first
      | (with_reducible exact ih0 _ _ _ _)
      | (with_reducible exact ih1 _ _ _ _ _ _ _)
      | (with_reducible exact LeO.refl _)
      | (with_reducible exact LeO.none _)
      | (with_reducible refine LeO.ite ?_ ?_)
      | (with_reducible refine LeO.bind ?_ (fun _ => ?_))
      | exact ih0 _ _ _ _
      | exact ih1 _ _ _ _ _ _ _
      | exact LeO.none _
      | refine LeO.ite ?_ ?_
      | refine LeO.bind ?_ (fun _ => ?_)
theorem store_numbers.mono : ∀ a0 a1 k, LeO (store_numbers.f k a0 a1) (store_numbers.f (k + 1) a0 a1) := by
  intro a0 a1 k
  obtain ⟨ih0, ih1⟩ := store_numbers.mono_l k
  unfold store_numbers.f
  repeat' first
      | (with_reducible exact ih0 _ _ _ _)
      | (with_reducible exact ih1 _ _ _ _ _ _ _)
      | (with_reducible exact LeO.refl _)
      | (with_reducible exact LeO.none _)
      | (with_reducible refine LeO.ite ?_ ?_)
      | (with_reducible refine LeO.bind ?_ (fun _ => ?_))
      | exact ih0 _ _ _ _
      | exact ih1 _ _ _ _ _ _ _
      | exact LeO.none _
      | refine LeO.ite ?_ ?_
      | refine LeO.bind ?_ (fun _ => ?_)
set_option maxHeartbeats 8000000 in
set_option maxRecDepth 100000 in
theorem store_numbers.calls (k : Nat) (A0_0 : Option Addr) (c0_0 : Nat) (l0_0 : List (S40)) (a0_1 : Int) (r : List Int) (w : World) (hr0_0 : Kd.C k40 w A0_0 l0_0.length l0_0) (hc0_0 : l0_0.length ≤ c0_0) (h : store_numbers.f k l0_0 a0_1 = some r) :
    Calls Try.prog 14 #[.agg #[.slice A0_0 l0_0.length c0_0, .int .i64 a0_1]] w fun e w' => ∃ v0_ : Value, e = .returned (v0_) ∧ Kd.R (Kd.int .i64) 3 w' w.heap.size (fun _ => True) v0_ r ∧ Below w.heap.size w w' := by
  have hu24 := Try.underlying24
  have hu40 := Try.underlying40
  have HR0_0 := Aside0.mk hr0_0
  have HC0_0 := Aside0.mk hc0_0
  clear hr0_0 hc0_0
  have HB := Aside0.mk (Below.refl w.heap.size w)
  have H : (store_numbers.l0 k (([a0_1, (l0_0.length : Int)] : List Int)) l0_0 (l0_0.length : Int) 0) = some r := h
  clear h
  obtain ⟨y102, hy102⟩ : ∃ y_ : List Int, y_ = (([a0_1, (l0_0.length : Int)] : List Int)) := ⟨_, rfl⟩
  replace H : (store_numbers.l0 k y102 l0_0 (l0_0.length : Int) 0) = some r := by first | (rw [hy102]; with_reducible exact H) | (have H2_ := (Option.bind_some _ _).symm.trans H; rw [hy102]; with_reducible exact H2_) | (have H2_ := (Option.bind_some _ _).symm.trans H; with_reducible exact H2_) | with_reducible exact H | (rw [hy102]; exact H) | exact H
  have Ny102 := Aside0.mk hy102
  clear hy102
  have H' := Aside0.mk H
  clear H
  go_enter Try.func14, Try.ntmps14
  go_wp2_with (first | ((with_reducible refine gate_dst (N := 1) rfl ?_); refine box_event ?hg (N := 1) ?hd (cs := #[.slice A0_0 l0_0.length c0_0, .int .i64 a0_1]) (t := 24) ?hr ?_; (case hd => rfl); (case hg => rfl); (case hr => first | (go_simp; done) | (go_simp; rfl)); intro gb101 hg w2 hbox hb; have n0_ := Aside0.mk (below_step (by repeat (first | (with_reducible first | exact HB.out | apply below_alloc | apply pw_below_drewN | apply below_drew1) | exact HB.out)) hb); have n1_ := Aside0.mk (hbox); have n2_ := Aside0.mk ((by rw [hg]; exact (below_size (by repeat (first | (with_reducible first | exact HB.out | apply below_alloc | apply pw_below_drewN | apply below_drew1) | exact HB.out))) : w.heap.size ≤ gb101)); have n3_ := Aside0.mk ((by rw [hg]; exact (below_size (by repeat (first | (with_reducible first | exact HB.out | apply below_alloc | apply pw_below_drewN | apply below_drew1) | exact HB.out))) : w.heap.size ≤ gb101)); clear HB; have HB := n0_; have BK101 := n1_; have GW101 := n2_; have GE101 := n3_; clear n0_ n1_ n2_ n3_; clear hb hbox hg; have hcz3_0 : w2.cell? ⟨gb101, 0, none⟩ = some (.slice A0_0 l0_0.length c0_0) := (blk_cell BK101.out 0).trans rfl; have hcz3_1 : w2.cell? ⟨gb101, 1, none⟩ = some (.int .i64 a0_1) := (blk_cell BK101.out 1).trans rfl; have hfz3_0 := blk_frozen BK101.out 0; have hfz3_1 := blk_frozen BK101.out 1) | ((with_reducible refine gate_dst (N := 13) rfl ?_); refine Kd.R_lit (Kd.int .i64) _ 3 ?hg (N := 13) ?hd (xs := ([a0_1, (l0_0.length : Int)] : List Int)) (inner := [.int .i64 a0_1, .int .i64 (l0_0.length : Int)]) (ok := fun _ => True) (okp := fun _ => True) ?hr ?hp (fun _ hk => hk) trivial (Below.refl _ _) (Nat.le_refl _) (by simp) ?_; (case hd => rfl); (case hg => rfl); (case hr => first | (go_simp; done) | (go_simp; rfl)); (case hp => exact (Reps.one (show Kd.M (Kd.int .i64) _ _ _ a0_1 [.int .i64 a0_1] from rfl) (Reps.one (show Kd.M (Kd.int .i64) _ _ _ (l0_0.length : Int) [.int .i64 (l0_0.length : Int)] from rfl) (Reps.none _ _)))); intro v103 w4 ho5 hb hg_ hnew_; clear hg_ hnew_; (first | rw [← Ny102.out] at ho5 | (simp only [Int.reduceToNat] at ho5; rw [← Ny102.out] at ho5)); have n0_ := Aside0.mk (Kd.R_lower ho5 (below_size (by repeat (first | (with_reducible first | exact HB.out | apply below_alloc | apply pw_below_drewN | apply below_drew1 | refine below_set ?_ GE101.out) | exact HB.out)))); have n1_ := Aside0.mk (blk_below (g := gb101) (o := .cells #[.slice A0_0 l0_0.length c0_0, .int .i64 a0_1] 24 (0, 0)) (by (with_reducible repeat (first | refine blk_drewN ?_ _ | refine blk_drew ?_ | refine blk_alloc ?_ _)); exact BK101.out) hb); have n2_ := Aside0.mk (below_step (by repeat (first | (with_reducible first | exact HB.out | apply below_alloc | apply pw_below_drewN | apply below_drew1 | refine below_set ?_ GE101.out) | exact HB.out)) hb); clear BK101; clear HB; have HO104 := n0_; have BK101 := n1_; have HB := n2_; clear n0_ n1_ n2_; clear hb ho5; have hcz6_0 : w4.cell? ⟨gb101, 0, none⟩ = some (.slice A0_0 l0_0.length c0_0) := (blk_cell BK101.out 0).trans rfl; have hcz6_1 : w4.cell? ⟨gb101, 1, none⟩ = some (.int .i64 a0_1) := (blk_cell BK101.out 1).trans rfl; have hfz6_0 := blk_frozen BK101.out 0; have hfz6_1 := blk_frozen BK101.out 1))
  go_loopg [3, 17] k (fun kq v3 v17 w' => ∃ (x3_1 : List Int) (x17_1 : Int), v17 = .int .i64 x17_1 ∧ Aside0 (store_numbers.l0 kq x3_1 l0_0 (l0_0.length : Int) x17_1 = some r) ∧ Aside0 (kq ≤ k) ∧ Aside0 (Kd.R (Kd.int .i64) 3 w' w.heap.size (fun _ => True) v3 x3_1) ∧ Aside0 (w'.heap[gb101]? = some (.cells #[(.slice A0_0 l0_0.length c0_0), .int .i64 a0_1] 24 (0, 0))) ∧ Aside0 (Below w.heap.size w w'))
  case atStart => exact ⟨(y102), (0), (by first | rfl | (simp; done) | (simp [*]; done)), H', ⟨Nat.le_refl _⟩, ⟨by (with_reducible repeat (first | apply Kd.R_alloc | apply Kd.R_drewN | apply Kd.R_drew)); exact HO104.out⟩, ⟨by (with_reducible repeat (first | refine blk_drewN ?_ _ | refine blk_drew ?_ | refine blk_alloc ?_ _)); exact BK101.out⟩, ⟨by repeat (first | (with_reducible first | exact HB.out | apply below_alloc | apply pw_below_drewN | apply below_drew1 | refine below_set ?_ GE101.out) | exact HB.out)⟩⟩
  case round =>
    clear H'
    try clear c1
    try clear p2
    try clear hcz3_0
    try clear hcz3_1
    try clear hcz6_0
    try clear hcz6_1
    try clear hfz3_0
    try clear hfz3_1
    try clear hfz6_0
    try clear hfz6_1
    obtain ⟨x3_1, x17_1, rfl, HA, HK1, HO_3, BK101, HB⟩ := hrel
    cases gk with
    | zero => exact absurd HA.out (by simp [store_numbers.l0])
    | succ k1 =>
      have H := HA.out
      clear HA
      simp only [store_numbers.l0] at H
      by_cases c7 : x17_1 < (l0_0.length : Int)
      · rw [if_pos c7] at H
        have c7b0 : decide (x17_1 < (l0_0.length : Int)) = true := decide_eq_true c7
        clear c7
        by_cases c8 : 0 ≤ x17_1
        · rw [if_pos c8] at H
          have c8b0 : decide (0 ≤ x17_1) = true := decide_eq_true c8
          clear c8
          by_cases c9 : x17_1 < (l0_0.length : Int)
          · rw [if_pos c9] at H
            have c9b0 : decide (x17_1 < (l0_0.length : Int)) = true := decide_eq_true c9
            clear c9
            obtain ⟨y107, hy107⟩ : ∃ y_ : List Int, y_ = (([(rd_T40 l0_0 x17_1).f0, (rd_T40 l0_0 x17_1).f1, (rd_T40 l0_0 x17_1).f2, (((rd_T40 l0_0 x17_1).f3).length : Int)] : List Int)) := ⟨_, rfl⟩
            replace H : (if x3_1.length + y107.length < 17592186044416 then (store_numbers.l1 k1 (x3_1 ++ y107) l0_0 (l0_0.length : Int) x17_1 ((rd_T40 l0_0 x17_1).f3) (((rd_T40 l0_0 x17_1).f3).length : Int) 0) else (none)) = some r := by first | (rw [hy107]; with_reducible exact H) | (have H2_ := (Option.bind_some _ _).symm.trans H; rw [hy107]; with_reducible exact H2_) | (have H2_ := (Option.bind_some _ _).symm.trans H; with_reducible exact H2_) | with_reducible exact H | (rw [hy107]; exact H) | exact H
            have Ny107 := Aside0.mk hy107
            clear hy107
            by_cases c10 : x3_1.length + y107.length < 17592186044416
            · rw [if_pos c10] at H
              have LMc10 := Aside0.mk c10
              clear c10
              obtain ⟨y110, hy110⟩ : ∃ y_ : List Int, y_ = (x3_1 ++ y107) := ⟨_, rfl⟩
              replace H : (store_numbers.l1 k1 y110 l0_0 (l0_0.length : Int) x17_1 ((rd_T40 l0_0 x17_1).f3) (((rd_T40 l0_0 x17_1).f3).length : Int) 0) = some r := by first | (rw [hy110]; with_reducible exact H) | (have H2_ := (Option.bind_some _ _).symm.trans H; rw [hy110]; with_reducible exact H2_) | (have H2_ := (Option.bind_some _ _).symm.trans H; with_reducible exact H2_) | with_reducible exact H | (rw [hy110]; exact H) | exact H
              have Ny110 := Aside0.mk hy110
              clear hy110
              have H' := Aside0.mk H
              clear H
              have p105 : 0 ≤ (x17_1 : Int) := of_decide_eq_true (by first | (with_reducible assumption) | assumption)
              have q105 : x17_1 < (l0_0.length : Int) := of_decide_eq_true (by first | (with_reducible assumption) | assumption)
              obtain ⟨ad105, A105_3, c105_3, e105, hx105_0, hx105_1, hx105_2, hx105_3, hl105_3, hi105_3⟩ := at_T40 HR0_0.out x17_1 p105 q105
              cases e105
              replace hx105_0 := (HB.out.cell (World.block_lt_of_cell? w _ hx105_0)).trans hx105_0
              replace hx105_1 := (HB.out.cell (World.block_lt_of_cell? w _ hx105_1)).trans hx105_1
              replace hx105_2 := (HB.out.cell (World.block_lt_of_cell? w _ hx105_2)).trans hx105_2
              replace hx105_3 := (HB.out.cell (World.block_lt_of_cell? w _ hx105_3)).trans hx105_3
              have HR105_3 := Aside0.mk hi105_3
              have HC105_3 := Aside0.mk hl105_3
              clear hi105_3 hl105_3
              replace p105 := eq_true p105
              replace q105 := eq_true q105
              go_wp2_with (first | ((with_reducible refine gate_dst (N := 5) rfl ?_); refine box_event ?hg (N := 5) ?hd (cs := #[.int .i64 0, .int .i64 0, .int .i64 0, .slice none 0 0]) (t := 40) ?hr ?_; (case hd => rfl); (case hg => rfl); (case hr => first | (go_simp; done) | (go_simp; rfl)); intro gb106 hg w11 hbox hb; have n0_ := Aside0.mk (Kd.R_below (by (with_reducible repeat (first | apply Kd.R_alloc | apply Kd.R_drewN | apply Kd.R_drew)); exact HO_3.out) hb); have n1_ := Aside0.mk (blk_below (g := gb101) (o := .cells #[.slice (some ad105) l0_0.length c0_0, .int .i64 a0_1] 24 (0, 0)) (by (with_reducible repeat (first | refine blk_drewN ?_ _ | refine blk_drew ?_ | refine blk_alloc ?_ _)); exact BK101.out) hb); have n2_ := Aside0.mk (below_step (by repeat (first | (with_reducible first | exact HB.out | apply below_alloc | apply pw_below_drewN | apply below_drew1 | refine below_set ?_ GE101.out) | exact HB.out)) hb); have n3_ := Aside0.mk (hbox); have n4_ := Aside0.mk ((by rw [hg]; exact (below_size (by repeat (first | (with_reducible first | exact HB.out | apply below_alloc | apply pw_below_drewN | apply below_drew1 | refine below_set ?_ GE101.out) | exact HB.out))) : w.heap.size ≤ gb106)); have n5_ := Aside0.mk ((by rw [hg]; exact (below_size (by repeat (first | (with_reducible first | exact HB.out | apply below_alloc | apply pw_below_drewN | apply below_drew1 | refine below_set ?_ GE101.out) | exact HB.out))) : w.heap.size ≤ gb106)); have n6_ := Aside0.mk ((by rw [hg]; exact Nat.ne_of_lt (blk_lt (g := gb101) (o := .cells #[.slice (some ad105) l0_0.length c0_0, .int .i64 a0_1] 24 (0, 0)) (by (with_reducible repeat (first | refine blk_drewN ?_ _ | refine blk_drew ?_ | refine blk_alloc ?_ _)); exact BK101.out)) : gb101 ≠ gb106)); have n7_ := Aside0.mk ((by rw [hg]; exact Nat.ne_of_gt (blk_lt (g := gb101) (o := .cells #[.slice (some ad105) l0_0.length c0_0, .int .i64 a0_1] 24 (0, 0)) (by (with_reducible repeat (first | refine blk_drewN ?_ _ | refine blk_drew ?_ | refine blk_alloc ?_ _)); exact BK101.out)) : gb106 ≠ gb101)); clear HO_3; clear BK101; clear HB; have HO_3 := n0_; have BK101 := n1_; have HB := n2_; have BK106 := n3_; have GW106 := n4_; have GE106 := n5_; have NB101_106 := n6_; have NB106_101 := n7_; clear n0_ n1_ n2_ n3_ n4_ n5_ n6_ n7_; clear hb hbox hg; have hnb12 := NB106_101.out; have hnc12 := NB101_106.out; have hcz13_0 : w11.cell? ⟨gb106, 0, none⟩ = some (.int .i64 0) := (blk_cell BK106.out 0).trans rfl; have hcz13_1 : w11.cell? ⟨gb106, 1, none⟩ = some (.int .i64 0) := (blk_cell BK106.out 1).trans rfl; have hcz13_2 : w11.cell? ⟨gb106, 2, none⟩ = some (.int .i64 0) := (blk_cell BK106.out 2).trans rfl; have hcz13_3 : w11.cell? ⟨gb106, 3, none⟩ = some (.slice none 0 0) := (blk_cell BK106.out 3).trans rfl; have hfz13_0 := blk_frozen BK106.out 0; have hfz13_1 := blk_frozen BK106.out 1; have hfz13_2 := blk_frozen BK106.out 2; have hfz13_3 := blk_frozen BK106.out 3) | ((with_reducible refine gate_dst (N := 31) rfl ?_); refine Kd.R_lit (Kd.int .i64) _ 3 ?hg (N := 31) ?hd (xs := ([(rd_T40 l0_0 x17_1).f0, (rd_T40 l0_0 x17_1).f1, (rd_T40 l0_0 x17_1).f2, (((rd_T40 l0_0 x17_1).f3).length : Int)] : List Int)) (inner := [.int .i64 ((rd_T40 l0_0 x17_1).f0), .int .i64 ((rd_T40 l0_0 x17_1).f1), .int .i64 ((rd_T40 l0_0 x17_1).f2), .int .i64 (((rd_T40 l0_0 x17_1).f3).length : Int)]) (ok := fun _ => True) (okp := fun _ => True) ?hr ?hp (fun _ hk => hk) trivial (Below.refl _ _) (Nat.le_refl _) (by simp) ?_; (case hd => rfl); (case hg => rfl); (case hr => first | (go_simp; done) | (go_simp; rfl)); (case hp => exact (Reps.one (show Kd.M (Kd.int .i64) _ _ _ ((rd_T40 l0_0 x17_1).f0) [.int .i64 ((rd_T40 l0_0 x17_1).f0)] from rfl) (Reps.one (show Kd.M (Kd.int .i64) _ _ _ ((rd_T40 l0_0 x17_1).f1) [.int .i64 ((rd_T40 l0_0 x17_1).f1)] from rfl) (Reps.one (show Kd.M (Kd.int .i64) _ _ _ ((rd_T40 l0_0 x17_1).f2) [.int .i64 ((rd_T40 l0_0 x17_1).f2)] from rfl) (Reps.one (show Kd.M (Kd.int .i64) _ _ _ (((rd_T40 l0_0 x17_1).f3).length : Int) [.int .i64 (((rd_T40 l0_0 x17_1).f3).length : Int)] from rfl) (Reps.none _ _)))))); intro v108 w14 ho15 hb hg_ hnew_; clear hg_ hnew_; (first | rw [← Ny107.out] at ho15 | (simp only [Int.reduceToNat] at ho15; rw [← Ny107.out] at ho15)); have n0_ := Aside0.mk (Kd.R_elder' (by (with_reducible repeat (first | apply Kd.R_alloc | apply Kd.R_drewN | apply Kd.R_drew)); exact (Kd.R_mono (Kd.R_far (p := ⟨gb106, 3, none⟩) (Kd.R_far (p := ⟨gb106, 2, none⟩) (Kd.R_far (p := ⟨gb106, 1, none⟩) (Kd.R_far (p := ⟨gb106, 0, none⟩) (Kd.R_types HO_3.out BK106.out (by decide)) (fun _ hk => hk.2) (.int .i64 ((rd_T40 l0_0 x17_1).f0))) (fun _ hk => hk.2) (.int .i64 ((rd_T40 l0_0 x17_1).f1))) (fun _ hk => hk.2) (.int .i64 ((rd_T40 l0_0 x17_1).f2))) (fun _ hk => hk.2) (.slice A105_3 ((rd_T40 l0_0 x17_1).f3).length c105_3)) (fun _ h_ => h_.1))) (Kd.R_base ho15) hb); have n1_ := Aside0.mk (Kd.R_lower (Kd.R_new' ho15 (Kd.R_lt (by (with_reducible repeat (first | apply Kd.R_alloc | apply Kd.R_drewN | apply Kd.R_drew)); exact (Kd.R_mono (Kd.R_far (p := ⟨gb106, 3, none⟩) (Kd.R_far (p := ⟨gb106, 2, none⟩) (Kd.R_far (p := ⟨gb106, 1, none⟩) (Kd.R_far (p := ⟨gb106, 0, none⟩) (Kd.R_types HO_3.out BK106.out (by decide)) (fun _ hk => hk.2) (.int .i64 ((rd_T40 l0_0 x17_1).f0))) (fun _ hk => hk.2) (.int .i64 ((rd_T40 l0_0 x17_1).f1))) (fun _ hk => hk.2) (.int .i64 ((rd_T40 l0_0 x17_1).f2))) (fun _ hk => hk.2) (.slice A105_3 ((rd_T40 l0_0 x17_1).f3).length c105_3)) (fun _ h_ => h_.1))))) (below_size (by repeat (first | (with_reducible first | exact HB.out | apply below_alloc | apply pw_below_drewN | apply below_drew1 | refine below_set ?_ GE101.out | refine below_set ?_ GE106.out) | exact HB.out)))); have n2_ := Aside0.mk (blk_below (g := gb101) (o := .cells #[.slice (some ad105) l0_0.length c0_0, .int .i64 a0_1] 24 (0, 0)) (by (with_reducible repeat (first | refine blk_drewN ?_ _ | refine blk_drew ?_ | refine blk_alloc ?_ _)); refine blk_far ?_ NB101_106.out _; (with_reducible repeat (first | refine blk_drewN ?_ _ | refine blk_drew ?_ | refine blk_alloc ?_ _)); refine blk_far ?_ NB101_106.out _; (with_reducible repeat (first | refine blk_drewN ?_ _ | refine blk_drew ?_ | refine blk_alloc ?_ _)); refine blk_far ?_ NB101_106.out _; (with_reducible repeat (first | refine blk_drewN ?_ _ | refine blk_drew ?_ | refine blk_alloc ?_ _)); refine blk_far ?_ NB101_106.out _; (with_reducible repeat (first | refine blk_drewN ?_ _ | refine blk_drew ?_ | refine blk_alloc ?_ _)); exact BK101.out) hb); have n3_ := Aside0.mk (blk_below (g := gb106) (o := .cells #[.int .i64 ((rd_T40 l0_0 x17_1).f0), .int .i64 ((rd_T40 l0_0 x17_1).f1), .int .i64 ((rd_T40 l0_0 x17_1).f2), .slice A105_3 ((rd_T40 l0_0 x17_1).f3).length c105_3] 40 (0, 0)) (by (with_reducible repeat (first | refine blk_drewN ?_ _ | refine blk_drew ?_ | refine blk_alloc ?_ _)); refine blk_put (cs := #[.int .i64 ((rd_T40 l0_0 x17_1).f0), .int .i64 ((rd_T40 l0_0 x17_1).f1), .int .i64 ((rd_T40 l0_0 x17_1).f2), .slice none 0 0]) ?_ 3 _ rfl; (with_reducible repeat (first | refine blk_drewN ?_ _ | refine blk_drew ?_ | refine blk_alloc ?_ _)); refine blk_put (cs := #[.int .i64 ((rd_T40 l0_0 x17_1).f0), .int .i64 ((rd_T40 l0_0 x17_1).f1), .int .i64 0, .slice none 0 0]) ?_ 2 _ rfl; (with_reducible repeat (first | refine blk_drewN ?_ _ | refine blk_drew ?_ | refine blk_alloc ?_ _)); refine blk_put (cs := #[.int .i64 ((rd_T40 l0_0 x17_1).f0), .int .i64 0, .int .i64 0, .slice none 0 0]) ?_ 1 _ rfl; (with_reducible repeat (first | refine blk_drewN ?_ _ | refine blk_drew ?_ | refine blk_alloc ?_ _)); refine blk_put (cs := #[.int .i64 0, .int .i64 0, .int .i64 0, .slice none 0 0]) ?_ 0 _ rfl; (with_reducible repeat (first | refine blk_drewN ?_ _ | refine blk_drew ?_ | refine blk_alloc ?_ _)); exact BK106.out) hb); have n4_ := Aside0.mk (below_step (by repeat (first | (with_reducible first | exact HB.out | apply below_alloc | apply pw_below_drewN | apply below_drew1 | refine below_set ?_ GE101.out | refine below_set ?_ GE106.out) | exact HB.out)) hb); clear HO_3; clear BK101; clear BK106; clear HB; have HO_3 := n0_; have HO109 := n1_; have BK101 := n2_; have BK106 := n3_; have HB := n4_; clear n0_ n1_ n2_ n3_ n4_; clear hb ho15; obtain ⟨Ao17, co17, eo17⟩ := Kd.R_slice HO109.out; subst eo17) | ((with_reducible refine gate_builtin (b := .append) (xs := #[.tmp 21, .tmp 31]) rfl ?_); at_builtin; refine Kd.R_append_rows (Kd.int .i64) (w0 := w) w.heap.size rfl (.tmp 21) (.tmp 31) 28 3 (.int .i64 0) 8 rfl Try.underlying28 info3 rfl (by decide) (by omega) u3 x3_1 y107 _ _ _ (fun k_ => some k_ ≠ (.slice Ao17 y107.length co17 : Value).ownBlock) (fun _ => False) rfl rfl ?aO ?aR (fun _ _ h => h) (fun _ h => h.elim) ?aF ?aB ?aS ?aL ?_; (case aR => repeat (first | exact (Kd.R_reads' HO109.out).2.2 | (with_reducible refine Kd.C_alloc ?_ _) | (with_reducible refine Kd.C_drewN ?_ _) | (with_reducible refine Kd.C_drew ?_))); (case aB => exact (by repeat (first | (with_reducible first | exact HB.out | apply below_alloc | apply pw_below_drewN | apply below_drew1 | refine below_set ?_ GE101.out | refine below_set ?_ GE106.out) | exact HB.out))); (case aF => exact (fun k_ hk => Kd.fresh' (Kd.R_lt (by (with_reducible repeat (first | apply Kd.R_alloc | apply Kd.R_drewN | apply Kd.R_drew)); exact HO109.out)) k_ hk)); (case aO => exact (by (with_reducible repeat (first | apply Kd.R_alloc | apply Kd.R_drewN | apply Kd.R_drew)); exact Kd.R_mono HO_3.out (fun _ hk => hk.2))); (case aS => exact (below_size (by repeat (first | (with_reducible first | exact HB.out | apply below_alloc | apply pw_below_drewN | apply below_drew1 | refine below_set ?_ GE101.out | refine below_set ?_ GE106.out) | exact HB.out)))); (case aL => have := LMc10.out; omega); intro v111 w16 ho hb hg hat; rw [← Ny110.out] at ho; have n0_ := Aside0.mk (blk_grown (g := gb101) (o := .cells #[.slice (some ad105) l0_0.length c0_0, .int .i64 a0_1] 24 (0, 0)) (by (with_reducible repeat (first | refine blk_drewN ?_ _ | refine blk_drew ?_ | refine blk_alloc ?_ _)); exact BK101.out) hg (Kd.R_ne HO_3.out BK101.out (by decide))); have n1_ := Aside0.mk (blk_grown (g := gb106) (o := .cells #[.int .i64 ((rd_T40 l0_0 x17_1).f0), .int .i64 ((rd_T40 l0_0 x17_1).f1), .int .i64 ((rd_T40 l0_0 x17_1).f2), .slice A105_3 ((rd_T40 l0_0 x17_1).f3).length c105_3] 40 (0, 0)) (by (with_reducible repeat (first | refine blk_drewN ?_ _ | refine blk_drew ?_ | refine blk_alloc ?_ _)); exact BK106.out) hg (Kd.R_ne HO_3.out BK106.out (by decide))); have n2_ := Aside0.mk (Kd.R_after (ok := (fun _ => True)) (by (with_reducible repeat (first | apply Kd.R_alloc | apply Kd.R_drewN | apply Kd.R_drew)); exact HO109.out) hg hat); have n3_ := Aside0.mk (hb); have n4_ := Aside0.mk (ho); clear BK101; clear BK106; clear HO109; clear HB; clear HO_3; have BK101 := n0_; have BK106 := n1_; have HO109 := n2_; have HB := n3_; have HO112 := n4_; clear n0_ n1_ n2_ n3_ n4_; clear ho hb hg hat; have hcz18_0 : w16.cell? ⟨gb106, 0, none⟩ = some (.int .i64 ((rd_T40 l0_0 x17_1).f0)) := (blk_cell BK106.out 0).trans rfl; have hcz18_1 : w16.cell? ⟨gb106, 1, none⟩ = some (.int .i64 ((rd_T40 l0_0 x17_1).f1)) := (blk_cell BK106.out 1).trans rfl; have hcz18_2 : w16.cell? ⟨gb106, 2, none⟩ = some (.int .i64 ((rd_T40 l0_0 x17_1).f2)) := (blk_cell BK106.out 2).trans rfl; have hcz18_3 : w16.cell? ⟨gb106, 3, none⟩ = some (.slice A105_3 ((rd_T40 l0_0 x17_1).f3).length c105_3) := (blk_cell BK106.out 3).trans rfl; have hfz18_0 := blk_frozen BK106.out 0; have hfz18_1 := blk_frozen BK106.out 1; have hfz18_2 := blk_frozen BK106.out 2; have hfz18_3 := blk_frozen BK106.out 3))
              go_loopg [3, 36] k1 (fun kq v3 v36 w' => ∃ (x3_2 : List Int) (x36_2 : Int), v36 = .int .i64 x36_2 ∧ Aside0 (store_numbers.l1 kq x3_2 l0_0 (l0_0.length : Int) x17_1 ((rd_T40 l0_0 x17_1).f3) (((rd_T40 l0_0 x17_1).f3).length : Int) x36_2 = some r) ∧ Aside0 (kq ≤ k1) ∧ Aside0 (Kd.R (Kd.int .i64) 3 w' w.heap.size (fun _ => True) v3 x3_2) ∧ Aside0 (w'.heap[gb101]? = some (.cells #[(.slice (some ad105) l0_0.length c0_0), .int .i64 a0_1] 24 (0, 0))) ∧ Aside0 (w'.heap[gb106]? = some (.cells #[.int .i64 ((rd_T40 l0_0 x17_1).f0), .int .i64 ((rd_T40 l0_0 x17_1).f1), .int .i64 ((rd_T40 l0_0 x17_1).f2), (.slice A105_3 ((rd_T40 l0_0 x17_1).f3).length c105_3)] 40 (0, 0))) ∧ Aside0 (Below w.heap.size w w'))
              case atStart => exact ⟨(y110), (0), (by first | rfl | (simp; done) | (simp [*]; done)), H', ⟨Nat.le_refl _⟩, ⟨by (with_reducible repeat (first | apply Kd.R_alloc | apply Kd.R_drewN | apply Kd.R_drew)); exact Kd.R_mono HO112.out (fun _ hk => trivial)⟩, ⟨by (with_reducible repeat (first | refine blk_drewN ?_ _ | refine blk_drew ?_ | refine blk_alloc ?_ _)); exact BK101.out⟩, ⟨by (with_reducible repeat (first | refine blk_drewN ?_ _ | refine blk_drew ?_ | refine blk_alloc ?_ _)); exact BK106.out⟩, ⟨by repeat (first | (with_reducible first | exact HB.out | apply below_alloc | apply pw_below_drewN | apply below_drew1 | refine below_set ?_ GE101.out | refine below_set ?_ GE106.out) | exact HB.out)⟩⟩
              case round =>
                clear H'
                try clear c1
                try clear p1
                try clear q1
                try clear hx1
                try clear p2
                try clear c7
                try clear c7b0
                try clear c8
                try clear c8b0
                try clear c9
                try clear c9b0
                try clear c10
                try clear p10
                try clear q10
                try clear hx10
                try clear c12
                try clear c14
                try clear hcz13_0
                try clear hcz13_1
                try clear hcz13_2
                try clear hcz13_3
                try clear hcz18_0
                try clear hcz18_1
                try clear hcz18_2
                try clear hcz18_3
                try clear hcz3_0
                try clear hcz3_1
                try clear hcz6_0
                try clear hcz6_1
                try clear hfz13_0
                try clear hfz13_1
                try clear hfz13_2
                try clear hfz13_3
                try clear hfz18_0
                try clear hfz18_1
                try clear hfz18_2
                try clear hfz18_3
                try clear hfz3_0
                try clear hfz3_1
                try clear hfz6_0
                try clear hfz6_1
                try clear hx105_0
                try clear hx105_1
                try clear hx105_2
                try clear hx105_3
                try clear p105
                try clear p2
                try clear q105
                obtain ⟨x3_2, x36_2, rfl, HA, HK2, HO_3, BK101, BK106, HB⟩ := hrel
                cases gk with
                | zero => exact absurd HA.out (by simp [store_numbers.l1])
                | succ k2 =>
                  have H := HA.out
                  clear HA
                  simp only [store_numbers.l1] at H
                  by_cases c19 : x36_2 < (((rd_T40 l0_0 x17_1).f3).length : Int)
                  · rw [if_pos c19] at H
                    have c19b0 : decide (x36_2 < (((rd_T40 l0_0 x17_1).f3).length : Int)) = true := decide_eq_true c19
                    clear c19
                    by_cases c20 : 0 ≤ x36_2
                    · rw [if_pos c20] at H
                      have c20b0 : decide (0 ≤ x36_2) = true := decide_eq_true c20
                      clear c20
                      by_cases c21 : x36_2 < (((rd_T40 l0_0 x17_1).f3).length : Int)
                      · rw [if_pos c21] at H
                        have c21b0 : decide (x36_2 < (((rd_T40 l0_0 x17_1).f3).length : Int)) = true := decide_eq_true c21
                        clear c21
                        by_cases c22 : x3_2.length < 17592186044416
                        · rw [if_pos c22] at H
                          have LMc22 := Aside0.mk c22
                          clear c22
                          obtain ⟨y114, hy114⟩ : ∃ y_ : List Int, y_ = (x3_2 ++ [((rd_L1 ((rd_T40 l0_0 x17_1).f3) x36_2).length : Int)]) := ⟨_, rfl⟩
                          replace H : (if y114.length + (rd_L1 ((rd_T40 l0_0 x17_1).f3) x36_2).length < 17592186044416 then (store_numbers.l1 k2 (y114 ++ (rd_L1 ((rd_T40 l0_0 x17_1).f3) x36_2)) l0_0 (l0_0.length : Int) x17_1 ((rd_T40 l0_0 x17_1).f3) (((rd_T40 l0_0 x17_1).f3).length : Int) (wrap64 (x36_2 + 1))) else (none)) = some r := by first | (rw [hy114]; with_reducible exact H) | (have H2_ := (Option.bind_some _ _).symm.trans H; rw [hy114]; with_reducible exact H2_) | (have H2_ := (Option.bind_some _ _).symm.trans H; with_reducible exact H2_) | with_reducible exact H | (rw [hy114]; exact H) | exact H
                          have Ny114 := Aside0.mk hy114
                          clear hy114
                          by_cases c23 : y114.length + (rd_L1 ((rd_T40 l0_0 x17_1).f3) x36_2).length < 17592186044416
                          · rw [if_pos c23] at H
                            have LMc23 := Aside0.mk c23
                            clear c23
                            obtain ⟨y117, hy117⟩ : ∃ y_ : List Int, y_ = (y114 ++ (rd_L1 ((rd_T40 l0_0 x17_1).f3) x36_2)) := ⟨_, rfl⟩
                            replace H : (store_numbers.l1 k2 y117 l0_0 (l0_0.length : Int) x17_1 ((rd_T40 l0_0 x17_1).f3) (((rd_T40 l0_0 x17_1).f3).length : Int) (wrap64 (x36_2 + 1))) = some r := by first | (rw [hy117]; with_reducible exact H) | (have H2_ := (Option.bind_some _ _).symm.trans H; rw [hy117]; with_reducible exact H2_) | (have H2_ := (Option.bind_some _ _).symm.trans H; with_reducible exact H2_) | with_reducible exact H | (rw [hy117]; exact H) | exact H
                            have Ny117 := Aside0.mk hy117
                            clear hy117
                            have H' := Aside0.mk H
                            clear H
                            have p113 : 0 ≤ (x36_2 : Int) := of_decide_eq_true (by first | (with_reducible assumption) | assumption)
                            have q113 : x36_2 < (((rd_T40 l0_0 x17_1).f3).length : Int) := of_decide_eq_true (by first | (with_reducible assumption) | assumption)
                            obtain ⟨ad113, A113_0, c113_0, e113, hx113_0, hl113_0, hi113_0⟩ := at_L1 HR105_3.out x36_2 p113 q113
                            cases e113
                            replace hx113_0 := (HB.out.cell (World.block_lt_of_cell? w _ hx113_0)).trans hx113_0
                            have HR113_0 := Aside0.mk hi113_0
                            have HC113_0 := Aside0.mk hl113_0
                            clear hi113_0 hl113_0
                            replace p113 := eq_true p113
                            replace q113 := eq_true q113
                            go_wp2_with (first | ((with_reducible refine gate_builtin (b := .append) (xs := #[.tmp 40, .tmp 43]) rfl ?_); at_builtin; refine Kd.R_append (Kd.int .i64) (w0 := w) w.heap.size rfl (.tmp 40) (.tmp 43) 28 3 (.int .i64 0) 8 rfl Try.underlying28 info3 rfl (by decide) (by omega) u3 x3_2 ((rd_L1 ((rd_T40 l0_0 x17_1).f3) x36_2).length : Int) [.int .i64 ((rd_L1 ((rd_T40 l0_0 x17_1).f3) x36_2).length : Int)] (fun _ => True) (fun _ => False) rfl rfl ?aP (fun _ hk => hk.elim) ?aF ?aO ?aB ?aS ?aL ?_; (case aP => exact rfl); (case aB => exact (by repeat (first | (with_reducible first | exact HB.out | apply below_alloc | apply pw_below_drewN | apply below_drew1 | refine below_set ?_ GE101.out | refine below_set ?_ GE106.out) | exact HB.out))); (case aF => exact (fun _ _ => trivial)); (case aO => exact (by (with_reducible repeat (first | apply Kd.R_alloc | apply Kd.R_drewN | apply Kd.R_drew)); exact HO_3.out)); (case aS => exact (below_size (by repeat (first | (with_reducible first | exact HB.out | apply below_alloc | apply pw_below_drewN | apply below_drew1 | refine below_set ?_ GE101.out | refine below_set ?_ GE106.out) | exact HB.out)))); (case aL => have := LMc22.out; omega); intro v115 w24 ho hb hg hat; rw [← Ny114.out] at ho; have n0_ := Aside0.mk (blk_grown (g := gb101) (o := .cells #[.slice (some ad105) l0_0.length c0_0, .int .i64 a0_1] 24 (0, 0)) (by (with_reducible repeat (first | refine blk_drewN ?_ _ | refine blk_drew ?_ | refine blk_alloc ?_ _)); exact BK101.out) hg (Kd.R_ne HO_3.out BK101.out (by decide))); have n1_ := Aside0.mk (blk_grown (g := gb106) (o := .cells #[.int .i64 ((rd_T40 l0_0 x17_1).f0), .int .i64 ((rd_T40 l0_0 x17_1).f1), .int .i64 ((rd_T40 l0_0 x17_1).f2), .slice (some ad113) ((rd_T40 l0_0 x17_1).f3).length c105_3] 40 (0, 0)) (by (with_reducible repeat (first | refine blk_drewN ?_ _ | refine blk_drew ?_ | refine blk_alloc ?_ _)); exact BK106.out) hg (Kd.R_ne HO_3.out BK106.out (by decide))); have n2_ := Aside0.mk (hb); have n3_ := Aside0.mk (ho); clear BK101; clear BK106; clear HB; clear HO_3; have BK101 := n0_; have BK106 := n1_; have HB := n2_; have HO116 := n3_; clear n0_ n1_ n2_ n3_; clear ho hb hg hat) | ((with_reducible refine gate_builtin (b := .append) (xs := #[.tmp 44, .tmp 45]) rfl ?_); at_builtin; refine Kd.R_append_rows (Kd.int .i64) (w0 := w) w.heap.size rfl (.tmp 44) (.tmp 45) 28 3 (.int .i64 0) 8 rfl Try.underlying28 info3 rfl (by decide) (by omega) v115 y114 (rd_L1 ((rd_T40 l0_0 x17_1).f3) x36_2) _ _ _ (fun _ => True) (fun _ => False) rfl rfl ?aO ?aR (fun _ _ h => h) (fun _ h => h.elim) ?aF ?aB ?aS ?aL ?_; (case aR => repeat (first | exact (Kd.C_below HR113_0.out HB.out) | (with_reducible refine Kd.C_alloc ?_ _) | (with_reducible refine Kd.C_drewN ?_ _) | (with_reducible refine Kd.C_drew ?_))); (case aB => exact (by repeat (first | (with_reducible first | exact HB.out | apply below_alloc | apply pw_below_drewN | apply below_drew1 | refine below_set ?_ GE101.out | refine below_set ?_ GE106.out) | exact HB.out))); (case aF => exact (fun _ _ => trivial)); (case aO => exact (by (with_reducible repeat (first | apply Kd.R_alloc | apply Kd.R_drewN | apply Kd.R_drew)); exact HO116.out)); (case aS => exact (below_size (by repeat (first | (with_reducible first | exact HB.out | apply below_alloc | apply pw_below_drewN | apply below_drew1 | refine below_set ?_ GE101.out | refine below_set ?_ GE106.out) | exact HB.out)))); (case aL => have := LMc23.out; omega); intro v118 w25 ho hb hg hat; rw [← Ny117.out] at ho; have n0_ := Aside0.mk (blk_grown (g := gb101) (o := .cells #[.slice (some ad105) l0_0.length c0_0, .int .i64 a0_1] 24 (0, 0)) (by (with_reducible repeat (first | refine blk_drewN ?_ _ | refine blk_drew ?_ | refine blk_alloc ?_ _)); exact BK101.out) hg (Kd.R_ne HO116.out BK101.out (by decide))); have n1_ := Aside0.mk (blk_grown (g := gb106) (o := .cells #[.int .i64 ((rd_T40 l0_0 x17_1).f0), .int .i64 ((rd_T40 l0_0 x17_1).f1), .int .i64 ((rd_T40 l0_0 x17_1).f2), .slice (some ad113) ((rd_T40 l0_0 x17_1).f3).length c105_3] 40 (0, 0)) (by (with_reducible repeat (first | refine blk_drewN ?_ _ | refine blk_drew ?_ | refine blk_alloc ?_ _)); exact BK106.out) hg (Kd.R_ne HO116.out BK106.out (by decide))); have n2_ := Aside0.mk (hb); have n3_ := Aside0.mk (ho); clear BK101; clear BK106; clear HB; clear HO116; have BK101 := n0_; have BK106 := n1_; have HB := n2_; have HO119 := n3_; clear n0_ n1_ n2_ n3_; clear ho hb hg hat))
                            go_roundg k2
                            case measure => have := HK1.out; have := HK2.out; omega
                            case rel => exact ⟨(y117), (wrap64 (x36_2 + 1)), (by first | rfl | (simp; done) | (simp [*]; done)), H', ⟨by have := HK1.out; have := HK2.out; omega⟩, ⟨by (with_reducible repeat (first | apply Kd.R_alloc | apply Kd.R_drewN | apply Kd.R_drew)); exact HO119.out⟩, ⟨by (with_reducible repeat (first | refine blk_drewN ?_ _ | refine blk_drew ?_ | refine blk_alloc ?_ _)); exact BK101.out⟩, ⟨by (with_reducible repeat (first | refine blk_drewN ?_ _ | refine blk_drew ?_ | refine blk_alloc ?_ _)); exact BK106.out⟩, ⟨by repeat (first | (with_reducible first | exact HB.out | apply below_alloc | apply pw_below_drewN | apply below_drew1 | refine below_set ?_ GE101.out | refine below_set ?_ GE106.out) | exact HB.out)⟩⟩
                          · rw [if_neg c23] at H
                            exact absurd H (by simp)
                        · rw [if_neg c22] at H
                          exact absurd H (by simp)
                      · rw [if_neg c21] at H
                        exact absurd H (by simp)
                    · rw [if_neg c20] at H
                      exact absurd H (by simp)
                  · rw [if_neg c19] at H
                    have c19b0 : decide (x36_2 < (((rd_T40 l0_0 x17_1).f3).length : Int)) = false := decide_eq_false c19
                    clear c19
                    have H' := Aside0.mk H
                    clear H
                    go_wp2
                    go_roundg k2
                    case measure => have := HK1.out; have := HK2.out; omega
                    case rel => exact ⟨(x3_2), (wrap64 (x17_1 + 1)), (by first | rfl | (simp; done) | (simp [*]; done)), H', ⟨by have := HK1.out; have := HK2.out; omega⟩, ⟨by (with_reducible repeat (first | apply Kd.R_alloc | apply Kd.R_drewN | apply Kd.R_drew)); exact HO_3.out⟩, ⟨by (with_reducible repeat (first | refine blk_drewN ?_ _ | refine blk_drew ?_ | refine blk_alloc ?_ _)); exact BK101.out⟩, ⟨by repeat (first | (with_reducible first | exact HB.out | apply below_alloc | apply pw_below_drewN | apply below_drew1 | refine below_set ?_ GE101.out | refine below_set ?_ GE106.out) | exact HB.out)⟩⟩
            · rw [if_neg c10] at H
              exact absurd H (by simp)
          · rw [if_neg c9] at H
            exact absurd H (by simp)
        · rw [if_neg c8] at H
          exact absurd H (by simp)
      · rw [if_neg c7] at H
        have c7b0 : decide (x17_1 < (l0_0.length : Int)) = false := decide_eq_false c7
        clear c7
        obtain rfl := Option.some.inj H
        go_wp2
        go_ret
        exact ⟨_, by first | rfl | (simp [errW_none, errW_some] <;> rfl) | (simp [*, errW_none, errW_some] <;> rfl), by (with_reducible repeat (first | apply Kd.R_alloc | apply Kd.R_drewN | apply Kd.R_drew)); exact HO_3.out, by repeat (first | (with_reducible first | exact HB.out | apply below_alloc | apply pw_below_drewN | apply below_drew1 | refine below_set ?_ GE101.out) | exact HB.out)⟩

/-! ### thicket_below: function 23 -/
def thicket_below.l0 : Nat → List Int → List (List Int) → Int → Int → Option (List Int)
  | 0, _, _, _, _ => none
  | k + 1, x3, x7, x8, x9 => if x9 < x8 then (if 0 ≤ x9 then (if x9 < (x7.length : Int) then (if 0 ≤ (mn 1 ((rd_L1 x7 x9).length : Int)) then (if (mn 1 ((rd_L1 x7 x9).length : Int)) ≤ ((rd_L1 x7 x9).length : Int) then ((some ((rd_L1 x7 x9).drop ((mn 1 ((rd_L1 x7 x9).length : Int)) : Int).toNat : List Int)).bind fun y122 => (if x3.length + y122.length < 17592186044416 then (thicket_below.l0 k (x3 ++ y122) x7 x8 (wrap64 (x9 + 1))) else (none))) else (none)) else (none)) else (none)) else (none)) else (some x3)
def thicket_below.f (k : Nat) (a0_0 : Int) (a0_1 : Int) (a0_2 : Int) (l0_3 : List (List Int)) : Option (List Int) := thicket_below.l0 k ([] : List Int) l0_3 (l0_3.length : Int) 0
theorem thicket_below.mono_l : ∀ k, (∀ y0 y1 y2 y3, LeO (thicket_below.l0 k y0 y1 y2 y3) (thicket_below.l0 (k + 1) y0 y1 y2 y3))
  | 0 => fun _ _ _ _ r h => by simp [thicket_below.l0] at h
  | k + 1 => by
    have ih0 := thicket_below.mono_l k
    · intro y0 y1 y2 y3
      unfold thicket_below.l0
      repeat' first
      | (with_reducible exact ih0 _ _ _ _)
      | (with_reducible exact LeO.refl _)
      | (with_reducible exact LeO.none _)
      | (with_reducible refine LeO.ite ?_ ?_)
      | (with_reducible refine LeO.bind ?_ (fun _ => ?_))
      | exact ih0 _ _ _ _
      | exact LeO.none _
      | refine LeO.ite ?_ ?_
      | refine LeO.bind ?_ (fun _ => ?_)
theorem thicket_below.mono : ∀ a0 a1 a2 a3 k, LeO (thicket_below.f k a0 a1 a2 a3) (thicket_below.f (k + 1) a0 a1 a2 a3) := by
  intro a0 a1 a2 a3 k
  have ih0 := thicket_below.mono_l k
  unfold thicket_below.f
  repeat' first
      | (with_reducible exact ih0 _ _ _ _)
      | (with_reducible exact LeO.refl _)
      | (with_reducible exact LeO.none _)
      | (with_reducible refine LeO.ite ?_ ?_)
      | (with_reducible refine LeO.bind ?_ (fun _ => ?_))
      | exact ih0 _ _ _ _
      | exact LeO.none _
      | refine LeO.ite ?_ ?_
      | refine LeO.bind ?_ (fun _ => ?_)
set_option maxHeartbeats 8000000 in
set_option maxRecDepth 100000 in
theorem thicket_below.calls (k : Nat) (a0_0 : Int) (a0_1 : Int) (a0_2 : Int) (A0_3 : Option Addr) (c0_3 : Nat) (l0_3 : List (List Int)) (r : List Int) (w : World) (hr0_3 : Kd.C (Kd.slice 3 (Kd.int .i64)) w A0_3 l0_3.length l0_3) (hc0_3 : l0_3.length ≤ c0_3) (h : thicket_below.f k a0_0 a0_1 a0_2 l0_3 = some r) :
    Calls Try.prog 23 #[.agg #[.int .i64 a0_0, .int .i64 a0_1, .int .i64 a0_2, .slice A0_3 l0_3.length c0_3]] w fun e w' => ∃ v0_ : Value, e = .returned (v0_) ∧ Kd.R (Kd.int .i64) 3 w' w.heap.size (fun _ => True) v0_ r ∧ Below w.heap.size w w' := by
  have hu40 := Try.underlying40
  have HR0_3 := Aside0.mk hr0_3
  have HC0_3 := Aside0.mk hc0_3
  clear hr0_3 hc0_3
  have HB := Aside0.mk (Below.refl w.heap.size w)
  have H : (thicket_below.l0 k ([] : List Int) l0_3 (l0_3.length : Int) 0) = some r := h
  clear h
  have H' := Aside0.mk H
  clear H
  go_enter Try.func23, Try.ntmps23
  go_wp2_with (first | ((with_reducible refine gate_dst (N := 1) rfl ?_); refine box_event ?hg (N := 1) ?hd (cs := #[.int .i64 a0_0, .int .i64 a0_1, .int .i64 a0_2, .slice A0_3 l0_3.length c0_3]) (t := 40) ?hr ?_; (case hd => rfl); (case hg => rfl); (case hr => first | (go_simp; done) | (go_simp; rfl)); intro gb120 hg w2 hbox hb; have n0_ := Aside0.mk (below_step (by repeat (first | (with_reducible first | exact HB.out | apply below_alloc | apply pw_below_drewN | apply below_drew1) | exact HB.out)) hb); have n1_ := Aside0.mk (hbox); have n2_ := Aside0.mk ((by rw [hg]; exact (below_size (by repeat (first | (with_reducible first | exact HB.out | apply below_alloc | apply pw_below_drewN | apply below_drew1) | exact HB.out))) : w.heap.size ≤ gb120)); have n3_ := Aside0.mk ((by rw [hg]; exact (below_size (by repeat (first | (with_reducible first | exact HB.out | apply below_alloc | apply pw_below_drewN | apply below_drew1) | exact HB.out))) : w.heap.size ≤ gb120)); clear HB; have HB := n0_; have BK120 := n1_; have GW120 := n2_; have GE120 := n3_; clear n0_ n1_ n2_ n3_; clear hb hbox hg; have hcz3_0 : w2.cell? ⟨gb120, 0, none⟩ = some (.int .i64 a0_0) := (blk_cell BK120.out 0).trans rfl; have hcz3_1 : w2.cell? ⟨gb120, 1, none⟩ = some (.int .i64 a0_1) := (blk_cell BK120.out 1).trans rfl; have hcz3_2 : w2.cell? ⟨gb120, 2, none⟩ = some (.int .i64 a0_2) := (blk_cell BK120.out 2).trans rfl; have hcz3_3 : w2.cell? ⟨gb120, 3, none⟩ = some (.slice A0_3 l0_3.length c0_3) := (blk_cell BK120.out 3).trans rfl; have hfz3_0 := blk_frozen BK120.out 0; have hfz3_1 := blk_frozen BK120.out 1; have hfz3_2 := blk_frozen BK120.out 2; have hfz3_3 := blk_frozen BK120.out 3))
  go_loopg [3, 9] k (fun kq v3 v9 w' => ∃ (x3_1 : List Int) (x9_1 : Int), v9 = .int .i64 x9_1 ∧ Aside0 (thicket_below.l0 kq x3_1 l0_3 (l0_3.length : Int) x9_1 = some r) ∧ Aside0 (kq ≤ k) ∧ Aside0 (Kd.R (Kd.int .i64) 3 w' w.heap.size (fun _ => True) v3 x3_1) ∧ Aside0 (w'.heap[gb120]? = some (.cells #[.int .i64 a0_0, .int .i64 a0_1, .int .i64 a0_2, (.slice A0_3 l0_3.length c0_3)] 40 (0, 0))) ∧ Aside0 (Below w.heap.size w w'))
  case atStart => exact ⟨(([] : List Int)), (0), (by first | rfl | (simp; done) | (simp [*]; done)), H', ⟨Nat.le_refl _⟩, ⟨by first | exact Kd.R_nil _ _ _ _ _ | exact Kd.N_nil _ _ _ _ _ | exact Kd.V_nil _ _ _ _ _ | exact Kd.Q_nil _ _ _ _ _ | exact Kd.S_nil _ _ _ _ _ | (go_simp; exact Kd.R_nil _ _ _ _ _)⟩, ⟨by (with_reducible repeat (first | refine blk_drewN ?_ _ | refine blk_drew ?_ | refine blk_alloc ?_ _)); exact BK120.out⟩, ⟨by repeat (first | (with_reducible first | exact HB.out | apply below_alloc | apply pw_below_drewN | apply below_drew1 | refine below_set ?_ GE120.out) | exact HB.out)⟩⟩
  case round =>
    clear H'
    try clear c2
    try clear p2
    try clear hcz3_0
    try clear hcz3_1
    try clear hcz3_2
    try clear hcz3_3
    try clear hfz3_0
    try clear hfz3_1
    try clear hfz3_2
    try clear hfz3_3
    obtain ⟨x3_1, x9_1, rfl, HA, HK1, HO_3, BK120, HB⟩ := hrel
    cases gk with
    | zero => exact absurd HA.out (by simp [thicket_below.l0])
    | succ k1 =>
      have H := HA.out
      clear HA
      simp only [thicket_below.l0] at H
      by_cases c4 : x9_1 < (l0_3.length : Int)
      · rw [if_pos c4] at H
        have c4b0 : decide (x9_1 < (l0_3.length : Int)) = true := decide_eq_true c4
        clear c4
        by_cases c5 : 0 ≤ x9_1
        · rw [if_pos c5] at H
          have c5b0 : decide (0 ≤ x9_1) = true := decide_eq_true c5
          clear c5
          by_cases c6 : x9_1 < (l0_3.length : Int)
          · rw [if_pos c6] at H
            have c6b0 : decide (x9_1 < (l0_3.length : Int)) = true := decide_eq_true c6
            clear c6
            obtain ⟨ji7, hji7⟩ : ∃ j_ : Int, (mn 1 ((rd_L1 l0_3 x9_1).length : Int)) = j_ := ⟨_, rfl⟩
            replace H : (if 0 ≤ (ji7) then (if (ji7) ≤ ((rd_L1 l0_3 x9_1).length : Int) then ((some ((rd_L1 l0_3 x9_1).drop ((ji7) : Int).toNat : List Int)).bind fun y122 => (if x3_1.length + y122.length < 17592186044416 then (thicket_below.l0 k1 (x3_1 ++ y122) l0_3 (l0_3.length : Int) (wrap64 (x9_1 + 1))) else (none))) else (none)) else (none)) = some r := by first | (rw [hji7] at H; exact H) | (simp only [hji7] at H ⊢; exact H)
            have hji7_ : (if ((rd_L1 l0_3 x9_1).length : Int) < 1 then ((rd_L1 l0_3 x9_1).length : Int) else 1) = ji7 := hji7
            by_cases c8 : 0 ≤ (ji7)
            · rw [if_pos c8] at H
              have c8b0 := eq_true c8
              have c8b1 : decide (0 ≤ (ji7)) = true := decide_eq_true c8
              clear c8
              by_cases c9 : (ji7) ≤ ((rd_L1 l0_3 x9_1).length : Int)
              · rw [if_pos c9] at H
                have c9b0 := eq_true c9
                have c9b1 : decide ((ji7) ≤ ((rd_L1 l0_3 x9_1).length : Int)) = true := decide_eq_true c9
                clear c9
                obtain ⟨y122, hy122⟩ : ∃ y_ : List Int, y_ = ((rd_L1 l0_3 x9_1).drop ((ji7) : Int).toNat) := ⟨_, rfl⟩
                replace H : (if x3_1.length + y122.length < 17592186044416 then (thicket_below.l0 k1 (x3_1 ++ y122) l0_3 (l0_3.length : Int) (wrap64 (x9_1 + 1))) else (none)) = some r := by first | (rw [hy122]; with_reducible exact H) | (have H2_ := (Option.bind_some _ _).symm.trans H; rw [hy122]; with_reducible exact H2_) | (have H2_ := (Option.bind_some _ _).symm.trans H; with_reducible exact H2_) | with_reducible exact H | (rw [hy122]; exact H) | exact H
                have Ny122 := Aside0.mk hy122
                clear hy122
                by_cases c10 : x3_1.length + y122.length < 17592186044416
                · rw [if_pos c10] at H
                  have LMc10 := Aside0.mk c10
                  clear c10
                  obtain ⟨y126, hy126⟩ : ∃ y_ : List Int, y_ = (x3_1 ++ y122) := ⟨_, rfl⟩
                  replace H : (thicket_below.l0 k1 y126 l0_3 (l0_3.length : Int) (wrap64 (x9_1 + 1))) = some r := by first | (rw [hy126]; with_reducible exact H) | (have H2_ := (Option.bind_some _ _).symm.trans H; rw [hy126]; with_reducible exact H2_) | (have H2_ := (Option.bind_some _ _).symm.trans H; with_reducible exact H2_) | with_reducible exact H | (rw [hy126]; exact H) | exact H
                  have Ny126 := Aside0.mk hy126
                  clear hy126
                  have H' := Aside0.mk H
                  clear H
                  have p121 : 0 ≤ (x9_1 : Int) := of_decide_eq_true (by first | (with_reducible assumption) | assumption)
                  have q121 : x9_1 < (l0_3.length : Int) := of_decide_eq_true (by first | (with_reducible assumption) | assumption)
                  obtain ⟨ad121, A121_0, c121_0, e121, hx121_0, hl121_0, hi121_0⟩ := at_L1 HR0_3.out x9_1 p121 q121
                  cases e121
                  replace hx121_0 := (HB.out.cell (World.block_lt_of_cell? w _ hx121_0)).trans hx121_0
                  have HR121_0 := Aside0.mk hi121_0
                  have HC121_0 := Aside0.mk hl121_0
                  clear hi121_0 hl121_0
                  replace p121 := eq_true p121
                  replace q121 := eq_true q121
                  have q11 : ((ji7) : Int) ≤ (((rd_L1 l0_3 x9_1).length : Int) : Int) := of_decide_eq_true (by first | (with_reducible assumption) | assumption)
                  obtain ⟨i011, hi011, _, hsz11, _⟩ := info_parts info3
                  have hroom11 : (rd_L1 l0_3 x9_1).length ≤ c121_0 := HC121_0.out
                  have hC11 : Kd.C (Kd.int .i64) _ A121_0 (rd_L1 l0_3 x9_1).length (rd_L1 l0_3 x9_1) := HR121_0.out
                  have q011 : (0 : Int) ≤ ((ji7) : Int) := of_decide_eq_true (by first | (with_reducible assumption) | assumption)
                  have hcut11 := cut_from (P := Try.prog) 28 3 .i64 Try.underlying28 hi011 1 hsz11 A121_0 (rd_L1 l0_3 x9_1).length c121_0 (ji7) q011 q11
                  have hr11 := Kd.C_drop (m := ((ji7) : Int).toNat) (c := c121_0) hC11 (by omega) hroom11
                  obtain ⟨A11, hA11⟩ : ∃ Aq_, Aq_ = (if c121_0 = ((ji7) : Int).toNat then A121_0 else (A121_0 : Option Addr).map (·.add (((ji7) : Int).toNat * 1))) := ⟨_, rfl⟩
                  obtain ⟨c11, hc11⟩ : ∃ cq_, cq_ = c121_0 - ((ji7) : Int).toNat := ⟨_, rfl⟩
                  have hy11 : y122.length = (rd_L1 l0_3 x9_1).length - ((ji7) : Int).toNat := (by rw [Ny122.out, List.length_drop] <;> omega)
                  rw [show (rd_L1 l0_3 x9_1).drop ((ji7) : Int).toNat = y122 from Ny122.out.symm] at hr11
                  replace hr11 : Kd.C (Kd.int .i64) _ A11 y122.length y122 := (by rw [hA11]; exact hr11)
                  rw [← hy11, ← hA11, ← hc11] at hcut11
                  have HR125 := Aside0.mk hr11
                  have HC125 := Aside0.mk (show y122.length ≤ c11 from by rw [hy11, hc11]; exact Nat.sub_le_sub_right hroom11 _)
                  clear hr11 hC11 hroom11 hi011 hsz11 hc11
                  have KY11 := Aside0.mk hy11
                  have KA11 := Aside0.mk hA11
                  clear hy11 hA11
                  replace q11 := eq_true q11
                  go_wp2_with (first | ((with_reducible refine gate_builtin (b := .append) (xs := #[.tmp 13, .tmp 18]) rfl ?_); at_builtin; refine Kd.R_append_rows (Kd.int .i64) (w0 := w) w.heap.size rfl (.tmp 13) (.tmp 18) 28 3 (.int .i64 0) 8 rfl Try.underlying28 info3 rfl (by decide) (by omega) u3 x3_1 y122 _ _ _ (fun _ => True) (fun _ => False) rfl rfl ?aO ?aR (fun _ _ h => h) (fun _ h => h.elim) ?aF ?aB ?aS ?aL ?_; (case aR => repeat (first | exact (Kd.C_below HR125.out HB.out) | (with_reducible refine Kd.C_alloc ?_ _) | (with_reducible refine Kd.C_drewN ?_ _) | (with_reducible refine Kd.C_drew ?_))); (case aB => exact (by repeat (first | (with_reducible first | exact HB.out | apply below_alloc | apply pw_below_drewN | apply below_drew1 | refine below_set ?_ GE120.out) | exact HB.out))); (case aF => exact (fun _ _ => trivial)); (case aO => exact (by (with_reducible repeat (first | apply Kd.R_alloc | apply Kd.R_drewN | apply Kd.R_drew)); exact HO_3.out)); (case aS => exact (below_size (by repeat (first | (with_reducible first | exact HB.out | apply below_alloc | apply pw_below_drewN | apply below_drew1 | refine below_set ?_ GE120.out) | exact HB.out)))); (case aL => have := LMc10.out; omega); intro v127 w12 ho hb hg hat; rw [← Ny126.out] at ho; have n0_ := Aside0.mk (blk_grown (g := gb120) (o := .cells #[.int .i64 a0_0, .int .i64 a0_1, .int .i64 a0_2, .slice (some ad121) l0_3.length c0_3] 40 (0, 0)) (by (with_reducible repeat (first | refine blk_drewN ?_ _ | refine blk_drew ?_ | refine blk_alloc ?_ _)); exact BK120.out) hg (Kd.R_ne HO_3.out BK120.out (by decide))); have n1_ := Aside0.mk (hb); have n2_ := Aside0.mk (ho); clear BK120; clear HB; clear HO_3; have BK120 := n0_; have HB := n1_; have HO128 := n2_; clear n0_ n1_ n2_; clear ho hb hg hat))
                  (first | go_roundg k1 | (simp only [← hji7]; go_roundg k1))
                  case measure => have := HK1.out; omega
                  case rel => first | exact ⟨(y126), (wrap64 (x9_1 + 1)), (by first | rfl | (simp; done) | (simp [*]; done)), H', ⟨by have := HK1.out; omega⟩, ⟨by (with_reducible repeat (first | apply Kd.R_alloc | apply Kd.R_drewN | apply Kd.R_drew)); exact HO128.out⟩, ⟨by (with_reducible repeat (first | refine blk_drewN ?_ _ | refine blk_drew ?_ | refine blk_alloc ?_ _)); exact BK120.out⟩, ⟨by repeat (first | (with_reducible first | exact HB.out | apply below_alloc | apply pw_below_drewN | apply below_drew1 | refine below_set ?_ GE120.out) | exact HB.out)⟩⟩ | (subst hji7; exact ⟨(y126), (wrap64 (x9_1 + 1)), (by first | rfl | (simp; done) | (simp [*]; done)), H', ⟨by have := HK1.out; omega⟩, ⟨by (with_reducible repeat (first | apply Kd.R_alloc | apply Kd.R_drewN | apply Kd.R_drew)); exact HO128.out⟩, ⟨by (with_reducible repeat (first | refine blk_drewN ?_ _ | refine blk_drew ?_ | refine blk_alloc ?_ _)); exact BK120.out⟩, ⟨by repeat (first | (with_reducible first | exact HB.out | apply below_alloc | apply pw_below_drewN | apply below_drew1 | refine below_set ?_ GE120.out) | exact HB.out)⟩⟩)
                · rw [if_neg c10] at H
                  exact absurd H (by simp)
              · rw [if_neg c9] at H
                exact absurd H (by simp)
            · rw [if_neg c8] at H
              exact absurd H (by simp)
          · rw [if_neg c6] at H
            exact absurd H (by simp)
        · rw [if_neg c5] at H
          exact absurd H (by simp)
      · rw [if_neg c4] at H
        have c4b0 : decide (x9_1 < (l0_3.length : Int)) = false := decide_eq_false c4
        clear c4
        obtain rfl := Option.some.inj H
        go_wp2
        go_ret
        exact ⟨_, by first | rfl | (simp [errW_none, errW_some] <;> rfl) | (simp [*, errW_none, errW_some] <;> rfl), by (with_reducible repeat (first | apply Kd.R_alloc | apply Kd.R_drewN | apply Kd.R_drew)); exact HO_3.out, by repeat (first | (with_reducible first | exact HB.out | apply below_alloc | apply pw_below_drewN | apply below_drew1 | refine below_set ?_ GE120.out) | exact HB.out)⟩

-- NOT PRINTED: function 22 (thicket_order_1)

/-! ### thicket.order's own: the boxes, the two rows -/
structure VI (w0 : World) (gt gs' gv gl gs : Nat) (A : Option Addr) (c cs n : Nat) (root : Int) (W : World) (st l : List Int) (vl : Value) : Prop where
  hb : Below w0.heap.size w0 W
  kt : W.heap[gt]? = some (.cells #[.slice A n c, .int .i64 root] 24 (0, 0))
  ks : W.heap[gs']? = some (.cells #[.slice (some ⟨gs, 0, none⟩) n cs] 28 (0, 0))
  kv : W.heap[gv]? = some (.cells #[.func (.func 22) #[] #[.pointer (some ⟨gs', 0, none⟩), .pointer (some ⟨gt, 0, none⟩), .pointer (some ⟨gv, 0, none⟩), .pointer (some ⟨gl, 0, none⟩)]] 46 (0, 0))
  kl : W.heap[gl]? = some (.cells #[vl] 28 (0, 0))
  rs : Kd.R (Kd.int .i64) 3 W w0.heap.size (fun k => k = gs) (.slice (some ⟨gs, 0, none⟩) n cs) st
  rl : Kd.R (Kd.int .i64) 3 W w0.heap.size (fun k => k ≠ gs) vl l
  gt0 : w0.heap.size ≤ gt
  gs0 : w0.heap.size ≤ gs'
  gv0 : w0.heap.size ≤ gv
  gl0 : w0.heap.size ≤ gl
  tl : gt ≠ gl
  sl : gs' ≠ gl
  vl_ : gv ≠ gl
structure Kp (gs gl : Nat) (vl vl' : Value) (W W' : World) : Prop where
  size : W.heap.size ≤ W'.heap.size
  blk : ∀ b, b < W.heap.size → b ≠ gs → b ≠ gl → some b ≠ vl.ownBlock → W'.heap[b]? = W.heap[b]?
  own : ∀ b, vl'.ownBlock = some b → vl.ownBlock = some b ∨ W.heap.size ≤ b
theorem Kp.refl (gs gl : Nat) (vl : Value) (W : World) : Kp gs gl vl vl W W := ⟨Nat.le_refl _, fun _ _ _ _ _ => rfl, fun _ h => .inl h⟩
theorem Kp.trans {gs gl : Nat} {v v1 v2 : Value} {W W1 W2 : World} (h : Kp gs gl v v1 W W1) (k : Kp gs gl v1 v2 W1 W2) : Kp gs gl v v2 W W2 := by
  refine ⟨Nat.le_trans h.size k.size, fun b hb h1 h2 h3 => ?_, fun b hb => ?_⟩
  · refine (k.blk b (Nat.lt_of_lt_of_le hb h.size) h1 h2 (fun e => ?_)).trans (h.blk b hb h1 h2 h3)
    rcases h.own b e.symm with q | q
    · exact h3 q.symm
    · omega
  · rcases k.own b hb with q | q
    · exact h.own b q
    · exact .inr (Nat.le_trans h.size q)
theorem Kp.below {gs gl : Nat} {v : Value} {W W1 : World} (h : Below W.heap.size W W1) : Kp gs gl v v W W1 := ⟨h.size, fun b hb _ _ _ => h.block b hb, fun _ q => .inl q⟩
section
variable {w0 : World} {gt gs' gv gl gs : Nat} {A : Option Addr} {c cs n : Nat} {root : Int} {W W1 : World} {st l : List Int} {vl : Value}
theorem VI.below (h : VI w0 gt gs' gv gl gs A c cs n root W st l vl) (hb : Below W.heap.size W W1) : VI w0 gt gs' gv gl gs A c cs n root W1 st l vl :=
  ⟨below_step h.hb hb, blk_below h.kt hb, blk_below h.ks hb, blk_below h.kv hb, blk_below h.kl hb, Kd.R_below h.rs hb, Kd.R_below h.rl hb, h.gt0, h.gs0, h.gv0, h.gl0, h.tl, h.sl, h.vl_⟩
theorem VI.drewN (h : VI w0 gt gs' gv gl gs A c cs n root W st l vl) (q : Nat) : VI w0 gt gs' gv gl gs A c cs n root (W.drewN q) st l vl := h.below (pw_below_drewN (Below.refl _ _) q)
theorem VI.len (h : VI w0 gt gs' gv gl gs A c cs n root W st l vl) : st.length = n := (Kd.R_reads' h.rs).1.symm
/-- A store into the row of states. -/
theorem VI.put (h : VI w0 gt gs' gv gl gs A c cs n root W st l vl) (i x : Int) :
    VI w0 gt gs' gv gl gs A c cs n root (W.setCell ⟨gs, i.toNat, none⟩ (.int .i64 x)) (st.set i.toNat x) l vl ∧ Kp gs gl vl vl W (W.setCell ⟨gs, i.toNat, none⟩ (.int .i64 x)) := by
  obtain ⟨p, hg⟩ := Kd.R_putg (enc := fun x => .int .i64 x) h.rs i x
  have g0 : w0.heap.size ≤ gs := Kd.R_base h.rs gs rfl
  refine ⟨⟨h.hb.setCell g0 _, blk_grown h.kt hg (Kd.R_ne h.rs h.kt (by decide)), blk_grown h.ks hg (Kd.R_ne h.rs h.ks (by decide)), blk_grown h.kv hg (Kd.R_ne h.rs h.kv (by decide)), blk_grown h.kl hg (Kd.R_ne h.rs h.kl (by decide)), p, Kd.R_far h.rl (fun k hk => hk) _, h.gt0, h.gs0, h.gv0, h.gl0, h.tl, h.sl, h.vl_⟩, ?_⟩
  exact ⟨hg.size, fun b hb h1 _ _ => hg.block b hb (fun e => h1 (Option.some.inj e)), fun _ q => .inl q⟩
end

theorem tb_start {w0 : World} {gt gs' gv gl gs : Nat} {A : Option Addr} {c cs n : Nat} {root : Int} {W W1 : World} {st l t : List Int} {vl v : Value} (h : VI w0 gt gs' gv gl gs A c cs n root W st l vl) (ho : Kd.R (Kd.int .i64) 3 W1 W.heap.size (fun _ => True) v t) :
    Kd.R (Kd.int .i64) 3 W1 W.heap.size (fun k => k ≠ gs ∧ k ≠ gl ∧ some k ≠ vl.ownBlock) v t := by
  refine Kd.R_mono (Kd.R_bound ho) (fun k hk => ⟨?_, ?_, ?_⟩)
  · have := Kd.R_lt h.rs gs rfl; have := hk.2.1; omega
  · have := blk_lt h.kl; have := hk.2.1; omega
  · intro e
    have := Kd.R_lt h.rl k e.symm; have := hk.2.1; omega
theorem box_set {W : World} {g t : Nat} {z : Value} (h : W.heap[g]? = some (.cells #[z] t (0, 0))) (v : Value) : (W.setCell ⟨g, 0, none⟩ v).heap[g]? = some (.cells #[v] t (0, 0)) ∧ W.grownBy (W.setCell ⟨g, 0, none⟩ v) (some g) := by
  exact ⟨blk_put h 0 v rfl, ⟨rfl, rfl, rfl, by simp [World.setCell], fun i _ hi => Below.heap_setCell W ⟨g, 0, none⟩ v i (fun e => hi (by rw [e]))⟩⟩
theorem VI.app {w0 : World} {gt gs' gv gl gs : Nat} {A : Option Addr} {c cs n : Nat} {root : Int} {W w5 : World} {st l m : List Int} {vl v : Value} (h : VI w0 gt gs' gv gl gs A c cs n root W st l vl)
    (ho : Kd.R (Kd.int .i64) 3 w5 w0.heap.size (fun k => k ≠ gs) v m) (hb : Below w0.heap.size w0 w5) (hg : W.grownBy w5 vl.ownBlock) (hat : v.ownBlock = vl.ownBlock ∨ ∃ b, v.ownBlock = some b ∧ W.heap.size ≤ b) :
    VI w0 gt gs' gv gl gs A c cs n root (w5.setCell ⟨gl, 0, none⟩ v) st m v ∧ Kp gs gl vl v W (w5.setCell ⟨gl, 0, none⟩ v) := by
  have k5 := blk_grown h.kl hg (Kd.R_ne h.rl h.kl (by decide))
  obtain ⟨q1, q2⟩ := box_set k5 v
  have gne : gs ≠ gl := fun e => Kd.R_ne h.rs h.kl (by decide) (by rw [← e]; rfl)
  have nb : ∀ {g t : Nat} {cells : Array Value}, W.heap[g]? = some (.cells cells t (0, 0)) → 3 ≠ t → g ≠ gl → (w5.setCell ⟨gl, 0, none⟩ v).heap[g]? = some (.cells cells t (0, 0)) :=
    fun hk ht hn => blk_grown (blk_grown hk hg (Kd.R_ne h.rl hk ht)) q2 (fun e => hn (Option.some.inj e))
  refine ⟨⟨hb.setCell h.gl0 _, nb h.kt (by decide) h.tl, nb h.ks (by decide) h.sl, nb h.kv (by decide) h.vl_, q1, ?_, Kd.R_set ho k5 (by decide) 0 v, h.gt0, h.gs0, h.gv0, h.gl0, h.tl, h.sl, h.vl_⟩, ?_⟩
  · exact Kd.R_far (Kd.R_grown h.rs hg (fun k hk e => h.rl.1 k e.symm hk)) (fun k hk => by rw [hk]; exact gne) v
  · refine ⟨Nat.le_trans hg.size q2.size, fun b b1 b2 b3 b4 => ?_, fun b e => ?_⟩
    · exact (q2.block b (Nat.lt_of_lt_of_le b1 hg.size) (fun e => b3 (Option.some.inj e))).trans (hg.block b b1 b4)
    · rcases hat with q | ⟨x, q, hx⟩
      · exact .inl (by rw [← q]; exact e)
      · rw [q] at e; cases e; exact .inr hx
/-- The row that is gone through stays, whatever the call below it does. -/
theorem tb_keep {gs gl B : Nat} {W W1 : World} {t : List Int} {vl vl' v : Value} (hB : B ≤ W.heap.size) (h : Kd.R (Kd.int .i64) 3 W B (fun k => k ≠ gs ∧ k ≠ gl ∧ some k ≠ vl.ownBlock) v t) (hk : Kp gs gl vl vl' W W1) :
    Kd.R (Kd.int .i64) 3 W1 B (fun k => k ≠ gs ∧ k ≠ gl ∧ some k ≠ vl'.ownBlock) v t := by
  have h2 := Kd.R_bound h
  refine Kd.R_mono (Kd.R_step h2 (fun k ho hlt => hk.blk k hlt ho.1.1 ho.1.2.1 ho.1.2.2)) (fun k ho => ⟨ho.1.1, ho.1.2.1, fun e => ?_⟩)
  rcases hk.own k e.symm with q | q
  · exact ho.1.2.2 q.symm
  · have := ho.2.2.1; omega
def visL (V : List Int → List Int → Int → Option (Bool × List Int × List Int)) (n : Int) : List Int → List Int → List Int → Option (Bool × List Int × List Int)
  | [], st, l => some (true, st, l)
  | j :: t, st, l => if j < 0 then some (false, st, l) else if j ≥ n then some (false, st, l) else (V st l j).bind fun r => if r.1 = true then visL V n t r.2.1 r.2.2 else some (false, r.2.1, r.2.2)
def visF (sp : List S40) : Nat → List Int → List Int → Int → Option (Bool × List Int × List Int)
  | 0, _, _, _ => none
  | k + 1, st, l, i => if 0 ≤ i then (if i < (sp.length : Int) then (if rd st i > 0 then some (rd st i == 2, st, l) else
      (thicket_below.f k (rd_T40 sp i).f0 (rd_T40 sp i).f1 (rd_T40 sp i).f2 (rd_T40 sp i).f3).bind fun t => if t.length < 9223372036854775807 then (visL (visF sp k) (sp.length : Int) t (st.set i.toNat 1) l).bind fun r =>
        if r.1 = true then (if r.2.2.length < 17592186044416 then some (true, r.2.1.set i.toNat 2, r.2.2 ++ [i]) else none) else some (false, r.2.1, r.2.2) else none) else none) else none
set_option maxHeartbeats 8000000 in
set_option maxRecDepth 100000 in
theorem vis_calls (w0 : World) (gt gs' gv gl gs : Nat) (A : Option Addr) (c cs : Nat) (root : Int) (sp : List S40) (hC : Kd.C k40 w0 A sp.length sp) (hc : sp.length ≤ c) :
    ∀ (k : Nat) (i : Int) (W : World) (st l : List Int) (vl : Value) (r : Bool × List Int × List Int), VI w0 gt gs' gv gl gs A c cs sp.length root W st l vl → visF sp k st l i = some r →
    Calls Try.prog 22 #[.int .i64 i, .pointer (some ⟨gs', 0, none⟩), .pointer (some ⟨gt, 0, none⟩), .pointer (some ⟨gv, 0, none⟩), .pointer (some ⟨gl, 0, none⟩)] W fun e w' => e = .returned (.bool r.1) ∧ ∃ vl', VI w0 gt gs' gv gl gs A c cs sp.length root w' r.2.1 r.2.2 vl' ∧ Kp gs gl vl vl' W w' := by
  have hu40 := Try.underlying40
  have hu28 := Try.underlying28
  have hu46 := Try.underlying46
  intro k
  induction k with
  | zero => intro i W st l vl r _ h; simp [visF] at h
  | succ k ih =>
    intro i W st l vl r hV h
    simp only [visF] at h
    by_cases c1 : 0 ≤ i
    case neg => rw [if_neg c1] at h; cases h
    rw [if_pos c1] at h
    by_cases c2 : i < (sp.length : Int)
    case neg => rw [if_neg c2] at h; cases h
    rw [if_pos c2] at h
    have HV := Aside0.mk hV
    have HK := Aside0.mk (Kp.refl gs gl vl W)
    have hcs : W.cell? ⟨gs', 0, none⟩ = some (.slice (some ⟨gs, 0, none⟩) sp.length cs) := (blk_cell hV.ks 0).trans rfl
    have c2b : i < (sp.length : Int) := c2
    obtain ⟨hx, hfx⟩ := Kd.R_celln (0 : Int) hV.rs i c1 c2
    have erd : rdOf (0 : Int) st i = rd st i := rfl
    rw [erd] at hx
    clear hV erd
    have HC1 := Aside0.mk c1
    have HC2 := Aside0.mk c2
    have d1 := eq_true c1
    have d2 := eq_true c2
    by_cases c3 : rd st i > 0
    · rw [if_pos c3] at h
      obtain rfl := Option.some.inj h
      have c3b : decide (rd st i > 0) = true := decide_eq_true c3
      have c3c : decide (0 < rd st i) = true := decide_eq_true c3
      clear h c3
      generalize rd st i = z at *
      go_enter Try.func22, Try.ntmps22
      go_wp2
      repeat (go_quiet (fail); try go_wp2)
      go_ret
      exact ⟨by first | rfl | (simp; done) | (simp [*]; done), vl, HV.out, HK.out⟩
    · rw [if_neg c3] at h
      have c3b : decide (rd st i > 0) = false := decide_eq_false c3
      have c3c : decide (0 < rd st i) = false := decide_eq_false c3
      clear c3
      obtain ⟨ad, A3, c3, e, hx0, hx1, hx2, hx3, hl3, hi3⟩ := at_T40 hC i c1 c2
      subst e
      have HI := Aside0.mk hi3
      have HL := Aside0.mk hl3
      clear hi3 hl3
      obtain ⟨t, ht, h⟩ := Option.bind_eq_some_iff.1 h
      have HT := Aside0.mk ht
      clear ht
      by_cases ct : t.length < 9223372036854775807
      case neg => rw [if_neg ct] at h; cases h
      rw [if_pos ct] at h
      have CT := Aside0.mk ct
      clear ct
      have HH := Aside0.mk h
      clear h c1 c2 hC
      generalize rd st i = z at hx c3b c3c
      go_enter Try.func22, Try.ntmps22
      go_wp2_with (first | ((with_reducible refine gate_store (p := 21) rfl ?_); refine store_event (t := 3) (p := 21) (v := ?vo1) (w1 := W.setCell ⟨gs, i.toNat, none⟩ (.int .i64 1)) ?hg ?ho ?hn ?hr ?_; (case ho => rfl); (case hg => rfl); (case hn => rfl); (case hr => first | (go_simp; done) | (go_simp; rfl)); intro w1 hw; obtain ⟨q1, q2⟩ := HV.out.put i 1; rw [← hw] at q1 q2; have HV1 := Aside0.mk q1; have HK1 := Aside0.mk (HK.out.trans q2); clear HV HK hw q1 q2 hcs hx hfx; have hct : w1.cell? ⟨gt, 0, none⟩ = some (.slice (some ad) sp.length c) := (blk_cell HV1.out.kt 0).trans rfl; have hy0 := (HV1.out.hb.cell (World.block_lt_of_cell? w0 _ hx0)).trans hx0; have hy1 := (HV1.out.hb.cell (World.block_lt_of_cell? w0 _ hx1)).trans hx1; have hy2 := (HV1.out.hb.cell (World.block_lt_of_cell? w0 _ hx2)).trans hx2; have hy3 := (HV1.out.hb.cell (World.block_lt_of_cell? w0 _ hx3)).trans hx3) | (go_at_call 23; refine (thicket_below.calls k _ _ _ A3 c3 (rd_T40 sp i).f3 t w1 (Kd.C_below HI.out HV1.out.hb) HL.out HT.out).mono ?_; rintro e w2 ⟨v0, rfl, ho, hb⟩; obtain ⟨At, ct, rfl⟩ := Kd.R_slice ho; have HV2 := Aside0.mk (HV1.out.below hb); have HK2 := Aside0.mk (HK1.out.trans (Kp.below hb)); have HO := Aside0.mk (tb_start HV1.out ho); have HS2 := Aside0.mk hb.size; clear HV1 HK1 hct hy0 hy1 hy2 hy3 ho hb))
      repeat (go_quiet (first | ((with_reducible refine gate_store (p := 21) rfl ?_); refine store_event (t := 3) (p := 21) (v := ?vo1) (w1 := W.setCell ⟨gs, i.toNat, none⟩ (.int .i64 1)) ?hg ?ho ?hn ?hr ?_; (case ho => rfl); (case hg => rfl); (case hn => rfl); (case hr => first | (go_simp; done) | (go_simp; rfl)); intro w1 hw; obtain ⟨q1, q2⟩ := HV.out.put i 1; rw [← hw] at q1 q2; have HV1 := Aside0.mk q1; have HK1 := Aside0.mk (HK.out.trans q2); clear HV HK hw q1 q2 hcs hx hfx; have hct : w1.cell? ⟨gt, 0, none⟩ = some (.slice (some ad) sp.length c) := (blk_cell HV1.out.kt 0).trans rfl; have hy0 := (HV1.out.hb.cell (World.block_lt_of_cell? w0 _ hx0)).trans hx0; have hy1 := (HV1.out.hb.cell (World.block_lt_of_cell? w0 _ hx1)).trans hx1; have hy2 := (HV1.out.hb.cell (World.block_lt_of_cell? w0 _ hx2)).trans hx2; have hy3 := (HV1.out.hb.cell (World.block_lt_of_cell? w0 _ hx3)).trans hx3) | (go_at_call 23; refine (thicket_below.calls k _ _ _ A3 c3 (rd_T40 sp i).f3 t w1 (Kd.C_below HI.out HV1.out.hb) HL.out HT.out).mono ?_; rintro e w2 ⟨v0, rfl, ho, hb⟩; obtain ⟨At, ct, rfl⟩ := Kd.R_slice ho; have HV2 := Aside0.mk (HV1.out.below hb); have HK2 := Aside0.mk (HK1.out.trans (Kp.below hb)); have HO := Aside0.mk (tb_start HV1.out ho); have HS2 := Aside0.mk hb.size; clear HV1 HK1 hct hy0 hy1 hy2 hy3 ho hb)); try go_wp2_with (first | ((with_reducible refine gate_store (p := 21) rfl ?_); refine store_event (t := 3) (p := 21) (v := ?vo1) (w1 := W.setCell ⟨gs, i.toNat, none⟩ (.int .i64 1)) ?hg ?ho ?hn ?hr ?_; (case ho => rfl); (case hg => rfl); (case hn => rfl); (case hr => first | (go_simp; done) | (go_simp; rfl)); intro w1 hw; obtain ⟨q1, q2⟩ := HV.out.put i 1; rw [← hw] at q1 q2; have HV1 := Aside0.mk q1; have HK1 := Aside0.mk (HK.out.trans q2); clear HV HK hw q1 q2 hcs hx hfx; have hct : w1.cell? ⟨gt, 0, none⟩ = some (.slice (some ad) sp.length c) := (blk_cell HV1.out.kt 0).trans rfl; have hy0 := (HV1.out.hb.cell (World.block_lt_of_cell? w0 _ hx0)).trans hx0; have hy1 := (HV1.out.hb.cell (World.block_lt_of_cell? w0 _ hx1)).trans hx1; have hy2 := (HV1.out.hb.cell (World.block_lt_of_cell? w0 _ hx2)).trans hx2; have hy3 := (HV1.out.hb.cell (World.block_lt_of_cell? w0 _ hx3)).trans hx3) | (go_at_call 23; refine (thicket_below.calls k _ _ _ A3 c3 (rd_T40 sp i).f3 t w1 (Kd.C_below HI.out HV1.out.hb) HL.out HT.out).mono ?_; rintro e w2 ⟨v0, rfl, ho, hb⟩; obtain ⟨At, ct, rfl⟩ := Kd.R_slice ho; have HV2 := Aside0.mk (HV1.out.below hb); have HK2 := Aside0.mk (HK1.out.trans (Kp.below hb)); have HO := Aside0.mk (tb_start HV1.out ho); have HS2 := Aside0.mk hb.size; clear HV1 HK1 hct hy0 hy1 hy2 hy3 ho hb)))
      go_loopg [29] (t.length + 1) (fun kq v29 w' => ∃ (q : Nat) (st1 l1 : List Int) (vl1 : Value), v29 = .int .i64 (q : Int) ∧ Aside0 (q ≤ t.length ∧ t.length < kq + q) ∧ Aside0 (VI w0 gt gs' gv gl gs (some ad) c cs sp.length root w' st1 l1 vl1) ∧ Aside0 (Kp gs gl vl vl1 W w') ∧
        Aside0 (Kd.R (Kd.int .i64) 3 w' w1.heap.size (fun k => k ≠ gs ∧ k ≠ gl ∧ some k ≠ vl1.ownBlock) (.slice At t.length ct) t) ∧ Aside0 (w1.heap.size ≤ w'.heap.size) ∧
        Aside0 (((visL (visF sp k) (sp.length : Int) (t.drop q) st1 l1).bind fun r => if r.1 = true then (if r.2.2.length < 17592186044416 then some (true, r.2.1.set i.toNat 2, r.2.2 ++ [i]) else none) else some (false, r.2.1, r.2.2)) = some r))
      case atStart => exact ⟨0, _, _, vl, rfl, ⟨by omega⟩, HV2, HK2, HO, HS2, HH⟩
      case round =>
        clear HV2 HK2 HO HH HS2
        obtain ⟨q, st1, l1, vl1, rfl, HQ, HV, HK, HO, HS, HH⟩ := hrel
        by_cases c4 : q < t.length
        · have c4b0 : decide ((q : Int) < (t.length : Int)) = true := decide_eq_true (by omega)
          have c4b1 : (q : Int) < (t.length : Int) := by omega
          replace c4b1 := eq_true c4b1
          have c4b2 := eq_true (show (0 : Int) ≤ (q : Int) by omega)
          have C4 := Aside0.mk c4
          obtain ⟨ae, e1, hxq⟩ := Kd.at_int (Kd.R_reads' HO.out).2.2 (q : Int) (by omega) (by omega)
          subst e1
          rw [Int.toNat_natCast] at hxq
          have hh := HH.out
          have edr : t.drop q = rd t (q : Int) :: t.drop (q + 1) := by
            have e : rd t (q : Int) = t[q] := by simp [rd, List.getD_eq_getElem?_getD, List.getElem?_eq_getElem c4]
            rw [e, List.drop_eq_getElem_cons c4]
          rw [edr] at hh
          simp only [visL] at hh
          clear HH edr c4
          have hct : wr.cell? ⟨gt, 0, none⟩ = some (.slice (some ad) sp.length c) := (blk_cell HV.out.kt 0).trans rfl
          have hcv : wr.cell? ⟨gv, 0, none⟩ = some (.func (.func 22) #[] #[.pointer (some ⟨gs', 0, none⟩), .pointer (some ⟨gt, 0, none⟩), .pointer (some ⟨gv, 0, none⟩), .pointer (some ⟨gl, 0, none⟩)]) := (blk_cell HV.out.kv 0).trans rfl
          cases gk with
          | zero => exact absurd HQ.out (by have := C4.out; omega)
          | succ k1 =>
            generalize rd t (q : Int) = j at hxq hh
            by_cases c5 : j < 0
            · rw [if_pos c5] at hh
              have c5b := decide_eq_true c5
              have e5 := Aside0.mk (Option.some.inj ((Option.bind_some _ _).symm.trans hh))
              clear hh c5
              go_wp2
              repeat (go_quiet (fail); try go_wp2)
              go_ret
              rw [← e5.out]
              exact ⟨by first | rfl | (simp; done) | (simp [*]; done), vl1, HV.out, HK.out⟩
            · rw [if_neg c5] at hh
              have c5b : decide (j < 0) = false := decide_eq_false c5
              clear c5
              by_cases c7 : j ≥ (sp.length : Int)
              · rw [if_pos c7] at hh
                have c7b : decide (j ≥ (sp.length : Int)) = true := decide_eq_true c7
                have c7c : decide ((sp.length : Int) ≤ j) = true := decide_eq_true c7
                have c7d := eq_true (show (sp.length : Int) ≤ j from c7)
                have e5 := Aside0.mk (Option.some.inj ((Option.bind_some _ _).symm.trans hh))
                clear hh c7
                go_wp2
                repeat (go_quiet (fail); try go_wp2)
                go_ret
                rw [← e5.out]
                exact ⟨by first | rfl | (simp; done) | (simp [*]; done), vl1, HV.out, HK.out⟩
              · rw [if_neg c7] at hh
                have c7b : decide (j ≥ (sp.length : Int)) = false := decide_eq_false c7
                have c7c : decide ((sp.length : Int) ≤ j) = false := decide_eq_false c7
                clear c7
                rw [Option.bind_assoc] at hh
                obtain ⟨rr, hf, hh⟩ := Option.bind_eq_some_iff.1 hh
                have HF := Aside0.mk hf
                clear hf
                by_cases c8 : rr.1 = true
                · have c8x := c8
                  rw [if_pos c8] at hh
                  have HH := Aside0.mk hh
                  clear hh c8
                  go_wp2_with (fail)
                  (refine (ih j wr st1 l1 vl1 rr HV.out HF.out).mono ?_; rintro e w4 ⟨rfl, vl2, hv2, hk2⟩; have HV4 := Aside0.mk hv2; have HK4 := Aside0.mk (HK.out.trans hk2); have HO4 := Aside0.mk (tb_keep HS.out HO.out hk2); have HS4 := Aside0.mk (Nat.le_trans HS.out hk2.size); clear HV HK HO HS hv2 hk2 hct hcv hxq; rw [c8x])
                  go_wp2
                  repeat (go_quiet (fail); try go_wp2)
                  have ew : wrap64 ((q : Int) + 1) = ((q + 1 : Nat) : Int) := by have := C4.out; have := CT.out; unfold wrap64; omega
                  try rw [ew]
                  go_roundg k1
                  case measure => omega
                  case rel => exact ⟨q + 1, _, _, vl2, by first | rfl | (rw [ew]; done) | rw [ew], ⟨by have := HQ.out; have := C4.out; omega⟩, HV4, HK4, HO4, HS4, HH⟩
                · have c8x : rr.1 = false := Bool.eq_false_iff.2 c8
                  rw [if_neg c8] at hh
                  have e5 := Aside0.mk (Option.some.inj ((Option.bind_some _ _).symm.trans hh))
                  clear hh c8
                  go_wp2_with (fail)
                  (refine (ih j wr st1 l1 vl1 rr HV.out HF.out).mono ?_; rintro e w4 ⟨rfl, vl2, hv2, hk2⟩; have HV4 := Aside0.mk hv2; have HK4 := Aside0.mk (HK.out.trans hk2); have HO4 := Aside0.mk (tb_keep HS.out HO.out hk2); have HS4 := Aside0.mk (Nat.le_trans HS.out hk2.size); clear HV HK HO HS hv2 hk2 hct hcv hxq; rw [c8x])
                  go_wp2
                  repeat (go_quiet (fail); try go_wp2)
                  go_ret
                  rw [← e5.out]
                  exact ⟨by first | rfl | (simp; done) | (simp [*]; done), vl2, HV4.out, HK4.out⟩
        · have hq : q = t.length := by have := HQ.out; omega
          subst hq
          have c4b0 : decide ((t.length : Int) < (t.length : Int)) = false := decide_eq_false (by omega)
          have hh := HH.out
          rw [List.drop_length] at hh
          simp only [visL, Option.bind_some, if_true] at hh
          by_cases c6 : l1.length < 17592186044416
          case neg => rw [if_neg c6] at hh; cases hh
          rw [if_pos c6] at hh
          have C6 := Aside0.mk c6
          have e5 := Aside0.mk (Option.some.inj hh)
          clear hh HH c6 c4
          have hcs : wr.cell? ⟨gs', 0, none⟩ = some (.slice (some ⟨gs, 0, none⟩) sp.length cs) := (blk_cell HV.out.ks 0).trans rfl
          obtain ⟨hx, hfx⟩ := Kd.R_celln (0 : Int) HV.out.rs i HC1.out HC2.out
          go_wp2_with (first | ((with_reducible refine gate_store (p := 51) rfl ?_); refine store_event (t := 3) (p := 51) (v := ?vo2) (w1 := wr.setCell ⟨gs, i.toNat, none⟩ (.int .i64 2)) ?hg ?ho ?hn ?hr ?_; (case ho => rfl); (case hg => rfl); (case hn => rfl); (case hr => first | (go_simp; done) | (go_simp; rfl)); intro w3 hw; obtain ⟨q1, q2⟩ := HV.out.put i 2; rw [← hw] at q1 q2; have HV3 := Aside0.mk q1; have HK3 := Aside0.mk (HK.out.trans q2); clear HV HK HO hw q1 q2 hcs hx hfx; have hcl : w3.cell? ⟨gl, 0, none⟩ = some vl1 := (blk_cell HV3.out.kl 0).trans rfl) | ((with_reducible refine gate_builtin (b := .append) (xs := #[.tmp 52, .tmp 54]) rfl ?_); at_builtin; refine Kd.R_append (Kd.int .i64) (w0 := w0) w0.heap.size rfl (.tmp 52) (.tmp 54) 28 3 (.int .i64 0) 8 rfl Try.underlying28 info3 rfl (by decide) (by omega) vl1 l1 i [.int .i64 i] (fun k => k ≠ gs) (fun _ => False) rfl rfl ?aP (fun _ hk => hk.elim) ?aF ?aO ?aB ?aS ?aL ?_; (case aP => exact rfl); (case aB => exact HV3.out.hb); (case aF => exact (fun k hk e => by have := Kd.R_lt HV3.out.rs gs rfl; omega)); (case aO => exact HV3.out.rl); (case aS => exact below_size HV3.out.hb); (case aL => have := C6.out; omega); intro v4 w4 ho hb hg hat; obtain ⟨Av, cv, rfl⟩ := Kd.R_slice ho; obtain ⟨q1, q2⟩ := HV3.out.app ho hb hg hat; have HV4 := Aside0.mk q1; have HK4 := Aside0.mk (HK3.out.trans q2); have KL := Aside0.mk (blk_grown HV3.out.kl hg (Kd.R_ne HV3.out.rl HV3.out.kl (by decide))); clear HV3 HK3 ho hb hg hat q1 q2 hcl; have hcl4 : w4.cell? ⟨gl, 0, none⟩ = some vl1 := (blk_cell KL.out 0).trans rfl; have hfl4 := blk_frozen KL.out 0) | ((with_reducible refine gate_store (p := 4) rfl ?_); refine store_event (t := 28) (p := 4) (v := ?vo3) (w1 := w4.setCell ⟨gl, 0, none⟩ (.slice Av (l1 ++ [i]).length cv)) ?hg ?ho ?hn ?hr ?_; (case ho => rfl); (case hg => rfl); (case hn => rfl); (case hr => first | (go_simp; done) | (go_simp; rfl)); intro w5 hw; rw [← hw] at HV4 HK4; clear hw hcl4 hfl4 KL))
          repeat (go_quiet (first | ((with_reducible refine gate_store (p := 51) rfl ?_); refine store_event (t := 3) (p := 51) (v := ?vo2) (w1 := wr.setCell ⟨gs, i.toNat, none⟩ (.int .i64 2)) ?hg ?ho ?hn ?hr ?_; (case ho => rfl); (case hg => rfl); (case hn => rfl); (case hr => first | (go_simp; done) | (go_simp; rfl)); intro w3 hw; obtain ⟨q1, q2⟩ := HV.out.put i 2; rw [← hw] at q1 q2; have HV3 := Aside0.mk q1; have HK3 := Aside0.mk (HK.out.trans q2); clear HV HK HO hw q1 q2 hcs hx hfx; have hcl : w3.cell? ⟨gl, 0, none⟩ = some vl1 := (blk_cell HV3.out.kl 0).trans rfl) | ((with_reducible refine gate_builtin (b := .append) (xs := #[.tmp 52, .tmp 54]) rfl ?_); at_builtin; refine Kd.R_append (Kd.int .i64) (w0 := w0) w0.heap.size rfl (.tmp 52) (.tmp 54) 28 3 (.int .i64 0) 8 rfl Try.underlying28 info3 rfl (by decide) (by omega) vl1 l1 i [.int .i64 i] (fun k => k ≠ gs) (fun _ => False) rfl rfl ?aP (fun _ hk => hk.elim) ?aF ?aO ?aB ?aS ?aL ?_; (case aP => exact rfl); (case aB => exact HV3.out.hb); (case aF => exact (fun k hk e => by have := Kd.R_lt HV3.out.rs gs rfl; omega)); (case aO => exact HV3.out.rl); (case aS => exact below_size HV3.out.hb); (case aL => have := C6.out; omega); intro v4 w4 ho hb hg hat; obtain ⟨Av, cv, rfl⟩ := Kd.R_slice ho; obtain ⟨q1, q2⟩ := HV3.out.app ho hb hg hat; have HV4 := Aside0.mk q1; have HK4 := Aside0.mk (HK3.out.trans q2); have KL := Aside0.mk (blk_grown HV3.out.kl hg (Kd.R_ne HV3.out.rl HV3.out.kl (by decide))); clear HV3 HK3 ho hb hg hat q1 q2 hcl; have hcl4 : w4.cell? ⟨gl, 0, none⟩ = some vl1 := (blk_cell KL.out 0).trans rfl; have hfl4 := blk_frozen KL.out 0) | ((with_reducible refine gate_store (p := 4) rfl ?_); refine store_event (t := 28) (p := 4) (v := ?vo3) (w1 := w4.setCell ⟨gl, 0, none⟩ (.slice Av (l1 ++ [i]).length cv)) ?hg ?ho ?hn ?hr ?_; (case ho => rfl); (case hg => rfl); (case hn => rfl); (case hr => first | (go_simp; done) | (go_simp; rfl)); intro w5 hw; rw [← hw] at HV4 HK4; clear hw hcl4 hfl4 KL)); try go_wp2_with (first | ((with_reducible refine gate_store (p := 51) rfl ?_); refine store_event (t := 3) (p := 51) (v := ?vo2) (w1 := wr.setCell ⟨gs, i.toNat, none⟩ (.int .i64 2)) ?hg ?ho ?hn ?hr ?_; (case ho => rfl); (case hg => rfl); (case hn => rfl); (case hr => first | (go_simp; done) | (go_simp; rfl)); intro w3 hw; obtain ⟨q1, q2⟩ := HV.out.put i 2; rw [← hw] at q1 q2; have HV3 := Aside0.mk q1; have HK3 := Aside0.mk (HK.out.trans q2); clear HV HK HO hw q1 q2 hcs hx hfx; have hcl : w3.cell? ⟨gl, 0, none⟩ = some vl1 := (blk_cell HV3.out.kl 0).trans rfl) | ((with_reducible refine gate_builtin (b := .append) (xs := #[.tmp 52, .tmp 54]) rfl ?_); at_builtin; refine Kd.R_append (Kd.int .i64) (w0 := w0) w0.heap.size rfl (.tmp 52) (.tmp 54) 28 3 (.int .i64 0) 8 rfl Try.underlying28 info3 rfl (by decide) (by omega) vl1 l1 i [.int .i64 i] (fun k => k ≠ gs) (fun _ => False) rfl rfl ?aP (fun _ hk => hk.elim) ?aF ?aO ?aB ?aS ?aL ?_; (case aP => exact rfl); (case aB => exact HV3.out.hb); (case aF => exact (fun k hk e => by have := Kd.R_lt HV3.out.rs gs rfl; omega)); (case aO => exact HV3.out.rl); (case aS => exact below_size HV3.out.hb); (case aL => have := C6.out; omega); intro v4 w4 ho hb hg hat; obtain ⟨Av, cv, rfl⟩ := Kd.R_slice ho; obtain ⟨q1, q2⟩ := HV3.out.app ho hb hg hat; have HV4 := Aside0.mk q1; have HK4 := Aside0.mk (HK3.out.trans q2); have KL := Aside0.mk (blk_grown HV3.out.kl hg (Kd.R_ne HV3.out.rl HV3.out.kl (by decide))); clear HV3 HK3 ho hb hg hat q1 q2 hcl; have hcl4 : w4.cell? ⟨gl, 0, none⟩ = some vl1 := (blk_cell KL.out 0).trans rfl; have hfl4 := blk_frozen KL.out 0) | ((with_reducible refine gate_store (p := 4) rfl ?_); refine store_event (t := 28) (p := 4) (v := ?vo3) (w1 := w4.setCell ⟨gl, 0, none⟩ (.slice Av (l1 ++ [i]).length cv)) ?hg ?ho ?hn ?hr ?_; (case ho => rfl); (case hg => rfl); (case hn => rfl); (case hr => first | (go_simp; done) | (go_simp; rfl)); intro w5 hw; rw [← hw] at HV4 HK4; clear hw hcl4 hfl4 KL)))
          go_ret
          rw [← e5.out]
          exact ⟨by first | rfl | (simp; done) | (simp [*]; done), _, HV4.out, HK4.out⟩
def ordL (V : List Int → List Int → Int → Option (Bool × List Int × List Int)) : List Int → List Int → List Int → Option (List Int × Bool)
  | [], _, l => some (l, true)
  | i :: t, st, l => (V st l i).bind fun r => if r.1 = true then ordL V t r.2.1 r.2.2 else some ([], false)
def ints_ (n : Nat) : List Int := (List.range n).map fun i : Nat => (i : Int)
def thicket_order.f (k : Nat) (l0_0 : List S40) (a0_1 : Int) : Option (List Int × Bool) := if (l0_0.length : Int) > 200 then some ([], false) else if a0_1 < 0 then some ([], false) else if a0_1 ≥ (l0_0.length : Int) then some ([], false) else ordL (visF l0_0 k) (ints_ l0_0.length) (List.replicate l0_0.length 0) []
theorem visL_mono {V V' : List Int → List Int → Int → Option (Bool × List Int × List Int)} {n : Int} (h : ∀ st l i, LeO (V st l i) (V' st l i)) : ∀ t st l, LeO (visL V n t st l) (visL V' n t st l)
  | [], _, _ => LeO.refl _
  | j :: t, st, l => by
    unfold visL
    refine LeO.ite (LeO.refl _) (LeO.ite (LeO.refl _) (LeO.bind (h _ _ _) (fun r => LeO.ite (visL_mono h t _ _) (LeO.refl _))))
theorem visF_mono (sp : List S40) : ∀ k st l i, LeO (visF sp k st l i) (visF sp (k + 1) st l i)
  | 0, _, _, _ => LeO.none _
  | k + 1, st, l, i => by
    rw [visF, visF]
    refine LeO.ite (LeO.ite (LeO.ite (LeO.refl _) (LeO.bind (thicket_below.mono _ _ _ _ _) (fun t => LeO.ite (LeO.bind (visL_mono (visF_mono sp k) _ _ _) (fun r => LeO.refl _)) (LeO.refl _)))) (LeO.refl _)) (LeO.refl _)
theorem ordL_mono {V V' : List Int → List Int → Int → Option (Bool × List Int × List Int)} (h : ∀ st l i, LeO (V st l i) (V' st l i)) : ∀ t st l, LeO (ordL V t st l) (ordL V' t st l)
  | [], _, _ => LeO.refl _
  | j :: t, st, l => by
    unfold ordL
    exact LeO.bind (h _ _ _) (fun r => LeO.ite (ordL_mono h t _ _) (LeO.refl _))
theorem thicket_order.mono (a0 : List S40) (a1 : Int) (k : Nat) : LeO (thicket_order.f k a0 a1) (thicket_order.f (k + 1) a0 a1) := by
  unfold thicket_order.f
  exact LeO.ite (LeO.refl _) (LeO.ite (LeO.refl _) (LeO.ite (LeO.refl _) (ordL_mono (visF_mono a0 k) _ _ _)))
theorem run_store_funcE {P : Program} {w : World} {a : Addr} {m : Mode} (fn : Fn) (first captured : Array Value) : (store a (.func fn first captured) m).run P w = stored P w a (.func fn first captured) m := run_store P w a _ m rfl
attribute [local go_sem] run_store_funcE
theorem rep_len {W : World} {base gs cs n : Nat} {ok : Nat → Prop} (h : Kd.R (Kd.int .i64) 3 W base ok (.slice (some ⟨gs, 0, none⟩) (List.replicate n (0 : Int)).length cs) (List.replicate n 0)) : Kd.R (Kd.int .i64) 3 W base ok (.slice (some ⟨gs, 0, none⟩) n cs) (List.replicate n 0) := by
  rwa [List.length_replicate] at h
theorem vi_start {w W : World} {gt gs' gv gl gs c cs n : Nat} {A : Option Addr} {root : Int} {st : List Int} (hb : Below w.heap.size w W) (kt : W.heap[gt]? = some (.cells #[.slice A n c, .int .i64 root] 24 (0, 0))) (ks : W.heap[gs']? = some (.cells #[.slice (some ⟨gs, 0, none⟩) n cs] 28 (0, 0)))
    (kv : W.heap[gv]? = some (.cells #[.func (.func 22) #[] #[.pointer (some ⟨gs', 0, none⟩), .pointer (some ⟨gt, 0, none⟩), .pointer (some ⟨gv, 0, none⟩), .pointer (some ⟨gl, 0, none⟩)]] 46 (0, 0))) (kl : W.heap[gl]? = some (.cells #[.slice none 0 0] 28 (0, 0)))
    (rs : Kd.R (Kd.int .i64) 3 W w.heap.size (fun _ => True) (.slice (some ⟨gs, 0, none⟩) n cs) st) (gt0 : w.heap.size ≤ gt) (gs0 : w.heap.size ≤ gs') (gv0 : w.heap.size ≤ gv) (gl0 : w.heap.size ≤ gl) (tl : gt ≠ gl) (sl : gs' ≠ gl) (vl_ : gv ≠ gl) :
    VI w gt gs' gv gl gs A c cs n root W st [] (.slice none 0 0) :=
  ⟨hb, kt, ks, kv, kl, ⟨fun k hk => (Option.some.inj hk).symm, rs.2⟩, Kd.R_nil _ _ _ _ _, gt0, gs0, gv0, gl0, tl, sl, vl_⟩
set_option maxHeartbeats 8000000 in
set_option maxRecDepth 100000 in
theorem thicket_order.calls (k : Nat) (A0_0 : Option Addr) (c0_0 : Nat) (l0_0 : List (S40)) (a0_1 : Int) (r1 : List Int) (r2 : Bool) (w : World) (hr0_0 : Kd.C k40 w A0_0 l0_0.length l0_0) (hc0_0 : l0_0.length ≤ c0_0) (h : thicket_order.f k l0_0 a0_1 = some (r1, r2)) :
    Calls Try.prog 11 #[.agg #[.slice A0_0 l0_0.length c0_0, .int .i64 a0_1]] w fun e w' => ∃ v0_ : Value, e = .returned (.tuple #[v0_, .bool r2]) ∧ Kd.R (Kd.int .i64) 3 w' w.heap.size (fun _ => True) v0_ r1 ∧ Below w.heap.size w w' := by
  have hu24 := Try.underlying24
  have hu28 := Try.underlying28
  have hu46 := Try.underlying46
  have HR0 := Aside0.mk hr0_0
  have HC0 := Aside0.mk hc0_0
  clear hr0_0 hc0_0
  have HB := Aside0.mk (Below.refl w.heap.size w)
  unfold thicket_order.f at h
  by_cases c1 : (l0_0.length : Int) > 200
  · rw [if_pos c1] at h
    cases h
    have c1b : decide ((l0_0.length : Int) > 200) = true := decide_eq_true c1
    have c1c : decide (200 < (l0_0.length : Int)) = true := decide_eq_true c1
    clear c1
    go_enter Try.func11, Try.ntmps11
    go_wp2_with (first | ((with_reducible refine gate_dst (N := 1) rfl ?_); refine box_event ?hg (N := 1) ?hd (cs := #[.slice A0_0 l0_0.length c0_0, .int .i64 a0_1]) (t := 24) ?hr ?_; (case hd => rfl); (case hg => rfl); (case hr => first | (go_simp; done) | (go_simp; rfl)); intro gt hg w1 hbox hb; have GT := Aside0.mk ((by rw [hg]; exact below_size HB.out) : w.heap.size ≤ gt); have n0_ := Aside0.mk (below_step HB.out hb); clear HB; have HB := n0_; clear n0_; have BT := Aside0.mk hbox; clear hb hbox hg; have hct : w1.cell? ⟨gt, 0, none⟩ = some (.slice A0_0 l0_0.length c0_0) := (blk_cell BT.out 0).trans rfl; have hct1 : w1.cell? ⟨gt, 1, none⟩ = some (.int .i64 a0_1) := (blk_cell BT.out 1).trans rfl))
    repeat (go_quiet (first | ((with_reducible refine gate_dst (N := 1) rfl ?_); refine box_event ?hg (N := 1) ?hd (cs := #[.slice A0_0 l0_0.length c0_0, .int .i64 a0_1]) (t := 24) ?hr ?_; (case hd => rfl); (case hg => rfl); (case hr => first | (go_simp; done) | (go_simp; rfl)); intro gt hg w1 hbox hb; have GT := Aside0.mk ((by rw [hg]; exact below_size HB.out) : w.heap.size ≤ gt); have n0_ := Aside0.mk (below_step HB.out hb); clear HB; have HB := n0_; clear n0_; have BT := Aside0.mk hbox; clear hb hbox hg; have hct : w1.cell? ⟨gt, 0, none⟩ = some (.slice A0_0 l0_0.length c0_0) := (blk_cell BT.out 0).trans rfl; have hct1 : w1.cell? ⟨gt, 1, none⟩ = some (.int .i64 a0_1) := (blk_cell BT.out 1).trans rfl)); try go_wp2_with (first | ((with_reducible refine gate_dst (N := 1) rfl ?_); refine box_event ?hg (N := 1) ?hd (cs := #[.slice A0_0 l0_0.length c0_0, .int .i64 a0_1]) (t := 24) ?hr ?_; (case hd => rfl); (case hg => rfl); (case hr => first | (go_simp; done) | (go_simp; rfl)); intro gt hg w1 hbox hb; have GT := Aside0.mk ((by rw [hg]; exact below_size HB.out) : w.heap.size ≤ gt); have n0_ := Aside0.mk (below_step HB.out hb); clear HB; have HB := n0_; clear n0_; have BT := Aside0.mk hbox; clear hb hbox hg; have hct : w1.cell? ⟨gt, 0, none⟩ = some (.slice A0_0 l0_0.length c0_0) := (blk_cell BT.out 0).trans rfl; have hct1 : w1.cell? ⟨gt, 1, none⟩ = some (.int .i64 a0_1) := (blk_cell BT.out 1).trans rfl)))
    go_ret2
    exact ⟨_, by first | rfl | (simp; done) | (simp [*]; done), Kd.R_nil _ _ _ _ _, HB.out⟩
  rw [if_neg c1] at h
  have c1b : decide ((l0_0.length : Int) > 200) = false := decide_eq_false c1
  have c1c : decide (200 < (l0_0.length : Int)) = false := decide_eq_false c1
  by_cases c2 : a0_1 < 0
  · rw [if_pos c2] at h
    cases h
    have c2b : decide (a0_1 < 0) = true := decide_eq_true c2
    clear c1 c2
    go_enter Try.func11, Try.ntmps11
    go_wp2_with (first | ((with_reducible refine gate_dst (N := 1) rfl ?_); refine box_event ?hg (N := 1) ?hd (cs := #[.slice A0_0 l0_0.length c0_0, .int .i64 a0_1]) (t := 24) ?hr ?_; (case hd => rfl); (case hg => rfl); (case hr => first | (go_simp; done) | (go_simp; rfl)); intro gt hg w1 hbox hb; have GT := Aside0.mk ((by rw [hg]; exact below_size HB.out) : w.heap.size ≤ gt); have n0_ := Aside0.mk (below_step HB.out hb); clear HB; have HB := n0_; clear n0_; have BT := Aside0.mk hbox; clear hb hbox hg; have hct : w1.cell? ⟨gt, 0, none⟩ = some (.slice A0_0 l0_0.length c0_0) := (blk_cell BT.out 0).trans rfl; have hct1 : w1.cell? ⟨gt, 1, none⟩ = some (.int .i64 a0_1) := (blk_cell BT.out 1).trans rfl))
    repeat (go_quiet (first | ((with_reducible refine gate_dst (N := 1) rfl ?_); refine box_event ?hg (N := 1) ?hd (cs := #[.slice A0_0 l0_0.length c0_0, .int .i64 a0_1]) (t := 24) ?hr ?_; (case hd => rfl); (case hg => rfl); (case hr => first | (go_simp; done) | (go_simp; rfl)); intro gt hg w1 hbox hb; have GT := Aside0.mk ((by rw [hg]; exact below_size HB.out) : w.heap.size ≤ gt); have n0_ := Aside0.mk (below_step HB.out hb); clear HB; have HB := n0_; clear n0_; have BT := Aside0.mk hbox; clear hb hbox hg; have hct : w1.cell? ⟨gt, 0, none⟩ = some (.slice A0_0 l0_0.length c0_0) := (blk_cell BT.out 0).trans rfl; have hct1 : w1.cell? ⟨gt, 1, none⟩ = some (.int .i64 a0_1) := (blk_cell BT.out 1).trans rfl)); try go_wp2_with (first | ((with_reducible refine gate_dst (N := 1) rfl ?_); refine box_event ?hg (N := 1) ?hd (cs := #[.slice A0_0 l0_0.length c0_0, .int .i64 a0_1]) (t := 24) ?hr ?_; (case hd => rfl); (case hg => rfl); (case hr => first | (go_simp; done) | (go_simp; rfl)); intro gt hg w1 hbox hb; have GT := Aside0.mk ((by rw [hg]; exact below_size HB.out) : w.heap.size ≤ gt); have n0_ := Aside0.mk (below_step HB.out hb); clear HB; have HB := n0_; clear n0_; have BT := Aside0.mk hbox; clear hb hbox hg; have hct : w1.cell? ⟨gt, 0, none⟩ = some (.slice A0_0 l0_0.length c0_0) := (blk_cell BT.out 0).trans rfl; have hct1 : w1.cell? ⟨gt, 1, none⟩ = some (.int .i64 a0_1) := (blk_cell BT.out 1).trans rfl)))
    go_ret2
    exact ⟨_, by first | rfl | (simp; done) | (simp [*]; done), Kd.R_nil _ _ _ _ _, HB.out⟩
  rw [if_neg c2] at h
  have c2b : decide (a0_1 < 0) = false := decide_eq_false c2
  by_cases c3 : a0_1 ≥ (l0_0.length : Int)
  · rw [if_pos c3] at h
    cases h
    have c3b : decide (a0_1 ≥ (l0_0.length : Int)) = true := decide_eq_true c3
    have c3c : decide ((l0_0.length : Int) ≤ a0_1) = true := decide_eq_true c3
    clear c1 c2 c3
    go_enter Try.func11, Try.ntmps11
    go_wp2_with (first | ((with_reducible refine gate_dst (N := 1) rfl ?_); refine box_event ?hg (N := 1) ?hd (cs := #[.slice A0_0 l0_0.length c0_0, .int .i64 a0_1]) (t := 24) ?hr ?_; (case hd => rfl); (case hg => rfl); (case hr => first | (go_simp; done) | (go_simp; rfl)); intro gt hg w1 hbox hb; have GT := Aside0.mk ((by rw [hg]; exact below_size HB.out) : w.heap.size ≤ gt); have n0_ := Aside0.mk (below_step HB.out hb); clear HB; have HB := n0_; clear n0_; have BT := Aside0.mk hbox; clear hb hbox hg; have hct : w1.cell? ⟨gt, 0, none⟩ = some (.slice A0_0 l0_0.length c0_0) := (blk_cell BT.out 0).trans rfl; have hct1 : w1.cell? ⟨gt, 1, none⟩ = some (.int .i64 a0_1) := (blk_cell BT.out 1).trans rfl))
    repeat (go_quiet (first | ((with_reducible refine gate_dst (N := 1) rfl ?_); refine box_event ?hg (N := 1) ?hd (cs := #[.slice A0_0 l0_0.length c0_0, .int .i64 a0_1]) (t := 24) ?hr ?_; (case hd => rfl); (case hg => rfl); (case hr => first | (go_simp; done) | (go_simp; rfl)); intro gt hg w1 hbox hb; have GT := Aside0.mk ((by rw [hg]; exact below_size HB.out) : w.heap.size ≤ gt); have n0_ := Aside0.mk (below_step HB.out hb); clear HB; have HB := n0_; clear n0_; have BT := Aside0.mk hbox; clear hb hbox hg; have hct : w1.cell? ⟨gt, 0, none⟩ = some (.slice A0_0 l0_0.length c0_0) := (blk_cell BT.out 0).trans rfl; have hct1 : w1.cell? ⟨gt, 1, none⟩ = some (.int .i64 a0_1) := (blk_cell BT.out 1).trans rfl)); try go_wp2_with (first | ((with_reducible refine gate_dst (N := 1) rfl ?_); refine box_event ?hg (N := 1) ?hd (cs := #[.slice A0_0 l0_0.length c0_0, .int .i64 a0_1]) (t := 24) ?hr ?_; (case hd => rfl); (case hg => rfl); (case hr => first | (go_simp; done) | (go_simp; rfl)); intro gt hg w1 hbox hb; have GT := Aside0.mk ((by rw [hg]; exact below_size HB.out) : w.heap.size ≤ gt); have n0_ := Aside0.mk (below_step HB.out hb); clear HB; have HB := n0_; clear n0_; have BT := Aside0.mk hbox; clear hb hbox hg; have hct : w1.cell? ⟨gt, 0, none⟩ = some (.slice A0_0 l0_0.length c0_0) := (blk_cell BT.out 0).trans rfl; have hct1 : w1.cell? ⟨gt, 1, none⟩ = some (.int .i64 a0_1) := (blk_cell BT.out 1).trans rfl)))
    go_ret2
    exact ⟨_, by first | rfl | (simp; done) | (simp [*]; done), Kd.R_nil _ _ _ _ _, HB.out⟩
  rw [if_neg c3] at h
  have c3b : decide (a0_1 ≥ (l0_0.length : Int)) = false := decide_eq_false c3
  have c3c : decide ((l0_0.length : Int) ≤ a0_1) = false := decide_eq_false c3
  have HL := Aside0.mk (show 0 < l0_0.length ∧ l0_0.length ≤ 200 by omega)
  have HH := Aside0.mk h
  have hm0 := eq_true (show (0 : Int) ≤ (l0_0.length : Int) by omega)
  clear c1 c2 c3 h
  go_enter Try.func11, Try.ntmps11
  go_wp2_with (first | ((with_reducible refine gate_dst (N := 1) rfl ?_); refine box_event ?hg (N := 1) ?hd (cs := #[.slice A0_0 l0_0.length c0_0, .int .i64 a0_1]) (t := 24) ?hr ?_; (case hd => rfl); (case hg => rfl); (case hr => first | (go_simp; done) | (go_simp; rfl)); intro gt hg w1 hbox hb; have GT := Aside0.mk ((by rw [hg]; exact below_size HB.out) : w.heap.size ≤ gt); have n0_ := Aside0.mk (below_step HB.out hb); clear HB; have HB := n0_; clear n0_; have BT := Aside0.mk hbox; clear hb hbox hg; have hct : w1.cell? ⟨gt, 0, none⟩ = some (.slice A0_0 l0_0.length c0_0) := (blk_cell BT.out 0).trans rfl; have hct1 : w1.cell? ⟨gt, 1, none⟩ = some (.int .i64 a0_1) := (blk_cell BT.out 1).trans rfl) | ((with_reducible refine gate_dst (N := 4) rfl ?_); refine box_event ?hg (N := 4) ?hd (cs := #[.slice none 0 0]) (t := 28) ?hr ?_; (case hd => rfl); (case hg => rfl); (case hr => first | (go_simp; done) | (go_simp; rfl)); intro gl hg w2 hbox hb; have GL := Aside0.mk ((by rw [hg]; exact below_size HB.out) : w.heap.size ≤ gl); have NTL := Aside0.mk ((by rw [hg]; exact Nat.ne_of_lt (blk_lt BT.out)) : gt ≠ gl); have n0_ := Aside0.mk (below_step HB.out hb); have n1_ := Aside0.mk (blk_below BT.out hb); clear HB BT; have HB := n0_; have BT := n1_; clear n0_ n1_; have BL := Aside0.mk hbox; clear hb hbox hg hct hct1; have hct2 : w2.cell? ⟨gt, 0, none⟩ = some (.slice A0_0 l0_0.length c0_0) := (blk_cell BT.out 0).trans rfl) | ((with_reducible refine gate_dst (N := 28) rfl ?_); refine Kd.R_make (Kd.int .i64) _ 3 rfl (N := 28) rfl 28 _ _ rfl (l0_0.length : Int) rfl rfl Try.underlying28 (.int .i64 0) 8 info3 rfl (by decide) (by omega) 0 (ok := fun _ => True) (okp := fun _ => True) rfl (fun _ hk => hk) trivial (by omega) (by have := HL.out; omega) (Below.refl _ _) (Nat.le_refl _) ?_; intro vs w3 ho hb hg hnew; rw [Int.toNat_natCast] at ho; have n0_ := Aside0.mk (below_step HB.out hb); have n1_ := Aside0.mk (blk_below BT.out hb); have n2_ := Aside0.mk (blk_below BL.out hb); have n3_ := Aside0.mk (Kd.R_lower ho (below_size HB.out)); clear HB BT BL hct2 hb hg hnew ho; have HB := n0_; have BT := n1_; have BL := n2_; have HO := n3_; clear n0_ n1_ n2_ n3_; obtain ⟨gs, cs, rfl, gsb, gsl, csl, HG⟩ := Kd.R_form HO.out (by have := HL.out; rw [List.length_replicate]; omega); have n0_ := Aside0.mk (rep_len HO.out); clear HO; have HO := n0_; clear n0_) | ((with_reducible refine gate_dst (N := 5) rfl ?_); refine box_event ?hg (N := 5) ?hd (cs := #[.slice none 0 0]) (t := 28) ?hr ?_; (case hd => rfl); (case hg => rfl); (case hr => first | (go_simp; done) | (go_simp; rfl)); intro gs' hg w4 hbox hb; have GS := Aside0.mk ((by rw [hg]; exact below_size HB.out) : w.heap.size ≤ gs'); have NSL := Aside0.mk ((by rw [hg]; exact Nat.ne_of_gt (blk_lt BL.out)) : gs' ≠ gl); have NTS := Aside0.mk ((by rw [hg]; exact Nat.ne_of_lt (blk_lt BT.out)) : gt ≠ gs'); have n0_ := Aside0.mk (below_step HB.out hb); have n1_ := Aside0.mk (blk_below BT.out hb); have n2_ := Aside0.mk (blk_below BL.out hb); have n3_ := Aside0.mk (Kd.R_below HO.out hb); clear HB BT BL HO; have HB := n0_; have BT := n1_; have BL := n2_; have HO := n3_; clear n0_ n1_ n2_ n3_; have BS := Aside0.mk hbox; clear hb hbox hg; have hzs : w4.cell? ⟨gs', 0, none⟩ = some (.slice none 0 0) := (blk_cell BS.out 0).trans rfl; have hfs := blk_frozen BS.out 0) | ((with_reducible refine gate_store (p := 5) rfl ?_); refine store_event (t := 28) (p := 5) (v := ?vw5) (w1 := w4.setCell ⟨gs', 0, none⟩ (.slice (some ⟨gs, 0, none⟩) l0_0.length cs)) ?hg ?ho ?hn ?hr ?_; (case ho => rfl); (case hg => rfl); (case hn => rfl); (case hr => first | (go_simp; done) | (go_simp; rfl)); intro w5 hw; obtain ⟨q1, q2⟩ := box_set BS.out (.slice (some ⟨gs, 0, none⟩) l0_0.length cs); have p0_ := Kd.R_set HO.out BS.out (by decide) 0 (.slice (some ⟨gs, 0, none⟩) l0_0.length cs); rw [← hw] at q1 q2 p0_; have n0_ := Aside0.mk (HB.out.grown q2 (below_size HB.out) (fun j hj => by cases hj; exact GS.out)); have m0_ := Aside0.mk (blk_grown BT.out q2 (fun e => NTS.out (Option.some.inj e))); have m1_ := Aside0.mk (blk_grown BL.out q2 (fun e => NSL.out.symm (Option.some.inj e))); clear HB HO BT BL; have HB := n0_; have HO := Aside0.mk p0_; have BT := m0_; have BL := m1_; clear n0_ p0_ m0_ m1_ BS; have BS := Aside0.mk q1; clear q1 q2 hw hzs hfs) | ((with_reducible refine gate_dst (N := 6) rfl ?_); refine box_event ?hg (N := 6) ?hd (cs := #[.nilFunc]) (t := 46) ?hr ?_; (case hd => rfl); (case hg => rfl); (case hr => first | (go_simp; done) | (go_simp; rfl)); intro gv hg w6 hbox hb; have GV := Aside0.mk ((by rw [hg]; exact below_size HB.out) : w.heap.size ≤ gv); have NVL := Aside0.mk ((by rw [hg]; exact Nat.ne_of_gt (blk_lt BL.out)) : gv ≠ gl); have NTV := Aside0.mk ((by rw [hg]; exact Nat.ne_of_lt (blk_lt BT.out)) : gt ≠ gv); have NSV := Aside0.mk ((by rw [hg]; exact Nat.ne_of_lt (blk_lt BS.out)) : gs' ≠ gv); have n0_ := Aside0.mk (below_step HB.out hb); have n1_ := Aside0.mk (blk_below BT.out hb); have n2_ := Aside0.mk (blk_below BL.out hb); have n3_ := Aside0.mk (Kd.R_below HO.out hb); have n4_ := Aside0.mk (blk_below BS.out hb); clear HB BT BL HO BS; have HB := n0_; have BT := n1_; have BL := n2_; have HO := n3_; have BS := n4_; clear n0_ n1_ n2_ n3_ n4_; have BV := Aside0.mk hbox; clear hb hbox hg; have hzv : w6.cell? ⟨gv, 0, none⟩ = some (.nilFunc) := (blk_cell BV.out 0).trans rfl; have hfv := blk_frozen BV.out 0) | ((with_reducible refine gate_store (p := 6) rfl ?_); refine store_event (t := 46) (p := 6) (v := ?vw7) (w1 := w6.setCell ⟨gv, 0, none⟩ (.func (.func 22) #[] #[.pointer (some ⟨gs', 0, none⟩), .pointer (some ⟨gt, 0, none⟩), .pointer (some ⟨gv, 0, none⟩), .pointer (some ⟨gl, 0, none⟩)])) ?hg ?ho ?hn ?hr ?_; (case ho => rfl); (case hg => rfl); (case hn => rfl); (case hr => first | (go_simp; done) | (go_simp; rfl)); intro w7 hw; obtain ⟨q1, q2⟩ := box_set BV.out (.func (.func 22) #[] #[.pointer (some ⟨gs', 0, none⟩), .pointer (some ⟨gt, 0, none⟩), .pointer (some ⟨gv, 0, none⟩), .pointer (some ⟨gl, 0, none⟩)]); have p0_ := Kd.R_set HO.out BV.out (by decide) 0 (.func (.func 22) #[] #[.pointer (some ⟨gs', 0, none⟩), .pointer (some ⟨gt, 0, none⟩), .pointer (some ⟨gv, 0, none⟩), .pointer (some ⟨gl, 0, none⟩)]); rw [← hw] at q1 q2 p0_; have n0_ := Aside0.mk (HB.out.grown q2 (below_size HB.out) (fun j hj => by cases hj; exact GV.out)); have m0_ := Aside0.mk (blk_grown BT.out q2 (fun e => NTV.out (Option.some.inj e))); have m1_ := Aside0.mk (blk_grown BL.out q2 (fun e => NVL.out.symm (Option.some.inj e))); have m2_ := Aside0.mk (blk_grown BS.out q2 (fun e => NSV.out (Option.some.inj e))); clear HB HO BT BL BS; have HB := n0_; have HO := Aside0.mk p0_; have BT := m0_; have BL := m1_; have BS := m2_; clear n0_ p0_ m0_ m1_ m2_ BV; have BV := Aside0.mk q1; clear q1 q2 hw hzv hfv; have HV := Aside0.mk (vi_start HB.out BT.out BS.out BV.out BL.out HO.out GT.out GS.out GV.out GL.out NTL.out NSL.out NVL.out); clear HB BT BS BV BL HO; have hct7 : w7.cell? ⟨gt, 0, none⟩ = some (.slice A0_0 l0_0.length c0_0) := (blk_cell HV.out.kt 0).trans rfl))
  repeat (go_quiet (first | ((with_reducible refine gate_dst (N := 1) rfl ?_); refine box_event ?hg (N := 1) ?hd (cs := #[.slice A0_0 l0_0.length c0_0, .int .i64 a0_1]) (t := 24) ?hr ?_; (case hd => rfl); (case hg => rfl); (case hr => first | (go_simp; done) | (go_simp; rfl)); intro gt hg w1 hbox hb; have GT := Aside0.mk ((by rw [hg]; exact below_size HB.out) : w.heap.size ≤ gt); have n0_ := Aside0.mk (below_step HB.out hb); clear HB; have HB := n0_; clear n0_; have BT := Aside0.mk hbox; clear hb hbox hg; have hct : w1.cell? ⟨gt, 0, none⟩ = some (.slice A0_0 l0_0.length c0_0) := (blk_cell BT.out 0).trans rfl; have hct1 : w1.cell? ⟨gt, 1, none⟩ = some (.int .i64 a0_1) := (blk_cell BT.out 1).trans rfl) | ((with_reducible refine gate_dst (N := 4) rfl ?_); refine box_event ?hg (N := 4) ?hd (cs := #[.slice none 0 0]) (t := 28) ?hr ?_; (case hd => rfl); (case hg => rfl); (case hr => first | (go_simp; done) | (go_simp; rfl)); intro gl hg w2 hbox hb; have GL := Aside0.mk ((by rw [hg]; exact below_size HB.out) : w.heap.size ≤ gl); have NTL := Aside0.mk ((by rw [hg]; exact Nat.ne_of_lt (blk_lt BT.out)) : gt ≠ gl); have n0_ := Aside0.mk (below_step HB.out hb); have n1_ := Aside0.mk (blk_below BT.out hb); clear HB BT; have HB := n0_; have BT := n1_; clear n0_ n1_; have BL := Aside0.mk hbox; clear hb hbox hg hct hct1; have hct2 : w2.cell? ⟨gt, 0, none⟩ = some (.slice A0_0 l0_0.length c0_0) := (blk_cell BT.out 0).trans rfl) | ((with_reducible refine gate_dst (N := 28) rfl ?_); refine Kd.R_make (Kd.int .i64) _ 3 rfl (N := 28) rfl 28 _ _ rfl (l0_0.length : Int) rfl rfl Try.underlying28 (.int .i64 0) 8 info3 rfl (by decide) (by omega) 0 (ok := fun _ => True) (okp := fun _ => True) rfl (fun _ hk => hk) trivial (by omega) (by have := HL.out; omega) (Below.refl _ _) (Nat.le_refl _) ?_; intro vs w3 ho hb hg hnew; rw [Int.toNat_natCast] at ho; have n0_ := Aside0.mk (below_step HB.out hb); have n1_ := Aside0.mk (blk_below BT.out hb); have n2_ := Aside0.mk (blk_below BL.out hb); have n3_ := Aside0.mk (Kd.R_lower ho (below_size HB.out)); clear HB BT BL hct2 hb hg hnew ho; have HB := n0_; have BT := n1_; have BL := n2_; have HO := n3_; clear n0_ n1_ n2_ n3_; obtain ⟨gs, cs, rfl, gsb, gsl, csl, HG⟩ := Kd.R_form HO.out (by have := HL.out; rw [List.length_replicate]; omega); have n0_ := Aside0.mk (rep_len HO.out); clear HO; have HO := n0_; clear n0_) | ((with_reducible refine gate_dst (N := 5) rfl ?_); refine box_event ?hg (N := 5) ?hd (cs := #[.slice none 0 0]) (t := 28) ?hr ?_; (case hd => rfl); (case hg => rfl); (case hr => first | (go_simp; done) | (go_simp; rfl)); intro gs' hg w4 hbox hb; have GS := Aside0.mk ((by rw [hg]; exact below_size HB.out) : w.heap.size ≤ gs'); have NSL := Aside0.mk ((by rw [hg]; exact Nat.ne_of_gt (blk_lt BL.out)) : gs' ≠ gl); have NTS := Aside0.mk ((by rw [hg]; exact Nat.ne_of_lt (blk_lt BT.out)) : gt ≠ gs'); have n0_ := Aside0.mk (below_step HB.out hb); have n1_ := Aside0.mk (blk_below BT.out hb); have n2_ := Aside0.mk (blk_below BL.out hb); have n3_ := Aside0.mk (Kd.R_below HO.out hb); clear HB BT BL HO; have HB := n0_; have BT := n1_; have BL := n2_; have HO := n3_; clear n0_ n1_ n2_ n3_; have BS := Aside0.mk hbox; clear hb hbox hg; have hzs : w4.cell? ⟨gs', 0, none⟩ = some (.slice none 0 0) := (blk_cell BS.out 0).trans rfl; have hfs := blk_frozen BS.out 0) | ((with_reducible refine gate_store (p := 5) rfl ?_); refine store_event (t := 28) (p := 5) (v := ?vw5) (w1 := w4.setCell ⟨gs', 0, none⟩ (.slice (some ⟨gs, 0, none⟩) l0_0.length cs)) ?hg ?ho ?hn ?hr ?_; (case ho => rfl); (case hg => rfl); (case hn => rfl); (case hr => first | (go_simp; done) | (go_simp; rfl)); intro w5 hw; obtain ⟨q1, q2⟩ := box_set BS.out (.slice (some ⟨gs, 0, none⟩) l0_0.length cs); have p0_ := Kd.R_set HO.out BS.out (by decide) 0 (.slice (some ⟨gs, 0, none⟩) l0_0.length cs); rw [← hw] at q1 q2 p0_; have n0_ := Aside0.mk (HB.out.grown q2 (below_size HB.out) (fun j hj => by cases hj; exact GS.out)); have m0_ := Aside0.mk (blk_grown BT.out q2 (fun e => NTS.out (Option.some.inj e))); have m1_ := Aside0.mk (blk_grown BL.out q2 (fun e => NSL.out.symm (Option.some.inj e))); clear HB HO BT BL; have HB := n0_; have HO := Aside0.mk p0_; have BT := m0_; have BL := m1_; clear n0_ p0_ m0_ m1_ BS; have BS := Aside0.mk q1; clear q1 q2 hw hzs hfs) | ((with_reducible refine gate_dst (N := 6) rfl ?_); refine box_event ?hg (N := 6) ?hd (cs := #[.nilFunc]) (t := 46) ?hr ?_; (case hd => rfl); (case hg => rfl); (case hr => first | (go_simp; done) | (go_simp; rfl)); intro gv hg w6 hbox hb; have GV := Aside0.mk ((by rw [hg]; exact below_size HB.out) : w.heap.size ≤ gv); have NVL := Aside0.mk ((by rw [hg]; exact Nat.ne_of_gt (blk_lt BL.out)) : gv ≠ gl); have NTV := Aside0.mk ((by rw [hg]; exact Nat.ne_of_lt (blk_lt BT.out)) : gt ≠ gv); have NSV := Aside0.mk ((by rw [hg]; exact Nat.ne_of_lt (blk_lt BS.out)) : gs' ≠ gv); have n0_ := Aside0.mk (below_step HB.out hb); have n1_ := Aside0.mk (blk_below BT.out hb); have n2_ := Aside0.mk (blk_below BL.out hb); have n3_ := Aside0.mk (Kd.R_below HO.out hb); have n4_ := Aside0.mk (blk_below BS.out hb); clear HB BT BL HO BS; have HB := n0_; have BT := n1_; have BL := n2_; have HO := n3_; have BS := n4_; clear n0_ n1_ n2_ n3_ n4_; have BV := Aside0.mk hbox; clear hb hbox hg; have hzv : w6.cell? ⟨gv, 0, none⟩ = some (.nilFunc) := (blk_cell BV.out 0).trans rfl; have hfv := blk_frozen BV.out 0) | ((with_reducible refine gate_store (p := 6) rfl ?_); refine store_event (t := 46) (p := 6) (v := ?vw7) (w1 := w6.setCell ⟨gv, 0, none⟩ (.func (.func 22) #[] #[.pointer (some ⟨gs', 0, none⟩), .pointer (some ⟨gt, 0, none⟩), .pointer (some ⟨gv, 0, none⟩), .pointer (some ⟨gl, 0, none⟩)])) ?hg ?ho ?hn ?hr ?_; (case ho => rfl); (case hg => rfl); (case hn => rfl); (case hr => first | (go_simp; done) | (go_simp; rfl)); intro w7 hw; obtain ⟨q1, q2⟩ := box_set BV.out (.func (.func 22) #[] #[.pointer (some ⟨gs', 0, none⟩), .pointer (some ⟨gt, 0, none⟩), .pointer (some ⟨gv, 0, none⟩), .pointer (some ⟨gl, 0, none⟩)]); have p0_ := Kd.R_set HO.out BV.out (by decide) 0 (.func (.func 22) #[] #[.pointer (some ⟨gs', 0, none⟩), .pointer (some ⟨gt, 0, none⟩), .pointer (some ⟨gv, 0, none⟩), .pointer (some ⟨gl, 0, none⟩)]); rw [← hw] at q1 q2 p0_; have n0_ := Aside0.mk (HB.out.grown q2 (below_size HB.out) (fun j hj => by cases hj; exact GV.out)); have m0_ := Aside0.mk (blk_grown BT.out q2 (fun e => NTV.out (Option.some.inj e))); have m1_ := Aside0.mk (blk_grown BL.out q2 (fun e => NVL.out.symm (Option.some.inj e))); have m2_ := Aside0.mk (blk_grown BS.out q2 (fun e => NSV.out (Option.some.inj e))); clear HB HO BT BL BS; have HB := n0_; have HO := Aside0.mk p0_; have BT := m0_; have BL := m1_; have BS := m2_; clear n0_ p0_ m0_ m1_ m2_ BV; have BV := Aside0.mk q1; clear q1 q2 hw hzv hfv; have HV := Aside0.mk (vi_start HB.out BT.out BS.out BV.out BL.out HO.out GT.out GS.out GV.out GL.out NTL.out NSL.out NVL.out); clear HB BT BS BV BL HO; have hct7 : w7.cell? ⟨gt, 0, none⟩ = some (.slice A0_0 l0_0.length c0_0) := (blk_cell HV.out.kt 0).trans rfl)); try go_wp2_with (first | ((with_reducible refine gate_dst (N := 1) rfl ?_); refine box_event ?hg (N := 1) ?hd (cs := #[.slice A0_0 l0_0.length c0_0, .int .i64 a0_1]) (t := 24) ?hr ?_; (case hd => rfl); (case hg => rfl); (case hr => first | (go_simp; done) | (go_simp; rfl)); intro gt hg w1 hbox hb; have GT := Aside0.mk ((by rw [hg]; exact below_size HB.out) : w.heap.size ≤ gt); have n0_ := Aside0.mk (below_step HB.out hb); clear HB; have HB := n0_; clear n0_; have BT := Aside0.mk hbox; clear hb hbox hg; have hct : w1.cell? ⟨gt, 0, none⟩ = some (.slice A0_0 l0_0.length c0_0) := (blk_cell BT.out 0).trans rfl; have hct1 : w1.cell? ⟨gt, 1, none⟩ = some (.int .i64 a0_1) := (blk_cell BT.out 1).trans rfl) | ((with_reducible refine gate_dst (N := 4) rfl ?_); refine box_event ?hg (N := 4) ?hd (cs := #[.slice none 0 0]) (t := 28) ?hr ?_; (case hd => rfl); (case hg => rfl); (case hr => first | (go_simp; done) | (go_simp; rfl)); intro gl hg w2 hbox hb; have GL := Aside0.mk ((by rw [hg]; exact below_size HB.out) : w.heap.size ≤ gl); have NTL := Aside0.mk ((by rw [hg]; exact Nat.ne_of_lt (blk_lt BT.out)) : gt ≠ gl); have n0_ := Aside0.mk (below_step HB.out hb); have n1_ := Aside0.mk (blk_below BT.out hb); clear HB BT; have HB := n0_; have BT := n1_; clear n0_ n1_; have BL := Aside0.mk hbox; clear hb hbox hg hct hct1; have hct2 : w2.cell? ⟨gt, 0, none⟩ = some (.slice A0_0 l0_0.length c0_0) := (blk_cell BT.out 0).trans rfl) | ((with_reducible refine gate_dst (N := 28) rfl ?_); refine Kd.R_make (Kd.int .i64) _ 3 rfl (N := 28) rfl 28 _ _ rfl (l0_0.length : Int) rfl rfl Try.underlying28 (.int .i64 0) 8 info3 rfl (by decide) (by omega) 0 (ok := fun _ => True) (okp := fun _ => True) rfl (fun _ hk => hk) trivial (by omega) (by have := HL.out; omega) (Below.refl _ _) (Nat.le_refl _) ?_; intro vs w3 ho hb hg hnew; rw [Int.toNat_natCast] at ho; have n0_ := Aside0.mk (below_step HB.out hb); have n1_ := Aside0.mk (blk_below BT.out hb); have n2_ := Aside0.mk (blk_below BL.out hb); have n3_ := Aside0.mk (Kd.R_lower ho (below_size HB.out)); clear HB BT BL hct2 hb hg hnew ho; have HB := n0_; have BT := n1_; have BL := n2_; have HO := n3_; clear n0_ n1_ n2_ n3_; obtain ⟨gs, cs, rfl, gsb, gsl, csl, HG⟩ := Kd.R_form HO.out (by have := HL.out; rw [List.length_replicate]; omega); have n0_ := Aside0.mk (rep_len HO.out); clear HO; have HO := n0_; clear n0_) | ((with_reducible refine gate_dst (N := 5) rfl ?_); refine box_event ?hg (N := 5) ?hd (cs := #[.slice none 0 0]) (t := 28) ?hr ?_; (case hd => rfl); (case hg => rfl); (case hr => first | (go_simp; done) | (go_simp; rfl)); intro gs' hg w4 hbox hb; have GS := Aside0.mk ((by rw [hg]; exact below_size HB.out) : w.heap.size ≤ gs'); have NSL := Aside0.mk ((by rw [hg]; exact Nat.ne_of_gt (blk_lt BL.out)) : gs' ≠ gl); have NTS := Aside0.mk ((by rw [hg]; exact Nat.ne_of_lt (blk_lt BT.out)) : gt ≠ gs'); have n0_ := Aside0.mk (below_step HB.out hb); have n1_ := Aside0.mk (blk_below BT.out hb); have n2_ := Aside0.mk (blk_below BL.out hb); have n3_ := Aside0.mk (Kd.R_below HO.out hb); clear HB BT BL HO; have HB := n0_; have BT := n1_; have BL := n2_; have HO := n3_; clear n0_ n1_ n2_ n3_; have BS := Aside0.mk hbox; clear hb hbox hg; have hzs : w4.cell? ⟨gs', 0, none⟩ = some (.slice none 0 0) := (blk_cell BS.out 0).trans rfl; have hfs := blk_frozen BS.out 0) | ((with_reducible refine gate_store (p := 5) rfl ?_); refine store_event (t := 28) (p := 5) (v := ?vw5) (w1 := w4.setCell ⟨gs', 0, none⟩ (.slice (some ⟨gs, 0, none⟩) l0_0.length cs)) ?hg ?ho ?hn ?hr ?_; (case ho => rfl); (case hg => rfl); (case hn => rfl); (case hr => first | (go_simp; done) | (go_simp; rfl)); intro w5 hw; obtain ⟨q1, q2⟩ := box_set BS.out (.slice (some ⟨gs, 0, none⟩) l0_0.length cs); have p0_ := Kd.R_set HO.out BS.out (by decide) 0 (.slice (some ⟨gs, 0, none⟩) l0_0.length cs); rw [← hw] at q1 q2 p0_; have n0_ := Aside0.mk (HB.out.grown q2 (below_size HB.out) (fun j hj => by cases hj; exact GS.out)); have m0_ := Aside0.mk (blk_grown BT.out q2 (fun e => NTS.out (Option.some.inj e))); have m1_ := Aside0.mk (blk_grown BL.out q2 (fun e => NSL.out.symm (Option.some.inj e))); clear HB HO BT BL; have HB := n0_; have HO := Aside0.mk p0_; have BT := m0_; have BL := m1_; clear n0_ p0_ m0_ m1_ BS; have BS := Aside0.mk q1; clear q1 q2 hw hzs hfs) | ((with_reducible refine gate_dst (N := 6) rfl ?_); refine box_event ?hg (N := 6) ?hd (cs := #[.nilFunc]) (t := 46) ?hr ?_; (case hd => rfl); (case hg => rfl); (case hr => first | (go_simp; done) | (go_simp; rfl)); intro gv hg w6 hbox hb; have GV := Aside0.mk ((by rw [hg]; exact below_size HB.out) : w.heap.size ≤ gv); have NVL := Aside0.mk ((by rw [hg]; exact Nat.ne_of_gt (blk_lt BL.out)) : gv ≠ gl); have NTV := Aside0.mk ((by rw [hg]; exact Nat.ne_of_lt (blk_lt BT.out)) : gt ≠ gv); have NSV := Aside0.mk ((by rw [hg]; exact Nat.ne_of_lt (blk_lt BS.out)) : gs' ≠ gv); have n0_ := Aside0.mk (below_step HB.out hb); have n1_ := Aside0.mk (blk_below BT.out hb); have n2_ := Aside0.mk (blk_below BL.out hb); have n3_ := Aside0.mk (Kd.R_below HO.out hb); have n4_ := Aside0.mk (blk_below BS.out hb); clear HB BT BL HO BS; have HB := n0_; have BT := n1_; have BL := n2_; have HO := n3_; have BS := n4_; clear n0_ n1_ n2_ n3_ n4_; have BV := Aside0.mk hbox; clear hb hbox hg; have hzv : w6.cell? ⟨gv, 0, none⟩ = some (.nilFunc) := (blk_cell BV.out 0).trans rfl; have hfv := blk_frozen BV.out 0) | ((with_reducible refine gate_store (p := 6) rfl ?_); refine store_event (t := 46) (p := 6) (v := ?vw7) (w1 := w6.setCell ⟨gv, 0, none⟩ (.func (.func 22) #[] #[.pointer (some ⟨gs', 0, none⟩), .pointer (some ⟨gt, 0, none⟩), .pointer (some ⟨gv, 0, none⟩), .pointer (some ⟨gl, 0, none⟩)])) ?hg ?ho ?hn ?hr ?_; (case ho => rfl); (case hg => rfl); (case hn => rfl); (case hr => first | (go_simp; done) | (go_simp; rfl)); intro w7 hw; obtain ⟨q1, q2⟩ := box_set BV.out (.func (.func 22) #[] #[.pointer (some ⟨gs', 0, none⟩), .pointer (some ⟨gt, 0, none⟩), .pointer (some ⟨gv, 0, none⟩), .pointer (some ⟨gl, 0, none⟩)]); have p0_ := Kd.R_set HO.out BV.out (by decide) 0 (.func (.func 22) #[] #[.pointer (some ⟨gs', 0, none⟩), .pointer (some ⟨gt, 0, none⟩), .pointer (some ⟨gv, 0, none⟩), .pointer (some ⟨gl, 0, none⟩)]); rw [← hw] at q1 q2 p0_; have n0_ := Aside0.mk (HB.out.grown q2 (below_size HB.out) (fun j hj => by cases hj; exact GV.out)); have m0_ := Aside0.mk (blk_grown BT.out q2 (fun e => NTV.out (Option.some.inj e))); have m1_ := Aside0.mk (blk_grown BL.out q2 (fun e => NVL.out.symm (Option.some.inj e))); have m2_ := Aside0.mk (blk_grown BS.out q2 (fun e => NSV.out (Option.some.inj e))); clear HB HO BT BL BS; have HB := n0_; have HO := Aside0.mk p0_; have BT := m0_; have BL := m1_; have BS := m2_; clear n0_ p0_ m0_ m1_ m2_ BV; have BV := Aside0.mk q1; clear q1 q2 hw hzv hfv; have HV := Aside0.mk (vi_start HB.out BT.out BS.out BV.out BL.out HO.out GT.out GS.out GV.out GL.out NTL.out NSL.out NVL.out); clear HB BT BS BV BL HO; have hct7 : w7.cell? ⟨gt, 0, none⟩ = some (.slice A0_0 l0_0.length c0_0) := (blk_cell HV.out.kt 0).trans rfl)))
  go_loopg [33] (l0_0.length + 1) (fun kq v33 w' => ∃ (q : Nat) (st l : List Int) (vl : Value), v33 = .int .i64 (q : Int) ∧ Aside0 (q ≤ l0_0.length ∧ l0_0.length < kq + q) ∧ Aside0 (VI w gt gs' gv gl gs A0_0 c0_0 cs l0_0.length a0_1 w' st l vl) ∧ Aside0 (ordL (visF l0_0 k) ((ints_ l0_0.length).drop q) st l = some (r1, r2)))
  case atStart => exact ⟨0, _, _, _, rfl, ⟨by omega⟩, HV, HH⟩
  case round =>
    clear HV HH
    obtain ⟨q, st, l, vl, rfl, HQ, HV, HH⟩ := hrel
    have hl200 := HL.out
    by_cases c4 : q < l0_0.length
    · have c4b0 : decide ((q : Int) < (l0_0.length : Int)) = true := decide_eq_true (by omega)
      have c4b1 := eq_true (show (q : Int) < (l0_0.length : Int) by omega)
      have C4 := Aside0.mk c4
      have hh := HH.out
      have edr : (ints_ l0_0.length).drop q = (q : Int) :: (ints_ l0_0.length).drop (q + 1) := by
        have hq : q < (ints_ l0_0.length).length := by unfold ints_; simpa using c4
        rw [List.drop_eq_getElem_cons hq]
        congr 1
        simp only [ints_, List.getElem_map, List.getElem_range]
      rw [edr] at hh
      simp only [ordL] at hh
      clear HH edr c4 hl200
      have hcv : wr.cell? ⟨gv, 0, none⟩ = some (.func (.func 22) #[] #[.pointer (some ⟨gs', 0, none⟩), .pointer (some ⟨gt, 0, none⟩), .pointer (some ⟨gv, 0, none⟩), .pointer (some ⟨gl, 0, none⟩)]) := (blk_cell HV.out.kv 0).trans rfl
      cases gk with
      | zero => exact absurd HQ.out (by have := C4.out; omega)
      | succ k1 =>
        obtain ⟨rr, hf, hh⟩ := Option.bind_eq_some_iff.1 hh
        have HF := Aside0.mk hf
        clear hf
        by_cases c8 : rr.1 = true
        · have c8x := c8
          rw [if_pos c8] at hh
          have HH := Aside0.mk hh
          clear hh c8
          go_wp2_with (fail)
          (refine (vis_calls w gt gs' gv gl gs A0_0 c0_0 cs a0_1 l0_0 HR0.out HC0.out k (q : Int) wr st l vl rr HV.out HF.out).mono ?_; rintro e w4 ⟨rfl, vl2, hv2, _⟩; have HV4 := Aside0.mk hv2; clear HV hv2 hcv; rw [c8x])
          go_wp2
          have ew : wrap64 ((q : Int) + 1) = ((q + 1 : Nat) : Int) := by have := C4.out; have := HL.out; unfold wrap64; omega
          try rw [ew]
          go_roundg k1
          case measure => omega
          case rel => exact ⟨q + 1, _, _, vl2, by first | rfl | (rw [ew]; done) | rw [ew], ⟨by have := HQ.out; have := C4.out; omega⟩, HV4, HH⟩
        · have c8x : rr.1 = false := Bool.eq_false_iff.2 c8
          rw [if_neg c8] at hh
          cases hh
          clear c8
          go_wp2_with (fail)
          (refine (vis_calls w gt gs' gv gl gs A0_0 c0_0 cs a0_1 l0_0 HR0.out HC0.out k (q : Int) wr st l vl rr HV.out HF.out).mono ?_; rintro e w4 ⟨rfl, vl2, hv2, _⟩; have HV4 := Aside0.mk hv2; clear HV hv2 hcv; rw [c8x])
          go_wp2
          go_ret2
          exact ⟨_, by first | rfl | (simp; done) | (simp [*]; done), Kd.R_nil _ _ _ _ _, HV4.out.hb⟩
    · have hq : q = l0_0.length := by have := HQ.out; omega
      subst hq
      have c4b0 : decide ((l0_0.length : Int) < (l0_0.length : Int)) = false := decide_eq_false (by omega)
      have hh := HH.out
      rw [List.drop_eq_nil_of_le (by unfold ints_; simp)] at hh
      simp only [ordL] at hh
      cases hh
      clear HH c4 hl200
      have hcl : wr.cell? ⟨gl, 0, none⟩ = some vl := (blk_cell HV.out.kl 0).trans rfl
      go_wp2
      go_ret2
      exact ⟨_, by first | rfl | (simp; done) | (simp [*]; done), Kd.R_mono HV.out.rl (fun _ _ => trivial), HV.out.hb⟩

end Go.Proofs.Ytdbomblcijejcaa.PStorePacks
