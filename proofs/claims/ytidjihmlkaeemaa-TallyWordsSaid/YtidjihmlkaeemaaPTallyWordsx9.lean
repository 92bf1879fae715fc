-- Written by a program of this session: a turn of the print kit's own.
import Derived.Test.YtidjihmlkaeemaaPTallyWordsx0
import Derived.Test.YtidjihmlkaeemaaPTallyWordsx1
import Derived.Test.YtidjihmlkaeemaaPTallyWordsx4
namespace Go.Proofs.Ytidjihmlkaeemaa.PTallyWords
open Go.RowKit Go.Proofs.YtidjihmlkaeemaaW.PrintWords Go.Proofs.YtidjihmlkaeemaaW.PrintLast Go.Proofs.YtidjihmlkaeemaaW.PrintMore
attribute [local go_sem] max2_int min2_int max_two min_two max_three min_three max_four min_four   -- for this text's walks alone
set_option linter.unusedVariables false
set_option linter.unusedSimpArgs false

/-! ### coppicerref_Place: function 38 -/
mutual
def coppicerref_Place.l0 : Nat → List Int → Int → List Int → Int → Int → Int → Int → List (List Int) → Int → Int → Option (Int)
  | 0, _, _, _, _, _, _, _, _, _, _ => none
  | k + 1, x1, x5, x9, x10, x11, x188000, x188001, x188002, x188003, x188004 => if x11 < x10 then (if 0 ≤ x11 then (if x11 < (x9.length : Int) then (coppicerref_Place.l1 k x1 x5 x11 (rd x9 x11) 0 x9 x10 x11 x188000 x188001 x188002 x188003 x188004) else (none)) else (none)) else (some x5)
def coppicerref_Place.l1 : Nat → List Int → Int → Int → Int → Int → List Int → Int → Int → Int → Int → List (List Int) → Int → Int → Option (Int)
  | 0, _, _, _, _, _, _, _, _, _, _, _, _, _ => none
  | k + 1, x1, x5, x6, x7, x8, x9, x10, x11, x188000, x188001, x188002, x188003, x188004 => if x8 < x7 then (if 0 ≤ x6 then (if x6 ≤ (x1.length : Int) then ((coppicerref_Leads.f k x188000 x188001 x188002 x188003 x188004 x188003 (x1.take (x6 : Int).toNat)).bind fun t193 => (if 0 ≤ t193 then (if t193 < (x188002.length : Int) then (if 0 ≤ x8 then (if x8 < ((rd_L1 x188002 t193).length : Int) then ((coppicerref_Many.f k x188000 x188001 x188002 x188003 x188004 (rd (rd_L1 x188002 t193) x8) (wrap64 ((wrap64 ((x1.length : Int) - x6)) - 1))).bind fun t196 => (coppicerref_Place.l1 k x1 (wrap64 (x5 + t196)) x6 x7 (wrap64 (x8 + 1)) x9 x10 x11 x188000 x188001 x188002 x188003 x188004)) else (none)) else (none)) else (none)) else (none))) else (none)) else (none)) else (coppicerref_Place.l0 k x1 x5 x9 x10 (wrap64 (x11 + 1)) x188000 x188001 x188002 x188003 x188004)
end
def coppicerref_Place.f (k : Nat) (a0_0 : Int) (a0_1 : Int) (l0_2 : List (List Int)) (a0_3 : Int) (a0_4 : Int) (l1 : List Int) : Option (Int) := coppicerref_Place.l0 k l1 0 l1 (l1.length : Int) 0 a0_0 a0_1 l0_2 a0_3 a0_4
theorem coppicerref_Place.mono_l : ∀ k, (∀ y0 y1 y2 y3 y4 y5 y6 y7 y8 y9, LeO (coppicerref_Place.l0 k y0 y1 y2 y3 y4 y5 y6 y7 y8 y9) (coppicerref_Place.l0 (k + 1) y0 y1 y2 y3 y4 y5 y6 y7 y8 y9)) ∧ (∀ y0 y1 y2 y3 y4 y5 y6 y7 y8 y9 y10 y11 y12, LeO (coppicerref_Place.l1 k y0 y1 y2 y3 y4 y5 y6 y7 y8 y9 y10 y11 y12) (coppicerref_Place.l1 (k + 1) y0 y1 y2 y3 y4 y5 y6 y7 y8 y9 y10 y11 y12))
  | 0 => ⟨fun _ _ _ _ _ _ _ _ _ _ r h => by simp [coppicerref_Place.l0] at h, fun _ _ _ _ _ _ _ _ _ _ _ _ _ r h => by simp [coppicerref_Place.l1] at h⟩
  | k + 1 => by
    obtain ⟨ih0, ih1⟩ := coppicerref_Place.mono_l k
    refine ⟨?_, ?_⟩
    · intro y0 y1 y2 y3 y4 y5 y6 y7 y8 y9
      unfold coppicerref_Place.l0
      repeat' first
      | (with_reducible exact ih0 _ _ _ _ _ _ _ _ _ _)
      | (with_reducible exact ih1 _ _ _ _ _ _ _ _ _ _ _ _ _)
      | (with_reducible exact coppicerref_Leads.mono _ _ _ _ _ _ _ _)
      | (with_reducible exact coppicerref_Many.mono _ _ _ _ _ _ _ _)
      | (with_reducible exact LeO.refl _)
      | (with_reducible exact LeO.none _)
      | (with_reducible refine LeO.ite ?_ ?_)
      | (with_reducible refine LeO.bind ?_ (fun _ => ?_))
      | exact ih0 _ _ _ _ _ _ _ _ _ _
      | exact ih1 _ _ _ _ _ _ _ _ _ _ _ _ _
      | exact coppicerref_Leads.mono _ _ _ _ _ _ _ _
      | exact coppicerref_Many.mono _ _ _ _ _ _ _ _
      | exact LeO.none _
      | refine LeO.ite ?_ ?_
      | refine LeO.bind ?_ (fun _ => ?_)
    · intro y0 y1 y2 y3 y4 y5 y6 y7 y8 y9 y10 y11 y12
      unfold coppicerref_Place.l1
      repeat' first
      | (with_reducible exact ih0 _ _ _ _ _ _ _ _ _ _)
      | (with_reducible exact ih1 _ _ _ _ _ _ _ _ _ _ _ _ _)
      | (with_reducible exact coppicerref_Leads.mono _ _ _ _ _ _ _ _)
      | (with_reducible exact coppicerref_Many.mono _ _ _ _ _ _ _ _)
      | (with_reducible exact LeO.refl _)
      | (with_reducible exact LeO.none _)
      | (with_reducible refine LeO.ite ?_ ?_)
      | (with_reducible refine LeO.bind ?_ (fun _ => ?_))
      | exact ih0 _ _ _ _ _ _ _ _ _ _
      | exact ih1 _ _ _ _ _ _ _ _ _ _ _ _ _
      | exact coppicerref_Leads.mono _ _ _ _ _ _ _ _
      | exact coppicerref_Many.mono _ _ _ _ _ _ _ _
      | exact LeO.none _
      | refine LeO.ite ?_ ?_
      | refine LeO.bind ?_ (fun _ => ?_)
theorem coppicerref_Place.mono : ∀ a0 a1 a2 a3 a4 a5 k, LeO (coppicerref_Place.f k a0 a1 a2 a3 a4 a5) (coppicerref_Place.f (k + 1) a0 a1 a2 a3 a4 a5) := by
  intro a0 a1 a2 a3 a4 a5 k
  obtain ⟨ih0, ih1⟩ := coppicerref_Place.mono_l k
  unfold coppicerref_Place.f
  repeat' first
      | (with_reducible exact ih0 _ _ _ _ _ _ _ _ _ _)
      | (with_reducible exact ih1 _ _ _ _ _ _ _ _ _ _ _ _ _)
      | (with_reducible exact coppicerref_Leads.mono _ _ _ _ _ _ _ _)
      | (with_reducible exact coppicerref_Many.mono _ _ _ _ _ _ _ _)
      | (with_reducible exact LeO.refl _)
      | (with_reducible exact LeO.none _)
      | (with_reducible refine LeO.ite ?_ ?_)
      | (with_reducible refine LeO.bind ?_ (fun _ => ?_))
      | exact ih0 _ _ _ _ _ _ _ _ _ _
      | exact ih1 _ _ _ _ _ _ _ _ _ _ _ _ _
      | exact coppicerref_Leads.mono _ _ _ _ _ _ _ _
      | exact coppicerref_Many.mono _ _ _ _ _ _ _ _
      | exact LeO.none _
      | refine LeO.ite ?_ ?_
      | refine LeO.bind ?_ (fun _ => ?_)
def coppicerref_Place.T8 : Bool × List (List Nat × List Nat) := (true, [([], []), ([], []), ([], []), ([2], [2]), ([], []), ([], []), ([5], [5]), ([], []), ([], []), ([7, 8], [7, 8]), ([4, 6, 9], [4, 6, 9]), ([3, 10], [3, 10]), ([11], [11]), ([], []), ([12, 13], [12, 13]), ([14], [14]), ([], []), ([16], [16]), ([], []), ([17, 18], [17, 18]), ([19], [19]), ([1, 15, 20, 10], [1, 15, 20]), ([0, 21], [0, 21]), ([22, 21, 0, 1, 2, 3, 4, 5, 6, 7, 8, 9, 10, 11, 12, 13, 14, 15, 16, 17, 18, 19, 20, 21, 22], [0, 22])])
def coppicerref_Place.B8 : List Nat := [0, 0, 0, 4, 0, 0, 32, 0, 0, 384, 1008, 2044, 4092, 0, 16380, 32764, 0, 65536, 0, 458752, 983040, 2097150, 4194303, 8388607]
theorem coppicerref_Place.tab8 : rtab .any (opsOf Try.f38 8) = coppicerref_Place.T8 := by kernel_rfl
theorem coppicerref_Place.bits8 : waitsOk coppicerref_Place.T8.2 coppicerref_Place.B8 = true := by kernel_rfl
set_option maxHeartbeats 8000000 in
set_option maxRecDepth 100000 in
theorem coppicerref_Place.calls (k : Nat) (a0_0 : Int) (a0_1 : Int) (A0_2 : Option Addr) (c0_2 : Nat) (l0_2 : List (List Int)) (a0_3 : Int) (a0_4 : Int) (A1 : Option Addr) (c1 : Nat) (l1 : List Int) (r : Int) (w : World) (hr0_2 : Kd.C (Kd.slice 3 (Kd.int .i64)) w A0_2 l0_2.length l0_2) (hc0_2 : l0_2.length ≤ c0_2) (hr1 : Kd.C (Kd.int .i64) w A1 l1.length l1) (hc1 : l1.length ≤ c1) (h : coppicerref_Place.f k a0_0 a0_1 l0_2 a0_3 a0_4 l1 = some r) :
    Calls Try.prog 38 #[.agg #[.int .i64 a0_0, .int .i64 a0_1, .slice A0_2 l0_2.length c0_2, .int .i64 a0_3, .int .u32 a0_4], .slice A1 l1.length c1] w fun e w' => e = .returned (.int .i64 r) ∧ Below w.heap.size w w' := by
  have hu41 := Try.underlying41
  have HR0_2 := Aside0.mk hr0_2
  have HC0_2 := Aside0.mk hc0_2
  clear hr0_2 hc0_2
  have HR1 := Aside0.mk hr1
  have HC1 := Aside0.mk hc1
  clear hr1 hc1
  have HB := Aside0.mk (Below.refl w.heap.size w)
  have H : (coppicerref_Place.l0 k l1 0 l1 (l1.length : Int) 0 a0_0 a0_1 l0_2 a0_3 a0_4) = some r := h
  clear h
  have H' := Aside0.mk H
  clear H
  go_enter Try.func38, Try.ntmps38
  go_wp2_with (first | ((with_reducible refine gate_dst (N := 2) rfl ?_); refine box_event ?hg (N := 2) ?hd (cs := #[.int .i64 a0_0, .int .i64 a0_1, .slice A0_2 l0_2.length c0_2, .int .i64 a0_3, .int .u32 a0_4]) (t := 41) ?hr ?_; (case hd => rfl); (case hg => rfl); (case hr => first | (go_simp; done) | (go_simp; rfl)); intro gb187 hg w3 hbox hb; have n0_ := Aside0.mk (below_step (by repeat (first | (with_reducible first | exact HB.out | apply below_alloc | apply pw_below_drewN | apply below_drew1) | exact HB.out)) hb); have n1_ := Aside0.mk (hbox); have n2_ := Aside0.mk ((by rw [hg]; exact (below_size (by repeat (first | (with_reducible first | exact HB.out | apply below_alloc | apply pw_below_drewN | apply below_drew1) | exact HB.out))) : w.heap.size ≤ gb187)); have n3_ := Aside0.mk ((by rw [hg]; exact (below_size (by repeat (first | (with_reducible first | exact HB.out | apply below_alloc | apply pw_below_drewN | apply below_drew1) | exact HB.out))) : w.heap.size ≤ gb187)); clear HB; have HB := n0_; have BK187 := n1_; have GW187 := n2_; have GE187 := n3_; clear n0_ n1_ n2_ n3_; clear hb hbox hg))
  go_loopg [5, 11] k (fun kq v5 v11 w' => ∃ (x5_1 : Int) (x11_1 : Int), v5 = .int .i64 x5_1 ∧ v11 = .int .i64 x11_1 ∧ Aside0 (coppicerref_Place.l0 kq l1 x5_1 l1 (l1.length : Int) x11_1 a0_0 a0_1 l0_2 a0_3 a0_4 = some r) ∧ Aside0 (kq ≤ k) ∧ Aside0 (w'.heap[gb187]? = some (.cells #[.int .i64 a0_0, .int .i64 a0_1, (.slice A0_2 l0_2.length c0_2), .int .i64 a0_3, .int .u32 a0_4] 41 (0, 0))) ∧ Aside0 (Below w.heap.size w w'))
  case atStart => exact ⟨(0), (0), (by first | rfl | (simp; done) | (simp [*]; done)), (by first | rfl | (simp; done) | (simp [*]; done)), H', ⟨Nat.le_refl _⟩, ⟨by (with_reducible repeat (first | refine blk_drewN ?_ _ | refine blk_drew ?_ | refine blk_alloc ?_ _)); exact BK187.out⟩, ⟨by repeat (first | (with_reducible first | exact HB.out | apply below_alloc | apply pw_below_drewN | apply below_drew1 | refine below_set ?_ GE187.out) | exact HB.out)⟩⟩
  case round =>
    clear H'
    try clear c1
    try clear p2
    try clear c3
    obtain ⟨x5_1, x11_1, rfl, rfl, HA, HK1, BK187, HB⟩ := hrel
    cases gk with
    | zero => exact absurd HA.out (by simp [coppicerref_Place.l0])
    | succ k1 =>
      have H := HA.out
      clear HA
      simp only [coppicerref_Place.l0] at H
      by_cases c4 : x11_1 < (l1.length : Int)
      · rw [if_pos c4] at H
        have c4b0 : decide (x11_1 < (l1.length : Int)) = true := decide_eq_true c4
        clear c4
        by_cases c5 : 0 ≤ x11_1
        · rw [if_pos c5] at H
          have c5b0 : decide (0 ≤ x11_1) = true := decide_eq_true c5
          clear c5
          by_cases c6 : x11_1 < (l1.length : Int)
          · rw [if_pos c6] at H
            have c6b0 : decide (x11_1 < (l1.length : Int)) = true := decide_eq_true c6
            clear c6
            have H' := Aside0.mk H
            clear H
            have p188 : 0 ≤ (x11_1 : Int) := of_decide_eq_true (by first | (with_reducible assumption) | assumption)
            have q188 : x11_1 < (l1.length : Int) := of_decide_eq_true (by first | (with_reducible assumption) | assumption)
            obtain ⟨ad188, e188, hx188_0⟩ := Kd.at_int HR1.out x11_1 p188 q188
            cases e188
            replace hx188_0 := (HB.out.cell (World.block_lt_of_cell? w _ hx188_0)).trans hx188_0
            replace p188 := eq_true p188
            replace q188 := eq_true q188
            go_wp2
            go_loopg [5, 8] k1 (fun kq v5 v8 w' => ∃ (x5_2 : Int) (x8_2 : Int), v5 = .int .i64 x5_2 ∧ v8 = .int .i64 x8_2 ∧ Aside0 (coppicerref_Place.l1 kq l1 x5_2 x11_1 (rd l1 x11_1) x8_2 l1 (l1.length : Int) x11_1 a0_0 a0_1 l0_2 a0_3 a0_4 = some r) ∧ Aside0 (kq ≤ k1) ∧ Aside0 (w'.heap[gb187]? = some (.cells #[.int .i64 a0_0, .int .i64 a0_1, (.slice A0_2 l0_2.length c0_2), .int .i64 a0_3, .int .u32 a0_4] 41 (0, 0))) ∧ Aside0 (Below w.heap.size w w'))
            case atStart => exact ⟨(x5_1), (0), (by first | rfl | (simp; done) | (simp [*]; done)), (by first | rfl | (simp; done) | (simp [*]; done)), H', ⟨Nat.le_refl _⟩, ⟨by (with_reducible repeat (first | refine blk_drewN ?_ _ | refine blk_drew ?_ | refine blk_alloc ?_ _)); exact BK187.out⟩, ⟨by repeat (first | (with_reducible first | exact HB.out | apply below_alloc | apply pw_below_drewN | apply below_drew1 | refine below_set ?_ GE187.out) | exact HB.out)⟩⟩
            case round =>
              clear H'
              try clear c1
              try clear p1
              try clear q1
              try clear hx1
              try clear p2
              try clear c3
              try clear c4
              try clear c4b0
              try clear c5
              try clear c5b0
              try clear c6
              try clear c6b0
              try clear hx188_0
              try clear p188
              try clear p2
              try clear q188
              obtain ⟨x5_2, x8_2, rfl, rfl, HA, HK2, BK187, HB⟩ := hrel
              cases gk with
              | zero => exact absurd HA.out (by simp [coppicerref_Place.l1])
              | succ k2 =>
                have H := HA.out
                clear HA
                simp only [coppicerref_Place.l1] at H
                by_cases c7 : x8_2 < (rd l1 x11_1)
                · rw [if_pos c7] at H
                  have c7b0 : decide (x8_2 < (rd l1 x11_1)) = true := decide_eq_true c7
                  clear c7
                  by_cases c8 : 0 ≤ x11_1
                  · rw [if_pos c8] at H
                    have c8b0 := eq_true c8
                    have c8b1 : decide (0 ≤ x11_1) = true := decide_eq_true c8
                    clear c8
                    by_cases c9 : x11_1 ≤ (l1.length : Int)
                    · rw [if_pos c9] at H
                      have c9b0 := eq_true c9
                      have c9b1 : decide (x11_1 ≤ (l1.length : Int)) = true := decide_eq_true c9
                      clear c9
                      obtain ⟨y189, hy189⟩ : ∃ y_ : List Int, y_ = (l1.take (x11_1 : Int).toNat) := ⟨_, rfl⟩
                      replace H : ((coppicerref_Leads.f k2 a0_0 a0_1 l0_2 a0_3 a0_4 a0_3 y189).bind fun t193 => (if 0 ≤ t193 then (if t193 < (l0_2.length : Int) then (if 0 ≤ x8_2 then (if x8_2 < ((rd_L1 l0_2 t193).length : Int) then ((coppicerref_Many.f k2 a0_0 a0_1 l0_2 a0_3 a0_4 (rd (rd_L1 l0_2 t193) x8_2) (wrap64 ((wrap64 ((l1.length : Int) - x11_1)) - 1))).bind fun t196 => (coppicerref_Place.l1 k2 l1 (wrap64 (x5_2 + t196)) x11_1 (rd l1 x11_1) (wrap64 (x8_2 + 1)) l1 (l1.length : Int) x11_1 a0_0 a0_1 l0_2 a0_3 a0_4)) else (none)) else (none)) else (none)) else (none))) = some r := by first | (rw [hy189]; with_reducible exact H) | (have H2_ := (Option.bind_some _ _).symm.trans H; rw [hy189]; with_reducible exact H2_) | (have H2_ := (Option.bind_some _ _).symm.trans H; with_reducible exact H2_) | with_reducible exact H | (rw [hy189]; exact H) | exact H
                      have Ny189 := Aside0.mk hy189
                      clear hy189
                      replace H := Option.bind_eq_some_iff.mp H
                      obtain ⟨t193, A100, H⟩ := H
                      replace H : (if 0 ≤ t193 then (if t193 < (l0_2.length : Int) then (if 0 ≤ x8_2 then (if x8_2 < ((rd_L1 l0_2 t193).length : Int) then ((coppicerref_Many.f k2 a0_0 a0_1 l0_2 a0_3 a0_4 (rd (rd_L1 l0_2 t193) x8_2) (wrap64 ((wrap64 ((l1.length : Int) - x11_1)) - 1))).bind fun t196 => (coppicerref_Place.l1 k2 l1 (wrap64 (x5_2 + t196)) x11_1 (rd l1 x11_1) (wrap64 (x8_2 + 1)) l1 (l1.length : Int) x11_1 a0_0 a0_1 l0_2 a0_3 a0_4)) else (none)) else (none)) else (none)) else (none)) = some r := H
                      have A10 := Aside0.mk A100
                      clear A100
                      by_cases c11 : 0 ≤ t193
                      · rw [if_pos c11] at H
                        have c11b0 : decide (0 ≤ t193) = true := decide_eq_true c11
                        clear c11
                        by_cases c12 : t193 < (l0_2.length : Int)
                        · rw [if_pos c12] at H
                          have c12b0 : decide (t193 < (l0_2.length : Int)) = true := decide_eq_true c12
                          clear c12
                          by_cases c13 : 0 ≤ x8_2
                          · rw [if_pos c13] at H
                            have c13b0 : decide (0 ≤ x8_2) = true := decide_eq_true c13
                            clear c13
                            by_cases c14 : x8_2 < ((rd_L1 l0_2 t193).length : Int)
                            · rw [if_pos c14] at H
                              have c14b0 : decide (x8_2 < ((rd_L1 l0_2 t193).length : Int)) = true := decide_eq_true c14
                              clear c14
                              replace H := Option.bind_eq_some_iff.mp H
                              obtain ⟨t196, A150, H⟩ := H
                              replace H : (coppicerref_Place.l1 k2 l1 (wrap64 (x5_2 + t196)) x11_1 (rd l1 x11_1) (wrap64 (x8_2 + 1)) l1 (l1.length : Int) x11_1 a0_0 a0_1 l0_2 a0_3 a0_4) = some r := H
                              have A15 := Aside0.mk A150
                              clear A150
                              have H' := Aside0.mk H
                              clear H
                              try go_wp2
                              have n0_ := Aside0.mk (blk_drew BK187.out)
                              have n1_ := Aside0.mk (below_drew1 HB.out)
                              clear BK187
                              clear HB
                              have BK187 := n0_
                              have HB := n1_
                              clear n0_ n1_
                              have q17 : (x11_1 : Int) ≤ ((l1.length : Int) : Int) := of_decide_eq_true (by first | (with_reducible assumption) | assumption)
                              obtain ⟨i017, hi017, _, hsz17, _⟩ := info_parts info3
                              have hroom17 : l1.length ≤ c1 := HC1.out
                              have hC17 : Kd.C (Kd.int .i64) _ (some ad188) l1.length l1 := HR1.out
                              have hcut17 := cut_to (P := Try.prog) 33 3 .i64 Try.underlying33 hi017 (some ad188) l1.length c1 x11_1 (of_decide_eq_true (by first | (with_reducible assumption) | assumption)) q17 hroom17
                              have hr17 := Kd.C_take (m := (x11_1 : Int).toNat) hC17 (by omega)
                              have hy17 : y189.length = (x11_1 : Int).toNat := (by rw [Ny189.out, List.length_take]; omega)
                              rw [← Ny189.out] at hr17
                              rw [← hy17] at hcut17
                              have HR192 := Aside0.mk hr17
                              have HC192 := Aside0.mk (show y189.length ≤ c1 from by omega)
                              clear hr17 hC17 hroom17 hi017 hsz17
                              have KY17 := Aside0.mk hy17
                              clear hy17
                              replace q17 := eq_true q17
                              have p194 : 0 ≤ (t193 : Int) := of_decide_eq_true (by first | (with_reducible assumption) | assumption)
                              have q194 : t193 < (l0_2.length : Int) := of_decide_eq_true (by first | (with_reducible assumption) | assumption)
                              obtain ⟨ad194, A194_0, c194_0, e194, hx194_0, hl194_0, hi194_0⟩ := at_L1 HR0_2.out t193 p194 q194
                              have hw194_0 := hx194_0
                              cases e194
                              replace hx194_0 := (HB.out.cell (World.block_lt_of_cell? w _ hx194_0)).trans hx194_0
                              have HR194_0 := Aside0.mk hi194_0
                              have HC194_0 := Aside0.mk hl194_0
                              clear hi194_0 hl194_0
                              replace p194 := eq_true p194
                              replace q194 := eq_true q194
                              have p195 : 0 ≤ (x8_2 : Int) := of_decide_eq_true (by first | (with_reducible assumption) | assumption)
                              have q195 : x8_2 < ((rd_L1 l0_2 t193).length : Int) := of_decide_eq_true (by first | (with_reducible assumption) | assumption)
                              obtain ⟨ad195, e195, hx195_0⟩ := Kd.at_int HR194_0.out x8_2 p195 q195
                              have hw195_0 := hx195_0
                              cases e195
                              replace hx195_0 := (HB.out.cell (World.block_lt_of_cell? w _ hx195_0)).trans hx195_0
                              replace p195 := eq_true p195
                              replace q195 := eq_true q195
                              refine start_ (n := 24) (S := fun w' => w'.cell? ⟨gb187, 0, none⟩ = some (.int .i64 a0_0) ∧ w'.cell? ⟨gb187, 1, none⟩ = some (.int .i64 a0_1) ∧ w'.cell? ⟨gb187, 2, none⟩ = some (.slice (some ad194) l0_2.length c0_2) ∧ w'.cell? ⟨gb187, 3, none⟩ = some (.int .i64 a0_3) ∧ w'.cell? ⟨gb187, 4, none⟩ = some (.int .u32 a0_4) ∧ w'.cell? (ad194.add (t193).toNat) = some (.slice (some ad195) (rd_L1 l0_2 t193).length c194_0) ∧ w'.cell? (ad195.add (x8_2).toNat) = some (.int .i64 (rd (rd_L1 l0_2 t193) x8_2))) (ds := []) #[false, false, false, false, false, false, false, false, false, false, false, false, false, false, false, false, false, false, false, false, false, false, false, false] (by kernel_rfl) rfl rfl ⟨(blk_cell BK187.out 0).trans rfl, (blk_cell BK187.out 1).trans rfl, (blk_cell BK187.out 2).trans rfl, (blk_cell BK187.out 3).trans rfl, (blk_cell BK187.out 4).trans rfl, ((HB.out.cell (World.block_lt_of_cell? w _ hw194_0)).trans hw194_0), ((HB.out.cell (World.block_lt_of_cell? w _ hw195_0)).trans hw195_0)⟩ (fun hHeld => ?_); refine with_tabW coppicerref_Place.tab8 coppicerref_Place.bits8 (fun HT_ HW_ => ?_)
                              generalize wr.drew = w16 at BK187 HB HR192 HR194_0 hx194_0 hx195_0 hHeld ⊢
                              refine pure_ (i := 0) (N := some 21) (v := ?_) (a' := ?_) #[true, false, false, false, false, false, false, false, false, false, false, false, false, false, false, false, false, false, false, false, false, false, false, false] rfl rfl (any_of HT_.out (by kernel_rfl)) (fun _ _ _ h => h) (Or.inl ⟨by rfl, ?_⟩) ?_ ?_
                              rotate_left
                              · intro w'
                                go_simp
                                with_reducible rfl
                              rotate_left
                              · simp only [Act.put, List.setIfInBounds_toArray, List.set_cons_zero, List.set_cons_succ, i64_w, i32_w]
                                rfl
                              refine pure_ (i := 2) (N := some 23) (v := ?_) (a' := ?_) #[true, false, true, false, false, false, false, false, false, false, false, false, false, false, false, false, false, false, false, false, false, false, false, false] rfl rfl (any_of HT_.out (by kernel_rfl)) (fun _ _ _ h => h) (Or.inl ⟨by rfl, ?_⟩) ?_ ?_
                              rotate_left
                              · intro w'
                                go_simp
                                with_reducible rfl
                              rotate_left
                              · simp only [Act.put, List.setIfInBounds_toArray, List.set_cons_zero, List.set_cons_succ, i64_w, i32_w]
                                rfl
                              refine pure_ (i := 5) (N := some 26) (v := ?_) (a' := ?_) #[true, false, true, false, false, true, false, false, false, false, false, false, false, false, false, false, false, false, false, false, false, false, false, false] rfl rfl (any_of HT_.out (by kernel_rfl)) (fun _ _ _ h => h) (Or.inl ⟨by rfl, ?_⟩) ?_ ?_
                              rotate_left
                              · intro w'
                                go_simp
                                with_reducible rfl
                              rotate_left
                              · simp only [Act.put, List.setIfInBounds_toArray, List.set_cons_zero, List.set_cons_succ, i64_w, i32_w]
                                rfl
                              refine pure_ (i := 7) (N := some 28) (v := ?_) (a' := ?_) #[true, false, true, false, false, true, false, true, false, false, false, false, false, false, false, false, false, false, false, false, false, false, false, false] rfl rfl (any_of HT_.out (by kernel_rfl)) (fun _ _ _ h => h) (Or.inl ⟨by rfl, ?_⟩) ?_ ?_
                              rotate_left
                              · intro w'
                                go_simp
                                with_reducible rfl
                              rotate_left
                              · simp only [Act.put, List.setIfInBounds_toArray, List.set_cons_zero, List.set_cons_succ, i64_w, i32_w]
                                rfl
                              refine pure_ (i := 8) (N := some 29) (v := ?_) (a' := ?_) #[true, false, true, false, false, true, false, true, true, false, false, false, false, false, false, false, false, false, false, false, false, false, false, false] rfl rfl (any_of HT_.out (by kernel_rfl)) (fun _ _ _ h => h) (Or.inl ⟨by rfl, ?_⟩) ?_ ?_
                              rotate_left
                              · intro w'
                                go_simp
                                with_reducible rfl
                              rotate_left
                              · simp only [Act.put, List.setIfInBounds_toArray, List.set_cons_zero, List.set_cons_succ, i64_w, i32_w]
                                rfl
                              refine pure_ (i := 9) (N := some 30) (v := ?_) (a' := ?_) #[true, false, true, false, false, true, false, true, true, true, false, false, false, false, false, false, false, false, false, false, false, false, false, false] rfl rfl (any_of HT_.out (by kernel_rfl)) (fun _ _ _ h => h) (Or.inl ⟨by rfl, ?_⟩) ?_ ?_
                              rotate_left
                              · intro w'
                                go_simp
                                with_reducible rfl
                              rotate_left
                              · simp only [Act.put, List.setIfInBounds_toArray, List.set_cons_zero, List.set_cons_succ, i64_w, i32_w]
                                rfl
                              refine pure_ (i := 13) (N := some 34) (v := ?_) (a' := ?_) #[true, false, true, false, false, true, false, true, true, true, false, false, false, true, false, false, false, false, false, false, false, false, false, false] rfl rfl (any_of HT_.out (by kernel_rfl)) (fun _ _ _ h => h) (Or.inl ⟨by rfl, ?_⟩) ?_ ?_
                              rotate_left
                              · intro w'
                                go_simp
                                with_reducible rfl
                              rotate_left
                              · simp only [Act.put, List.setIfInBounds_toArray, List.set_cons_zero, List.set_cons_succ, i64_w, i32_w]
                                rfl
                              refine pure_ (i := 16) (N := some 37) (v := ?_) (a' := ?_) #[true, false, true, false, false, true, false, true, true, true, false, false, false, true, false, false, true, false, false, false, false, false, false, false] rfl rfl (any_of HT_.out (by kernel_rfl)) (fun _ _ _ h => h) (Or.inl ⟨by rfl, ?_⟩) ?_ ?_
                              rotate_left
                              · intro w'
                                go_simp
                                with_reducible rfl
                              rotate_left
                              · simp only [Act.put, List.setIfInBounds_toArray, List.set_cons_zero, List.set_cons_succ, i64_w, i32_w]
                                rfl
                              refine pure_ (i := 17) (N := some 38) (v := ?_) (a' := ?_) #[true, false, true, false, false, true, false, true, true, true, false, false, false, true, false, false, true, true, false, false, false, false, false, false] rfl rfl (any_of HT_.out (by kernel_rfl)) (fun _ _ _ h => h) (Or.inl ⟨by rfl, ?_⟩) ?_ ?_
                              rotate_left
                              · intro w'
                                go_simp
                                with_reducible rfl
                              rotate_left
                              · simp only [Act.put, List.setIfInBounds_toArray, List.set_cons_zero, List.set_cons_succ, i64_w, i32_w]
                                rfl
                              refine pure_ (i := 18) (N := some 39) (v := ?_) (a' := ?_) #[true, false, true, false, false, true, false, true, true, true, false, false, false, true, false, false, true, true, true, false, false, false, false, false] rfl rfl (any_of HT_.out (by kernel_rfl)) (fun _ _ _ h => h) (Or.inl ⟨by rfl, ?_⟩) ?_ ?_
                              rotate_left
                              · intro w'
                                go_simp
                                with_reducible rfl
                              rotate_left
                              · simp only [Act.put, List.setIfInBounds_toArray, List.set_cons_zero, List.set_cons_succ, i64_w, i32_w]
                                rfl
                              refine pure_ (i := 19) (N := some 40) (v := ?_) (a' := ?_) #[true, false, true, false, false, true, false, true, true, true, false, false, false, true, false, false, true, true, true, true, false, false, false, false] rfl rfl (any_of HT_.out (by kernel_rfl)) (fun _ _ _ h => h) (Or.inl ⟨by rfl, ?_⟩) ?_ ?_
                              rotate_left
                              · intro w'
                                go_simp
                                with_reducible rfl
                              rotate_left
                              · simp only [Act.put, List.setIfInBounds_toArray, List.set_cons_zero, List.set_cons_succ, i64_w, i32_w]
                                rfl
                              refine pure_ (i := 20) (N := some 41) (v := ?_) (a' := ?_) #[true, false, true, false, false, true, false, true, true, true, false, false, false, true, false, false, true, true, true, true, true, false, false, false] rfl rfl (any_of HT_.out (by kernel_rfl)) (fun _ _ _ h => h) (Or.inl ⟨by rfl, ?_⟩) ?_ ?_
                              rotate_left
                              · intro w'
                                go_simp
                                with_reducible rfl
                              rotate_left
                              · simp only [Act.put, List.setIfInBounds_toArray, List.set_cons_zero, List.set_cons_succ, i64_w, i32_w]
                                rfl
                              refine take_ (i := 1) (N := some 22) (v := ?_) (a' := ?_) #[true, true, true, false, false, true, false, true, true, true, false, false, false, true, false, false, true, true, true, true, true, false, false, false] rfl rfl (take_ofW HT_.out HW_.out (by kernel_rfl)) (fun _ _ _ h => h) (Or.inl ⟨by rfl, ?_⟩) hHeld ?_ ?_
                              rotate_left
                              · rintro w' ⟨s0, s1, s2, s3, s4, s5, s6⟩
                                go_simp
                                with_reducible rfl
                              rotate_left
                              · simp only [Act.put, List.setIfInBounds_toArray, List.set_cons_zero, List.set_cons_succ, i64_w, i32_w]
                                rfl
                              refine take_ (i := 3) (N := some 24) (v := ?_) (a' := ?_) #[true, true, true, true, false, true, false, true, true, true, false, false, false, true, false, false, true, true, true, true, true, false, false, false] rfl rfl (take_ofW HT_.out HW_.out (by kernel_rfl)) (fun _ _ _ h => h) (Or.inl ⟨by rfl, ?_⟩) hHeld ?_ ?_
                              rotate_left
                              · rintro w' ⟨s0, s1, s2, s3, s4, s5, s6⟩
                                go_simp
                                with_reducible rfl
                              rotate_left
                              · simp only [Act.put, List.setIfInBounds_toArray, List.set_cons_zero, List.set_cons_succ, i64_w, i32_w]
                                rfl
                              refine take_ (i := 4) (N := some 25) (v := ?_) (a' := ?_) #[true, true, true, true, true, true, false, true, true, true, false, false, false, true, false, false, true, true, true, true, true, false, false, false] rfl rfl (take_ofW HT_.out HW_.out (by kernel_rfl)) (fun _ _ _ h => h) (Or.inl ⟨by rfl, ?_⟩) hHeld ?_ ?_
                              rotate_left
                              · rintro w' ⟨s0, s1, s2, s3, s4, s5, s6⟩
                                go_simp
                                with_reducible rfl
                              rotate_left
                              · simp only [Act.put, List.setIfInBounds_toArray, List.set_cons_zero, List.set_cons_succ, i64_w, i32_w]
                                rfl
                              refine take_ (i := 6) (N := some 27) (v := ?_) (a' := ?_) #[true, true, true, true, true, true, true, true, true, true, false, false, false, true, false, false, true, true, true, true, true, false, false, false] rfl rfl (take_ofW HT_.out HW_.out (by kernel_rfl)) (fun _ _ _ h => h) (Or.inl ⟨by rfl, ?_⟩) hHeld ?_ ?_
                              rotate_left
                              · rintro w' ⟨s0, s1, s2, s3, s4, s5, s6⟩
                                go_simp
                                with_reducible rfl
                              rotate_left
                              · simp only [Act.put, List.setIfInBounds_toArray, List.set_cons_zero, List.set_cons_succ, i64_w, i32_w]
                                rfl
                              refine one_ (i := 10) (N := some 31) #[true, true, true, true, true, true, true, true, true, true, true, false, false, true, false, false, true, true, true, true, true, false, false, false] rfl rfl (one_of HT_.out (by kernel_rfl)) (by decide) (fun K hK => ?_)
                              refine goes_ Try.func28 (by kernel_rfl) rfl #[.agg #[.int .i64 a0_0, .int .i64 a0_1, .slice (some ad194) l0_2.length c0_2, .int .i64 a0_3, .int .u32 a0_4], .int .i64 a0_3, .slice (some ad188) y189.length c1] (by rfl) rfl rfl (by (try simp only [List.map_toArray, List.map_cons, List.map_nil]); first | done | rfl | (simp only [List.length_drop, List.length_take]; rfl)) ?_
                              with_reducible refine (coppicerref_Leads.calls k2 a0_0 a0_1 _ _ l0_2 a0_3 a0_4 a0_3 _ _ y189 t193 _ ?side1 ?side2 ?side3 ?side4 A10.out).mono ?_
                              (case side1 => repeat (first | exact (Kd.C_below HR0_2.out HB.out) | (with_reducible refine Kd.C_alloc ?_ _) | (with_reducible refine Kd.C_drewN ?_ _) | (with_reducible refine Kd.C_drew ?_)))
                              (case side2 => exact HC0_2.out)
                              (case side3 => repeat (first | exact (Kd.C_below HR192.out HB.out) | (with_reducible refine Kd.C_alloc ?_ _) | (with_reducible refine Kd.C_drewN ?_ _) | (with_reducible refine Kd.C_drew ?_)))
                              (case side4 => exact HC192.out)
                              rintro e w18 ⟨rfl, hb⟩
                              refine ⟨_, rfl, ?_⟩
                              have n0_ := Aside0.mk (blk_below (g := gb187) (o := .cells #[.int .i64 a0_0, .int .i64 a0_1, .slice (some ad194) l0_2.length c0_2, .int .i64 a0_3, .int .u32 a0_4] 41 (0, 0)) (by (with_reducible repeat (first | refine blk_drewN ?_ _ | refine blk_drew ?_ | refine blk_alloc ?_ _)); exact BK187.out) hb)
                              have n1_ := Aside0.mk (below_step (by repeat (first | (with_reducible first | exact HB.out | apply below_alloc | apply pw_below_drewN | apply below_drew1 | refine below_set ?_ GE187.out) | exact HB.out)) hb)
                              clear BK187
                              clear HB
                              have BK187 := n0_
                              have HB := n1_
                              clear n0_ n1_
                              (try clear hb)
                              (try clear hb2)
                              (try clear hk)
                              (try clear hi)
                              refine hK.out _ _ ⟨(blk_cell BK187.out 0).trans rfl, (blk_cell BK187.out 1).trans rfl, (blk_cell BK187.out 2).trans rfl, (blk_cell BK187.out 3).trans rfl, (blk_cell BK187.out 4).trans rfl, ((HB.out.cell (World.block_lt_of_cell? w _ hw194_0)).trans hw194_0), ((HB.out.cell (World.block_lt_of_cell? w _ hw195_0)).trans hw195_0)⟩ (fun hHeld => ?_)
                              clear hK K
                              refine norm_ (a' := ?_) ?_ ?_
                              rotate_left
                              · show Act.put _ (some 31) _ = _
                                simp only [Act.put, List.setIfInBounds_toArray, List.set_cons_zero, List.set_cons_succ, i64_w, i32_w]
                                rfl
                              refine pure_ (i := 11) (N := some 32) (v := ?_) (a' := ?_) #[true, true, true, true, true, true, true, true, true, true, true, true, false, true, false, false, true, true, true, true, true, false, false, false] rfl rfl (any_of HT_.out (by kernel_rfl)) (fun _ _ _ h => h) (Or.inl ⟨by rfl, ?_⟩) ?_ ?_
                              rotate_left
                              · intro w'
                                go_simp
                                with_reducible rfl
                              rotate_left
                              · simp only [Act.put, List.setIfInBounds_toArray, List.set_cons_zero, List.set_cons_succ, i64_w, i32_w]
                                rfl
                              refine take_ (i := 12) (N := some 33) (v := ?_) (a' := ?_) #[true, true, true, true, true, true, true, true, true, true, true, true, true, true, false, false, true, true, true, true, true, false, false, false] rfl rfl (take_ofW HT_.out HW_.out (by kernel_rfl)) (fun _ _ _ h => h) (Or.inl ⟨by rfl, ?_⟩) hHeld ?_ ?_
                              rotate_left
                              · rintro w' ⟨s0, s1, s2, s3, s4, s5, s6⟩
                                go_simp
                                with_reducible rfl
                              rotate_left
                              · simp only [Act.put, List.setIfInBounds_toArray, List.set_cons_zero, List.set_cons_succ, i64_w, i32_w]
                                rfl
                              refine pure_ (i := 14) (N := some 35) (v := ?_) (a' := ?_) #[true, true, true, true, true, true, true, true, true, true, true, true, true, true, true, false, true, true, true, true, true, false, false, false] rfl rfl (any_of HT_.out (by kernel_rfl)) (fun _ _ _ h => h) (Or.inl ⟨by rfl, ?_⟩) ?_ ?_
                              rotate_left
                              · intro w'
                                go_simp
                                with_reducible rfl
                              rotate_left
                              · simp only [Act.put, List.setIfInBounds_toArray, List.set_cons_zero, List.set_cons_succ, i64_w, i32_w]
                                rfl
                              refine take_ (i := 15) (N := some 36) (v := ?_) (a' := ?_) #[true, true, true, true, true, true, true, true, true, true, true, true, true, true, true, true, true, true, true, true, true, false, false, false] rfl rfl (take_ofW HT_.out HW_.out (by kernel_rfl)) (fun _ _ _ h => h) (Or.inl ⟨by rfl, ?_⟩) hHeld ?_ ?_
                              rotate_left
                              · rintro w' ⟨s0, s1, s2, s3, s4, s5, s6⟩
                                go_simp
                                with_reducible rfl
                              rotate_left
                              · simp only [Act.put, List.setIfInBounds_toArray, List.set_cons_zero, List.set_cons_succ, i64_w, i32_w]
                                rfl
                              refine one_ (i := 21) (N := some 42) #[true, true, true, true, true, true, true, true, true, true, true, true, true, true, true, true, true, true, true, true, true, true, false, false] rfl rfl (one_of HT_.out (by kernel_rfl)) (by decide) (fun K hK => ?_)
                              refine goes_ Try.func36 (by kernel_rfl) rfl #[.agg #[.int .i64 a0_0, .int .i64 a0_1, .slice (some ad194) l0_2.length c0_2, .int .i64 a0_3, .int .u32 a0_4], .int .i64 (rd (rd_L1 l0_2 t193) x8_2), .int .i64 (wrap64 ((wrap64 ((l1.length : Int) - x11_1)) - 1))] (by rfl) rfl rfl (by (try simp only [List.map_toArray, List.map_cons, List.map_nil]); first | done | rfl | (simp only [List.length_drop, List.length_take]; rfl)) ?_
                              with_reducible refine (coppicerref_Many.calls k2 a0_0 a0_1 _ _ l0_2 a0_3 a0_4 (rd (rd_L1 l0_2 t193) x8_2) (wrap64 ((wrap64 ((l1.length : Int) - x11_1)) - 1)) t196 _ ?side1 ?side2 A15.out).mono ?_
                              (case side1 => repeat (first | exact (Kd.C_below HR0_2.out HB.out) | (with_reducible refine Kd.C_alloc ?_ _) | (with_reducible refine Kd.C_drewN ?_ _) | (with_reducible refine Kd.C_drew ?_)))
                              (case side2 => exact HC0_2.out)
                              rintro e w19 ⟨rfl, hb⟩
                              refine ⟨_, rfl, ?_⟩
                              have n0_ := Aside0.mk (blk_below (g := gb187) (o := .cells #[.int .i64 a0_0, .int .i64 a0_1, .slice (some ad194) l0_2.length c0_2, .int .i64 a0_3, .int .u32 a0_4] 41 (0, 0)) (by (with_reducible repeat (first | refine blk_drewN ?_ _ | refine blk_drew ?_ | refine blk_alloc ?_ _)); exact BK187.out) hb)
                              have n1_ := Aside0.mk (below_step (by repeat (first | (with_reducible first | exact HB.out | apply below_alloc | apply pw_below_drewN | apply below_drew1 | refine below_set ?_ GE187.out) | exact HB.out)) hb)
                              clear BK187
                              clear HB
                              have BK187 := n0_
                              have HB := n1_
                              clear n0_ n1_
                              (try clear hb)
                              (try clear hb2)
                              (try clear hk)
                              (try clear hi)
                              refine hK.out _ _ ⟨(blk_cell BK187.out 0).trans rfl, (blk_cell BK187.out 1).trans rfl, (blk_cell BK187.out 2).trans rfl, (blk_cell BK187.out 3).trans rfl, (blk_cell BK187.out 4).trans rfl, ((HB.out.cell (World.block_lt_of_cell? w _ hw194_0)).trans hw194_0), ((HB.out.cell (World.block_lt_of_cell? w _ hw195_0)).trans hw195_0)⟩ (fun hHeld => ?_)
                              clear hK K
                              refine norm_ (a' := ?_) ?_ ?_
                              rotate_left
                              · show Act.put _ (some 42) _ = _
                                simp only [Act.put, List.setIfInBounds_toArray, List.set_cons_zero, List.set_cons_succ, i64_w, i32_w]
                                rfl
                              refine pure_ (i := 22) (N := some 43) (v := ?_) (a' := ?_) #[true, true, true, true, true, true, true, true, true, true, true, true, true, true, true, true, true, true, true, true, true, true, true, false] rfl rfl (any_of HT_.out (by kernel_rfl)) (fun _ _ _ h => h) (Or.inl ⟨by rfl, ?_⟩) ?_ ?_
                              rotate_left
                              · intro w'
                                go_simp
                                with_reducible rfl
                              rotate_left
                              · simp only [Act.put, List.setIfInBounds_toArray, List.set_cons_zero, List.set_cons_succ, i64_w, i32_w]
                                rfl
                              refine pure_ (i := 23) (N := some 5) (v := ?_) (a' := ?_) #[true, true, true, true, true, true, true, true, true, true, true, true, true, true, true, true, true, true, true, true, true, true, true, true] rfl rfl (any_of HT_.out (by kernel_rfl)) (fun _ _ _ h => h) (Or.inl ⟨by rfl, ?_⟩) ?_ ?_
                              rotate_left
                              · intro w'
                                go_simp
                                with_reducible rfl
                              rotate_left
                              · simp only [Act.put, List.setIfInBounds_toArray, List.set_cons_zero, List.set_cons_succ, i64_w, i32_w]
                                rfl
                              refine done_ (done_of HT_.out (by kernel_rfl)) ?_
                              try go_wp2
                              go_roundg k2
                              case measure => have := HK1.out; have := HK2.out; omega
                              case rel => exact ⟨(wrap64 (x5_2 + t196)), (wrap64 (x8_2 + 1)), (by first | rfl | (simp; done) | (simp [*]; done)), (by first | rfl | (simp; done) | (simp [*]; done)), H', ⟨by have := HK1.out; have := HK2.out; omega⟩, ⟨by (with_reducible repeat (first | refine blk_drewN ?_ _ | refine blk_drew ?_ | refine blk_alloc ?_ _)); exact BK187.out⟩, ⟨by repeat (first | (with_reducible first | exact HB.out | apply below_alloc | apply pw_below_drewN | apply below_drew1 | refine below_set ?_ GE187.out) | exact HB.out)⟩⟩
                            · rw [if_neg c14] at H
                              exact absurd H (by simp)
                          · rw [if_neg c13] at H
                            exact absurd H (by simp)
                        · rw [if_neg c12] at H
                          exact absurd H (by simp)
                      · rw [if_neg c11] at H
                        exact absurd H (by simp)
                    · rw [if_neg c9] at H
                      exact absurd H (by simp)
                  · rw [if_neg c8] at H
                    exact absurd H (by simp)
                · rw [if_neg c7] at H
                  have c7b0 : decide (x8_2 < (rd l1 x11_1)) = false := decide_eq_false c7
                  clear c7
                  have H' := Aside0.mk H
                  clear H
                  go_wp2
                  go_roundg k2
                  case measure => have := HK1.out; have := HK2.out; omega
                  case rel => exact ⟨(x5_2), (wrap64 (x11_1 + 1)), (by first | rfl | (simp; done) | (simp [*]; done)), (by first | rfl | (simp; done) | (simp [*]; done)), H', ⟨by have := HK1.out; have := HK2.out; omega⟩, ⟨by (with_reducible repeat (first | refine blk_drewN ?_ _ | refine blk_drew ?_ | refine blk_alloc ?_ _)); exact BK187.out⟩, ⟨by repeat (first | (with_reducible first | exact HB.out | apply below_alloc | apply pw_below_drewN | apply below_drew1 | refine below_set ?_ GE187.out) | exact HB.out)⟩⟩
          · rw [if_neg c6] at H
            exact absurd H (by simp)
        · rw [if_neg c5] at H
          exact absurd H (by simp)
      · rw [if_neg c4] at H
        have c4b0 : decide (x11_1 < (l1.length : Int)) = false := decide_eq_false c4
        clear c4
        obtain rfl := Option.some.inj H
        go_wp2
        go_ret
        exact ⟨by first | rfl | (simp [errW_none, errW_some] <;> rfl) | (simp [*, errW_none, errW_some] <;> rfl), by repeat (first | (with_reducible first | exact HB.out | apply below_alloc | apply pw_below_drewN | apply below_drew1 | refine below_set ?_ GE187.out) | exact HB.out)⟩

end Go.Proofs.Ytidjihmlkaeemaa.PTallyWords
