-- Printed by a turn of a template of the kit, and shortened: remarks and what nothing here uses are left out.
import Derived.Test.YtmfdfffedkejjaaQPSentenceEmptiesx0
namespace Go.Proofs.Ytmfdfffedkejjaa.PSentenceEmpties
open Go.RowKit Go.Proofs.YtmfdfffedkejjaaW.PrintWords Go.Proofs.YtmfdfffedkejjaaW.PrintLast Go.Proofs.YtmfdfffedkejjaaW.PrintMore
attribute [local go_sem] max2_int min2_int max_two min_two max_three min_three max_four min_four
set_option linter.unusedVariables false
set_option linter.unusedSimpArgs false
mutual
def sentence_spans_1.l0 : Nat → List Int → List Int → List Int → Int → Int → Int → Option (List Int)
  | 0, _, _, _, _, _, _ => none
  | k + 1, x0, x1, x6, x11, x12, x3000 => if x12 < x11 then (sentence_spans_1.l1 k x0 x1 x6 x12 x11 x12 x3000 0 x3000) else (some x6)
def sentence_spans_1.l1 : Nat → List Int → List Int → List Int → Int → Int → Int → Int → Int → Int → Option (List Int)
  | 0, _, _, _, _, _, _, _, _, _ => none
  | k + 1, x0, x1, x6, x7, x11, x12, x15, x16, x3000 => if x16 < x15 then (if 0 ≤ x7 then (if x7 < (x0.length : Int) then (if 0 ≤ x16 then (if (Go.bits .and .u32 (shr .u32 (rd x0 x7) x16) 1) = 1 then (if x7 < (x6.length : Int) then (if x16 < (x1.length : Int) then (sentence_spans_1.l1 k x0 x1 (x6.set (x7 : Int).toNat (Go.bits .or .u32 (rd x6 x7) (rd x1 x16))) x7 x11 x12 x15 (wrap64 (x16 + 1)) x3000) else (none)) else (none)) else (sentence_spans_1.l1 k x0 x1 x6 x7 x11 x12 x15 (wrap64 (x16 + 1)) x3000)) else (none)) else (none)) else (none)) else (sentence_spans_1.l0 k x0 x1 x6 x11 (wrap64 (x12 + 1)) x3000)
end
def sentence_spans_1.f (k : Nat) (l0 : List Int) (l1 : List Int) (a2_0 : Int) : Option (List Int) := if 0 ≤ a2_0 then (if (a2_0 : Int).toNat ≤ 70368744177664 then (sentence_spans_1.l0 k l0 l1 (List.replicate (a2_0 : Int).toNat 0) a2_0 0 a2_0) else (none)) else (none)
theorem sentence_spans_1.mono_l : ∀ k, (∀ y0 y1 y2 y3 y4 y5, LeO (sentence_spans_1.l0 k y0 y1 y2 y3 y4 y5) (sentence_spans_1.l0 (k + 1) y0 y1 y2 y3 y4 y5)) ∧ (∀ y0 y1 y2 y3 y4 y5 y6 y7 y8, LeO (sentence_spans_1.l1 k y0 y1 y2 y3 y4 y5 y6 y7 y8) (sentence_spans_1.l1 (k + 1) y0 y1 y2 y3 y4 y5 y6 y7 y8))
  | 0 => ⟨fun _ _ _ _ _ _ r h => by simp [sentence_spans_1.l0] at h, fun _ _ _ _ _ _ _ _ _ r h => by simp [sentence_spans_1.l1] at h⟩
  | k + 1 => by
    obtain ⟨ih0, ih1⟩ := sentence_spans_1.mono_l k
    refine ⟨?_, ?_⟩
    · intro y0 y1 y2 y3 y4 y5
      unfold sentence_spans_1.l0
      repeat' first
      | (with_reducible exact ih0 _ _ _ _ _ _)
      | (with_reducible exact ih1 _ _ _ _ _ _ _ _ _)
      | (with_reducible exact LeO.refl _)
      | (with_reducible exact LeO.none _)
      | (with_reducible refine LeO.ite ?_ ?_)
      | (with_reducible refine LeO.bind ?_ (fun _ => ?_))
      | exact ih0 _ _ _ _ _ _
      | exact ih1 _ _ _ _ _ _ _ _ _
      | exact LeO.none _
      | refine LeO.ite ?_ ?_
      | refine LeO.bind ?_ (fun _ => ?_)
    · intro y0 y1 y2 y3 y4 y5 y6 y7 y8
      unfold sentence_spans_1.l1
      repeat' first
      | (with_reducible exact ih0 _ _ _ _ _ _)
      | (with_reducible exact ih1 _ _ _ _ _ _ _ _ _)
      | (with_reducible exact LeO.refl _)
      | (with_reducible exact LeO.none _)
      | (with_reducible refine LeO.ite ?_ ?_)
      | (with_reducible refine LeO.bind ?_ (fun _ => ?_))
      | exact ih0 _ _ _ _ _ _
      | exact ih1 _ _ _ _ _ _ _ _ _
      | exact LeO.none _
      | refine LeO.ite ?_ ?_
      | refine LeO.bind ?_ (fun _ => ?_)
theorem sentence_spans_1.mono : ∀ a0 a1 a2 k, LeO (sentence_spans_1.f k a0 a1 a2) (sentence_spans_1.f (k + 1) a0 a1 a2) := by
  intro a0 a1 a2 k
  obtain ⟨ih0, ih1⟩ := sentence_spans_1.mono_l k
  unfold sentence_spans_1.f
  repeat' first
      | (with_reducible exact ih0 _ _ _ _ _ _)
      | (with_reducible exact ih1 _ _ _ _ _ _ _ _ _)
      | (with_reducible exact LeO.refl _)
      | (with_reducible exact LeO.none _)
      | (with_reducible refine LeO.ite ?_ ?_)
      | (with_reducible refine LeO.bind ?_ (fun _ => ?_))
      | exact ih0 _ _ _ _ _ _
      | exact ih1 _ _ _ _ _ _ _ _ _
      | exact LeO.none _
      | refine LeO.ite ?_ ?_
      | refine LeO.bind ?_ (fun _ => ?_)
def sentence_spans_1.T9 : Bool × List (List Nat × List Nat) := (true, [([], []), ([], []), ([0, 1], [0, 1]), ([2], [2]), ([], []), ([], []), ([4, 5], [4, 5]), ([6], [6]), ([3, 7], [3, 7]), ([0, 1, 0, 1, 2, 3, 4, 5, 6, 7, 8], [0, 1]), ([9, 8, 0, 1, 2, 3, 4, 5, 6, 7, 8], [8, 9])])
def sentence_spans_1.B9 : List Nat := [0, 0, 3, 7, 0, 0, 48, 112, 255, 511, 1023]
theorem sentence_spans_1.tab9 : rtab .any (opsOf Try.f73 9) = sentence_spans_1.T9 := by kernel_rfl
theorem sentence_spans_1.bits9 : waitsOk sentence_spans_1.T9.2 sentence_spans_1.B9 = true := by kernel_rfl
set_option maxHeartbeats 8000000 in
set_option maxRecDepth 100000 in
theorem sentence_spans_1.calls (k : Nat) (A0 : Option Addr) (c0 : Nat) (l0 : List Int) (A1 : Option Addr) (c1 : Nat) (l1 : List Int) (a2_0 : Int) (g2 : Nat) (r : List Int) (w : World) (hr0 : Kd.C (Kd.int .u32) w A0 l0.length l0) (hc0 : l0.length ≤ c0) (hr1 : Kd.C (Kd.int .u32) w A1 l1.length l1) (hc1 : l1.length ≤ c1) (hbk2 : w.heap[g2]? = some (.cells #[.int .i64 a2_0] 3 (0, 0))) (h : sentence_spans_1.f k l0 l1 a2_0 = some r) :
    Calls Try.prog 73 #[.slice A0 l0.length c0, .slice A1 l1.length c1, .pointer (some ⟨g2, 0, none⟩)] w fun e w' => ∃ v0_ : Value, e = .returned (v0_) ∧ Kd.R (Kd.int .u32) 40 w' w.heap.size (fun _ => True) v0_ r ∧ Below w.heap.size w w' := by
  (have hu3 := Try.underlying3); (have HR0 := Aside0.mk hr0); (have HC0 := Aside0.mk hc0); (clear hr0 hc0); (have HR1 := Aside0.mk hr1); (have HC1 := Aside0.mk hc1); (clear hr1 hc1); (have BK2 := Aside0.mk hbk2); (clear hbk2); (have HB := Aside0.mk (Below.refl w.heap.size w)); (have H : (if 0 ≤ a2_0 then (if (a2_0 : Int).toNat ≤ 70368744177664 then (sentence_spans_1.l0 k l0 l1 (List.replicate (a2_0 : Int).toNat 0) a2_0 0 a2_0) else (none)) else (none)) = some r := h); (clear h)
  by_cases c4 : 0 ≤ a2_0
  rotate_left
  · rw [if_neg c4] at H
    exact absurd H (by simp)
  (rw [if_pos c4] at H); (have c4b0 := eq_true c4); (have c4b1 : decide (0 ≤ a2_0) = true := decide_eq_true c4); (clear c4)
  by_cases c5 : (a2_0 : Int).toNat ≤ 70368744177664
  rotate_left
  · rw [if_neg c5] at H
    exact absurd H (by simp)
  (rw [if_pos c5] at H); (have c5b0 := eq_true c5); (have c5b1 : decide ((a2_0 : Int).toNat ≤ 70368744177664) = true := decide_eq_true c5); (clear c5); (obtain ⟨y140, hy140⟩ : ∃ y_ : List Int, y_ = (List.replicate (a2_0 : Int).toNat 0) := ⟨_, rfl⟩); (replace H : (sentence_spans_1.l0 k l0 l1 y140 a2_0 0 a2_0) = some r := by first | (rw [hy140]; with_reducible exact H) | (have H2_ := (Option.bind_some _ _).symm.trans H; rw [hy140]; with_reducible exact H2_) | (have H2_ := (Option.bind_some _ _).symm.trans H; with_reducible exact H2_) | with_reducible exact H | (rw [hy140]; exact H) | exact H); (have Ny140 := Aside0.mk hy140); (clear hy140); (have H' := Aside0.mk H); (clear H); (have hcz6_0 : w.cell? ⟨g2, 0, none⟩ = some (.int .i64 a2_0) := (blk_cell BK2.out 0).trans rfl); (have hfz6_0 := blk_frozen BK2.out 0)
  go_enter Try.func73, Try.ntmps73
  go_wp2_with (first | ((with_reducible refine gate_dst (N := 10) rfl ?_); refine Kd.R_make (Kd.int .u32) _ 40 rfl (N := 10) rfl 106 _ _ rfl a2_0 rfl rfl Try.underlying106 (.int .u32 0) 4 info40 rfl (by decide) (by omega) 0 (ok := fun _ => True) (okp := fun _ => True) rfl (fun _ hk => hk) trivial (of_decide_eq_true (by assumption)) (Nat.le_trans (Nat.mul_le_mul_right _ (of_decide_eq_true (by assumption) : a2_0.toNat ≤ 70368744177664)) (by omega)) (Below.refl _ _) (Nat.le_refl _) ?_; intro v141 w7 ho8 hb hg_ hnew_; clear hg_ hnew_; (first | rw [← Ny140.out] at ho8 | (simp only [Int.reduceToNat] at ho8; rw [← Ny140.out] at ho8)); have n0_ := Aside0.mk (Kd.R_lower ho8 (below_size (by repeat (first | (with_reducible first | exact HB.out | apply below_alloc | apply pw_below_drewN | apply below_drew1 | refine below_set ?_ GE2.out) | exact HB.out)))); have n1_ := Aside0.mk (blk_below (g := g2) (o := .cells #[.int .i64 a2_0] 3 (0, 0)) (by (with_reducible repeat (first | refine blk_drewN ?_ _ | refine blk_drew ?_ | refine blk_alloc ?_ _)); exact BK2.out) hb); have n2_ := Aside0.mk (below_step (by repeat (first | (with_reducible first | exact HB.out | apply below_alloc | apply pw_below_drewN | apply below_drew1 | refine below_set ?_ GE2.out) | exact HB.out)) hb); clear BK2; clear HB; have HO142 := n0_; have BK2 := n1_; have HB := n2_; clear n0_ n1_ n2_; clear hb ho8; have hcz9_0 : w7.cell? ⟨g2, 0, none⟩ = some (.int .i64 a2_0) := (blk_cell BK2.out 0).trans rfl; have hfz9_0 := blk_frozen BK2.out 0))
  go_loopg [12] k (fun kq v12 w' => ∃ (x6_1 : List Int) (x12_1 : Int), v12 = .int .i64 x12_1 ∧ Aside0 (sentence_spans_1.l0 kq l0 l1 x6_1 a2_0 x12_1 a2_0 = some r) ∧ Aside0 (kq ≤ k) ∧ Aside0 (Kd.R (Kd.int .u32) 40 w' w.heap.size (fun _ => True) v141 x6_1) ∧ Aside0 (w'.heap[g2]? = some (.cells #[.int .i64 a2_0] 3 (0, 0))) ∧ Aside0 (Below w.heap.size w w'))
  case atStart => exact ⟨(y140), (0), (by first | rfl | (simp; done) | (simp [*]; done)), H', ⟨Nat.le_refl _⟩, ⟨by (with_reducible repeat (first | apply Kd.R_alloc | apply Kd.R_drewN | apply Kd.R_drew)); exact HO142.out⟩, ⟨by (with_reducible repeat (first | refine blk_drewN ?_ _ | refine blk_drew ?_ | refine blk_alloc ?_ _)); exact BK2.out⟩, ⟨by repeat (first | (with_reducible first | exact HB.out | apply below_alloc | apply pw_below_drewN | apply below_drew1 | refine below_set ?_ GE2.out) | exact HB.out)⟩⟩
  case round =>
    (clear H'); (try clear c1); (try clear p2); (try clear c4); (try clear c4b0); (try clear c4b1); (try clear c5); (try clear c5b0); (try clear c5b1); (try clear c7); (try clear hcz6_0); (try clear hcz9_0); (try clear hfz6_0); (try clear hfz9_0); (obtain ⟨x6_1, x12_1, rfl, HA, HK1, HO_6, BK2, HB⟩ := hrel)
    cases gk with
    | zero => exact absurd HA.out (by simp [sentence_spans_1.l0])
    | succ k1 =>
      (have H := HA.out); (clear HA); (simp only [sentence_spans_1.l0] at H)
      by_cases c10 : x12_1 < a2_0
      rotate_left
      · rw [if_neg c10] at H
        (have c10b0 : decide (x12_1 < a2_0) = false := decide_eq_false c10); (clear c10); (obtain rfl := Option.some.inj H)
        go_wp2
        go_ret
        exact ⟨_, by first | rfl | (simp [errW_none, errW_some] <;> rfl) | (simp [*, errW_none, errW_some] <;> rfl), by (with_reducible repeat (first | apply Kd.R_alloc | apply Kd.R_drewN | apply Kd.R_drew)); exact HO_6.out, by repeat (first | (with_reducible first | exact HB.out | apply below_alloc | apply pw_below_drewN | apply below_drew1 | refine below_set ?_ GE2.out) | exact HB.out)⟩
      (rw [if_pos c10] at H); (have c10b0 : decide (x12_1 < a2_0) = true := decide_eq_true c10); (clear c10); (have H' := Aside0.mk H); (clear H); (have hcz11_0 : wr.cell? ⟨g2, 0, none⟩ = some (.int .i64 a2_0) := (blk_cell BK2.out 0).trans rfl); (have hfz11_0 := blk_frozen BK2.out 0)
      go_wp2
      go_loopg [16] k1 (fun kq v16 w' => ∃ (x6_2 : List Int) (x16_2 : Int), v16 = .int .i64 x16_2 ∧ Aside0 (sentence_spans_1.l1 kq l0 l1 x6_2 x12_1 a2_0 x12_1 a2_0 x16_2 a2_0 = some r) ∧ Aside0 (kq ≤ k1) ∧ Aside0 (Kd.R (Kd.int .u32) 40 w' w.heap.size (fun _ => True) v141 x6_2) ∧ Aside0 (w'.heap[g2]? = some (.cells #[.int .i64 a2_0] 3 (0, 0))) ∧ Aside0 (Below w.heap.size w w'))
      case atStart => exact ⟨(x6_1), (0), (by first | rfl | (simp; done) | (simp [*]; done)), H', ⟨Nat.le_refl _⟩, ⟨by (with_reducible repeat (first | apply Kd.R_alloc | apply Kd.R_drewN | apply Kd.R_drew)); exact HO_6.out⟩, ⟨by (with_reducible repeat (first | refine blk_drewN ?_ _ | refine blk_drew ?_ | refine blk_alloc ?_ _)); exact BK2.out⟩, ⟨by repeat (first | (with_reducible first | exact HB.out | apply below_alloc | apply pw_below_drewN | apply below_drew1 | refine below_set ?_ GE2.out) | exact HB.out)⟩⟩
      case round =>
        (clear H'); (try clear c1); (try clear p2); (try clear c4); (try clear c4b0); (try clear c4b1); (try clear c5); (try clear c5b0); (try clear c5b1); (try clear c7); (try clear c10); (try clear c10b0); (try clear hcz11_0); (try clear hcz6_0); (try clear hcz9_0); (try clear hfz11_0); (try clear hfz6_0); (try clear hfz9_0); (try clear p2); (obtain ⟨x6_2, x16_2, rfl, HA, HK2, HO_6, BK2, HB⟩ := hrel)
        cases gk with
        | zero => exact absurd HA.out (by simp [sentence_spans_1.l1])
        | succ k2 =>
          (have H := HA.out); (clear HA); (simp only [sentence_spans_1.l1] at H)
          by_cases c12 : x16_2 < a2_0
          rotate_left
          · rw [if_neg c12] at H
            (have c12b0 : decide (x16_2 < a2_0) = false := decide_eq_false c12); (clear c12); (have H' := Aside0.mk H); (clear H)
            go_wp2
            go_roundg k2
            case measure => have := HK1.out; have := HK2.out; omega
            case rel => exact ⟨(x6_2), (wrap64 (x12_1 + 1)), (by first | rfl | (simp; done) | (simp [*]; done)), H', ⟨by have := HK1.out; have := HK2.out; omega⟩, ⟨by (with_reducible repeat (first | apply Kd.R_alloc | apply Kd.R_drewN | apply Kd.R_drew)); exact HO_6.out⟩, ⟨by (with_reducible repeat (first | refine blk_drewN ?_ _ | refine blk_drew ?_ | refine blk_alloc ?_ _)); exact BK2.out⟩, ⟨by repeat (first | (with_reducible first | exact HB.out | apply below_alloc | apply pw_below_drewN | apply below_drew1 | refine below_set ?_ GE2.out) | exact HB.out)⟩⟩
          (rw [if_pos c12] at H); (have c12b0 : decide (x16_2 < a2_0) = true := decide_eq_true c12); (clear c12)
          by_cases c13 : 0 ≤ x12_1
          rotate_left
          · rw [if_neg c13] at H
            exact absurd H (by simp)
          (rw [if_pos c13] at H); (have c13b0 : decide (0 ≤ x12_1) = true := decide_eq_true c13); (clear c13)
          by_cases c14 : x12_1 < (l0.length : Int)
          rotate_left
          · rw [if_neg c14] at H
            exact absurd H (by simp)
          (rw [if_pos c14] at H); (have c14b0 : decide (x12_1 < (l0.length : Int)) = true := decide_eq_true c14); (clear c14)
          by_cases c15 : 0 ≤ x16_2
          rotate_left
          · rw [if_neg c15] at H
            exact absurd H (by simp)
          (rw [if_pos c15] at H); (have c15b0 := eq_true c15); (have c15b1 : decide (0 ≤ x16_2) = true := decide_eq_true c15); (clear c15); (obtain ⟨ji16, hji16⟩ : ∃ j_ : Int, (shr .u32 (rd l0 x12_1) x16_2) = j_ := ⟨_, rfl⟩); (replace H : (if (Go.bits .and .u32 (ji16) 1) = 1 then (if x12_1 < (x6_2.length : Int) then (if x16_2 < (l1.length : Int) then (sentence_spans_1.l1 k2 l0 l1 (x6_2.set (x12_1 : Int).toNat (Go.bits .or .u32 (rd x6_2 x12_1) (rd l1 x16_2))) x12_1 a2_0 x12_1 a2_0 (wrap64 (x16_2 + 1)) a2_0) else (none)) else (none)) else (sentence_spans_1.l1 k2 l0 l1 x6_2 x12_1 a2_0 x12_1 a2_0 (wrap64 (x16_2 + 1)) a2_0)) = some r := by first | (rw [hji16] at H; exact H) | (simp only [hji16] at H ⊢; exact H)); (have hji16_ : ((rd l0 x12_1) / 2 ^ min x16_2.toNat 32) = ji16 := hji16); (have hji16z : x16_2 ≤ 32 → ((rd l0 x12_1) / 2 ^ x16_2.toNat) = ji16 := shr_small hji16)
          by_cases c17 : (Go.bits .and .u32 (ji16) 1) = 1
          rotate_left
          · rw [if_neg c17] at H
            (have c17b0 : ((Go.bits .and .u32 (ji16) 1) == 1) = false := beq_eq_false_iff_ne.mpr c17); (have c17b1 : ((Go.bits .and .u32 (ji16) 1) != 1) = true := bne_iff_ne.mpr c17); (have H' := Aside0.mk H); (clear H); (have p143 : 0 ≤ (x12_1 : Int) := of_decide_eq_true (by assumption)); (have q143 : x12_1 < (l0.length : Int) := of_decide_eq_true (by assumption)); (obtain ⟨ad143, e143, hx143_0⟩ := Kd.at_int HR0.out x12_1 p143 q143); (cases e143); (replace hx143_0 := (HB.out.cell (World.block_lt_of_cell? w _ hx143_0)).trans hx143_0); (replace p143 := eq_true p143); (replace q143 := eq_true q143)
            go_wp2
            (first | go_roundg k2 | (simp only [← hji16]; go_roundg k2))
            case measure => have := HK1.out; have := HK2.out; omega
            case rel => first | exact ⟨(x6_2), (wrap64 (x16_2 + 1)), (by first | rfl | (simp; done) | (simp [*]; done)), H', ⟨by have := HK1.out; have := HK2.out; omega⟩, ⟨by (with_reducible repeat (first | apply Kd.R_alloc | apply Kd.R_drewN | apply Kd.R_drew)); exact HO_6.out⟩, ⟨by (with_reducible repeat (first | refine blk_drewN ?_ _ | refine blk_drew ?_ | refine blk_alloc ?_ _)); exact BK2.out⟩, ⟨by repeat (first | (with_reducible first | exact HB.out | apply below_alloc | apply pw_below_drewN | apply below_drew1 | refine below_set ?_ GE2.out) | exact HB.out)⟩⟩ | (subst hji16; exact ⟨(x6_2), (wrap64 (x16_2 + 1)), (by first | rfl | (simp; done) | (simp [*]; done)), H', ⟨by have := HK1.out; have := HK2.out; omega⟩, ⟨by (with_reducible repeat (first | apply Kd.R_alloc | apply Kd.R_drewN | apply Kd.R_drew)); exact HO_6.out⟩, ⟨by (with_reducible repeat (first | refine blk_drewN ?_ _ | refine blk_drew ?_ | refine blk_alloc ?_ _)); exact BK2.out⟩, ⟨by repeat (first | (with_reducible first | exact HB.out | apply below_alloc | apply pw_below_drewN | apply below_drew1 | refine below_set ?_ GE2.out) | exact HB.out)⟩⟩)
          (rw [if_pos c17] at H); (have c17b0 : ((Go.bits .and .u32 (ji16) 1) == 1) = true := beq_iff_eq.mpr c17); (have c17b1 : ((Go.bits .and .u32 (ji16) 1) != 1) = false := bne_eq_false_iff_eq.mpr c17); (clear c17)
          by_cases c18 : x12_1 < (x6_2.length : Int)
          rotate_left
          · rw [if_neg c18] at H
            exact absurd H (by simp)
          (rw [if_pos c18] at H); (have c18b0 : decide (x12_1 < (x6_2.length : Int)) = true := decide_eq_true c18); (clear c18)
          by_cases c19 : x16_2 < (l1.length : Int)
          rotate_left
          · rw [if_neg c19] at H
            exact absurd H (by simp)
          (rw [if_pos c19] at H); (have c19b0 : decide (x16_2 < (l1.length : Int)) = true := decide_eq_true c19); (clear c19); (obtain ⟨y146, hy146⟩ : ∃ y_ : List Int, y_ = (x6_2.set (x12_1 : Int).toNat (Go.bits .or .u32 (rd x6_2 x12_1) (rd l1 x16_2))) := ⟨_, rfl⟩); (replace H : (sentence_spans_1.l1 k2 l0 l1 y146 x12_1 a2_0 x12_1 a2_0 (wrap64 (x16_2 + 1)) a2_0) = some r := by first | (rw [hy146]; with_reducible exact H) | (have H2_ := (Option.bind_some _ _).symm.trans H; rw [hy146]; with_reducible exact H2_) | (have H2_ := (Option.bind_some _ _).symm.trans H; with_reducible exact H2_) | with_reducible exact H | (rw [hy146]; exact H) | exact H); (have Ny146 := Aside0.mk hy146); (clear hy146); (have H' := Aside0.mk H); (clear H); (have p143 : 0 ≤ (x12_1 : Int) := of_decide_eq_true (by assumption)); (have q143 : x12_1 < (l0.length : Int) := of_decide_eq_true (by assumption)); (obtain ⟨ad143, e143, hx143_0⟩ := Kd.at_int HR0.out x12_1 p143 q143); (cases e143); (replace hx143_0 := (HB.out.cell (World.block_lt_of_cell? w _ hx143_0)).trans hx143_0); (replace p143 := eq_true p143); (replace q143 := eq_true q143)
          try go_wp2
          (have n0_ := Aside0.mk (Kd.R_drew HO_6.out)); (have n1_ := Aside0.mk (blk_drew BK2.out)); (have n2_ := Aside0.mk (below_drew1 HB.out)); (clear HO_6); (clear BK2); (clear HB); (have HO_6 := n0_); (have BK2 := n1_); (have HB := n2_); (clear n0_ n1_ n2_); (obtain ⟨Ao22, co22, eo22⟩ := Kd.R_slice HO_6.out)
          (first | subst eo22 | (injection eo22 with f1_ f2_ f3_; have f4_ := f1_.symm; have f5_ := f3_.symm; clear f1_ f2_ f3_; subst f4_; subst f5_))
          (have p144 : 0 ≤ (x12_1 : Int) := of_decide_eq_true (by assumption)); (have q144 : x12_1 < (x6_2.length : Int) := of_decide_eq_true (by assumption)); (obtain ⟨ad144, e144, hx144_0⟩ := Kd.at_int (Kd.R_reads' HO_6.out).2.2 x12_1 p144 q144); (cases e144); (replace p144 := eq_true p144); (replace q144 := eq_true q144); (have p145 : 0 ≤ (x16_2 : Int) := of_decide_eq_true (by assumption)); (have q145 : x16_2 < (l1.length : Int) := of_decide_eq_true (by assumption)); (obtain ⟨ad145, e145, hx145_0⟩ := Kd.at_int HR1.out x16_2 p145 q145); (have hw145_0 := hx145_0); (cases e145); (replace hx145_0 := (HB.out.cell (World.block_lt_of_cell? w _ hx145_0)).trans hx145_0); (replace p145 := eq_true p145); (replace q145 := eq_true q145); (have p20 : 0 ≤ (x12_1 : Int) := of_decide_eq_true (by assumption)); (have q20 : (x12_1 : Int) < ((x6_2.length : Int) : Int) := of_decide_eq_true (by assumption)); (obtain ⟨go20, co20, eo20, gb20, gl20, cl20, HG20⟩ := Kd.R_form HO_6.out (by omega))
          (first | cases eo20 | (injection eo20 with ea_ en_ ec_; (first | subst ea_ | (injection ea_ with ea_; subst ea_)); subst ec_; clear en_))
          (have GB20 := Aside0.mk gb20); (have GG20 := Aside0.mk HG20); (clear gb20 gl20 HG20)
          (first | simp only [add_plain] at hx144_0 | skip)
          (obtain ⟨hx20_0, hf20_0⟩ := Kd.R_celln 0 HO_6.out (x12_1 : Int) p20 q20); (replace p20 := eq_true p20); (replace q20 := eq_true q20); (have HP23 := Kd.R_putn HO_6.out (x12_1 : Int) (Go.bits .or .u32 (rd x6_2 x12_1) (rd l1 x16_2))); (rw [← Ny146.out] at HP23); (have HQ23 := Aside0.mk HP23); (clear HP23)
          refine start_ (n := 11) (S := fun w' => w'.cell? ⟨go20, (x12_1).toNat, none⟩ = some (.int .u32 (rd x6_2 x12_1)) ∧ w'.cell? (ad145.add (x16_2).toNat) = some (.int .u32 (rd l1 x16_2))) (ds := [10]) #[false, false, false, false, false, false, false, false, false, false, false] (by kernel_rfl) rfl rfl ⟨hx144_0, ((HB.out.cell (World.block_lt_of_cell? w _ hw145_0)).trans hw145_0)⟩ (fun hHeld => ?_); refine with_tabW sentence_spans_1.tab9 sentence_spans_1.bits9 (fun HT_ HW_ => ?_)
          generalize wr.drew = w21 at HO_6 BK2 HB GG20 HQ23 hf20_0 hx144_0 hx145_0 hx20_0 hHeld ⊢
          refine pure_ (i := 0) (N := some 27) (v := ?_) (a' := ?_) #[true, false, false, false, false, false, false, false, false, false, false] rfl rfl (any_of HT_.out (by kernel_rfl)) (fun _ _ _ h => h) (Or.inl ⟨by rfl, ?_⟩) ?_ ?_
          rotate_left
          · intro w'
            go_simp
            with_reducible rfl
          rotate_left
          · simp only [Act.put, List.setIfInBounds_toArray, List.set_cons_zero, List.set_cons_succ, i64_w, i32_w]
            rfl
          refine pure_ (i := 1) (N := some 28) (v := ?_) (a' := ?_) #[true, true, false, false, false, false, false, false, false, false, false] rfl rfl (any_of HT_.out (by kernel_rfl)) (fun _ _ _ h => h) (Or.inl ⟨by rfl, ?_⟩) ?_ ?_
          rotate_left
          · intro w'
            go_simp
            with_reducible rfl
          rotate_left
          · simp only [Act.put, List.setIfInBounds_toArray, List.set_cons_zero, List.set_cons_succ, i64_w, i32_w]
            rfl
          refine pure_ (i := 2) (N := some 29) (v := ?_) (a' := ?_) #[true, true, true, false, false, false, false, false, false, false, false] rfl rfl (any_of HT_.out (by kernel_rfl)) (fun _ _ _ h => h) (Or.inl ⟨by rfl, ?_⟩) ?_ ?_
          rotate_left
          · intro w'
            go_simp
            with_reducible rfl
          rotate_left
          · simp only [Act.put, List.setIfInBounds_toArray, List.set_cons_zero, List.set_cons_succ, i64_w, i32_w]
            rfl
          refine pure_ (i := 4) (N := some 31) (v := ?_) (a' := ?_) #[true, true, true, false, true, false, false, false, false, false, false] rfl rfl (any_of HT_.out (by kernel_rfl)) (fun _ _ _ h => h) (Or.inl ⟨by rfl, ?_⟩) ?_ ?_
          rotate_left
          · intro w'
            go_simp
            with_reducible rfl
          rotate_left
          · simp only [Act.put, List.setIfInBounds_toArray, List.set_cons_zero, List.set_cons_succ, i64_w, i32_w]
            rfl
          refine pure_ (i := 5) (N := some 32) (v := ?_) (a' := ?_) #[true, true, true, false, true, true, false, false, false, false, false] rfl rfl (any_of HT_.out (by kernel_rfl)) (fun _ _ _ h => h) (Or.inl ⟨by rfl, ?_⟩) ?_ ?_
          rotate_left
          · intro w'
            go_simp
            with_reducible rfl
          rotate_left
          · simp only [Act.put, List.setIfInBounds_toArray, List.set_cons_zero, List.set_cons_succ, i64_w, i32_w]
            rfl
          refine pure_ (i := 6) (N := some 33) (v := ?_) (a' := ?_) #[true, true, true, false, true, true, true, false, false, false, false] rfl rfl (any_of HT_.out (by kernel_rfl)) (fun _ _ _ h => h) (Or.inl ⟨by rfl, ?_⟩) ?_ ?_
          rotate_left
          · intro w'
            go_simp
            with_reducible rfl
          rotate_left
          · simp only [Act.put, List.setIfInBounds_toArray, List.set_cons_zero, List.set_cons_succ, i64_w, i32_w]
            rfl
          refine take_ (i := 3) (N := some 30) (v := ?_) (a' := ?_) #[true, true, true, true, true, true, true, false, false, false, false] rfl rfl (take_ofW HT_.out HW_.out (by kernel_rfl)) (fun _ _ _ h => h) (Or.inl ⟨by rfl, ?_⟩) hHeld ?_ ?_
          rotate_left
          · rintro w' ⟨s0, s1⟩
            go_simp
            with_reducible rfl
          rotate_left
          · simp only [Act.put, List.setIfInBounds_toArray, List.set_cons_zero, List.set_cons_succ, i64_w, i32_w]
            rfl
          refine take_ (i := 7) (N := some 34) (v := ?_) (a' := ?_) #[true, true, true, true, true, true, true, true, false, false, false] rfl rfl (take_ofW HT_.out HW_.out (by kernel_rfl)) (fun _ _ _ h => h) (Or.inl ⟨by rfl, ?_⟩) hHeld ?_ ?_
          rotate_left
          · rintro w' ⟨s0, s1⟩
            go_simp
            with_reducible rfl
          rotate_left
          · simp only [Act.put, List.setIfInBounds_toArray, List.set_cons_zero, List.set_cons_succ, i64_w, i32_w]
            rfl
          refine pure_ (i := 8) (N := some 35) (v := ?_) (a' := ?_) #[true, true, true, true, true, true, true, true, true, false, false] rfl rfl (any_of HT_.out (by kernel_rfl)) (fun _ _ _ h => h) (Or.inl ⟨by rfl, ?_⟩) ?_ ?_
          rotate_left
          · intro w'
            go_simp
            with_reducible rfl
          rotate_left
          · simp only [Act.put, List.setIfInBounds_toArray, List.set_cons_zero, List.set_cons_succ, i64_w, i32_w]
            rfl
          refine pure_ (i := 9) (N := some 36) (v := ?_) (a' := ?_) #[true, true, true, true, true, true, true, true, true, true, false] rfl rfl (any_of HT_.out (by kernel_rfl)) (fun _ _ _ h => h) (Or.inl ⟨by rfl, ?_⟩) ?_ ?_
          rotate_left
          · intro w'
            go_simp
            with_reducible rfl
          rotate_left
          · simp only [Act.put, List.setIfInBounds_toArray, List.set_cons_zero, List.set_cons_succ, i64_w, i32_w]
            rfl
          refine last_ (i := 10) (N := none) #[true, true, true, true, true, true, true, true, true, true, true] rfl rfl (one_of HT_.out (by kernel_rfl)) (by decide) (fun K hK => ?_)
          refine skip_ (w1 := ?_) (by rfl) rfl ?_ ?_
          rotate_left
          · go_simp
            rfl
          refine hK.out _ _ ?_
          clear hK K
          refine done_ (done_of HT_.out (by kernel_rfl)) ?_
          try go_wp2
          (first | go_roundg k2 | (simp only [← hji16]; go_roundg k2))
          case measure => have := HK1.out; have := HK2.out; omega
          case rel => first | exact ⟨(y146), (wrap64 (x16_2 + 1)), (by first | rfl | (simp; done) | (simp [*]; done)), H', ⟨by have := HK1.out; have := HK2.out; omega⟩, ⟨by (with_reducible repeat (first | apply Kd.R_alloc | apply Kd.R_drewN | apply Kd.R_drew)); exact HQ23.out⟩, ⟨by (with_reducible repeat (first | refine blk_drewN ?_ _ | refine blk_drew ?_ | refine blk_alloc ?_ _)); refine blk_far ?_ (by have h_ := Kd.R_ne HO_6.out BK2.out (by decide); intro e_; exact h_ (by rw [e_]; rfl)) _; (with_reducible repeat (first | refine blk_drewN ?_ _ | refine blk_drew ?_ | refine blk_alloc ?_ _)); exact BK2.out⟩, ⟨by repeat (first | (with_reducible first | exact HB.out | apply below_alloc | apply pw_below_drewN | apply below_drew1 | refine below_set ?_ GB20.out | refine below_set ?_ GE2.out) | exact HB.out)⟩⟩ | (subst hji16; exact ⟨(y146), (wrap64 (x16_2 + 1)), (by first | rfl | (simp; done) | (simp [*]; done)), H', ⟨by have := HK1.out; have := HK2.out; omega⟩, ⟨by (with_reducible repeat (first | apply Kd.R_alloc | apply Kd.R_drewN | apply Kd.R_drew)); exact HQ23.out⟩, ⟨by (with_reducible repeat (first | refine blk_drewN ?_ _ | refine blk_drew ?_ | refine blk_alloc ?_ _)); refine blk_far ?_ (by have h_ := Kd.R_ne HO_6.out BK2.out (by decide); intro e_; exact h_ (by rw [e_]; rfl)) _; (with_reducible repeat (first | refine blk_drewN ?_ _ | refine blk_drew ?_ | refine blk_alloc ?_ _)); exact BK2.out⟩, ⟨by repeat (first | (with_reducible first | exact HB.out | apply below_alloc | apply pw_below_drewN | apply below_drew1 | refine below_set ?_ GB20.out | refine below_set ?_ GE2.out) | exact HB.out)⟩⟩)
end Go.Proofs.Ytmfdfffedkejjaa.PSentenceEmpties
