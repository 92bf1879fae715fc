-- Written by a program of this session: a turn of the print kit's own.
import Derived.Test.YtpcphfbjnaikhaaPEndsDifferentsx0
import Derived.Test.YtpcphfbjnaikhaaPEndsDifferentsx1
namespace Go.Proofs.Ytpcphfbjnaikhaa.PEndsDifferents
open Go.RowKit Go.Proofs.YtpcphfbjnaikhaaW.PrintWords Go.Proofs.YtpcphfbjnaikhaaW.PrintLast Go.Proofs.YtpcphfbjnaikhaaW.PrintMore
attribute [local go_sem] max2_int min2_int max_two min_two max_three min_three max_four min_four   -- for this text's walks alone
set_option linter.unusedVariables false
set_option linter.unusedSimpArgs false

/-! ### ends_common: function 24 -/
mutual
def ends_common.l0 : Nat → List Int → List Int → List Int → List Int → List Int → Int → Int → Option (List Int)
  | 0, _, _, _, _, _, _, _ => none
  | k + 1, x0, x1, x5, x6, x20, x21, x22 => if x22 < x21 then (if 0 ≤ x22 then (if x22 < (x20.length : Int) then (if 0 ≤ (rd x20 x22) then (if (rd x20 x22) < (x6.length : Int) then (ends_common.l0 k x0 x1 x5 (x6.set ((rd x20 x22) : Int).toNat x22) x20 x21 (wrap64 (x22 + 1))) else (none)) else (none)) else (none)) else (none)) else (ends_common.l1 k x0 x1 x5 x6 0 (x0.length : Int) 0)
def ends_common.l1 : Nat → List Int → List Int → List Int → List Int → Int → Int → Int → Option (List Int)
  | 0, _, _, _, _, _, _, _ => none
  | k + 1, x0, x1, x5, x6, x9, x33, x34 => if x34 < x33 then (if 0 ≤ x34 then (if x34 < (x6.length : Int) then (if (rd x6 x34) = 0 then (ends_common.l1 k x0 x1 x5 x6 0 x33 (wrap64 (x34 + 1))) else (if 0 ≤ (wrap64 ((rd x6 x34) - 1)) then (if (wrap64 ((rd x6 x34) - 1)) < (x1.length : Int) then (ends_common.l2 k x0 x1 x5 x6 x9 x34 (rd x1 (wrap64 ((rd x6 x34) - 1))) x33 x34) else (none)) else (none))) else (none)) else (none)) else (some x5)
def ends_common.l2 : Nat → List Int → List Int → List Int → List Int → Int → Int → Int → Int → Int → Option (List Int)
  | 0, _, _, _, _, _, _, _, _, _ => none
  | k + 1, x0, x1, x5, x6, x9, x10, x11, x33, x34 => if (wrap64 (x10 + x9)) < (x0.length : Int) then (if (wrap64 (x11 + x9)) < (x0.length : Int) then (if 0 ≤ (wrap64 (x10 + x9)) then (if 0 ≤ (wrap64 (x11 + x9)) then (if (rd x0 (wrap64 (x10 + x9))) = (rd x0 (wrap64 (x11 + x9))) then (ends_common.l2 k x0 x1 x5 x6 (wrap64 (x9 + 1)) x10 x11 x33 x34) else (if 0 ≤ x10 then (if x10 < (x6.length : Int) then (if 0 ≤ (wrap64 ((rd x6 x10) - 1)) then (if (wrap64 ((rd x6 x10) - 1)) < (x5.length : Int) then (ends_common.l1 k x0 x1 (x5.set ((wrap64 ((rd x6 x10) - 1)) : Int).toNat x9) x6 (mx (wrap64 (x9 - 1)) 0) x33 (wrap64 (x34 + 1))) else (none)) else (none)) else (none)) else (none))) else (none)) else (none)) else (if 0 ≤ x10 then (if x10 < (x6.length : Int) then (if 0 ≤ (wrap64 ((rd x6 x10) - 1)) then (if (wrap64 ((rd x6 x10) - 1)) < (x5.length : Int) then (ends_common.l1 k x0 x1 (x5.set ((wrap64 ((rd x6 x10) - 1)) : Int).toNat x9) x6 (mx (wrap64 (x9 - 1)) 0) x33 (wrap64 (x34 + 1))) else (none)) else (none)) else (none)) else (none))) else (if 0 ≤ x10 then (if x10 < (x6.length : Int) then (if 0 ≤ (wrap64 ((rd x6 x10) - 1)) then (if (wrap64 ((rd x6 x10) - 1)) < (x5.length : Int) then (ends_common.l1 k x0 x1 (x5.set ((wrap64 ((rd x6 x10) - 1)) : Int).toNat x9) x6 (mx (wrap64 (x9 - 1)) 0) x33 (wrap64 (x34 + 1))) else (none)) else (none)) else (none)) else (none))
end
def ends_common.f (k : Nat) (l0 : List Int) (l1 : List Int) : Option (List Int) := if 0 ≤ (mx (wrap64 ((l1.length : Int) - 1)) 0) then (if (mx (wrap64 ((l1.length : Int) - 1)) 0 : Int).toNat ≤ 35184372088832 then (if 0 ≤ (l0.length : Int) then (if ((l0.length : Int) : Int).toNat ≤ 35184372088832 then (ends_common.l0 k l0 l1 (List.replicate (mx (wrap64 ((l1.length : Int) - 1)) 0 : Int).toNat 0) (List.replicate ((l0.length : Int) : Int).toNat 0) l1 (l1.length : Int) 0) else (none)) else (none)) else (none)) else (none)
theorem ends_common.mono_l : ∀ k, (∀ y0 y1 y2 y3 y4 y5 y6, LeO (ends_common.l0 k y0 y1 y2 y3 y4 y5 y6) (ends_common.l0 (k + 1) y0 y1 y2 y3 y4 y5 y6)) ∧ (∀ y0 y1 y2 y3 y4 y5 y6, LeO (ends_common.l1 k y0 y1 y2 y3 y4 y5 y6) (ends_common.l1 (k + 1) y0 y1 y2 y3 y4 y5 y6)) ∧ (∀ y0 y1 y2 y3 y4 y5 y6 y7 y8, LeO (ends_common.l2 k y0 y1 y2 y3 y4 y5 y6 y7 y8) (ends_common.l2 (k + 1) y0 y1 y2 y3 y4 y5 y6 y7 y8))
  | 0 => ⟨fun _ _ _ _ _ _ _ r h => by simp [ends_common.l0] at h, fun _ _ _ _ _ _ _ r h => by simp [ends_common.l1] at h, fun _ _ _ _ _ _ _ _ _ r h => by simp [ends_common.l2] at h⟩
  | k + 1 => by
    obtain ⟨ih0, ih1, ih2⟩ := ends_common.mono_l k
    refine ⟨?_, ?_, ?_⟩
    · intro y0 y1 y2 y3 y4 y5 y6
      unfold ends_common.l0
      repeat' first
      | (with_reducible exact ih0 _ _ _ _ _ _ _)
      | (with_reducible exact ih1 _ _ _ _ _ _ _)
      | (with_reducible exact ih2 _ _ _ _ _ _ _ _ _)
      | (with_reducible exact LeO.refl _)
      | (with_reducible exact LeO.none _)
      | (with_reducible refine LeO.ite ?_ ?_)
      | (with_reducible refine LeO.bind ?_ (fun _ => ?_))
      | exact ih0 _ _ _ _ _ _ _
      | exact ih1 _ _ _ _ _ _ _
      | exact ih2 _ _ _ _ _ _ _ _ _
      | exact LeO.none _
      | refine LeO.ite ?_ ?_
      | refine LeO.bind ?_ (fun _ => ?_)
    · intro y0 y1 y2 y3 y4 y5 y6
      unfold ends_common.l1
      repeat' first
      | (with_reducible exact ih0 _ _ _ _ _ _ _)
      | (with_reducible exact ih1 _ _ _ _ _ _ _)
      | (with_reducible exact ih2 _ _ _ _ _ _ _ _ _)
      | (with_reducible exact LeO.refl _)
      | (with_reducible exact LeO.none _)
      | (with_reducible refine LeO.ite ?_ ?_)
      | (with_reducible refine LeO.bind ?_ (fun _ => ?_))
      | exact ih0 _ _ _ _ _ _ _
      | exact ih1 _ _ _ _ _ _ _
      | exact ih2 _ _ _ _ _ _ _ _ _
      | exact LeO.none _
      | refine LeO.ite ?_ ?_
      | refine LeO.bind ?_ (fun _ => ?_)
    · intro y0 y1 y2 y3 y4 y5 y6 y7 y8
      unfold ends_common.l2
      repeat' first
      | (with_reducible exact ih0 _ _ _ _ _ _ _)
      | (with_reducible exact ih1 _ _ _ _ _ _ _)
      | (with_reducible exact ih2 _ _ _ _ _ _ _ _ _)
      | (with_reducible exact LeO.refl _)
      | (with_reducible exact LeO.none _)
      | (with_reducible refine LeO.ite ?_ ?_)
      | (with_reducible refine LeO.bind ?_ (fun _ => ?_))
      | exact ih0 _ _ _ _ _ _ _
      | exact ih1 _ _ _ _ _ _ _
      | exact ih2 _ _ _ _ _ _ _ _ _
      | exact LeO.none _
      | refine LeO.ite ?_ ?_
      | refine LeO.bind ?_ (fun _ => ?_)
theorem ends_common.mono : ∀ a0 a1 k, LeO (ends_common.f k a0 a1) (ends_common.f (k + 1) a0 a1) := by
  intro a0 a1 k
  obtain ⟨ih0, ih1, ih2⟩ := ends_common.mono_l k
  unfold ends_common.f
  repeat' first
      | (with_reducible exact ih0 _ _ _ _ _ _ _)
      | (with_reducible exact ih1 _ _ _ _ _ _ _)
      | (with_reducible exact ih2 _ _ _ _ _ _ _ _ _)
      | (with_reducible exact LeO.refl _)
      | (with_reducible exact LeO.none _)
      | (with_reducible refine LeO.ite ?_ ?_)
      | (with_reducible refine LeO.bind ?_ (fun _ => ?_))
      | exact ih0 _ _ _ _ _ _ _
      | exact ih1 _ _ _ _ _ _ _
      | exact ih2 _ _ _ _ _ _ _ _ _
      | exact LeO.none _
      | refine LeO.ite ?_ ?_
      | refine LeO.bind ?_ (fun _ => ?_)
set_option maxHeartbeats 8000000 in
set_option maxRecDepth 100000 in
theorem ends_common.calls (k : Nat) (A0 : Option Addr) (c0 : Nat) (l0 : List Int) (A1 : Option Addr) (c1 : Nat) (l1 : List Int) (r : List Int) (w : World) (hr0 : Kd.C (Kd.int .u8) w A0 l0.length l0) (hc0 : l0.length ≤ c0) (hr1 : Kd.C (Kd.int .i64) w A1 l1.length l1) (hc1 : l1.length ≤ c1) (h : ends_common.f k l0 l1 = some r) :
    Calls Try.prog 24 #[.slice A0 l0.length c0, .slice A1 l1.length c1] w fun e w' => ∃ v0_ : Value, e = .returned (v0_) ∧ Kd.R (Kd.int .i64) 3 w' w.heap.size (fun _ => True) v0_ r ∧ Below w.heap.size w w' := by
  have HR0 := Aside0.mk hr0
  have HC0 := Aside0.mk hc0
  clear hr0 hc0
  have HR1 := Aside0.mk hr1
  have HC1 := Aside0.mk hc1
  clear hr1 hc1
  have HB := Aside0.mk (Below.refl w.heap.size w)
  have H : (if 0 ≤ (mx (wrap64 ((l1.length : Int) - 1)) 0) then (if (mx (wrap64 ((l1.length : Int) - 1)) 0 : Int).toNat ≤ 35184372088832 then (if 0 ≤ (l0.length : Int) then (if ((l0.length : Int) : Int).toNat ≤ 35184372088832 then (ends_common.l0 k l0 l1 (List.replicate (mx (wrap64 ((l1.length : Int) - 1)) 0 : Int).toNat 0) (List.replicate ((l0.length : Int) : Int).toNat 0) l1 (l1.length : Int) 0) else (none)) else (none)) else (none)) else (none)) = some r := h
  clear h
  obtain ⟨ji3, hji3⟩ : ∃ j_ : Int, (mx (wrap64 ((l1.length : Int) - 1)) 0) = j_ := ⟨_, rfl⟩
  replace H : (if 0 ≤ (ji3) then (if (ji3 : Int).toNat ≤ 35184372088832 then (if 0 ≤ (l0.length : Int) then (if ((l0.length : Int) : Int).toNat ≤ 35184372088832 then (ends_common.l0 k l0 l1 (List.replicate (ji3 : Int).toNat 0) (List.replicate ((l0.length : Int) : Int).toNat 0) l1 (l1.length : Int) 0) else (none)) else (none)) else (none)) else (none)) = some r := by first | (rw [hji3] at H; exact H) | (simp only [hji3] at H ⊢; exact H)
  (try (have hji3l : 0 ≤ ji3 := by (rw [← hji3]; unfold mx; (repeat' split) <;> omega)))
  (try (have hji3m : 0 ≤ ji3 := by omega))
  have hji3_ : (if (wrap64 ((l1.length : Int) - 1)) < 0 then 0 else (wrap64 ((l1.length : Int) - 1))) = ji3 := hji3
  by_cases c4 : 0 ≤ (ji3)
  · rw [if_pos c4] at H
    have c4b0 := eq_true c4
    have c4b1 : decide (0 ≤ (ji3)) = true := decide_eq_true c4
    clear c4
    by_cases c5 : (ji3 : Int).toNat ≤ 35184372088832
    · rw [if_pos c5] at H
      have c5b0 := eq_true c5
      have c5b1 : decide ((ji3 : Int).toNat ≤ 35184372088832) = true := decide_eq_true c5
      clear c5
      obtain ⟨y110, hy110⟩ : ∃ y_ : List Int, y_ = (List.replicate (ji3 : Int).toNat 0) := ⟨_, rfl⟩
      replace H : (if 0 ≤ (l0.length : Int) then (if ((l0.length : Int) : Int).toNat ≤ 35184372088832 then (ends_common.l0 k l0 l1 y110 (List.replicate ((l0.length : Int) : Int).toNat 0) l1 (l1.length : Int) 0) else (none)) else (none)) = some r := by first | (rw [hy110]; with_reducible exact H) | (have H2_ := (Option.bind_some _ _).symm.trans H; rw [hy110]; with_reducible exact H2_) | (have H2_ := (Option.bind_some _ _).symm.trans H; with_reducible exact H2_) | with_reducible exact H | (rw [hy110]; exact H) | exact H
      have Ny110 := Aside0.mk hy110
      clear hy110
      by_cases c6 : 0 ≤ (l0.length : Int)
      · rw [if_pos c6] at H
        have c6b0 := eq_true c6
        have c6b1 : decide (0 ≤ (l0.length : Int)) = true := decide_eq_true c6
        clear c6
        by_cases c7 : ((l0.length : Int) : Int).toNat ≤ 35184372088832
        · rw [if_pos c7] at H
          have c7b0 := eq_true c7
          have c7b1 : decide (((l0.length : Int) : Int).toNat ≤ 35184372088832) = true := decide_eq_true c7
          clear c7
          obtain ⟨y113, hy113⟩ : ∃ y_ : List Int, y_ = (List.replicate ((l0.length : Int) : Int).toNat 0) := ⟨_, rfl⟩
          replace H : (ends_common.l0 k l0 l1 y110 y113 l1 (l1.length : Int) 0) = some r := by first | (rw [hy113]; with_reducible exact H) | (have H2_ := (Option.bind_some _ _).symm.trans H; rw [hy113]; with_reducible exact H2_) | (have H2_ := (Option.bind_some _ _).symm.trans H; with_reducible exact H2_) | with_reducible exact H | (rw [hy113]; exact H) | exact H
          have Ny113 := Aside0.mk hy113
          clear hy113
          have H' := Aside0.mk H
          clear H
          go_enter Try.func24, Try.ntmps24
          go_wp2_with (first | ((with_reducible refine gate_dst (N := 16) rfl ?_); (try (refine gate_guard (by rfl) ?_; dsimp only)); refine Kd.R_make (Kd.int .i64) _ 3 rfl (N := 16) rfl 23 _ _ rfl ji3 rfl rfl Try.underlying23 (.int .i64 0) 8 info3 rfl (by decide) (by omega) 0 (ok := fun _ => True) (okp := fun _ => True) rfl (fun _ hk => hk) trivial (of_decide_eq_true (by first | (with_reducible assumption) | assumption)) (Nat.le_trans (Nat.mul_le_mul_right _ (of_decide_eq_true (by first | (with_reducible assumption) | assumption) : ji3.toNat ≤ 35184372088832)) (by omega)) (Below.refl _ _) (Nat.le_refl _) ?_; intro v111 w8 ho9 hb hg_ hnew_; clear hg_ hnew_; (first | rw [← Ny110.out] at ho9 | (simp only [Int.reduceToNat] at ho9; rw [← Ny110.out] at ho9)); have n0_ := Aside0.mk (Kd.R_lower ho9 (below_size (by repeat (first | (with_reducible first | exact HB.out | apply below_alloc | apply pw_below_drewN | apply below_drew1) | exact HB.out)))); have n1_ := Aside0.mk (below_step (by repeat (first | (with_reducible first | exact HB.out | apply below_alloc | apply pw_below_drewN | apply below_drew1) | exact HB.out)) hb); clear HB; have HO112 := n0_; have HB := n1_; clear n0_ n1_; clear hb ho9) | ((with_reducible refine gate_dst (N := 19) rfl ?_); (try (refine gate_guard (by rfl) ?_; dsimp only)); refine Kd.R_make (Kd.int .i64) _ 3 rfl (N := 19) rfl 23 _ _ rfl (l0.length : Int) rfl rfl Try.underlying23 (.int .i64 0) 8 info3 rfl (by decide) (by omega) 0 (ok := fun _ => True) (okp := fun _ => True) rfl (fun _ hk => hk) trivial (of_decide_eq_true (by first | (with_reducible assumption) | assumption)) (Nat.le_trans (Nat.mul_le_mul_right _ (of_decide_eq_true (by first | (with_reducible assumption) | assumption) : (l0.length : Int).toNat ≤ 35184372088832)) (by omega)) (Below.refl _ _) (Nat.le_refl _) ?_; intro v114 w10 ho11 hb hg_ hnew_; clear hg_ hnew_; (first | rw [← Ny113.out] at ho11 | (simp only [Int.reduceToNat] at ho11; rw [← Ny113.out] at ho11)); have n0_ := Aside0.mk (Kd.R_elder' (by (with_reducible repeat (first | apply Kd.R_alloc | apply Kd.R_drewN | apply Kd.R_drew)); exact HO112.out) (Kd.R_base ho11) hb); have n1_ := Aside0.mk (Kd.R_lower (Kd.R_new' ho11 (Kd.R_lt (by (with_reducible repeat (first | apply Kd.R_alloc | apply Kd.R_drewN | apply Kd.R_drew)); exact HO112.out))) (below_size (by repeat (first | (with_reducible first | exact HB.out | apply below_alloc | apply pw_below_drewN | apply below_drew1) | exact HB.out)))); have n2_ := Aside0.mk (below_step (by repeat (first | (with_reducible first | exact HB.out | apply below_alloc | apply pw_below_drewN | apply below_drew1) | exact HB.out)) hb); clear HO112; clear HB; have HO112 := n0_; have HO115 := n1_; have HB := n2_; clear n0_ n1_ n2_; clear hb ho11))
          repeat (go_quiet (first | ((with_reducible refine gate_dst (N := 16) rfl ?_); (try (refine gate_guard (by rfl) ?_; dsimp only)); refine Kd.R_make (Kd.int .i64) _ 3 rfl (N := 16) rfl 23 _ _ rfl ji3 rfl rfl Try.underlying23 (.int .i64 0) 8 info3 rfl (by decide) (by omega) 0 (ok := fun _ => True) (okp := fun _ => True) rfl (fun _ hk => hk) trivial (of_decide_eq_true (by first | (with_reducible assumption) | assumption)) (Nat.le_trans (Nat.mul_le_mul_right _ (of_decide_eq_true (by first | (with_reducible assumption) | assumption) : ji3.toNat ≤ 35184372088832)) (by omega)) (Below.refl _ _) (Nat.le_refl _) ?_; intro v111 w8 ho9 hb hg_ hnew_; clear hg_ hnew_; (first | rw [← Ny110.out] at ho9 | (simp only [Int.reduceToNat] at ho9; rw [← Ny110.out] at ho9)); have n0_ := Aside0.mk (Kd.R_lower ho9 (below_size (by repeat (first | (with_reducible first | exact HB.out | apply below_alloc | apply pw_below_drewN | apply below_drew1) | exact HB.out)))); have n1_ := Aside0.mk (below_step (by repeat (first | (with_reducible first | exact HB.out | apply below_alloc | apply pw_below_drewN | apply below_drew1) | exact HB.out)) hb); clear HB; have HO112 := n0_; have HB := n1_; clear n0_ n1_; clear hb ho9) | ((with_reducible refine gate_dst (N := 19) rfl ?_); (try (refine gate_guard (by rfl) ?_; dsimp only)); refine Kd.R_make (Kd.int .i64) _ 3 rfl (N := 19) rfl 23 _ _ rfl (l0.length : Int) rfl rfl Try.underlying23 (.int .i64 0) 8 info3 rfl (by decide) (by omega) 0 (ok := fun _ => True) (okp := fun _ => True) rfl (fun _ hk => hk) trivial (of_decide_eq_true (by first | (with_reducible assumption) | assumption)) (Nat.le_trans (Nat.mul_le_mul_right _ (of_decide_eq_true (by first | (with_reducible assumption) | assumption) : (l0.length : Int).toNat ≤ 35184372088832)) (by omega)) (Below.refl _ _) (Nat.le_refl _) ?_; intro v114 w10 ho11 hb hg_ hnew_; clear hg_ hnew_; (first | rw [← Ny113.out] at ho11 | (simp only [Int.reduceToNat] at ho11; rw [← Ny113.out] at ho11)); have n0_ := Aside0.mk (Kd.R_elder' (by (with_reducible repeat (first | apply Kd.R_alloc | apply Kd.R_drewN | apply Kd.R_drew)); exact HO112.out) (Kd.R_base ho11) hb); have n1_ := Aside0.mk (Kd.R_lower (Kd.R_new' ho11 (Kd.R_lt (by (with_reducible repeat (first | apply Kd.R_alloc | apply Kd.R_drewN | apply Kd.R_drew)); exact HO112.out))) (below_size (by repeat (first | (with_reducible first | exact HB.out | apply below_alloc | apply pw_below_drewN | apply below_drew1) | exact HB.out)))); have n2_ := Aside0.mk (below_step (by repeat (first | (with_reducible first | exact HB.out | apply below_alloc | apply pw_below_drewN | apply below_drew1) | exact HB.out)) hb); clear HO112; clear HB; have HO112 := n0_; have HO115 := n1_; have HB := n2_; clear n0_ n1_ n2_; clear hb ho11)); try go_wp2_with (first | ((with_reducible refine gate_dst (N := 16) rfl ?_); (try (refine gate_guard (by rfl) ?_; dsimp only)); refine Kd.R_make (Kd.int .i64) _ 3 rfl (N := 16) rfl 23 _ _ rfl ji3 rfl rfl Try.underlying23 (.int .i64 0) 8 info3 rfl (by decide) (by omega) 0 (ok := fun _ => True) (okp := fun _ => True) rfl (fun _ hk => hk) trivial (of_decide_eq_true (by first | (with_reducible assumption) | assumption)) (Nat.le_trans (Nat.mul_le_mul_right _ (of_decide_eq_true (by first | (with_reducible assumption) | assumption) : ji3.toNat ≤ 35184372088832)) (by omega)) (Below.refl _ _) (Nat.le_refl _) ?_; intro v111 w8 ho9 hb hg_ hnew_; clear hg_ hnew_; (first | rw [← Ny110.out] at ho9 | (simp only [Int.reduceToNat] at ho9; rw [← Ny110.out] at ho9)); have n0_ := Aside0.mk (Kd.R_lower ho9 (below_size (by repeat (first | (with_reducible first | exact HB.out | apply below_alloc | apply pw_below_drewN | apply below_drew1) | exact HB.out)))); have n1_ := Aside0.mk (below_step (by repeat (first | (with_reducible first | exact HB.out | apply below_alloc | apply pw_below_drewN | apply below_drew1) | exact HB.out)) hb); clear HB; have HO112 := n0_; have HB := n1_; clear n0_ n1_; clear hb ho9) | ((with_reducible refine gate_dst (N := 19) rfl ?_); (try (refine gate_guard (by rfl) ?_; dsimp only)); refine Kd.R_make (Kd.int .i64) _ 3 rfl (N := 19) rfl 23 _ _ rfl (l0.length : Int) rfl rfl Try.underlying23 (.int .i64 0) 8 info3 rfl (by decide) (by omega) 0 (ok := fun _ => True) (okp := fun _ => True) rfl (fun _ hk => hk) trivial (of_decide_eq_true (by first | (with_reducible assumption) | assumption)) (Nat.le_trans (Nat.mul_le_mul_right _ (of_decide_eq_true (by first | (with_reducible assumption) | assumption) : (l0.length : Int).toNat ≤ 35184372088832)) (by omega)) (Below.refl _ _) (Nat.le_refl _) ?_; intro v114 w10 ho11 hb hg_ hnew_; clear hg_ hnew_; (first | rw [← Ny113.out] at ho11 | (simp only [Int.reduceToNat] at ho11; rw [← Ny113.out] at ho11)); have n0_ := Aside0.mk (Kd.R_elder' (by (with_reducible repeat (first | apply Kd.R_alloc | apply Kd.R_drewN | apply Kd.R_drew)); exact HO112.out) (Kd.R_base ho11) hb); have n1_ := Aside0.mk (Kd.R_lower (Kd.R_new' ho11 (Kd.R_lt (by (with_reducible repeat (first | apply Kd.R_alloc | apply Kd.R_drewN | apply Kd.R_drew)); exact HO112.out))) (below_size (by repeat (first | (with_reducible first | exact HB.out | apply below_alloc | apply pw_below_drewN | apply below_drew1) | exact HB.out)))); have n2_ := Aside0.mk (below_step (by repeat (first | (with_reducible first | exact HB.out | apply below_alloc | apply pw_below_drewN | apply below_drew1) | exact HB.out)) hb); clear HO112; clear HB; have HO112 := n0_; have HO115 := n1_; have HB := n2_; clear n0_ n1_ n2_; clear hb ho11)))
          go_loopg [22] k (fun kq v22 w' => ∃ (x6_1 : List Int) (x22_1 : Int), v22 = .int .i64 x22_1 ∧ Aside0 (ends_common.l0 kq l0 l1 y110 x6_1 l1 (l1.length : Int) x22_1 = some r) ∧ Aside0 (kq ≤ k) ∧ Aside0 (Kd.R (Kd.int .i64) 3 w' w.heap.size (fun k_ => some k_ ≠ (v114 : Value).ownBlock) v111 y110) ∧ Aside0 (Kd.R (Kd.int .i64) 3 w' w.heap.size (fun k_ => some k_ ≠ (v111 : Value).ownBlock) v114 x6_1) ∧ Aside0 (Below w.heap.size w w'))
          case atStart => exact ⟨(y113), (0), (by first | rfl | (simp; done) | (simp [*]; done)), H', ⟨Nat.le_refl _⟩, ⟨by (with_reducible repeat (first | apply Kd.R_alloc | apply Kd.R_drewN | apply Kd.R_drew)); exact Kd.R_mono HO112.out (fun _ hk => hk.2)⟩, ⟨by (with_reducible repeat (first | apply Kd.R_alloc | apply Kd.R_drewN | apply Kd.R_drew)); exact Kd.R_mono HO115.out (fun _ hk => hk.2)⟩, ⟨by repeat (first | (with_reducible first | exact HB.out | apply below_alloc | apply pw_below_drewN | apply below_drew1) | exact HB.out)⟩⟩
          case round =>
            clear H'
            try clear c1
            try clear c2
            try clear p2
            try clear c4
            try clear c4b0
            try clear c4b1
            try clear c5
            try clear c5b0
            try clear c5b1
            try clear c6
            try clear c6b0
            try clear c6b1
            try clear p6
            try clear c7
            try clear c7b0
            try clear c7b1
            obtain ⟨x6_1, x22_1, rfl, HA, HK1, HO_5, HO_6, HB⟩ := hrel
            cases gk with
            | zero => exact absurd HA.out (by simp [ends_common.l0])
            | succ k1 =>
              have H := HA.out
              clear HA
              simp only [ends_common.l0] at H
              by_cases c12 : x22_1 < (l1.length : Int)
              · rw [if_pos c12] at H
                have c12b0 : decide (x22_1 < (l1.length : Int)) = true := decide_eq_true c12
                clear c12
                by_cases c13 : 0 ≤ x22_1
                · rw [if_pos c13] at H
                  have c13b0 : decide (0 ≤ x22_1) = true := decide_eq_true c13
                  clear c13
                  by_cases c14 : x22_1 < (l1.length : Int)
                  · rw [if_pos c14] at H
                    have c14b0 : decide (x22_1 < (l1.length : Int)) = true := decide_eq_true c14
                    clear c14
                    by_cases c15 : 0 ≤ (rd l1 x22_1)
                    · rw [if_pos c15] at H
                      have c15b0 : decide (0 ≤ (rd l1 x22_1)) = true := decide_eq_true c15
                      clear c15
                      by_cases c16 : (rd l1 x22_1) < (x6_1.length : Int)
                      · rw [if_pos c16] at H
                        have c16b0 : decide ((rd l1 x22_1) < (x6_1.length : Int)) = true := decide_eq_true c16
                        clear c16
                        obtain ⟨y117, hy117⟩ : ∃ y_ : List Int, y_ = (x6_1.set ((rd l1 x22_1) : Int).toNat x22_1) := ⟨_, rfl⟩
                        replace H : (ends_common.l0 k1 l0 l1 y110 y117 l1 (l1.length : Int) (wrap64 (x22_1 + 1))) = some r := by first | (rw [hy117]; with_reducible exact H) | (have H2_ := (Option.bind_some _ _).symm.trans H; rw [hy117]; with_reducible exact H2_) | (have H2_ := (Option.bind_some _ _).symm.trans H; with_reducible exact H2_) | with_reducible exact H | (rw [hy117]; exact H) | exact H
                        have Ny117 := Aside0.mk hy117
                        clear hy117
                        have H' := Aside0.mk H
                        clear H
                        have p116 : 0 ≤ (x22_1 : Int) := of_decide_eq_true (by first | (with_reducible assumption) | assumption)
                        have q116 : x22_1 < (l1.length : Int) := of_decide_eq_true (by first | (with_reducible assumption) | assumption)
                        obtain ⟨ad116, e116, hx116_0⟩ := Kd.at_int HR1.out x22_1 p116 q116
                        cases e116
                        replace hx116_0 := (HB.out.cell (World.block_lt_of_cell? w _ hx116_0)).trans hx116_0
                        replace p116 := eq_true p116
                        replace q116 := eq_true q116
                        have p17 : 0 ≤ ((rd l1 x22_1) : Int) := of_decide_eq_true (by first | (with_reducible assumption) | assumption)
                        have q17 : ((rd l1 x22_1) : Int) < ((x6_1.length : Int) : Int) := of_decide_eq_true (by first | (with_reducible assumption) | assumption)
                        obtain ⟨go17, co17, eo17, gb17, gl17, cl17, HG17⟩ := Kd.R_form HO_6.out (by omega)
                        (first | cases eo17 | (injection eo17 with ea_ en_ ec_; (first | subst ea_ | (injection ea_ with ea_; subst ea_)); subst ec_; clear en_))
                        have GB17 := Aside0.mk gb17
                        have GG17 := Aside0.mk HG17
                        clear gb17 gl17 HG17
                        obtain ⟨hx17_0, hf17_0⟩ := Kd.R_celln 0 HO_6.out ((rd l1 x22_1) : Int) p17 q17
                        replace p17 := eq_true p17
                        replace q17 := eq_true q17
                        obtain ⟨hy18_, hz18_⟩ := Kd.R_celln 0 HO_6.out ((rd l1 x22_1) : Int) (of_decide_eq_true (by first | (with_reducible assumption) | assumption)) (of_decide_eq_true (by first | (with_reducible assumption) | assumption))
                        have HP18 := Kd.R_putg HO_6.out ((rd l1 x22_1) : Int) x22_1
                        go_wp2_with (first | ((with_reducible refine gate_store (t := 3) (p := 30) rfl ?_); (try (rw [drewN_self wr]; generalize hq_ : World.drewN wr _ = wr; (try (have nx_ := Aside0.mk (Kd.R_at hq_ HO_5.out); clear HO_5; have HO_5 := nx_; clear nx_)); (try (have nx_ := Aside0.mk (Kd.R_at hq_ HO_6.out); clear HO_6; have HO_6 := nx_; clear nx_)); (try (have nx_ := Aside0.mk (below_at hq_ HB.out); clear HB; have HB := nx_; clear nx_)); (try clear hq_); (try (obtain ⟨hy18_, hz18_⟩ := Kd.R_celln 0 HO_6.out ((rd l1 x22_1) : Int) (of_decide_eq_true (by first | (with_reducible assumption) | assumption)) (of_decide_eq_true (by first | (with_reducible assumption) | assumption)))); (try (have HP18 := Kd.R_putg HO_6.out ((rd l1 x22_1) : Int) x22_1)))); refine store_event (t := 3) (p := 30) (v := ?vo_w19) (w1 := (wr.setCell ⟨go17, ((rd l1 x22_1) : Int).toNat, none⟩ (.int .i64 x22_1))) ?hg ?ho ?hn ?hr ?_; (case ho => rfl); (case hg => rfl); (case hn => rfl); (case hr => first | (go_simp; done) | (go_simp; rfl)); intro w19 hw; have hg : wr.grownBy w19 (some go17) := (by rw [hw]; exact HP18.2); have hp_ : Kd.R (Kd.int .i64) 3 w19 w.heap.size (fun k_ => some k_ ≠ (v111 : Value).ownBlock) (.slice (some ⟨go17, 0, none⟩) x6_1.length co17) y117 := (by rw [hw, Ny117.out]; exact HP18.1); clear HP18; have n0_ := Aside0.mk (Kd.R_after (v := (.slice (some ⟨go17, 0, none⟩) x6_1.length co17)) (v1 := (.slice (some ⟨go17, 0, none⟩) x6_1.length co17)) (ok := (fun _ => True)) (by (with_reducible repeat (first | apply Kd.R_alloc | apply Kd.R_drewN | apply Kd.R_drew)); exact Kd.R_mono HO_5.out (fun _ hk => ⟨trivial, hk⟩)) hg (.inl rfl)); have n1_ := Aside0.mk (hp_); have n2_ := Aside0.mk ((by rw [hw]; exact below_set (HB.out) GB17.out : Below w.heap.size w w19)); clear HO_5; clear HO_6; clear HB; have HO_5 := n0_; have HO_6 := n1_; have HB := n2_; clear n0_ n1_ n2_; clear hg hw hp_))
                        repeat (go_quiet (first | ((with_reducible refine gate_store (t := 3) (p := 30) rfl ?_); (try (rw [drewN_self wr]; generalize hq_ : World.drewN wr _ = wr; (try (have nx_ := Aside0.mk (Kd.R_at hq_ HO_5.out); clear HO_5; have HO_5 := nx_; clear nx_)); (try (have nx_ := Aside0.mk (Kd.R_at hq_ HO_6.out); clear HO_6; have HO_6 := nx_; clear nx_)); (try (have nx_ := Aside0.mk (below_at hq_ HB.out); clear HB; have HB := nx_; clear nx_)); (try clear hq_); (try (obtain ⟨hy18_, hz18_⟩ := Kd.R_celln 0 HO_6.out ((rd l1 x22_1) : Int) (of_decide_eq_true (by first | (with_reducible assumption) | assumption)) (of_decide_eq_true (by first | (with_reducible assumption) | assumption)))); (try (have HP18 := Kd.R_putg HO_6.out ((rd l1 x22_1) : Int) x22_1)))); refine store_event (t := 3) (p := 30) (v := ?vo_w19) (w1 := (wr.setCell ⟨go17, ((rd l1 x22_1) : Int).toNat, none⟩ (.int .i64 x22_1))) ?hg ?ho ?hn ?hr ?_; (case ho => rfl); (case hg => rfl); (case hn => rfl); (case hr => first | (go_simp; done) | (go_simp; rfl)); intro w19 hw; have hg : wr.grownBy w19 (some go17) := (by rw [hw]; exact HP18.2); have hp_ : Kd.R (Kd.int .i64) 3 w19 w.heap.size (fun k_ => some k_ ≠ (v111 : Value).ownBlock) (.slice (some ⟨go17, 0, none⟩) x6_1.length co17) y117 := (by rw [hw, Ny117.out]; exact HP18.1); clear HP18; have n0_ := Aside0.mk (Kd.R_after (v := (.slice (some ⟨go17, 0, none⟩) x6_1.length co17)) (v1 := (.slice (some ⟨go17, 0, none⟩) x6_1.length co17)) (ok := (fun _ => True)) (by (with_reducible repeat (first | apply Kd.R_alloc | apply Kd.R_drewN | apply Kd.R_drew)); exact Kd.R_mono HO_5.out (fun _ hk => ⟨trivial, hk⟩)) hg (.inl rfl)); have n1_ := Aside0.mk (hp_); have n2_ := Aside0.mk ((by rw [hw]; exact below_set (HB.out) GB17.out : Below w.heap.size w w19)); clear HO_5; clear HO_6; clear HB; have HO_5 := n0_; have HO_6 := n1_; have HB := n2_; clear n0_ n1_ n2_; clear hg hw hp_)); try go_wp2_with (first | ((with_reducible refine gate_store (t := 3) (p := 30) rfl ?_); (try (rw [drewN_self wr]; generalize hq_ : World.drewN wr _ = wr; (try (have nx_ := Aside0.mk (Kd.R_at hq_ HO_5.out); clear HO_5; have HO_5 := nx_; clear nx_)); (try (have nx_ := Aside0.mk (Kd.R_at hq_ HO_6.out); clear HO_6; have HO_6 := nx_; clear nx_)); (try (have nx_ := Aside0.mk (below_at hq_ HB.out); clear HB; have HB := nx_; clear nx_)); (try clear hq_); (try (obtain ⟨hy18_, hz18_⟩ := Kd.R_celln 0 HO_6.out ((rd l1 x22_1) : Int) (of_decide_eq_true (by first | (with_reducible assumption) | assumption)) (of_decide_eq_true (by first | (with_reducible assumption) | assumption)))); (try (have HP18 := Kd.R_putg HO_6.out ((rd l1 x22_1) : Int) x22_1)))); refine store_event (t := 3) (p := 30) (v := ?vo_w19) (w1 := (wr.setCell ⟨go17, ((rd l1 x22_1) : Int).toNat, none⟩ (.int .i64 x22_1))) ?hg ?ho ?hn ?hr ?_; (case ho => rfl); (case hg => rfl); (case hn => rfl); (case hr => first | (go_simp; done) | (go_simp; rfl)); intro w19 hw; have hg : wr.grownBy w19 (some go17) := (by rw [hw]; exact HP18.2); have hp_ : Kd.R (Kd.int .i64) 3 w19 w.heap.size (fun k_ => some k_ ≠ (v111 : Value).ownBlock) (.slice (some ⟨go17, 0, none⟩) x6_1.length co17) y117 := (by rw [hw, Ny117.out]; exact HP18.1); clear HP18; have n0_ := Aside0.mk (Kd.R_after (v := (.slice (some ⟨go17, 0, none⟩) x6_1.length co17)) (v1 := (.slice (some ⟨go17, 0, none⟩) x6_1.length co17)) (ok := (fun _ => True)) (by (with_reducible repeat (first | apply Kd.R_alloc | apply Kd.R_drewN | apply Kd.R_drew)); exact Kd.R_mono HO_5.out (fun _ hk => ⟨trivial, hk⟩)) hg (.inl rfl)); have n1_ := Aside0.mk (hp_); have n2_ := Aside0.mk ((by rw [hw]; exact below_set (HB.out) GB17.out : Below w.heap.size w w19)); clear HO_5; clear HO_6; clear HB; have HO_5 := n0_; have HO_6 := n1_; have HB := n2_; clear n0_ n1_ n2_; clear hg hw hp_)))
                        (first | go_roundg k1 | (simp only [← hji3]; go_roundg k1))
                        case measure => have := HK1.out; omega
                        case rel => first | exact ⟨(y117), (wrap64 (x22_1 + 1)), (by first | rfl | (simp; done) | (simp [*]; done)), H', ⟨by have := HK1.out; omega⟩, ⟨by (with_reducible repeat (first | apply Kd.R_alloc | apply Kd.R_drewN | apply Kd.R_drew)); exact Kd.R_mono HO_5.out (fun _ hk => hk.2)⟩, ⟨by (with_reducible repeat (first | apply Kd.R_alloc | apply Kd.R_drewN | apply Kd.R_drew)); exact HO_6.out⟩, ⟨by repeat (first | (with_reducible first | exact HB.out | apply below_alloc | apply pw_below_drewN | apply below_drew1) | exact HB.out)⟩⟩ | (subst hji3; exact ⟨(y117), (wrap64 (x22_1 + 1)), (by first | rfl | (simp; done) | (simp [*]; done)), H', ⟨by have := HK1.out; omega⟩, ⟨by (with_reducible repeat (first | apply Kd.R_alloc | apply Kd.R_drewN | apply Kd.R_drew)); exact Kd.R_mono HO_5.out (fun _ hk => hk.2)⟩, ⟨by (with_reducible repeat (first | apply Kd.R_alloc | apply Kd.R_drewN | apply Kd.R_drew)); exact HO_6.out⟩, ⟨by repeat (first | (with_reducible first | exact HB.out | apply below_alloc | apply pw_below_drewN | apply below_drew1) | exact HB.out)⟩⟩)
                      · rw [if_neg c16] at H
                        exact absurd H (by simp)
                    · rw [if_neg c15] at H
                      exact absurd H (by simp)
                  · rw [if_neg c14] at H
                    exact absurd H (by simp)
                · rw [if_neg c13] at H
                  exact absurd H (by simp)
              · rw [if_neg c12] at H
                have c12b0 : decide (x22_1 < (l1.length : Int)) = false := decide_eq_false c12
                clear c12
                have H' := Aside0.mk H
                clear H
                go_wp2
                repeat (go_quiet (fail); try go_wp2)
                go_loopg [9, 34] k1 (fun kq v9 v34 w' => ∃ (x5_2 : List Int) (x9_2 : Int) (x34_2 : Int), v9 = .int .i64 x9_2 ∧ v34 = .int .i64 x34_2 ∧ Aside0 (ends_common.l1 kq l0 l1 x5_2 x6_1 x9_2 (l0.length : Int) x34_2 = some r) ∧ Aside0 (kq ≤ k1) ∧ Aside0 (Kd.R (Kd.int .i64) 3 w' w.heap.size (fun k_ => some k_ ≠ (v114 : Value).ownBlock) v111 x5_2) ∧ Aside0 (Kd.R (Kd.int .i64) 3 w' w.heap.size (fun k_ => some k_ ≠ (v111 : Value).ownBlock) v114 x6_1) ∧ Aside0 (Below w.heap.size w w'))
                case atStart => exact ⟨(y110), (0), (0), (by first | rfl | (simp; done) | (simp [*]; done)), (by first | rfl | (simp; done) | (simp [*]; done)), H', ⟨Nat.le_refl _⟩, ⟨by (with_reducible repeat (first | apply Kd.R_alloc | apply Kd.R_drewN | apply Kd.R_drew)); exact HO_5.out⟩, ⟨by (with_reducible repeat (first | apply Kd.R_alloc | apply Kd.R_drewN | apply Kd.R_drew)); exact HO_6.out⟩, ⟨by repeat (first | (with_reducible first | exact HB.out | apply below_alloc | apply pw_below_drewN | apply below_drew1) | exact HB.out)⟩⟩
                case round =>
                  clear H'
                  try clear c1
                  try clear p1
                  try clear q1
                  try clear hx1
                  try clear c2
                  try clear p2
                  try clear c4
                  try clear c4b0
                  try clear c4b1
                  try clear c5
                  try clear c5b0
                  try clear c5b1
                  try clear c6
                  try clear c6b0
                  try clear c6b1
                  try clear p6
                  try clear c7
                  try clear c7b0
                  try clear c7b1
                  try clear p11
                  try clear q11
                  try clear hx11
                  try clear c12
                  try clear c12b0
                  try clear c13
                  try clear c13b0
                  try clear c14
                  try clear c14b0
                  try clear c15
                  try clear c15b0
                  try clear c16
                  try clear c16b0
                  try clear p17
                  try clear q17
                  try clear hx17
                  try clear hf17
                  try clear hx116_0
                  try clear hx17_0
                  try clear p116
                  try clear p17
                  try clear p2
                  try clear p6
                  try clear q116
                  try clear q17
                  obtain ⟨x5_2, x9_2, x34_2, rfl, rfl, HA, HK2, HO_5, HO_6, HB⟩ := hrel
                  cases gk with
                  | zero => exact absurd HA.out (by simp [ends_common.l1])
                  | succ k2 =>
                    have H := HA.out
                    clear HA
                    simp only [ends_common.l1] at H
                    by_cases c20 : x34_2 < (l0.length : Int)
                    · rw [if_pos c20] at H
                      have c20b0 : decide (x34_2 < (l0.length : Int)) = true := decide_eq_true c20
                      clear c20
                      by_cases c21 : 0 ≤ x34_2
                      · rw [if_pos c21] at H
                        have c21b0 : decide (0 ≤ x34_2) = true := decide_eq_true c21
                        clear c21
                        by_cases c22 : x34_2 < (x6_1.length : Int)
                        · rw [if_pos c22] at H
                          have c22b0 : decide (x34_2 < (x6_1.length : Int)) = true := decide_eq_true c22
                          clear c22
                          by_cases c23 : (rd x6_1 x34_2) = 0
                          · rw [if_pos c23] at H
                            have c23b0 : ((rd x6_1 x34_2) == 0) = true := beq_iff_eq.mpr c23
                            have c23b1 : ((rd x6_1 x34_2) != 0) = false := bne_eq_false_iff_eq.mpr c23
                            clear c23
                            have H' := Aside0.mk H
                            clear H
                            obtain ⟨Ao24, co24, eo24⟩ := Kd.R_slice HO_6.out
                            subst eo24
                            have p118 : 0 ≤ (x34_2 : Int) := of_decide_eq_true (by first | (with_reducible assumption) | assumption)
                            have q118 : x34_2 < (x6_1.length : Int) := of_decide_eq_true (by first | (with_reducible assumption) | assumption)
                            obtain ⟨ad118, e118, hx118_0⟩ := Kd.at_int (Kd.R_reads' HO_6.out).2.2 x34_2 p118 q118
                            cases e118
                            replace p118 := eq_true p118
                            replace q118 := eq_true q118
                            go_wp2
                            repeat (go_quiet (fail); try go_wp2)
                            (first | go_roundg k2 | (simp only [← hji3]; go_roundg k2))
                            case measure => have := HK1.out; have := HK2.out; omega
                            case rel => first | exact ⟨(x5_2), (0), (wrap64 (x34_2 + 1)), (by first | rfl | (simp; done) | (simp [*]; done)), (by first | rfl | (simp; done) | (simp [*]; done)), H', ⟨by have := HK1.out; have := HK2.out; omega⟩, ⟨by (with_reducible repeat (first | apply Kd.R_alloc | apply Kd.R_drewN | apply Kd.R_drew)); exact HO_5.out⟩, ⟨by (with_reducible repeat (first | apply Kd.R_alloc | apply Kd.R_drewN | apply Kd.R_drew)); exact HO_6.out⟩, ⟨by repeat (first | (with_reducible first | exact HB.out | apply below_alloc | apply pw_below_drewN | apply below_drew1) | exact HB.out)⟩⟩ | (subst hji3; exact ⟨(x5_2), (0), (wrap64 (x34_2 + 1)), (by first | rfl | (simp; done) | (simp [*]; done)), (by first | rfl | (simp; done) | (simp [*]; done)), H', ⟨by have := HK1.out; have := HK2.out; omega⟩, ⟨by (with_reducible repeat (first | apply Kd.R_alloc | apply Kd.R_drewN | apply Kd.R_drew)); exact HO_5.out⟩, ⟨by (with_reducible repeat (first | apply Kd.R_alloc | apply Kd.R_drewN | apply Kd.R_drew)); exact HO_6.out⟩, ⟨by repeat (first | (with_reducible first | exact HB.out | apply below_alloc | apply pw_below_drewN | apply below_drew1) | exact HB.out)⟩⟩)
                          · rw [if_neg c23] at H
                            have c23b0 : ((rd x6_1 x34_2) == 0) = false := beq_eq_false_iff_ne.mpr c23
                            have c23b1 : ((rd x6_1 x34_2) != 0) = true := bne_iff_ne.mpr c23
                            obtain ⟨ji25, hji25⟩ : ∃ j_ : Int, (wrap64 ((rd x6_1 x34_2) - 1)) = j_ := ⟨_, rfl⟩
                            replace H : (if 0 ≤ (ji25) then (if (ji25) < (l1.length : Int) then (ends_common.l2 k2 l0 l1 x5_2 x6_1 x9_2 x34_2 (rd l1 (ji25)) (l0.length : Int) x34_2) else (none)) else (none)) = some r := by first | (rw [hji25] at H; exact H) | (simp only [hji25] at H ⊢; exact H)
                            have hji25w : (IntKind.i64.wrap ((rd x6_1 x34_2) - 1)) = ji25 := (i64_w _).trans hji25
                            by_cases c26 : 0 ≤ (ji25)
                            · rw [if_pos c26] at H
                              have c26b0 : decide (0 ≤ (ji25)) = true := decide_eq_true c26
                              clear c26
                              by_cases c27 : (ji25) < (l1.length : Int)
                              · rw [if_pos c27] at H
                                have c27b0 : decide ((ji25) < (l1.length : Int)) = true := decide_eq_true c27
                                clear c27
                                have H' := Aside0.mk H
                                clear H
                                obtain ⟨Ao28, co28, eo28⟩ := Kd.R_slice HO_6.out
                                subst eo28
                                have p118 : 0 ≤ (x34_2 : Int) := of_decide_eq_true (by first | (with_reducible assumption) | assumption)
                                have q118 : x34_2 < (x6_1.length : Int) := of_decide_eq_true (by first | (with_reducible assumption) | assumption)
                                obtain ⟨ad118, e118, hx118_0⟩ := Kd.at_int (Kd.R_reads' HO_6.out).2.2 x34_2 p118 q118
                                cases e118
                                replace p118 := eq_true p118
                                replace q118 := eq_true q118
                                have p119 : 0 ≤ (x34_2 : Int) := of_decide_eq_true (by first | (with_reducible assumption) | assumption)
                                have q119 : x34_2 < (x6_1.length : Int) := of_decide_eq_true (by first | (with_reducible assumption) | assumption)
                                obtain ⟨ad119, e119, hx119_0⟩ := Kd.at_int (Kd.R_reads' HO_6.out).2.2 x34_2 p119 q119
                                obtain rfl : ad118 = ad119 := (by injection e119)
                                replace p119 := eq_true p119
                                replace q119 := eq_true q119
                                have p120 : 0 ≤ ((ji25) : Int) := of_decide_eq_true (by first | (with_reducible assumption) | assumption)
                                have q120 : (ji25) < (l1.length : Int) := of_decide_eq_true (by first | (with_reducible assumption) | assumption)
                                obtain ⟨ad120, e120, hx120_0⟩ := Kd.at_int HR1.out (ji25) p120 q120
                                cases e120
                                replace hx120_0 := (HB.out.cell (World.block_lt_of_cell? w _ hx120_0)).trans hx120_0
                                replace p120 := eq_true p120
                                replace q120 := eq_true q120
                                go_wp2
                                repeat (go_quiet (fail); try go_wp2)
                                go_loopg [9] k2 (fun kq v9 w' => ∃ (x9_3 : Int), v9 = .int .i64 x9_3 ∧ Aside0 (ends_common.l2 kq l0 l1 x5_2 x6_1 x9_3 x34_2 (rd l1 (ji25)) (l0.length : Int) x34_2 = some r) ∧ Aside0 (kq ≤ k2) ∧ Aside0 (Kd.R (Kd.int .i64) 3 w' w.heap.size (fun k_ => some k_ ≠ ((.slice (some ad118) x6_1.length co28) : Value).ownBlock) v111 x5_2) ∧ Aside0 (Kd.R (Kd.int .i64) 3 w' w.heap.size (fun k_ => some k_ ≠ (v111 : Value).ownBlock) (.slice (some ad118) x6_1.length co28) x6_1) ∧ Aside0 (Below w.heap.size w w'))
                                case atStart => exact ⟨(x9_2), (by first | rfl | (simp; done) | (simp [*]; done)), H', ⟨Nat.le_refl _⟩, ⟨by (with_reducible repeat (first | apply Kd.R_alloc | apply Kd.R_drewN | apply Kd.R_drew)); exact HO_5.out⟩, ⟨by (with_reducible repeat (first | apply Kd.R_alloc | apply Kd.R_drewN | apply Kd.R_drew)); exact HO_6.out⟩, ⟨by repeat (first | (with_reducible first | exact HB.out | apply below_alloc | apply pw_below_drewN | apply below_drew1) | exact HB.out)⟩⟩
                                case round =>
                                  clear H'
                                  try clear c1
                                  try clear p1
                                  try clear q1
                                  try clear hx1
                                  try clear c2
                                  try clear p2
                                  try clear c4
                                  try clear c4b0
                                  try clear c4b1
                                  try clear c5
                                  try clear c5b0
                                  try clear c5b1
                                  try clear c6
                                  try clear c6b0
                                  try clear c6b1
                                  try clear p6
                                  try clear c7
                                  try clear c7b0
                                  try clear c7b1
                                  try clear p11
                                  try clear q11
                                  try clear hx11
                                  try clear c12
                                  try clear c12b0
                                  try clear p12
                                  try clear q12
                                  try clear hx12
                                  try clear c13
                                  try clear c13b0
                                  try clear c14
                                  try clear c14b0
                                  try clear c15
                                  try clear c15b0
                                  try clear c16
                                  try clear c16b0
                                  try clear p17
                                  try clear q17
                                  try clear hx17
                                  try clear hf17
                                  try clear c20
                                  try clear c20b0
                                  try clear c21
                                  try clear c21b0
                                  try clear c22
                                  try clear c22b0
                                  try clear c23
                                  try clear c23b0
                                  try clear c23b1
                                  try clear c24
                                  try clear c26
                                  try clear c26b0
                                  try clear c27
                                  try clear c27b0
                                  try clear hx116_0
                                  try clear hx118_0
                                  try clear hx119_0
                                  try clear hx120_0
                                  try clear hx17_0
                                  try clear p1
                                  try clear p11
                                  try clear p116
                                  try clear p118
                                  try clear p119
                                  try clear p120
                                  try clear p17
                                  try clear p2
                                  try clear p6
                                  try clear q1
                                  try clear q11
                                  try clear q116
                                  try clear q118
                                  try clear q119
                                  try clear q120
                                  try clear q17
                                  obtain ⟨x9_3, rfl, HA, HK3, HO_5, HO_6, HB⟩ := hrel
                                  cases gk with
                                  | zero => exact absurd HA.out (by simp [ends_common.l2])
                                  | succ k3 =>
                                    have H := HA.out
                                    clear HA
                                    simp only [ends_common.l2] at H
                                    by_cases c29 : (wrap64 (x34_2 + x9_3)) < (l0.length : Int)
                                    · rw [if_pos c29] at H
                                      have c29b0 : decide ((wrap64 (x34_2 + x9_3)) < (l0.length : Int)) = true := decide_eq_true c29
                                      clear c29
                                      by_cases c30 : (wrap64 ((rd l1 (ji25)) + x9_3)) < (l0.length : Int)
                                      · rw [if_pos c30] at H
                                        have c30b0 : decide ((wrap64 ((rd l1 (ji25)) + x9_3)) < (l0.length : Int)) = true := decide_eq_true c30
                                        clear c30
                                        obtain ⟨ji31, hji31⟩ : ∃ j_ : Int, (wrap64 (x34_2 + x9_3)) = j_ := ⟨_, rfl⟩
                                        replace H : (if 0 ≤ (ji31) then (if 0 ≤ (wrap64 ((rd l1 (ji25)) + x9_3)) then (if (rd l0 (ji31)) = (rd l0 (wrap64 ((rd l1 (ji25)) + x9_3))) then (ends_common.l2 k3 l0 l1 x5_2 x6_1 (wrap64 (x9_3 + 1)) x34_2 (rd l1 (ji25)) (l0.length : Int) x34_2) else (if 0 ≤ x34_2 then (if x34_2 < (x6_1.length : Int) then (if 0 ≤ (wrap64 ((rd x6_1 x34_2) - 1)) then (if (wrap64 ((rd x6_1 x34_2) - 1)) < (x5_2.length : Int) then (ends_common.l1 k3 l0 l1 (x5_2.set ((wrap64 ((rd x6_1 x34_2) - 1)) : Int).toNat x9_3) x6_1 (mx (wrap64 (x9_3 - 1)) 0) (l0.length : Int) (wrap64 (x34_2 + 1))) else (none)) else (none)) else (none)) else (none))) else (none)) else (none)) = some r := by first | (rw [hji31] at H; exact H) | (simp only [hji31] at H ⊢; exact H)
                                        (try rw [hji31] at c29b0)
                                        have hji31w : (IntKind.i64.wrap (x34_2 + x9_3)) = ji31 := (i64_w _).trans hji31
                                        by_cases c32 : 0 ≤ (ji31)
                                        · rw [if_pos c32] at H
                                          have c32b0 : decide (0 ≤ (ji31)) = true := decide_eq_true c32
                                          clear c32
                                          obtain ⟨ji33, hji33⟩ : ∃ j_ : Int, (wrap64 ((rd l1 (ji25)) + x9_3)) = j_ := ⟨_, rfl⟩
                                          replace H : (if 0 ≤ (ji33) then (if (rd l0 (ji31)) = (rd l0 (ji33)) then (ends_common.l2 k3 l0 l1 x5_2 x6_1 (wrap64 (x9_3 + 1)) x34_2 (rd l1 (ji25)) (l0.length : Int) x34_2) else (if 0 ≤ x34_2 then (if x34_2 < (x6_1.length : Int) then (if 0 ≤ (wrap64 ((rd x6_1 x34_2) - 1)) then (if (wrap64 ((rd x6_1 x34_2) - 1)) < (x5_2.length : Int) then (ends_common.l1 k3 l0 l1 (x5_2.set ((wrap64 ((rd x6_1 x34_2) - 1)) : Int).toNat x9_3) x6_1 (mx (wrap64 (x9_3 - 1)) 0) (l0.length : Int) (wrap64 (x34_2 + 1))) else (none)) else (none)) else (none)) else (none))) else (none)) = some r := by first | (rw [hji33] at H; exact H) | (simp only [hji33] at H ⊢; exact H)
                                          (try rw [hji33] at c30b0)
                                          have hji33w : (IntKind.i64.wrap ((rd l1 (ji25)) + x9_3)) = ji33 := (i64_w _).trans hji33
                                          by_cases c34 : 0 ≤ (ji33)
                                          · rw [if_pos c34] at H
                                            have c34b0 : decide (0 ≤ (ji33)) = true := decide_eq_true c34
                                            clear c34
                                            by_cases c35 : (rd l0 (ji31)) = (rd l0 (ji33))
                                            · rw [if_pos c35] at H
                                              have c35b0 : ((rd l0 (ji31)) == (rd l0 (ji33))) = true := beq_iff_eq.mpr c35
                                              have c35b1 : ((rd l0 (ji31)) != (rd l0 (ji33))) = false := bne_eq_false_iff_eq.mpr c35
                                              clear c35
                                              have H' := Aside0.mk H
                                              clear H
                                              have p121 : 0 ≤ ((ji31) : Int) := of_decide_eq_true (by first | (with_reducible assumption) | assumption)
                                              have q121 : (ji31) < (l0.length : Int) := of_decide_eq_true (by first | (with_reducible assumption) | assumption)
                                              obtain ⟨ad121, e121, hx121_0⟩ := Kd.at_int HR0.out (ji31) p121 q121
                                              cases e121
                                              replace hx121_0 := (HB.out.cell (World.block_lt_of_cell? w _ hx121_0)).trans hx121_0
                                              replace p121 := eq_true p121
                                              replace q121 := eq_true q121
                                              have p122 : 0 ≤ ((ji33) : Int) := of_decide_eq_true (by first | (with_reducible assumption) | assumption)
                                              have q122 : (ji33) < (l0.length : Int) := of_decide_eq_true (by first | (with_reducible assumption) | assumption)
                                              obtain ⟨ad122, e122, hx122_0⟩ := Kd.at_int HR0.out (ji33) p122 q122
                                              obtain rfl : ad121 = ad122 := (by injection e122)
                                              replace hx122_0 := (HB.out.cell (World.block_lt_of_cell? w _ hx122_0)).trans hx122_0
                                              replace p122 := eq_true p122
                                              replace q122 := eq_true q122
                                              go_wp2
                                              repeat (go_quiet (fail); try go_wp2)
                                              (first | go_roundg k3 | (simp only [← hji33]; go_roundg k3) | (simp only [← hji31, ← hji33]; go_roundg k3) | (simp only [← hji25, ← hji31, ← hji33]; go_roundg k3) | (simp only [← hji3, ← hji25, ← hji31, ← hji33]; go_roundg k3))
                                              case measure => have := HK1.out; have := HK2.out; have := HK3.out; omega
                                              case rel => first | exact ⟨(wrap64 (x9_3 + 1)), (by first | rfl | (simp; done) | (simp [*]; done)), H', ⟨by have := HK1.out; have := HK2.out; have := HK3.out; omega⟩, ⟨by (with_reducible repeat (first | apply Kd.R_alloc | apply Kd.R_drewN | apply Kd.R_drew)); exact HO_5.out⟩, ⟨by (with_reducible repeat (first | apply Kd.R_alloc | apply Kd.R_drewN | apply Kd.R_drew)); exact HO_6.out⟩, ⟨by repeat (first | (with_reducible first | exact HB.out | apply below_alloc | apply pw_below_drewN | apply below_drew1) | exact HB.out)⟩⟩ | (subst hji33; subst hji31; subst hji25; subst hji3; exact ⟨(wrap64 (x9_3 + 1)), (by first | rfl | (simp; done) | (simp [*]; done)), H', ⟨by have := HK1.out; have := HK2.out; have := HK3.out; omega⟩, ⟨by (with_reducible repeat (first | apply Kd.R_alloc | apply Kd.R_drewN | apply Kd.R_drew)); exact HO_5.out⟩, ⟨by (with_reducible repeat (first | apply Kd.R_alloc | apply Kd.R_drewN | apply Kd.R_drew)); exact HO_6.out⟩, ⟨by repeat (first | (with_reducible first | exact HB.out | apply below_alloc | apply pw_below_drewN | apply below_drew1) | exact HB.out)⟩⟩)
                                            · rw [if_neg c35] at H
                                              have c35b0 : ((rd l0 (ji31)) == (rd l0 (ji33))) = false := beq_eq_false_iff_ne.mpr c35
                                              have c35b1 : ((rd l0 (ji31)) != (rd l0 (ji33))) = true := bne_iff_ne.mpr c35
                                              by_cases c36 : 0 ≤ x34_2
                                              · rw [if_pos c36] at H
                                                have c36b0 : decide (0 ≤ x34_2) = true := decide_eq_true c36
                                                clear c36
                                                by_cases c37 : x34_2 < (x6_1.length : Int)
                                                · rw [if_pos c37] at H
                                                  have c37b0 : decide (x34_2 < (x6_1.length : Int)) = true := decide_eq_true c37
                                                  clear c37
                                                  skip
                                                  replace H : (if 0 ≤ (ji25) then (if (ji25) < (x5_2.length : Int) then (ends_common.l1 k3 l0 l1 (x5_2.set ((ji25) : Int).toNat x9_3) x6_1 (mx (wrap64 (x9_3 - 1)) 0) (l0.length : Int) (wrap64 (x34_2 + 1))) else (none)) else (none)) = some r := by first | (rw [hji25] at H; exact H) | (simp only [hji25] at H ⊢; exact H)
                                                  skip
                                                  by_cases c39 : 0 ≤ (ji25)
                                                  · rw [if_pos c39] at H
                                                    have c39b0 : decide (0 ≤ (ji25)) = true := decide_eq_true c39
                                                    clear c39
                                                    by_cases c40 : (ji25) < (x5_2.length : Int)
                                                    · rw [if_pos c40] at H
                                                      have c40b0 : decide ((ji25) < (x5_2.length : Int)) = true := decide_eq_true c40
                                                      clear c40
                                                      obtain ⟨y124, hy124⟩ : ∃ y_ : List Int, y_ = (x5_2.set ((ji25) : Int).toNat x9_3) := ⟨_, rfl⟩
                                                      replace H : (ends_common.l1 k3 l0 l1 y124 x6_1 (mx (wrap64 (x9_3 - 1)) 0) (l0.length : Int) (wrap64 (x34_2 + 1))) = some r := by first | (rw [hy124]; with_reducible exact H) | (have H2_ := (Option.bind_some _ _).symm.trans H; rw [hy124]; with_reducible exact H2_) | (have H2_ := (Option.bind_some _ _).symm.trans H; with_reducible exact H2_) | with_reducible exact H | (rw [hy124]; exact H) | exact H
                                                      have Ny124 := Aside0.mk hy124
                                                      clear hy124
                                                      obtain ⟨ji42, hji42⟩ : ∃ j_ : Int, (mx (wrap64 (x9_3 - 1)) 0) = j_ := ⟨_, rfl⟩
                                                      replace H : (ends_common.l1 k3 l0 l1 y124 x6_1 ji42 (l0.length : Int) (wrap64 (x34_2 + 1))) = some r := by first | (rw [hji42] at H; exact H) | (simp only [hji42] at H ⊢; exact H)
                                                      have hji42_ : (if (wrap64 (x9_3 - 1)) < 0 then 0 else (wrap64 (x9_3 - 1))) = ji42 := hji42
                                                      have H' := Aside0.mk H
                                                      clear H
                                                      have p121 : 0 ≤ ((ji31) : Int) := of_decide_eq_true (by first | (with_reducible assumption) | assumption)
                                                      have q121 : (ji31) < (l0.length : Int) := of_decide_eq_true (by first | (with_reducible assumption) | assumption)
                                                      obtain ⟨ad121, e121, hx121_0⟩ := Kd.at_int HR0.out (ji31) p121 q121
                                                      cases e121
                                                      replace hx121_0 := (HB.out.cell (World.block_lt_of_cell? w _ hx121_0)).trans hx121_0
                                                      replace p121 := eq_true p121
                                                      replace q121 := eq_true q121
                                                      have p122 : 0 ≤ ((ji33) : Int) := of_decide_eq_true (by first | (with_reducible assumption) | assumption)
                                                      have q122 : (ji33) < (l0.length : Int) := of_decide_eq_true (by first | (with_reducible assumption) | assumption)
                                                      obtain ⟨ad122, e122, hx122_0⟩ := Kd.at_int HR0.out (ji33) p122 q122
                                                      obtain rfl : ad121 = ad122 := (by injection e122)
                                                      replace hx122_0 := (HB.out.cell (World.block_lt_of_cell? w _ hx122_0)).trans hx122_0
                                                      replace p122 := eq_true p122
                                                      replace q122 := eq_true q122
                                                      have p123 : 0 ≤ (x34_2 : Int) := of_decide_eq_true (by first | (with_reducible assumption) | assumption)
                                                      have q123 : x34_2 < (x6_1.length : Int) := of_decide_eq_true (by first | (with_reducible assumption) | assumption)
                                                      obtain ⟨ad123, e123, hx123_0⟩ := Kd.at_int (Kd.R_reads' HO_6.out).2.2 x34_2 p123 q123
                                                      obtain rfl : ad118 = ad123 := (by injection e123)
                                                      replace p123 := eq_true p123
                                                      replace q123 := eq_true q123
                                                      have p41 : 0 ≤ ((ji25) : Int) := of_decide_eq_true (by first | (with_reducible assumption) | assumption)
                                                      have q41 : ((ji25) : Int) < ((x5_2.length : Int) : Int) := of_decide_eq_true (by first | (with_reducible assumption) | assumption)
                                                      obtain ⟨go41, co41, eo41, gb41, gl41, cl41, HG41⟩ := Kd.R_form HO_5.out (by omega)
                                                      (first | cases eo41 | (injection eo41 with ea_ en_ ec_; (first | subst ea_ | (injection ea_ with ea_; subst ea_)); subst ec_; clear en_))
                                                      have GB41 := Aside0.mk gb41
                                                      have GG41 := Aside0.mk HG41
                                                      clear gb41 gl41 HG41
                                                      obtain ⟨hx41_0, hf41_0⟩ := Kd.R_celln 0 HO_5.out ((ji25) : Int) p41 q41
                                                      replace p41 := eq_true p41
                                                      replace q41 := eq_true q41
                                                      obtain ⟨hy43_, hz43_⟩ := Kd.R_celln 0 HO_5.out ((ji25) : Int) (of_decide_eq_true (by first | (with_reducible assumption) | assumption)) (of_decide_eq_true (by first | (with_reducible assumption) | assumption))
                                                      have HP43 := Kd.R_putg HO_5.out ((ji25) : Int) x9_3
                                                      go_wp2_with (first | ((with_reducible refine gate_store (t := 3) (p := 88) rfl ?_); (try (rw [drewN_self wr]; generalize hq_ : World.drewN wr _ = wr; (try (have nx_ := Aside0.mk (Kd.R_at hq_ HO_5.out); clear HO_5; have HO_5 := nx_; clear nx_)); (try (have nx_ := Aside0.mk (Kd.R_at hq_ HO_6.out); clear HO_6; have HO_6 := nx_; clear nx_)); (try (have nx_ := Aside0.mk (below_at hq_ HB.out); clear HB; have HB := nx_; clear nx_)); (try clear hq_); (try (obtain ⟨hy43_, hz43_⟩ := Kd.R_celln 0 HO_5.out ((ji25) : Int) (of_decide_eq_true (by first | (with_reducible assumption) | assumption)) (of_decide_eq_true (by first | (with_reducible assumption) | assumption)))); (try (have HP43 := Kd.R_putg HO_5.out ((ji25) : Int) x9_3)))); refine store_event (t := 3) (p := 88) (v := ?vo_w44) (w1 := (wr.setCell ⟨go41, ((ji25) : Int).toNat, none⟩ (.int .i64 x9_3))) ?hg ?ho ?hn ?hr ?_; (case ho => rfl); (case hg => rfl); (case hn => rfl); (case hr => first | (go_simp; done) | (go_simp; rfl)); intro w44 hw; have hg : wr.grownBy w44 (some go41) := (by rw [hw]; exact HP43.2); have hp_ : Kd.R (Kd.int .i64) 3 w44 w.heap.size (fun k_ => some k_ ≠ (.slice (some ad118) x6_1.length co28 : Value).ownBlock) (.slice (some ⟨go41, 0, none⟩) x5_2.length co41) y124 := (by rw [hw, Ny124.out]; exact HP43.1); clear HP43; have n0_ := Aside0.mk (hp_); have n1_ := Aside0.mk (Kd.R_after (v := (.slice (some ⟨go41, 0, none⟩) x5_2.length co41)) (v1 := (.slice (some ⟨go41, 0, none⟩) x5_2.length co41)) (ok := (fun _ => True)) (by (with_reducible repeat (first | apply Kd.R_alloc | apply Kd.R_drewN | apply Kd.R_drew)); exact Kd.R_mono HO_6.out (fun _ hk => ⟨trivial, hk⟩)) hg (.inl rfl)); have n2_ := Aside0.mk ((by rw [hw]; exact below_set (HB.out) GB41.out : Below w.heap.size w w44)); clear HO_5; clear HO_6; clear HB; have HO_5 := n0_; have HO_6 := n1_; have HB := n2_; clear n0_ n1_ n2_; clear hg hw hp_))
                                                      repeat (go_quiet (first | ((with_reducible refine gate_store (t := 3) (p := 88) rfl ?_); (try (rw [drewN_self wr]; generalize hq_ : World.drewN wr _ = wr; (try (have nx_ := Aside0.mk (Kd.R_at hq_ HO_5.out); clear HO_5; have HO_5 := nx_; clear nx_)); (try (have nx_ := Aside0.mk (Kd.R_at hq_ HO_6.out); clear HO_6; have HO_6 := nx_; clear nx_)); (try (have nx_ := Aside0.mk (below_at hq_ HB.out); clear HB; have HB := nx_; clear nx_)); (try clear hq_); (try (obtain ⟨hy43_, hz43_⟩ := Kd.R_celln 0 HO_5.out ((ji25) : Int) (of_decide_eq_true (by first | (with_reducible assumption) | assumption)) (of_decide_eq_true (by first | (with_reducible assumption) | assumption)))); (try (have HP43 := Kd.R_putg HO_5.out ((ji25) : Int) x9_3)))); refine store_event (t := 3) (p := 88) (v := ?vo_w44) (w1 := (wr.setCell ⟨go41, ((ji25) : Int).toNat, none⟩ (.int .i64 x9_3))) ?hg ?ho ?hn ?hr ?_; (case ho => rfl); (case hg => rfl); (case hn => rfl); (case hr => first | (go_simp; done) | (go_simp; rfl)); intro w44 hw; have hg : wr.grownBy w44 (some go41) := (by rw [hw]; exact HP43.2); have hp_ : Kd.R (Kd.int .i64) 3 w44 w.heap.size (fun k_ => some k_ ≠ (.slice (some ad118) x6_1.length co28 : Value).ownBlock) (.slice (some ⟨go41, 0, none⟩) x5_2.length co41) y124 := (by rw [hw, Ny124.out]; exact HP43.1); clear HP43; have n0_ := Aside0.mk (hp_); have n1_ := Aside0.mk (Kd.R_after (v := (.slice (some ⟨go41, 0, none⟩) x5_2.length co41)) (v1 := (.slice (some ⟨go41, 0, none⟩) x5_2.length co41)) (ok := (fun _ => True)) (by (with_reducible repeat (first | apply Kd.R_alloc | apply Kd.R_drewN | apply Kd.R_drew)); exact Kd.R_mono HO_6.out (fun _ hk => ⟨trivial, hk⟩)) hg (.inl rfl)); have n2_ := Aside0.mk ((by rw [hw]; exact below_set (HB.out) GB41.out : Below w.heap.size w w44)); clear HO_5; clear HO_6; clear HB; have HO_5 := n0_; have HO_6 := n1_; have HB := n2_; clear n0_ n1_ n2_; clear hg hw hp_)); try go_wp2_with (first | ((with_reducible refine gate_store (t := 3) (p := 88) rfl ?_); (try (rw [drewN_self wr]; generalize hq_ : World.drewN wr _ = wr; (try (have nx_ := Aside0.mk (Kd.R_at hq_ HO_5.out); clear HO_5; have HO_5 := nx_; clear nx_)); (try (have nx_ := Aside0.mk (Kd.R_at hq_ HO_6.out); clear HO_6; have HO_6 := nx_; clear nx_)); (try (have nx_ := Aside0.mk (below_at hq_ HB.out); clear HB; have HB := nx_; clear nx_)); (try clear hq_); (try (obtain ⟨hy43_, hz43_⟩ := Kd.R_celln 0 HO_5.out ((ji25) : Int) (of_decide_eq_true (by first | (with_reducible assumption) | assumption)) (of_decide_eq_true (by first | (with_reducible assumption) | assumption)))); (try (have HP43 := Kd.R_putg HO_5.out ((ji25) : Int) x9_3)))); refine store_event (t := 3) (p := 88) (v := ?vo_w44) (w1 := (wr.setCell ⟨go41, ((ji25) : Int).toNat, none⟩ (.int .i64 x9_3))) ?hg ?ho ?hn ?hr ?_; (case ho => rfl); (case hg => rfl); (case hn => rfl); (case hr => first | (go_simp; done) | (go_simp; rfl)); intro w44 hw; have hg : wr.grownBy w44 (some go41) := (by rw [hw]; exact HP43.2); have hp_ : Kd.R (Kd.int .i64) 3 w44 w.heap.size (fun k_ => some k_ ≠ (.slice (some ad118) x6_1.length co28 : Value).ownBlock) (.slice (some ⟨go41, 0, none⟩) x5_2.length co41) y124 := (by rw [hw, Ny124.out]; exact HP43.1); clear HP43; have n0_ := Aside0.mk (hp_); have n1_ := Aside0.mk (Kd.R_after (v := (.slice (some ⟨go41, 0, none⟩) x5_2.length co41)) (v1 := (.slice (some ⟨go41, 0, none⟩) x5_2.length co41)) (ok := (fun _ => True)) (by (with_reducible repeat (first | apply Kd.R_alloc | apply Kd.R_drewN | apply Kd.R_drew)); exact Kd.R_mono HO_6.out (fun _ hk => ⟨trivial, hk⟩)) hg (.inl rfl)); have n2_ := Aside0.mk ((by rw [hw]; exact below_set (HB.out) GB41.out : Below w.heap.size w w44)); clear HO_5; clear HO_6; clear HB; have HO_5 := n0_; have HO_6 := n1_; have HB := n2_; clear n0_ n1_ n2_; clear hg hw hp_)))
                                                      (first | go_roundg k3 | (simp only [← hji42]; go_roundg k3) | (simp only [← hji25, ← hji42]; go_roundg k3) | (simp only [← hji33, ← hji25, ← hji42]; go_roundg k3) | (simp only [← hji31, ← hji33, ← hji25, ← hji42]; go_roundg k3) | (simp only [← hji25, ← hji31, ← hji33, ← hji25, ← hji42]; go_roundg k3) | (simp only [← hji3, ← hji25, ← hji31, ← hji33, ← hji25, ← hji42]; go_roundg k3))
                                                      case measure => have := HK1.out; have := HK2.out; have := HK3.out; omega
                                                      case rel => first | exact ⟨(y124), (ji42), (wrap64 (x34_2 + 1)), (by first | rfl | (simp; done) | (simp only [← hji42] <;> (first | rfl | simp)) | (simp [*]; done)), (by first | rfl | (simp; done) | (simp [*]; done)), H', ⟨by have := HK1.out; have := HK2.out; have := HK3.out; omega⟩, ⟨by (with_reducible repeat (first | apply Kd.R_alloc | apply Kd.R_drewN | apply Kd.R_drew)); exact HO_5.out⟩, ⟨by (with_reducible repeat (first | apply Kd.R_alloc | apply Kd.R_drewN | apply Kd.R_drew)); exact Kd.R_mono HO_6.out (fun _ hk => hk.2)⟩, ⟨by repeat (first | (with_reducible first | exact HB.out | apply below_alloc | apply pw_below_drewN | apply below_drew1) | exact HB.out)⟩⟩ | (subst hji42; subst hji25; subst hji33; subst hji31; subst hji25; subst hji3; exact ⟨(y124), (mx (wrap64 (x9_3 - 1)) 0), (wrap64 (x34_2 + 1)), (by first | rfl | (simp; done) | (simp only [← hji42] <;> (first | rfl | simp)) | (simp [*]; done)), (by first | rfl | (simp; done) | (simp [*]; done)), H', ⟨by have := HK1.out; have := HK2.out; have := HK3.out; omega⟩, ⟨by (with_reducible repeat (first | apply Kd.R_alloc | apply Kd.R_drewN | apply Kd.R_drew)); exact HO_5.out⟩, ⟨by (with_reducible repeat (first | apply Kd.R_alloc | apply Kd.R_drewN | apply Kd.R_drew)); exact Kd.R_mono HO_6.out (fun _ hk => hk.2)⟩, ⟨by repeat (first | (with_reducible first | exact HB.out | apply below_alloc | apply pw_below_drewN | apply below_drew1) | exact HB.out)⟩⟩)
                                                    · rw [if_neg c40] at H
                                                      exact absurd H (by simp)
                                                  · rw [if_neg c39] at H
                                                    exact absurd H (by simp)
                                                · rw [if_neg c37] at H
                                                  exact absurd H (by simp)
                                              · rw [if_neg c36] at H
                                                exact absurd H (by simp)
                                          · rw [if_neg c34] at H
                                            exact absurd H (by simp)
                                        · rw [if_neg c32] at H
                                          exact absurd H (by simp)
                                      · rw [if_neg c30] at H
                                        have c30b0 : decide ((wrap64 ((rd l1 (ji25)) + x9_3)) < (l0.length : Int)) = false := decide_eq_false c30
                                        clear c30
                                        by_cases c45 : 0 ≤ x34_2
                                        · rw [if_pos c45] at H
                                          have c45b0 : decide (0 ≤ x34_2) = true := decide_eq_true c45
                                          clear c45
                                          by_cases c46 : x34_2 < (x6_1.length : Int)
                                          · rw [if_pos c46] at H
                                            have c46b0 : decide (x34_2 < (x6_1.length : Int)) = true := decide_eq_true c46
                                            clear c46
                                            skip
                                            replace H : (if 0 ≤ (ji25) then (if (ji25) < (x5_2.length : Int) then (ends_common.l1 k3 l0 l1 (x5_2.set ((ji25) : Int).toNat x9_3) x6_1 (mx (wrap64 (x9_3 - 1)) 0) (l0.length : Int) (wrap64 (x34_2 + 1))) else (none)) else (none)) = some r := by first | (rw [hji25] at H; exact H) | (simp only [hji25] at H ⊢; exact H)
                                            skip
                                            by_cases c48 : 0 ≤ (ji25)
                                            · rw [if_pos c48] at H
                                              have c48b0 : decide (0 ≤ (ji25)) = true := decide_eq_true c48
                                              clear c48
                                              by_cases c49 : (ji25) < (x5_2.length : Int)
                                              · rw [if_pos c49] at H
                                                have c49b0 : decide ((ji25) < (x5_2.length : Int)) = true := decide_eq_true c49
                                                clear c49
                                                obtain ⟨y126, hy126⟩ : ∃ y_ : List Int, y_ = (x5_2.set ((ji25) : Int).toNat x9_3) := ⟨_, rfl⟩
                                                replace H : (ends_common.l1 k3 l0 l1 y126 x6_1 (mx (wrap64 (x9_3 - 1)) 0) (l0.length : Int) (wrap64 (x34_2 + 1))) = some r := by first | (rw [hy126]; with_reducible exact H) | (have H2_ := (Option.bind_some _ _).symm.trans H; rw [hy126]; with_reducible exact H2_) | (have H2_ := (Option.bind_some _ _).symm.trans H; with_reducible exact H2_) | with_reducible exact H | (rw [hy126]; exact H) | exact H
                                                have Ny126 := Aside0.mk hy126
                                                clear hy126
                                                obtain ⟨ji51, hji51⟩ : ∃ j_ : Int, (mx (wrap64 (x9_3 - 1)) 0) = j_ := ⟨_, rfl⟩
                                                replace H : (ends_common.l1 k3 l0 l1 y126 x6_1 ji51 (l0.length : Int) (wrap64 (x34_2 + 1))) = some r := by first | (rw [hji51] at H; exact H) | (simp only [hji51] at H ⊢; exact H)
                                                have hji51_ : (if (wrap64 (x9_3 - 1)) < 0 then 0 else (wrap64 (x9_3 - 1))) = ji51 := hji51
                                                have H' := Aside0.mk H
                                                clear H
                                                have p125 : 0 ≤ (x34_2 : Int) := of_decide_eq_true (by first | (with_reducible assumption) | assumption)
                                                have q125 : x34_2 < (x6_1.length : Int) := of_decide_eq_true (by first | (with_reducible assumption) | assumption)
                                                obtain ⟨ad125, e125, hx125_0⟩ := Kd.at_int (Kd.R_reads' HO_6.out).2.2 x34_2 p125 q125
                                                obtain rfl : ad118 = ad125 := (by injection e125)
                                                replace p125 := eq_true p125
                                                replace q125 := eq_true q125
                                                have p50 : 0 ≤ ((ji25) : Int) := of_decide_eq_true (by first | (with_reducible assumption) | assumption)
                                                have q50 : ((ji25) : Int) < ((x5_2.length : Int) : Int) := of_decide_eq_true (by first | (with_reducible assumption) | assumption)
                                                obtain ⟨go50, co50, eo50, gb50, gl50, cl50, HG50⟩ := Kd.R_form HO_5.out (by omega)
                                                (first | cases eo50 | (injection eo50 with ea_ en_ ec_; (first | subst ea_ | (injection ea_ with ea_; subst ea_)); subst ec_; clear en_))
                                                have GB50 := Aside0.mk gb50
                                                have GG50 := Aside0.mk HG50
                                                clear gb50 gl50 HG50
                                                obtain ⟨hx50_0, hf50_0⟩ := Kd.R_celln 0 HO_5.out ((ji25) : Int) p50 q50
                                                replace p50 := eq_true p50
                                                replace q50 := eq_true q50
                                                obtain ⟨hy52_, hz52_⟩ := Kd.R_celln 0 HO_5.out ((ji25) : Int) (of_decide_eq_true (by first | (with_reducible assumption) | assumption)) (of_decide_eq_true (by first | (with_reducible assumption) | assumption))
                                                have HP52 := Kd.R_putg HO_5.out ((ji25) : Int) x9_3
                                                go_wp2_with (first | ((with_reducible refine gate_store (t := 3) (p := 88) rfl ?_); (try (rw [drewN_self wr]; generalize hq_ : World.drewN wr _ = wr; (try (have nx_ := Aside0.mk (Kd.R_at hq_ HO_5.out); clear HO_5; have HO_5 := nx_; clear nx_)); (try (have nx_ := Aside0.mk (Kd.R_at hq_ HO_6.out); clear HO_6; have HO_6 := nx_; clear nx_)); (try (have nx_ := Aside0.mk (below_at hq_ HB.out); clear HB; have HB := nx_; clear nx_)); (try clear hq_); (try (obtain ⟨hy52_, hz52_⟩ := Kd.R_celln 0 HO_5.out ((ji25) : Int) (of_decide_eq_true (by first | (with_reducible assumption) | assumption)) (of_decide_eq_true (by first | (with_reducible assumption) | assumption)))); (try (have HP52 := Kd.R_putg HO_5.out ((ji25) : Int) x9_3)))); refine store_event (t := 3) (p := 88) (v := ?vo_w53) (w1 := (wr.setCell ⟨go50, ((ji25) : Int).toNat, none⟩ (.int .i64 x9_3))) ?hg ?ho ?hn ?hr ?_; (case ho => rfl); (case hg => rfl); (case hn => rfl); (case hr => first | (go_simp; done) | (go_simp; rfl)); intro w53 hw; have hg : wr.grownBy w53 (some go50) := (by rw [hw]; exact HP52.2); have hp_ : Kd.R (Kd.int .i64) 3 w53 w.heap.size (fun k_ => some k_ ≠ (.slice (some ad118) x6_1.length co28 : Value).ownBlock) (.slice (some ⟨go50, 0, none⟩) x5_2.length co50) y126 := (by rw [hw, Ny126.out]; exact HP52.1); clear HP52; have n0_ := Aside0.mk (hp_); have n1_ := Aside0.mk (Kd.R_after (v := (.slice (some ⟨go50, 0, none⟩) x5_2.length co50)) (v1 := (.slice (some ⟨go50, 0, none⟩) x5_2.length co50)) (ok := (fun _ => True)) (by (with_reducible repeat (first | apply Kd.R_alloc | apply Kd.R_drewN | apply Kd.R_drew)); exact Kd.R_mono HO_6.out (fun _ hk => ⟨trivial, hk⟩)) hg (.inl rfl)); have n2_ := Aside0.mk ((by rw [hw]; exact below_set (HB.out) GB50.out : Below w.heap.size w w53)); clear HO_5; clear HO_6; clear HB; have HO_5 := n0_; have HO_6 := n1_; have HB := n2_; clear n0_ n1_ n2_; clear hg hw hp_))
                                                repeat (go_quiet (first | ((with_reducible refine gate_store (t := 3) (p := 88) rfl ?_); (try (rw [drewN_self wr]; generalize hq_ : World.drewN wr _ = wr; (try (have nx_ := Aside0.mk (Kd.R_at hq_ HO_5.out); clear HO_5; have HO_5 := nx_; clear nx_)); (try (have nx_ := Aside0.mk (Kd.R_at hq_ HO_6.out); clear HO_6; have HO_6 := nx_; clear nx_)); (try (have nx_ := Aside0.mk (below_at hq_ HB.out); clear HB; have HB := nx_; clear nx_)); (try clear hq_); (try (obtain ⟨hy52_, hz52_⟩ := Kd.R_celln 0 HO_5.out ((ji25) : Int) (of_decide_eq_true (by first | (with_reducible assumption) | assumption)) (of_decide_eq_true (by first | (with_reducible assumption) | assumption)))); (try (have HP52 := Kd.R_putg HO_5.out ((ji25) : Int) x9_3)))); refine store_event (t := 3) (p := 88) (v := ?vo_w53) (w1 := (wr.setCell ⟨go50, ((ji25) : Int).toNat, none⟩ (.int .i64 x9_3))) ?hg ?ho ?hn ?hr ?_; (case ho => rfl); (case hg => rfl); (case hn => rfl); (case hr => first | (go_simp; done) | (go_simp; rfl)); intro w53 hw; have hg : wr.grownBy w53 (some go50) := (by rw [hw]; exact HP52.2); have hp_ : Kd.R (Kd.int .i64) 3 w53 w.heap.size (fun k_ => some k_ ≠ (.slice (some ad118) x6_1.length co28 : Value).ownBlock) (.slice (some ⟨go50, 0, none⟩) x5_2.length co50) y126 := (by rw [hw, Ny126.out]; exact HP52.1); clear HP52; have n0_ := Aside0.mk (hp_); have n1_ := Aside0.mk (Kd.R_after (v := (.slice (some ⟨go50, 0, none⟩) x5_2.length co50)) (v1 := (.slice (some ⟨go50, 0, none⟩) x5_2.length co50)) (ok := (fun _ => True)) (by (with_reducible repeat (first | apply Kd.R_alloc | apply Kd.R_drewN | apply Kd.R_drew)); exact Kd.R_mono HO_6.out (fun _ hk => ⟨trivial, hk⟩)) hg (.inl rfl)); have n2_ := Aside0.mk ((by rw [hw]; exact below_set (HB.out) GB50.out : Below w.heap.size w w53)); clear HO_5; clear HO_6; clear HB; have HO_5 := n0_; have HO_6 := n1_; have HB := n2_; clear n0_ n1_ n2_; clear hg hw hp_)); try go_wp2_with (first | ((with_reducible refine gate_store (t := 3) (p := 88) rfl ?_); (try (rw [drewN_self wr]; generalize hq_ : World.drewN wr _ = wr; (try (have nx_ := Aside0.mk (Kd.R_at hq_ HO_5.out); clear HO_5; have HO_5 := nx_; clear nx_)); (try (have nx_ := Aside0.mk (Kd.R_at hq_ HO_6.out); clear HO_6; have HO_6 := nx_; clear nx_)); (try (have nx_ := Aside0.mk (below_at hq_ HB.out); clear HB; have HB := nx_; clear nx_)); (try clear hq_); (try (obtain ⟨hy52_, hz52_⟩ := Kd.R_celln 0 HO_5.out ((ji25) : Int) (of_decide_eq_true (by first | (with_reducible assumption) | assumption)) (of_decide_eq_true (by first | (with_reducible assumption) | assumption)))); (try (have HP52 := Kd.R_putg HO_5.out ((ji25) : Int) x9_3)))); refine store_event (t := 3) (p := 88) (v := ?vo_w53) (w1 := (wr.setCell ⟨go50, ((ji25) : Int).toNat, none⟩ (.int .i64 x9_3))) ?hg ?ho ?hn ?hr ?_; (case ho => rfl); (case hg => rfl); (case hn => rfl); (case hr => first | (go_simp; done) | (go_simp; rfl)); intro w53 hw; have hg : wr.grownBy w53 (some go50) := (by rw [hw]; exact HP52.2); have hp_ : Kd.R (Kd.int .i64) 3 w53 w.heap.size (fun k_ => some k_ ≠ (.slice (some ad118) x6_1.length co28 : Value).ownBlock) (.slice (some ⟨go50, 0, none⟩) x5_2.length co50) y126 := (by rw [hw, Ny126.out]; exact HP52.1); clear HP52; have n0_ := Aside0.mk (hp_); have n1_ := Aside0.mk (Kd.R_after (v := (.slice (some ⟨go50, 0, none⟩) x5_2.length co50)) (v1 := (.slice (some ⟨go50, 0, none⟩) x5_2.length co50)) (ok := (fun _ => True)) (by (with_reducible repeat (first | apply Kd.R_alloc | apply Kd.R_drewN | apply Kd.R_drew)); exact Kd.R_mono HO_6.out (fun _ hk => ⟨trivial, hk⟩)) hg (.inl rfl)); have n2_ := Aside0.mk ((by rw [hw]; exact below_set (HB.out) GB50.out : Below w.heap.size w w53)); clear HO_5; clear HO_6; clear HB; have HO_5 := n0_; have HO_6 := n1_; have HB := n2_; clear n0_ n1_ n2_; clear hg hw hp_)))
                                                (first | go_roundg k3 | (simp only [← hji51]; go_roundg k3) | (simp only [← hji25, ← hji51]; go_roundg k3) | (simp only [← hji25, ← hji25, ← hji51]; go_roundg k3) | (simp only [← hji3, ← hji25, ← hji25, ← hji51]; go_roundg k3))
                                                case measure => have := HK1.out; have := HK2.out; have := HK3.out; omega
                                                case rel => first | exact ⟨(y126), (ji51), (wrap64 (x34_2 + 1)), (by first | rfl | (simp; done) | (simp only [← hji51] <;> (first | rfl | simp)) | (simp [*]; done)), (by first | rfl | (simp; done) | (simp [*]; done)), H', ⟨by have := HK1.out; have := HK2.out; have := HK3.out; omega⟩, ⟨by (with_reducible repeat (first | apply Kd.R_alloc | apply Kd.R_drewN | apply Kd.R_drew)); exact HO_5.out⟩, ⟨by (with_reducible repeat (first | apply Kd.R_alloc | apply Kd.R_drewN | apply Kd.R_drew)); exact Kd.R_mono HO_6.out (fun _ hk => hk.2)⟩, ⟨by repeat (first | (with_reducible first | exact HB.out | apply below_alloc | apply pw_below_drewN | apply below_drew1) | exact HB.out)⟩⟩ | (subst hji51; subst hji25; subst hji25; subst hji3; exact ⟨(y126), (mx (wrap64 (x9_3 - 1)) 0), (wrap64 (x34_2 + 1)), (by first | rfl | (simp; done) | (simp only [← hji51] <;> (first | rfl | simp)) | (simp [*]; done)), (by first | rfl | (simp; done) | (simp [*]; done)), H', ⟨by have := HK1.out; have := HK2.out; have := HK3.out; omega⟩, ⟨by (with_reducible repeat (first | apply Kd.R_alloc | apply Kd.R_drewN | apply Kd.R_drew)); exact HO_5.out⟩, ⟨by (with_reducible repeat (first | apply Kd.R_alloc | apply Kd.R_drewN | apply Kd.R_drew)); exact Kd.R_mono HO_6.out (fun _ hk => hk.2)⟩, ⟨by repeat (first | (with_reducible first | exact HB.out | apply below_alloc | apply pw_below_drewN | apply below_drew1) | exact HB.out)⟩⟩)
                                              · rw [if_neg c49] at H
                                                exact absurd H (by simp)
                                            · rw [if_neg c48] at H
                                              exact absurd H (by simp)
                                          · rw [if_neg c46] at H
                                            exact absurd H (by simp)
                                        · rw [if_neg c45] at H
                                          exact absurd H (by simp)
                                    · rw [if_neg c29] at H
                                      have c29b0 : decide ((wrap64 (x34_2 + x9_3)) < (l0.length : Int)) = false := decide_eq_false c29
                                      clear c29
                                      by_cases c54 : 0 ≤ x34_2
                                      · rw [if_pos c54] at H
                                        have c54b0 : decide (0 ≤ x34_2) = true := decide_eq_true c54
                                        clear c54
                                        by_cases c55 : x34_2 < (x6_1.length : Int)
                                        · rw [if_pos c55] at H
                                          have c55b0 : decide (x34_2 < (x6_1.length : Int)) = true := decide_eq_true c55
                                          clear c55
                                          skip
                                          replace H : (if 0 ≤ (ji25) then (if (ji25) < (x5_2.length : Int) then (ends_common.l1 k3 l0 l1 (x5_2.set ((ji25) : Int).toNat x9_3) x6_1 (mx (wrap64 (x9_3 - 1)) 0) (l0.length : Int) (wrap64 (x34_2 + 1))) else (none)) else (none)) = some r := by first | (rw [hji25] at H; exact H) | (simp only [hji25] at H ⊢; exact H)
                                          skip
                                          by_cases c57 : 0 ≤ (ji25)
                                          · rw [if_pos c57] at H
                                            have c57b0 : decide (0 ≤ (ji25)) = true := decide_eq_true c57
                                            clear c57
                                            by_cases c58 : (ji25) < (x5_2.length : Int)
                                            · rw [if_pos c58] at H
                                              have c58b0 : decide ((ji25) < (x5_2.length : Int)) = true := decide_eq_true c58
                                              clear c58
                                              obtain ⟨y128, hy128⟩ : ∃ y_ : List Int, y_ = (x5_2.set ((ji25) : Int).toNat x9_3) := ⟨_, rfl⟩
                                              replace H : (ends_common.l1 k3 l0 l1 y128 x6_1 (mx (wrap64 (x9_3 - 1)) 0) (l0.length : Int) (wrap64 (x34_2 + 1))) = some r := by first | (rw [hy128]; with_reducible exact H) | (have H2_ := (Option.bind_some _ _).symm.trans H; rw [hy128]; with_reducible exact H2_) | (have H2_ := (Option.bind_some _ _).symm.trans H; with_reducible exact H2_) | with_reducible exact H | (rw [hy128]; exact H) | exact H
                                              have Ny128 := Aside0.mk hy128
                                              clear hy128
                                              obtain ⟨ji60, hji60⟩ : ∃ j_ : Int, (mx (wrap64 (x9_3 - 1)) 0) = j_ := ⟨_, rfl⟩
                                              replace H : (ends_common.l1 k3 l0 l1 y128 x6_1 ji60 (l0.length : Int) (wrap64 (x34_2 + 1))) = some r := by first | (rw [hji60] at H; exact H) | (simp only [hji60] at H ⊢; exact H)
                                              have hji60_ : (if (wrap64 (x9_3 - 1)) < 0 then 0 else (wrap64 (x9_3 - 1))) = ji60 := hji60
                                              have H' := Aside0.mk H
                                              clear H
                                              have p127 : 0 ≤ (x34_2 : Int) := of_decide_eq_true (by first | (with_reducible assumption) | assumption)
                                              have q127 : x34_2 < (x6_1.length : Int) := of_decide_eq_true (by first | (with_reducible assumption) | assumption)
                                              obtain ⟨ad127, e127, hx127_0⟩ := Kd.at_int (Kd.R_reads' HO_6.out).2.2 x34_2 p127 q127
                                              obtain rfl : ad118 = ad127 := (by injection e127)
                                              replace p127 := eq_true p127
                                              replace q127 := eq_true q127
                                              have p59 : 0 ≤ ((ji25) : Int) := of_decide_eq_true (by first | (with_reducible assumption) | assumption)
                                              have q59 : ((ji25) : Int) < ((x5_2.length : Int) : Int) := of_decide_eq_true (by first | (with_reducible assumption) | assumption)
                                              obtain ⟨go59, co59, eo59, gb59, gl59, cl59, HG59⟩ := Kd.R_form HO_5.out (by omega)
                                              (first | cases eo59 | (injection eo59 with ea_ en_ ec_; (first | subst ea_ | (injection ea_ with ea_; subst ea_)); subst ec_; clear en_))
                                              have GB59 := Aside0.mk gb59
                                              have GG59 := Aside0.mk HG59
                                              clear gb59 gl59 HG59
                                              obtain ⟨hx59_0, hf59_0⟩ := Kd.R_celln 0 HO_5.out ((ji25) : Int) p59 q59
                                              replace p59 := eq_true p59
                                              replace q59 := eq_true q59
                                              obtain ⟨hy61_, hz61_⟩ := Kd.R_celln 0 HO_5.out ((ji25) : Int) (of_decide_eq_true (by first | (with_reducible assumption) | assumption)) (of_decide_eq_true (by first | (with_reducible assumption) | assumption))
                                              have HP61 := Kd.R_putg HO_5.out ((ji25) : Int) x9_3
                                              go_wp2_with (first | ((with_reducible refine gate_store (t := 3) (p := 88) rfl ?_); (try (rw [drewN_self wr]; generalize hq_ : World.drewN wr _ = wr; (try (have nx_ := Aside0.mk (Kd.R_at hq_ HO_5.out); clear HO_5; have HO_5 := nx_; clear nx_)); (try (have nx_ := Aside0.mk (Kd.R_at hq_ HO_6.out); clear HO_6; have HO_6 := nx_; clear nx_)); (try (have nx_ := Aside0.mk (below_at hq_ HB.out); clear HB; have HB := nx_; clear nx_)); (try clear hq_); (try (obtain ⟨hy61_, hz61_⟩ := Kd.R_celln 0 HO_5.out ((ji25) : Int) (of_decide_eq_true (by first | (with_reducible assumption) | assumption)) (of_decide_eq_true (by first | (with_reducible assumption) | assumption)))); (try (have HP61 := Kd.R_putg HO_5.out ((ji25) : Int) x9_3)))); refine store_event (t := 3) (p := 88) (v := ?vo_w62) (w1 := (wr.setCell ⟨go59, ((ji25) : Int).toNat, none⟩ (.int .i64 x9_3))) ?hg ?ho ?hn ?hr ?_; (case ho => rfl); (case hg => rfl); (case hn => rfl); (case hr => first | (go_simp; done) | (go_simp; rfl)); intro w62 hw; have hg : wr.grownBy w62 (some go59) := (by rw [hw]; exact HP61.2); have hp_ : Kd.R (Kd.int .i64) 3 w62 w.heap.size (fun k_ => some k_ ≠ (.slice (some ad118) x6_1.length co28 : Value).ownBlock) (.slice (some ⟨go59, 0, none⟩) x5_2.length co59) y128 := (by rw [hw, Ny128.out]; exact HP61.1); clear HP61; have n0_ := Aside0.mk (hp_); have n1_ := Aside0.mk (Kd.R_after (v := (.slice (some ⟨go59, 0, none⟩) x5_2.length co59)) (v1 := (.slice (some ⟨go59, 0, none⟩) x5_2.length co59)) (ok := (fun _ => True)) (by (with_reducible repeat (first | apply Kd.R_alloc | apply Kd.R_drewN | apply Kd.R_drew)); exact Kd.R_mono HO_6.out (fun _ hk => ⟨trivial, hk⟩)) hg (.inl rfl)); have n2_ := Aside0.mk ((by rw [hw]; exact below_set (HB.out) GB59.out : Below w.heap.size w w62)); clear HO_5; clear HO_6; clear HB; have HO_5 := n0_; have HO_6 := n1_; have HB := n2_; clear n0_ n1_ n2_; clear hg hw hp_))
                                              repeat (go_quiet (first | ((with_reducible refine gate_store (t := 3) (p := 88) rfl ?_); (try (rw [drewN_self wr]; generalize hq_ : World.drewN wr _ = wr; (try (have nx_ := Aside0.mk (Kd.R_at hq_ HO_5.out); clear HO_5; have HO_5 := nx_; clear nx_)); (try (have nx_ := Aside0.mk (Kd.R_at hq_ HO_6.out); clear HO_6; have HO_6 := nx_; clear nx_)); (try (have nx_ := Aside0.mk (below_at hq_ HB.out); clear HB; have HB := nx_; clear nx_)); (try clear hq_); (try (obtain ⟨hy61_, hz61_⟩ := Kd.R_celln 0 HO_5.out ((ji25) : Int) (of_decide_eq_true (by first | (with_reducible assumption) | assumption)) (of_decide_eq_true (by first | (with_reducible assumption) | assumption)))); (try (have HP61 := Kd.R_putg HO_5.out ((ji25) : Int) x9_3)))); refine store_event (t := 3) (p := 88) (v := ?vo_w62) (w1 := (wr.setCell ⟨go59, ((ji25) : Int).toNat, none⟩ (.int .i64 x9_3))) ?hg ?ho ?hn ?hr ?_; (case ho => rfl); (case hg => rfl); (case hn => rfl); (case hr => first | (go_simp; done) | (go_simp; rfl)); intro w62 hw; have hg : wr.grownBy w62 (some go59) := (by rw [hw]; exact HP61.2); have hp_ : Kd.R (Kd.int .i64) 3 w62 w.heap.size (fun k_ => some k_ ≠ (.slice (some ad118) x6_1.length co28 : Value).ownBlock) (.slice (some ⟨go59, 0, none⟩) x5_2.length co59) y128 := (by rw [hw, Ny128.out]; exact HP61.1); clear HP61; have n0_ := Aside0.mk (hp_); have n1_ := Aside0.mk (Kd.R_after (v := (.slice (some ⟨go59, 0, none⟩) x5_2.length co59)) (v1 := (.slice (some ⟨go59, 0, none⟩) x5_2.length co59)) (ok := (fun _ => True)) (by (with_reducible repeat (first | apply Kd.R_alloc | apply Kd.R_drewN | apply Kd.R_drew)); exact Kd.R_mono HO_6.out (fun _ hk => ⟨trivial, hk⟩)) hg (.inl rfl)); have n2_ := Aside0.mk ((by rw [hw]; exact below_set (HB.out) GB59.out : Below w.heap.size w w62)); clear HO_5; clear HO_6; clear HB; have HO_5 := n0_; have HO_6 := n1_; have HB := n2_; clear n0_ n1_ n2_; clear hg hw hp_)); try go_wp2_with (first | ((with_reducible refine gate_store (t := 3) (p := 88) rfl ?_); (try (rw [drewN_self wr]; generalize hq_ : World.drewN wr _ = wr; (try (have nx_ := Aside0.mk (Kd.R_at hq_ HO_5.out); clear HO_5; have HO_5 := nx_; clear nx_)); (try (have nx_ := Aside0.mk (Kd.R_at hq_ HO_6.out); clear HO_6; have HO_6 := nx_; clear nx_)); (try (have nx_ := Aside0.mk (below_at hq_ HB.out); clear HB; have HB := nx_; clear nx_)); (try clear hq_); (try (obtain ⟨hy61_, hz61_⟩ := Kd.R_celln 0 HO_5.out ((ji25) : Int) (of_decide_eq_true (by first | (with_reducible assumption) | assumption)) (of_decide_eq_true (by first | (with_reducible assumption) | assumption)))); (try (have HP61 := Kd.R_putg HO_5.out ((ji25) : Int) x9_3)))); refine store_event (t := 3) (p := 88) (v := ?vo_w62) (w1 := (wr.setCell ⟨go59, ((ji25) : Int).toNat, none⟩ (.int .i64 x9_3))) ?hg ?ho ?hn ?hr ?_; (case ho => rfl); (case hg => rfl); (case hn => rfl); (case hr => first | (go_simp; done) | (go_simp; rfl)); intro w62 hw; have hg : wr.grownBy w62 (some go59) := (by rw [hw]; exact HP61.2); have hp_ : Kd.R (Kd.int .i64) 3 w62 w.heap.size (fun k_ => some k_ ≠ (.slice (some ad118) x6_1.length co28 : Value).ownBlock) (.slice (some ⟨go59, 0, none⟩) x5_2.length co59) y128 := (by rw [hw, Ny128.out]; exact HP61.1); clear HP61; have n0_ := Aside0.mk (hp_); have n1_ := Aside0.mk (Kd.R_after (v := (.slice (some ⟨go59, 0, none⟩) x5_2.length co59)) (v1 := (.slice (some ⟨go59, 0, none⟩) x5_2.length co59)) (ok := (fun _ => True)) (by (with_reducible repeat (first | apply Kd.R_alloc | apply Kd.R_drewN | apply Kd.R_drew)); exact Kd.R_mono HO_6.out (fun _ hk => ⟨trivial, hk⟩)) hg (.inl rfl)); have n2_ := Aside0.mk ((by rw [hw]; exact below_set (HB.out) GB59.out : Below w.heap.size w w62)); clear HO_5; clear HO_6; clear HB; have HO_5 := n0_; have HO_6 := n1_; have HB := n2_; clear n0_ n1_ n2_; clear hg hw hp_)))
                                              (first | go_roundg k3 | (simp only [← hji60]; go_roundg k3) | (simp only [← hji25, ← hji60]; go_roundg k3) | (simp only [← hji25, ← hji25, ← hji60]; go_roundg k3) | (simp only [← hji3, ← hji25, ← hji25, ← hji60]; go_roundg k3))
                                              case measure => have := HK1.out; have := HK2.out; have := HK3.out; omega
                                              case rel => first | exact ⟨(y128), (ji60), (wrap64 (x34_2 + 1)), (by first | rfl | (simp; done) | (simp only [← hji60] <;> (first | rfl | simp)) | (simp [*]; done)), (by first | rfl | (simp; done) | (simp [*]; done)), H', ⟨by have := HK1.out; have := HK2.out; have := HK3.out; omega⟩, ⟨by (with_reducible repeat (first | apply Kd.R_alloc | apply Kd.R_drewN | apply Kd.R_drew)); exact HO_5.out⟩, ⟨by (with_reducible repeat (first | apply Kd.R_alloc | apply Kd.R_drewN | apply Kd.R_drew)); exact Kd.R_mono HO_6.out (fun _ hk => hk.2)⟩, ⟨by repeat (first | (with_reducible first | exact HB.out | apply below_alloc | apply pw_below_drewN | apply below_drew1) | exact HB.out)⟩⟩ | (subst hji60; subst hji25; subst hji25; subst hji3; exact ⟨(y128), (mx (wrap64 (x9_3 - 1)) 0), (wrap64 (x34_2 + 1)), (by first | rfl | (simp; done) | (simp only [← hji60] <;> (first | rfl | simp)) | (simp [*]; done)), (by first | rfl | (simp; done) | (simp [*]; done)), H', ⟨by have := HK1.out; have := HK2.out; have := HK3.out; omega⟩, ⟨by (with_reducible repeat (first | apply Kd.R_alloc | apply Kd.R_drewN | apply Kd.R_drew)); exact HO_5.out⟩, ⟨by (with_reducible repeat (first | apply Kd.R_alloc | apply Kd.R_drewN | apply Kd.R_drew)); exact Kd.R_mono HO_6.out (fun _ hk => hk.2)⟩, ⟨by repeat (first | (with_reducible first | exact HB.out | apply below_alloc | apply pw_below_drewN | apply below_drew1) | exact HB.out)⟩⟩)
                                            · rw [if_neg c58] at H
                                              exact absurd H (by simp)
                                          · rw [if_neg c57] at H
                                            exact absurd H (by simp)
                                        · rw [if_neg c55] at H
                                          exact absurd H (by simp)
                                      · rw [if_neg c54] at H
                                        exact absurd H (by simp)
                              · rw [if_neg c27] at H
                                exact absurd H (by simp)
                            · rw [if_neg c26] at H
                              exact absurd H (by simp)
                        · rw [if_neg c22] at H
                          exact absurd H (by simp)
                      · rw [if_neg c21] at H
                        exact absurd H (by simp)
                    · rw [if_neg c20] at H
                      have c20b0 : decide (x34_2 < (l0.length : Int)) = false := decide_eq_false c20
                      clear c20
                      obtain rfl := Option.some.inj H
                      go_wp2
                      repeat (go_quiet (fail); try go_wp2)
                      go_ret
                      exact ⟨_, by first | rfl | (simp [errW_none, errW_some] <;> rfl) | (simp only [← hji3]; first | rfl | (simp [errW_none, errW_some] <;> rfl)) | (simp [*, errW_none, errW_some] <;> rfl), by (with_reducible repeat (first | apply Kd.R_alloc | apply Kd.R_drewN | apply Kd.R_drew)); exact Kd.R_mono HO_5.out (fun _ hk => trivial), by repeat (first | (with_reducible first | exact HB.out | apply below_alloc | apply pw_below_drewN | apply below_drew1) | exact HB.out)⟩
        · rw [if_neg c7] at H
          exact absurd H (by simp)
      · rw [if_neg c6] at H
        exact absurd H (by simp)
    · rw [if_neg c5] at H
      exact absurd H (by simp)
  · rw [if_neg c4] at H
    exact absurd H (by simp)

/-! ### ends_Different: function 14 -/
def ends_Different.l0 : Nat → Int → List Int → Int → Int → Option (Int × Int)
  | 0, _, _, _, _ => none
  | k + 1, x4, x20, x21, x22 => if x22 < x21 then (if 0 ≤ x22 then (if x22 < (x20.length : Int) then (ends_Different.l0 k (wrap64 (x4 - (rd x20 x22))) x20 x21 (wrap64 (x22 + 1))) else (none)) else (none)) else (some (x4, 0))
def ends_Different.f (k : Nat) (l0 : List Int) : Option (Int × Int) := if (l0.length : Int) > 60 then (some (0, 1)) else ((ends_order.f l0).bind fun t129 => ((ends_common.f k l0 t129).bind fun t132 => (ends_Different.l0 k (wrap64 (Int.tdiv (wrap64 ((l0.length : Int) * (wrap64 ((l0.length : Int) + 1)))) 2)) t132 (t132.length : Int) 0)))
theorem ends_Different.mono_l : ∀ k, (∀ y0 y1 y2 y3, LeO (ends_Different.l0 k y0 y1 y2 y3) (ends_Different.l0 (k + 1) y0 y1 y2 y3))
  | 0 => fun _ _ _ _ r h => by simp [ends_Different.l0] at h
  | k + 1 => by
    have ih0 := ends_Different.mono_l k
    · intro y0 y1 y2 y3
      unfold ends_Different.l0
      repeat' first
      | (with_reducible exact ih0 _ _ _ _)
      | (with_reducible exact ends_common.mono _ _ _)
      | (with_reducible exact LeO.refl _)
      | (with_reducible exact LeO.none _)
      | (with_reducible refine LeO.ite ?_ ?_)
      | (with_reducible refine LeO.bind ?_ (fun _ => ?_))
      | exact ih0 _ _ _ _
      | exact ends_common.mono _ _ _
      | exact LeO.none _
      | refine LeO.ite ?_ ?_
      | refine LeO.bind ?_ (fun _ => ?_)
theorem ends_Different.mono : ∀ a0 k, LeO (ends_Different.f k a0) (ends_Different.f (k + 1) a0) := by
  intro a0 k
  have ih0 := ends_Different.mono_l k
  unfold ends_Different.f
  repeat' first
      | (with_reducible exact ih0 _ _ _ _)
      | (with_reducible exact ends_common.mono _ _ _)
      | (with_reducible exact LeO.refl _)
      | (with_reducible exact LeO.none _)
      | (with_reducible refine LeO.ite ?_ ?_)
      | (with_reducible refine LeO.bind ?_ (fun _ => ?_))
      | exact ih0 _ _ _ _
      | exact ends_common.mono _ _ _
      | exact LeO.none _
      | refine LeO.ite ?_ ?_
      | refine LeO.bind ?_ (fun _ => ?_)
set_option maxHeartbeats 8000000 in
set_option maxRecDepth 100000 in
theorem ends_Different.calls (k : Nat) (A0 : Option Addr) (c0 : Nat) (l0 : List Int) (r1 : Int) (r2 : Int) (w : World) (hr0 : Kd.C (Kd.int .u8) w A0 l0.length l0) (hc0 : l0.length ≤ c0) (h : ends_Different.f k l0 = some (r1, r2)) :
    Calls Try.prog 14 #[.slice A0 l0.length c0] w fun e w' => e = .returned (.tuple #[.int .i64 r1, .int .i64 r2]) ∧ Below w.heap.size w w' := by
  have HR0 := Aside0.mk hr0
  have HC0 := Aside0.mk hc0
  clear hr0 hc0
  have HB := Aside0.mk (Below.refl w.heap.size w)
  have H : (if (l0.length : Int) > 60 then (some (0, 1)) else ((ends_order.f l0).bind fun t129 => ((ends_common.f k l0 t129).bind fun t132 => (ends_Different.l0 k (wrap64 (Int.tdiv (wrap64 ((l0.length : Int) * (wrap64 ((l0.length : Int) + 1)))) 2)) t132 (t132.length : Int) 0)))) = some (r1, r2) := h
  clear h
  by_cases c2 : (l0.length : Int) > 60
  · rw [if_pos c2] at H
    have c2b0 : decide (60 < (l0.length : Int)) = true := decide_eq_true c2
    have c2b1 : decide (60 < l0.length) = true := decide_eq_true (by omega)
    clear c2
    simp only [Option.some.injEq, Prod.mk.injEq] at H
    obtain ⟨rfl, rfl⟩ := H
    go_enter Try.func14, Try.ntmps14
    go_wp2
    go_ret2
    exact ⟨by first | rfl | (simp [errW_none, errW_some] <;> rfl) | (simp [*, errW_none, errW_some] <;> rfl), by repeat (first | (with_reducible first | exact HB.out | apply below_alloc | apply pw_below_drewN | apply below_drew1) | exact HB.out)⟩
  · rw [if_neg c2] at H
    have c2b0 : decide (60 < (l0.length : Int)) = false := decide_eq_false c2
    have c2b1 : decide (60 < l0.length) = false := decide_eq_false (by omega)
    clear c2
    replace H := Option.bind_eq_some_iff.mp H
    obtain ⟨t129, A30, H⟩ := H
    replace H : ((ends_common.f k l0 t129).bind fun t132 => (ends_Different.l0 k (wrap64 (Int.tdiv (wrap64 ((l0.length : Int) * (wrap64 ((l0.length : Int) + 1)))) 2)) t132 (t132.length : Int) 0)) = some (r1, r2) := H
    have A3 := Aside0.mk A30
    clear A30
    replace H := Option.bind_eq_some_iff.mp H
    obtain ⟨t132, A40, H⟩ := H
    replace H : (ends_Different.l0 k (wrap64 (Int.tdiv (wrap64 ((l0.length : Int) * (wrap64 ((l0.length : Int) + 1)))) 2)) t132 (t132.length : Int) 0) = some (r1, r2) := H
    have A4 := Aside0.mk A40
    clear A40
    have H' := Aside0.mk H
    clear H
    go_enter Try.func14, Try.ntmps14
    go_wp2_with (first | ((with_reducible refine gate_callee (f := 16) rfl ?_); refine goesL_ (some 19) rfl rfl Try.func16 (by kernel_rfl) rfl #[.slice A0 l0.length c0] rfl (by (try simp only [List.map_toArray, List.map_cons, List.map_nil]); first | done | rfl | (simp only [List.length_drop, List.length_take]; rfl)) ?_; (with_reducible refine (ends_order.calls _ _ l0 t129 _ ?side1 ?side2 A3.out).mono ?_); (case side1 => repeat (first | exact HR0.out | (with_reducible refine Kd.C_alloc ?_ _) | (with_reducible refine Kd.C_drewN ?_ _) | (with_reducible refine Kd.C_drew ?_))); (case side2 => exact HC0.out); rintro e w5 ⟨v130, rfl, ho0, hb⟩; refine ⟨_, rfl, ?_⟩; have n0_ := Aside0.mk (Kd.R_lower ho0 (below_size (by repeat (first | (with_reducible first | exact HB.out | apply below_alloc | apply pw_below_drewN | apply below_drew1) | exact HB.out)))); have n1_ := Aside0.mk (below_step (by repeat (first | (with_reducible first | exact HB.out | apply below_alloc | apply pw_below_drewN | apply below_drew1) | exact HB.out)) hb); clear HB; have HO131 := n0_; have HB := n1_; clear n0_ n1_; (try clear hb); (try clear hb2); (try clear hk); (try clear hi); (try clear ho0); obtain ⟨Ao6, co6, eo6⟩ := Kd.R_slice HO131.out; subst eo6) | ((with_reducible refine gate_callee (f := 24) rfl ?_); refine goesL_ (some 20) rfl rfl Try.func24 (by kernel_rfl) rfl #[.slice A0 l0.length c0, .slice Ao6 t129.length co6] rfl (by (try simp only [List.map_toArray, List.map_cons, List.map_nil]); first | done | rfl | (simp only [List.length_drop, List.length_take]; rfl)) ?_; (with_reducible refine (ends_common.calls k _ _ l0 _ _ t129 t132 _ ?side1 ?side2 ?side3 ?side4 A4.out).mono ?_); (case side1 => repeat (first | exact (Kd.C_below HR0.out HB.out) | (with_reducible refine Kd.C_alloc ?_ _) | (with_reducible refine Kd.C_drewN ?_ _) | (with_reducible refine Kd.C_drew ?_))); (case side2 => exact HC0.out); (case side3 => repeat (first | exact (Kd.R_reads' HO131.out).2.2 | (with_reducible refine Kd.C_alloc ?_ _) | (with_reducible refine Kd.C_drewN ?_ _) | (with_reducible refine Kd.C_drew ?_))); (case side4 => exact (Kd.R_reads' HO131.out).2.1); rintro e w7 ⟨v133, rfl, ho0, hb⟩; refine ⟨_, rfl, ?_⟩; have n0_ := Aside0.mk (Kd.R_elder' (by (with_reducible repeat (first | apply Kd.R_alloc | apply Kd.R_drewN | apply Kd.R_drew)); exact HO131.out) (Kd.R_base ho0) hb); have n1_ := Aside0.mk (Kd.R_lower (Kd.R_new' ho0 (Kd.R_lt (by (with_reducible repeat (first | apply Kd.R_alloc | apply Kd.R_drewN | apply Kd.R_drew)); exact HO131.out))) (below_size (by repeat (first | (with_reducible first | exact HB.out | apply below_alloc | apply pw_below_drewN | apply below_drew1) | exact HB.out)))); have n2_ := Aside0.mk (below_step (by repeat (first | (with_reducible first | exact HB.out | apply below_alloc | apply pw_below_drewN | apply below_drew1) | exact HB.out)) hb); clear HO131; clear HB; have HO131 := n0_; have HO134 := n1_; have HB := n2_; clear n0_ n1_ n2_; (try clear hb); (try clear hb2); (try clear hk); (try clear hi); (try clear ho0); obtain ⟨Ao8, co8, eo8⟩ := Kd.R_slice HO134.out; subst eo8))
    go_loopg [4, 22] k (fun kq v4 v22 w' => ∃ (x4_1 : Int) (x22_1 : Int), v4 = .int .i64 x4_1 ∧ v22 = .int .i64 x22_1 ∧ Aside0 (ends_Different.l0 kq x4_1 t132 (t132.length : Int) x22_1 = some (r1, r2)) ∧ Aside0 (kq ≤ k) ∧ Aside0 (Kd.R (Kd.int .i64) 3 w' w.heap.size (fun _ => True) (.slice Ao8 t132.length co8) t132) ∧ Aside0 (Below w.heap.size w w'))
    case atStart => exact ⟨(wrap64 (Int.tdiv (wrap64 ((l0.length : Int) * (wrap64 ((l0.length : Int) + 1)))) 2)), (0), (by first | rfl | (simp; done) | (simp [*]; done)), (by first | rfl | (simp; done) | (simp [*]; done)), H', ⟨Nat.le_refl _⟩, ⟨by (with_reducible repeat (first | apply Kd.R_alloc | apply Kd.R_drewN | apply Kd.R_drew)); exact Kd.R_mono HO134.out (fun _ hk => trivial)⟩, ⟨by repeat (first | (with_reducible first | exact HB.out | apply below_alloc | apply pw_below_drewN | apply below_drew1) | exact HB.out)⟩⟩
    case round =>
      clear H'
      try clear c1
      try clear c2
      try clear c2b0
      try clear c2b1
      try clear p2
      try clear p6
      obtain ⟨x4_1, x22_1, rfl, rfl, HA, HK1, HO_20, HB⟩ := hrel
      cases gk with
      | zero => exact absurd HA.out (by simp [ends_Different.l0])
      | succ k1 =>
        have H := HA.out
        clear HA
        simp only [ends_Different.l0] at H
        by_cases c9 : x22_1 < (t132.length : Int)
        · rw [if_pos c9] at H
          have c9b0 : decide (x22_1 < (t132.length : Int)) = true := decide_eq_true c9
          clear c9
          by_cases c10 : 0 ≤ x22_1
          · rw [if_pos c10] at H
            have c10b0 : decide (0 ≤ x22_1) = true := decide_eq_true c10
            clear c10
            by_cases c11 : x22_1 < (t132.length : Int)
            · rw [if_pos c11] at H
              have c11b0 : decide (x22_1 < (t132.length : Int)) = true := decide_eq_true c11
              clear c11
              have H' := Aside0.mk H
              clear H
              have p135 : 0 ≤ (x22_1 : Int) := of_decide_eq_true (by first | (with_reducible assumption) | assumption)
              have q135 : x22_1 < (t132.length : Int) := of_decide_eq_true (by first | (with_reducible assumption) | assumption)
              obtain ⟨ad135, e135, hx135_0⟩ := Kd.at_int (Kd.R_reads' HO_20.out).2.2 x22_1 p135 q135
              cases e135
              replace p135 := eq_true p135
              replace q135 := eq_true q135
              go_wp2
              go_roundg k1
              case measure => have := HK1.out; omega
              case rel => exact ⟨(wrap64 (x4_1 - (rd t132 x22_1))), (wrap64 (x22_1 + 1)), (by first | rfl | (simp; done) | (simp [*]; done)), (by first | rfl | (simp; done) | (simp [*]; done)), H', ⟨by have := HK1.out; omega⟩, ⟨by (with_reducible repeat (first | apply Kd.R_alloc | apply Kd.R_drewN | apply Kd.R_drew)); exact HO_20.out⟩, ⟨by repeat (first | (with_reducible first | exact HB.out | apply below_alloc | apply pw_below_drewN | apply below_drew1) | exact HB.out)⟩⟩
            · rw [if_neg c11] at H
              exact absurd H (by simp)
          · rw [if_neg c10] at H
            exact absurd H (by simp)
        · rw [if_neg c9] at H
          have c9b0 : decide (x22_1 < (t132.length : Int)) = false := decide_eq_false c9
          clear c9
          simp only [Option.some.injEq, Prod.mk.injEq] at H
          obtain ⟨rfl, rfl⟩ := H
          go_wp2
          go_ret2
          exact ⟨by first | rfl | (simp [errW_none, errW_some] <;> rfl) | (simp [*, errW_none, errW_some] <;> rfl), by repeat (first | (with_reducible first | exact HB.out | apply below_alloc | apply pw_below_drewN | apply below_drew1) | exact HB.out)⟩

end Go.Proofs.Ytpcphfbjnaikhaa.PEndsDifferents
