-- Printed by a turn of a template of the kit.
import Derived.Test.YtofdaiknpficfaaQPKindsStillsx0
import Derived.Test.YtofdaiknpficfaaQPKindsStillsx5
namespace Go.Proofs.Ytofdaiknpficfaa.PKindsStills
open Go.RowKit Go.Proofs.YtofdaiknpficfaaW.PrintWords Go.Proofs.YtofdaiknpficfaaW.PrintLast Go.Proofs.YtofdaiknpficfaaW.PrintMore
attribute [local go_sem] max2_int min2_int max_two min_two max_three min_three max_four min_four
set_option linter.unusedVariables false
set_option linter.unusedSimpArgs false
mutual
def Zq.l0 : Nat → List Int → List Bool → Int → Int → Int → List (List Int) → Int → Int → Option (List Int)
  | 0, _, _, _, _, _, _, _, _ => none
  | k + 1, x1, x5, x6, x154000, x154001, x154002, x154003, x154004 => if x6 < x154000 then (Zq.l1 k x1 x5 x6 0 x154000 x154001 x154002 x154003 x154004) else (Zq.l3 k x1 x5 ([] : List Int) 0 x154000 x154001 x154002 x154003 x154004)
def Zq.l1 : Nat → List Int → List Bool → Int → Int → Int → Int → List (List Int) → Int → Int → Option (List Int)
  | 0, _, _, _, _, _, _, _, _, _ => none
  | k + 1, x1, x5, x6, x7, x154000, x154001, x154002, x154003, x154004 => if x7 < x154000 then (Zq.l2 k x1 x5 x6 x7 0 x154000 x154001 x154002 x154003 x154004) else (Zq.l0 k x1 x5 (wrap64 (x6 + 1)) x154000 x154001 x154002 x154003 x154004)
def Zq.l2 : Nat → List Int → List Bool → Int → Int → Int → Int → Int → List (List Int) → Int → Int → Option (List Int)
  | 0, _, _, _, _, _, _, _, _, _, _ => none
  | k + 1, x1, x5, x6, x7, x8, x154000, x154001, x154002, x154003, x154004 => if x8 < x154001 then (if 0 ≤ x7 then (if x7 < (x154002.length : Int) then (if 0 ≤ x8 then (if x8 < ((Ze x154002 x7).length : Int) then (if 0 ≤ (rd (Ze x154002 x7) x8) then (if (rd (Ze x154002 x7) x8) < (x5.length : Int) then (if rdOf false x5 (rd (Ze x154002 x7) x8) = true then (Zq.l2 k x1 (x5.set ((rd (Ze x154002 x7) x8) : Int).toNat true) x6 x7 (wrap64 (x8 + 1)) x154000 x154001 x154002 x154003 x154004) else (if x7 < (x5.length : Int) then (Zq.l2 k x1 (x5.set ((rd (Ze x154002 x7) x8) : Int).toNat (rdOf false x5 x7)) x6 x7 (wrap64 (x8 + 1)) x154000 x154001 x154002 x154003 x154004) else (none))) else (none)) else (none)) else (none)) else (none)) else (none)) else (none)) else (Zq.l1 k x1 x5 x6 (wrap64 (x7 + 1)) x154000 x154001 x154002 x154003 x154004)
def Zq.l3 : Nat → List Int → List Bool → List Int → Int → Int → Int → List (List Int) → Int → Int → Option (List Int)
  | 0, _, _, _, _, _, _, _, _, _ => none
  | k + 1, x1, x5, x9, x10, x154000, x154001, x154002, x154003, x154004 => if x10 < x154000 then (if 0 ≤ x10 then (if x10 < (x5.length : Int) then (if rdOf false x5 x10 = true then ((Zp1.f k x154000 x154001 x154002 x154003 x154004 x10 x1).bind fun t167 => ((Zn1.f k x154000 x154001 x154002 x154003 x154004 t167).bind fun t168 => (if x9.length < 17592186044416 then (Zq.l3 k x1 x5 (x9 ++ [t168]) (wrap64 (x10 + 1)) x154000 x154001 x154002 x154003 x154004) else (none)))) else (if x9.length < 17592186044416 then (Zq.l3 k x1 x5 (x9 ++ [(-1)]) (wrap64 (x10 + 1)) x154000 x154001 x154002 x154003 x154004) else (none))) else (none)) else (none)) else (some x9)
end
def Zq.f (k : Nat) (a0_0 : Int) (a0_1 : Int) (l0_2 : List (List Int)) (a0_3 : Int) (a0_4 : Int) (l1 : List Int) : Option (List Int) := if 0 ≤ a0_0 then (if (a0_0 : Int).toNat ≤ 281474976710656 then ((some (List.replicate (a0_0 : Int).toNat false : List Bool)).bind fun y154 => (if 0 ≤ a0_3 then (if a0_3 < (y154.length : Int) then (Zq.l0 k l1 (y154.set (a0_3 : Int).toNat true) 0 a0_0 a0_1 l0_2 a0_3 a0_4) else (none)) else (none))) else (none)) else (none)
theorem Zq.mono_l : ∀ k, (∀ y0 y1 y2 y3 y4 y5 y6 y7, LeO (Zq.l0 k y0 y1 y2 y3 y4 y5 y6 y7) (Zq.l0 (k + 1) y0 y1 y2 y3 y4 y5 y6 y7)) ∧ (∀ y0 y1 y2 y3 y4 y5 y6 y7 y8, LeO (Zq.l1 k y0 y1 y2 y3 y4 y5 y6 y7 y8) (Zq.l1 (k + 1) y0 y1 y2 y3 y4 y5 y6 y7 y8)) ∧ (∀ y0 y1 y2 y3 y4 y5 y6 y7 y8 y9, LeO (Zq.l2 k y0 y1 y2 y3 y4 y5 y6 y7 y8 y9) (Zq.l2 (k + 1) y0 y1 y2 y3 y4 y5 y6 y7 y8 y9)) ∧ (∀ y0 y1 y2 y3 y4 y5 y6 y7 y8, LeO (Zq.l3 k y0 y1 y2 y3 y4 y5 y6 y7 y8) (Zq.l3 (k + 1) y0 y1 y2 y3 y4 y5 y6 y7 y8))
  | 0 => ⟨fun _ _ _ _ _ _ _ _ r h => by simp [Zq.l0] at h, fun _ _ _ _ _ _ _ _ _ r h => by simp [Zq.l1] at h, fun _ _ _ _ _ _ _ _ _ _ r h => by simp [Zq.l2] at h, fun _ _ _ _ _ _ _ _ _ r h => by simp [Zq.l3] at h⟩
  | k + 1 => by
    obtain ⟨ih0, ih1, ih2, ih3⟩ := Zq.mono_l k
    refine ⟨?_, ?_, ?_, ?_⟩
    · intro y0 y1 y2 y3 y4 y5 y6 y7
      unfold Zq.l0
      repeat' first | (with_reducible exact ih0 _ _ _ _ _ _ _ _) | (with_reducible exact ih1 _ _ _ _ _ _ _ _ _) | (with_reducible exact ih2 _ _ _ _ _ _ _ _ _ _) | (with_reducible exact ih3 _ _ _ _ _ _ _ _ _) | (with_reducible exact Zp1.mono _ _ _ _ _ _ _ _) | (with_reducible exact Zn1.mono _ _ _ _ _ _ _) | (with_reducible exact LeO.refl _) | (with_reducible exact LeO.none _) | (with_reducible refine LeO.ite ?_ ?_) | (with_reducible refine LeO.bind ?_ (fun _ => ?_))
    · intro y0 y1 y2 y3 y4 y5 y6 y7 y8
      unfold Zq.l1
      repeat' first | (with_reducible exact ih0 _ _ _ _ _ _ _ _) | (with_reducible exact ih1 _ _ _ _ _ _ _ _ _) | (with_reducible exact ih2 _ _ _ _ _ _ _ _ _ _) | (with_reducible exact ih3 _ _ _ _ _ _ _ _ _) | (with_reducible exact Zp1.mono _ _ _ _ _ _ _ _) | (with_reducible exact Zn1.mono _ _ _ _ _ _ _) | (with_reducible exact LeO.refl _) | (with_reducible exact LeO.none _) | (with_reducible refine LeO.ite ?_ ?_) | (with_reducible refine LeO.bind ?_ (fun _ => ?_))
    · intro y0 y1 y2 y3 y4 y5 y6 y7 y8 y9
      unfold Zq.l2
      repeat' first | (with_reducible exact ih0 _ _ _ _ _ _ _ _) | (with_reducible exact ih1 _ _ _ _ _ _ _ _ _) | (with_reducible exact ih2 _ _ _ _ _ _ _ _ _ _) | (with_reducible exact ih3 _ _ _ _ _ _ _ _ _) | (with_reducible exact Zp1.mono _ _ _ _ _ _ _ _) | (with_reducible exact Zn1.mono _ _ _ _ _ _ _) | (with_reducible exact LeO.refl _) | (with_reducible exact LeO.none _) | (with_reducible refine LeO.ite ?_ ?_) | (with_reducible refine LeO.bind ?_ (fun _ => ?_))
    · intro y0 y1 y2 y3 y4 y5 y6 y7 y8
      unfold Zq.l3
      repeat' first | (with_reducible exact ih0 _ _ _ _ _ _ _ _) | (with_reducible exact ih1 _ _ _ _ _ _ _ _ _) | (with_reducible exact ih2 _ _ _ _ _ _ _ _ _ _) | (with_reducible exact ih3 _ _ _ _ _ _ _ _ _) | (with_reducible exact Zp1.mono _ _ _ _ _ _ _ _) | (with_reducible exact Zn1.mono _ _ _ _ _ _ _) | (with_reducible exact LeO.refl _) | (with_reducible exact LeO.none _) | (with_reducible refine LeO.ite ?_ ?_) | (with_reducible refine LeO.bind ?_ (fun _ => ?_))
theorem Zq.mono : ∀ a0 a1 a2 a3 a4 a5 k, LeO (Zq.f k a0 a1 a2 a3 a4 a5) (Zq.f (k + 1) a0 a1 a2 a3 a4 a5) := by
  intro a0 a1 a2 a3 a4 a5 k
  obtain ⟨ih0, ih1, ih2, ih3⟩ := Zq.mono_l k
  unfold Zq.f
  repeat' first | (with_reducible exact ih0 _ _ _ _ _ _ _ _) | (with_reducible exact ih1 _ _ _ _ _ _ _ _ _) | (with_reducible exact ih2 _ _ _ _ _ _ _ _ _ _) | (with_reducible exact ih3 _ _ _ _ _ _ _ _ _) | (with_reducible exact Zp1.mono _ _ _ _ _ _ _ _) | (with_reducible exact Zn1.mono _ _ _ _ _ _ _) | (with_reducible exact LeO.refl _) | (with_reducible exact LeO.none _) | (with_reducible refine LeO.ite ?_ ?_) | (with_reducible refine LeO.bind ?_ (fun _ => ?_))
def Zq.T12 : Bool × List (List Nat × List Nat) := (true, [([], []), ([], []), ([1], [1]), ([], []), ([2, 3], [2, 3]), ([4], [4]), ([], []), ([5, 6], [5, 6]), ([7], [7]), ([], []), ([], []), ([10], [10]), ([], []), ([11, 12], [11, 12]), ([13], [13]), ([], []), ([14, 15], [14, 15]), ([16], [16]), ([9, 17], [9, 17]), ([18], [18]), ([19], [19]), ([20], [20]), ([20], [20]), ([21, 22, 20], [20, 21, 22]), ([23, 20], [20, 23]), ([20, 24], [20, 24]), ([0, 8, 0, 1, 2, 3, 4, 5, 6, 7, 8, 9, 10, 11, 12, 13, 14, 15, 16, 17, 18, 19, 20, 21, 22, 23, 24, 25], [0, 8]), ([26, 25, 20, 0, 1, 2, 3, 4, 5, 6, 7, 8, 9, 10, 11, 12, 13, 14, 15, 16, 17, 18, 19, 20, 21, 22, 23, 24, 25], [25, 26])])
def Zq.B12 : List Nat := [0, 0, 2, 0, 14, 30, 0, 126, 254, 0, 0, 1024, 0, 7168, 15360, 0, 64512, 130048, 261632, 523776, 1048064, 2096640, 2096640, 8388096, 16776704, 33553920, 67108863, 134217727]
theorem Zq.tab12 : rtab .any (opsOf Try.f12 12) = Zq.T12 := by kernel_rfl
theorem Zq.bits12 : waitsOk Zq.T12.2 Zq.B12 = true := by kernel_rfl
def Zq.T18 : Bool × List (List Nat × List Nat) := (true, [([], []), ([], []), ([], []), ([], []), ([], []), ([2, 3, 4], [2, 3, 4]), ([1, 5, 5], [1, 5]), ([6], [6]), ([0, 7, 6], [0, 7]), ([8, 8, 0, 1, 2, 3, 4, 5, 6, 7, 8], [0, 8])])
def Zq.B18 : List Nat := [0, 0, 0, 0, 0, 28, 62, 126, 255, 511]
theorem Zq.tab18 : rtab .any (opsOf Try.f12 18) = Zq.T18 := by kernel_rfl
theorem Zq.bits18 : waitsOk Zq.T18.2 Zq.B18 = true := by kernel_rfl
set_option maxHeartbeats 8000000 in
set_option maxRecDepth 100000 in
theorem Zq.calls (k : Nat) (a0_0 : Int) (a0_1 : Int) (A0_2 : Option Addr) (c0_2 : Nat) (l0_2 : List (List Int)) (a0_3 : Int) (a0_4 : Int) (A1 : Option Addr) (c1 : Nat) (l1 : List Int) (r : List Int) (w : World) (hr0_2 : Kd.C (Kd.slice 3 (Kd.int .i64)) w A0_2 l0_2.length l0_2) (hc0_2 : l0_2.length ≤ c0_2) (hr1 : Kd.C (Kd.int .i64) w A1 l1.length l1) (hc1 : l1.length ≤ c1) (h : Zq.f k a0_0 a0_1 l0_2 a0_3 a0_4 l1 = some r) :
    Calls Try.prog 12 #[.agg #[.int .i64 a0_0, .int .i64 a0_1, .slice A0_2 l0_2.length c0_2, .int .i64 a0_3, .int .u32 a0_4], .slice A1 l1.length c1] w fun e w' => ∃ v0_ : Value, e = .returned (v0_) ∧ Kd.R (Kd.int .i64) 3 w' w.heap.size (fun _ => True) v0_ r ∧ Below w.heap.size w w' := by
 (have hu25 := Try.underlying25); (have HR0_2 := Za.mk hr0_2); (have HC0_2 := Za.mk hc0_2); (clear hr0_2 hc0_2); (have HR1 := Za.mk hr1); (have HC1 := Za.mk hc1); (clear hr1 hc1); (have HB := Za.mk (Below.refl w.heap.size w)); (have H : (if 0 ≤ a0_0 then (if (a0_0 : Int).toNat ≤ 281474976710656 then ((some (List.replicate (a0_0 : Int).toNat false : List Bool)).bind fun y154 => (if 0 ≤ a0_3 then (if a0_3 < (y154.length : Int) then (Zq.l0 k l1 (y154.set (a0_3 : Int).toNat true) 0 a0_0 a0_1 l0_2 a0_3 a0_4) else (none)) else (none))) else (none)) else (none)) = some r := h); (clear h)
 by_cases c3 : 0 ≤ a0_0
 rotate_left
 ·rw [if_neg c3] at H
  exact absurd H (by simp)
 (rw [if_pos c3] at H); (have c3b0 := eq_true c3); (have c3b1 : decide (0 ≤ a0_0) = true := decide_eq_true c3); (clear c3)
 by_cases c4 : (a0_0 : Int).toNat ≤ 281474976710656
 rotate_left
 ·rw [if_neg c4] at H
  exact absurd H (by simp)
 (rw [if_pos c4] at H); (have c4b0 := eq_true c4); (have c4b1 : decide ((a0_0 : Int).toNat ≤ 281474976710656) = true := decide_eq_true c4); (clear c4); (obtain ⟨y154, hy154⟩ : ∃ y_ : List Bool, y_ = (List.replicate (a0_0 : Int).toNat false) := ⟨_, rfl⟩); (replace H : (if 0 ≤ a0_3 then (if a0_3 < (y154.length : Int) then (Zq.l0 k l1 (y154.set (a0_3 : Int).toNat true) 0 a0_0 a0_1 l0_2 a0_3 a0_4) else (none)) else (none)) = some r := by first | (rw [hy154]; with_reducible exact H) | (have H2_ := (Option.bind_some _ _).symm.trans H; rw [hy154]; with_reducible exact H2_) | (have H2_ := (Option.bind_some _ _).symm.trans H; with_reducible exact H2_) | with_reducible exact H | (rw [hy154]; exact H) | exact H); (have Ny154 := Za.mk hy154); (clear hy154)
 by_cases c5 : 0 ≤ a0_3
 rotate_left
 ·rw [if_neg c5] at H
  exact absurd H (by simp)
 (rw [if_pos c5] at H); (have c5b0 : decide (0 ≤ a0_3) = true := decide_eq_true c5); (clear c5)
 by_cases c6 : a0_3 < (y154.length : Int)
 rotate_left
 ·rw [if_neg c6] at H
  exact absurd H (by simp)
 (rw [if_pos c6] at H); (have c6b0 : decide (a0_3 < (y154.length : Int)) = true := decide_eq_true c6); (clear c6); (obtain ⟨y157, hy157⟩ : ∃ y_ : List Bool, y_ = (y154.set (a0_3 : Int).toNat true) := ⟨_, rfl⟩); (replace H : (Zq.l0 k l1 y157 0 a0_0 a0_1 l0_2 a0_3 a0_4) = some r := by first | (rw [hy157]; with_reducible exact H) | (have H2_ := (Option.bind_some _ _).symm.trans H; rw [hy157]; with_reducible exact H2_) | (have H2_ := (Option.bind_some _ _).symm.trans H; with_reducible exact H2_) | with_reducible exact H | (rw [hy157]; exact H) | exact H); (have Ny157 := Za.mk hy157); (clear hy157); (have H' := Za.mk H); (clear H)
 go_enter Try.func12, Try.ntmps12
 go_wp2_with (first | ((with_reducible refine Zb1 (N := 2) rfl ?_); refine Zl1 ?hg (N := 2) ?hd (cs := #[.int .i64 a0_0, .int .i64 a0_1, .slice A0_2 l0_2.length c0_2, .int .i64 a0_3, .int .u32 a0_4]) (t := 25) ?hr ?_; (case hd => rfl); (case hg => rfl); (case hr => first | (go_simp; done) | (go_simp; rfl)); intro gb153 hg w8 hbox hb; have BK153 := Za.mk (hbox); have GW153 := Za.mk ((by rw [hg]; exact (Zl (by repeat (first | (with_reducible first | exact HB.out | apply zc1 | apply zc2 | apply zc3) | exact HB.out))) : w.heap.size ≤ gb153)); have GE153 := Za.mk ((by rw [hg]; exact (Zl (by repeat (first | (with_reducible first | exact HB.out | apply zc1 | apply zc2 | apply zc3) | exact HB.out))) : w.heap.size ≤ gb153)); replace HB := Za.mk (Zr (by repeat (first | (with_reducible first | exact HB.out | apply zc1 | apply zc2 | apply zc3) | exact HB.out)) hb); clear hb hbox hg; have hcz9_0 : w8.cell? ⟨gb153, 0, none⟩ = some (.int .i64 a0_0) := (Zb BK153.out 0).trans rfl; have hcz9_1 : w8.cell? ⟨gb153, 1, none⟩ = some (.int .i64 a0_1) := (Zb BK153.out 1).trans rfl; have hcz9_2 : w8.cell? ⟨gb153, 2, none⟩ = some (.slice A0_2 l0_2.length c0_2) := (Zb BK153.out 2).trans rfl; have hcz9_3 : w8.cell? ⟨gb153, 3, none⟩ = some (.int .i64 a0_3) := (Zb BK153.out 3).trans rfl; have hcz9_4 : w8.cell? ⟨gb153, 4, none⟩ = some (.int .u32 a0_4) := (Zb BK153.out 4).trans rfl; have hfz9_0 := Zc BK153.out 0; have hfz9_1 := Zc BK153.out 1; have hfz9_2 := Zc BK153.out 2; have hfz9_3 := Zc BK153.out 3; have hfz9_4 := Zc BK153.out 4) | ((with_reducible refine Zb1 (N := 13) rfl ?_); refine Kd.R_make Kd.bool _ 4 rfl (N := 13) rfl 52 _ _ rfl a0_0 rfl rfl Try.underlying52 (.bool false) 1 info4 rfl (by decide) (by omega) false (ok := fun _ => True) (okp := fun _ => True) rfl (fun _ hk => hk) trivial (of_decide_eq_true (by assumption)) (Nat.le_trans (Nat.mul_le_mul_right _ (of_decide_eq_true (by assumption) : a0_0.toNat ≤ 281474976710656)) (by omega)) (Below.refl _ _) (Nat.le_refl _) ?_; intro v155 w10 ho11 hb hg_ hnew_; clear hg_ hnew_; (first | rw [← Ny154.out] at ho11 | (simp only [Int.reduceToNat] at ho11; rw [← Ny154.out] at ho11)); have HO156 := Za.mk (Kd.R_lower ho11 (Zl (by repeat (first | (with_reducible first | exact HB.out | apply zc1 | apply zc2 | apply zc3 | refine zc4 ?_ (by assumption)) | exact HB.out)))); replace BK153 := Za.mk (Zp (g := gb153) (by (with_reducible repeat (first | apply zb3 | apply zb2 | apply zb1)); exact BK153.out) hb); replace HB := Za.mk (Zr (by repeat (first | (with_reducible first | exact HB.out | apply zc1 | apply zc2 | apply zc3 | refine zc4 ?_ (by assumption)) | exact HB.out)) hb); clear hb ho11; have hcz12_0 : w10.cell? ⟨gb153, 0, none⟩ = some (.int .i64 a0_0) := (Zb BK153.out 0).trans rfl; have hcz12_1 : w10.cell? ⟨gb153, 1, none⟩ = some (.int .i64 a0_1) := (Zb BK153.out 1).trans rfl; have hcz12_2 : w10.cell? ⟨gb153, 2, none⟩ = some (.slice A0_2 l0_2.length c0_2) := (Zb BK153.out 2).trans rfl; have hcz12_3 : w10.cell? ⟨gb153, 3, none⟩ = some (.int .i64 a0_3) := (Zb BK153.out 3).trans rfl; have hcz12_4 : w10.cell? ⟨gb153, 4, none⟩ = some (.int .u32 a0_4) := (Zb BK153.out 4).trans rfl; have hfz12_0 := Zc BK153.out 0; have hfz12_1 := Zc BK153.out 1; have hfz12_2 := Zc BK153.out 2; have hfz12_3 := Zc BK153.out 3; have hfz12_4 := Zc BK153.out 4; have p7 : 0 ≤ (a0_3 : Int) := of_decide_eq_true (by assumption); have q7 : (a0_3 : Int) < ((y154.length : Int) : Int) := of_decide_eq_true (by assumption); obtain ⟨go7, co7, eo7, gb7, gl7, cl7, HG7⟩ := Kd.R_form HO156.out (by omega); (first | cases eo7 | (injection eo7 with ea_ en_ ec_; (first | subst ea_ | (injection ea_ with ea_; subst ea_)); subst ec_; clear en_)); have GB7 := Za.mk gb7; have GG7 := Za.mk HG7; clear gb7 gl7 HG7; obtain ⟨hx7_0, hf7_0⟩ := Kd.R_celln false HO156.out (a0_3 : Int) p7 q7; replace p7 := eq_true p7; replace q7 := eq_true q7; obtain ⟨hy13_, hz13_⟩ := Kd.R_celln false HO156.out (a0_3 : Int) (of_decide_eq_true (by assumption)) (of_decide_eq_true (by assumption)); have HP13 := Kd.R_putg HO156.out (a0_3 : Int) true) | ((with_reducible refine gate_store (t := 4) (p := 17) rfl ?_); refine store_event (t := 4) (p := 17) (v := ?vo_w14) (w1 := (w10.setCell ⟨go7, (a0_3 : Int).toNat, none⟩ (.bool true))) ?hg ?ho ?hn ?hr ?_; (case ho => rfl); (case hg => rfl); (case hn => rfl); (case hr => first | (go_simp; done) | (go_simp; rfl)); intro w14 hw; have hg : w10.grownBy w14 (some go7) := (by rw [hw]; exact HP13.2); have hp_ : Kd.R Kd.bool 4 w14 w.heap.size (fun _ => True) (.slice (some ⟨go7, 0, none⟩) y154.length co7) y157 := (by rw [hw, Ny157.out]; exact HP13.1); clear HP13; replace BK153 := Za.mk (Zc1 (g := gb153) (by (with_reducible repeat (first | apply zb3 | apply zb2 | apply zb1)); exact BK153.out) hg (Kd.R_ne HO156.out BK153.out (by decide))); replace HO156 := Za.mk (hp_); replace HB := Za.mk ((by rw [hw]; exact below_set (HB.out) GB7.out : Below w.heap.size w w14)); clear hg hw hp_))
 go_loopg [6] k (fun kq v6 w' => ∃ (x5_1 : List Bool) (x6_1 : Int), v6 = .int .i64 x6_1 ∧ Za (Zq.l0 kq l1 x5_1 x6_1 a0_0 a0_1 l0_2 a0_3 a0_4 = some r) ∧ Za (kq ≤ k) ∧ Za (Kd.R Kd.bool 4 w' w.heap.size (fun _ => True) (.slice (some ⟨go7, 0, none⟩) y154.length co7) x5_1) ∧ Za (w'.heap[gb153]? = some (.cells #[.int .i64 a0_0, .int .i64 a0_1, (.slice A0_2 l0_2.length c0_2), .int .i64 a0_3, .int .u32 a0_4] 25 (0, 0))) ∧ Za (Below w.heap.size w w'))
 case atStart => exact ⟨(y157), (0), (by first | rfl | (simp; done) | (simp [*]; done)), H', ⟨Nat.le_refl _⟩, ⟨by (with_reducible repeat (first | apply Kd.R_alloc | apply Kd.R_drewN | apply Kd.R_drew)); exact HO156.out⟩, ⟨by (with_reducible repeat (first | apply zb3 | apply zb2 | apply zb1)); exact BK153.out⟩, ⟨by repeat (first | (with_reducible first | exact HB.out | apply zc1 | apply zc2 | apply zc3 | refine zc4 ?_ (by assumption)) | exact HB.out)⟩⟩
 case round =>
  (clear H'); (try clear c1); (try clear p2); (try clear c3); (try clear c3b0); (try clear c3b1); (try clear c4); (try clear c4b0); (try clear c4b1); (try clear c5); (try clear c5b0); (try clear c6); (try clear c6b0); (try clear p7); (try clear q7); (try clear hx7); (try clear hf7); (try clear c12); (try clear hcz12_0 hcz12_1 hcz12_2 hcz12_3 hcz12_4 hcz9_0 hcz9_1 hcz9_2 hcz9_3 hcz9_4 hfz12_0 hfz12_1 hfz12_2 hfz12_3 hfz12_4 hfz9_0 hfz9_1 hfz9_2 hfz9_3 hfz9_4); (try clear hx7_0); (try clear p7); (try clear q7); (obtain ⟨x5_1, x6_1, rfl, HA, HK1, HO_5, BK153, HB⟩ := hrel); (have hl5_1 := (Kd.R_reads' HO_5.out).1); (rw [hl5_1] at HO_5); ((try simp only [hl5_1])); ((try simp only [hl5_1] at BK153))
  cases gk with
  | zero => exact absurd HA.out (by simp [Zq.l0])
  | succ k1 =>
   (have H := HA.out); (clear HA); (simp only [Zq.l0] at H)
   by_cases c15 : x6_1 < a0_0
   rotate_left
   ·rw [if_neg c15] at H
    (have c15b0 : decide (x6_1 < a0_0) = false := decide_eq_false c15); (clear c15); (have H' := Za.mk H); (clear H); (have hcz39_0 : wr.cell? ⟨gb153, 0, none⟩ = some (.int .i64 a0_0) := (Zb BK153.out 0).trans rfl); (have hcz39_1 : wr.cell? ⟨gb153, 1, none⟩ = some (.int .i64 a0_1) := (Zb BK153.out 1).trans rfl); (have hcz39_2 : wr.cell? ⟨gb153, 2, none⟩ = some (.slice A0_2 l0_2.length c0_2) := (Zb BK153.out 2).trans rfl); (have hcz39_3 : wr.cell? ⟨gb153, 3, none⟩ = some (.int .i64 a0_3) := (Zb BK153.out 3).trans rfl); (have hcz39_4 : wr.cell? ⟨gb153, 4, none⟩ = some (.int .u32 a0_4) := (Zb BK153.out 4).trans rfl); (have hfz39_0 := Zc BK153.out 0); (have hfz39_1 := Zc BK153.out 1); (have hfz39_2 := Zc BK153.out 2); (have hfz39_3 := Zc BK153.out 3); (have hfz39_4 := Zc BK153.out 4)
    go_wp2
    go_loopg [9, 10] k1 (fun kq v9 v10 w' => ∃ (x9_2 : List Int) (x10_2 : Int), v10 = .int .i64 x10_2 ∧ Za (Zq.l3 kq l1 x5_1 x9_2 x10_2 a0_0 a0_1 l0_2 a0_3 a0_4 = some r) ∧ Za (kq ≤ k1) ∧ Za (Kd.R Kd.bool 4 w' w.heap.size (fun _ => True) (.slice (some ⟨go7, 0, none⟩) x5_1.length co7) x5_1) ∧ Za (Kd.R (Kd.int .i64) 3 w' w.heap.size (fun _ => True) v9 x9_2) ∧ Za (w'.heap[gb153]? = some (.cells #[.int .i64 a0_0, .int .i64 a0_1, (.slice A0_2 l0_2.length c0_2), .int .i64 a0_3, .int .u32 a0_4] 25 (0, 0))) ∧ Za (Below w.heap.size w w'))
    case atStart => exact ⟨(([] : List Int)), (0), (by first | rfl | (simp; done) | (simp [*]; done)), H', ⟨Nat.le_refl _⟩, ⟨by (try simp only [hl5_1]); (with_reducible repeat (first | apply Kd.R_alloc | apply Kd.R_drewN | apply Kd.R_drew)); exact HO_5.out⟩, ⟨by (try simp only [hl5_1]); first | exact Kd.R_nil _ _ _ _ _ | exact Kd.N_nil _ _ _ _ _ | exact Kd.V_nil _ _ _ _ _ | exact Kd.Q_nil _ _ _ _ _ | exact Kd.S_nil _ _ _ _ _ | (go_simp; exact Kd.R_nil _ _ _ _ _)⟩, ⟨by (try simp only [hl5_1]); (with_reducible repeat (first | apply zb3 | apply zb2 | apply zb1)); exact BK153.out⟩, ⟨by repeat (first | (with_reducible first | exact HB.out | apply zc1 | apply zc2 | apply zc3 | refine zc4 ?_ (by assumption)) | exact HB.out)⟩⟩
    case round =>
     (clear H'); (try clear c1); (try clear p1); (try clear q1); (try clear hx1); (try clear c2); (try clear p2); (try clear q2); (try clear c3); (try clear p3); (try clear q3); (try clear hx3); (try clear hf3); (try clear p6); (try clear c15); (try clear c15b0); (try clear p15); (try clear q15); (try clear hx15); (try clear c16); (try clear p16); (try clear q16); (try clear hx16); (try clear c17); (try clear c17b0); (try clear c19); (try clear c19b0); (try clear c20); (try clear c21); (try clear c22); (try clear c23); (try clear c24); (try clear c25); (try clear q26); (try clear c27); (try clear c32); (try clear c32b0); (try clear p33); (try clear q33); (try clear hx33); (try clear hf33); (try clear hcz34_0 hcz34_1 hcz34_2 hcz34_3 hcz34_4 hcz37_0 hcz37_1 hcz37_2 hcz37_3 hcz37_4 hcz38_0 hcz38_1 hcz38_2 hcz38_3 hcz38_4 hcz39_0 hcz39_1 hcz39_2 hcz39_3 hcz39_4 hfz34_0 hfz34_1 hfz34_2 hfz34_3 hfz34_4 hfz37_0 hfz37_1 hfz37_2 hfz37_3 hfz37_4 hfz38_0 hfz38_1 hfz38_2 hfz38_3 hfz38_4 hfz39_0 hfz39_1 hfz39_2 hfz39_3 hfz39_4); (try clear hx158_0); (try clear hx159_0); (try clear hx160_0); (try clear hx161_0); (try clear hx162_0); (try clear hx164_0); (try clear hx33_0); (try clear p158); (try clear p159); (try clear p160); (try clear p161); (try clear p162); (try clear p164); (try clear p33); (try clear q158); (try clear q159); (try clear q160); (try clear q161); (try clear q162); (try clear q164); (try clear q33); (obtain ⟨x9_2, x10_2, rfl, HA, HK2, HO_5, HO_9, BK153, HB⟩ := hrel)
     cases gk with
     | zero => exact absurd HA.out (by simp [Zq.l3])
     | succ k2 =>
      (have H := HA.out); (clear HA); (simp only [Zq.l3] at H)
      by_cases c40 : x10_2 < a0_0
      rotate_left
      ·rw [if_neg c40] at H
       (have c40b0 : decide (x10_2 < a0_0) = false := decide_eq_false c40); (clear c40); (obtain rfl := Option.some.inj H); (have hcz56_0 : wr.cell? ⟨gb153, 0, none⟩ = some (.int .i64 a0_0) := (Zb BK153.out 0).trans rfl); (have hcz56_1 : wr.cell? ⟨gb153, 1, none⟩ = some (.int .i64 a0_1) := (Zb BK153.out 1).trans rfl); (have hcz56_2 : wr.cell? ⟨gb153, 2, none⟩ = some (.slice A0_2 l0_2.length c0_2) := (Zb BK153.out 2).trans rfl); (have hcz56_3 : wr.cell? ⟨gb153, 3, none⟩ = some (.int .i64 a0_3) := (Zb BK153.out 3).trans rfl); (have hcz56_4 : wr.cell? ⟨gb153, 4, none⟩ = some (.int .u32 a0_4) := (Zb BK153.out 4).trans rfl); (have hfz56_0 := Zc BK153.out 0); (have hfz56_1 := Zc BK153.out 1); (have hfz56_2 := Zc BK153.out 2); (have hfz56_3 := Zc BK153.out 3); (have hfz56_4 := Zc BK153.out 4)
       go_wp2
       go_ret
       exact ⟨_, by first | rfl | (simp [Zw, Zx] <;> rfl) | (simp [*, Zw, Zx] <;> rfl), by (with_reducible repeat (first | apply Kd.R_alloc | apply Kd.R_drewN | apply Kd.R_drew)); exact HO_9.out, by repeat (first | (with_reducible first | exact HB.out | apply zc1 | apply zc2 | apply zc3 | refine zc4 ?_ (by assumption)) | exact HB.out)⟩
      (rw [if_pos c40] at H); (have c40b0 : decide (x10_2 < a0_0) = true := decide_eq_true c40); (clear c40)
      by_cases c41 : 0 ≤ x10_2
      rotate_left
      ·rw [if_neg c41] at H
       exact absurd H (by simp)
      (rw [if_pos c41] at H); (have c41b0 : decide (0 ≤ x10_2) = true := decide_eq_true c41); (clear c41)
      by_cases c42 : x10_2 < (x5_1.length : Int)
      rotate_left
      ·rw [if_neg c42] at H
       exact absurd H (by simp)
      (rw [if_pos c42] at H); (have c42b0 : decide (x10_2 < (x5_1.length : Int)) = true := decide_eq_true c42); ((try (have c42b0h := c42b0; simp only [hl5_1] at c42b0h))); (clear c42); (obtain ⟨bq43, hbq43⟩ : ∃ b_ : Bool, b_ = (rdOf false x5_1 x10_2) := ⟨_, rfl⟩); (replace H : (if bq43 = true then ((Zp1.f k2 a0_0 a0_1 l0_2 a0_3 a0_4 x10_2 l1).bind fun t167 => ((Zn1.f k2 a0_0 a0_1 l0_2 a0_3 a0_4 t167).bind fun t168 => (if x9_2.length < 17592186044416 then (Zq.l3 k2 l1 x5_1 (x9_2 ++ [t168]) (wrap64 (x10_2 + 1)) a0_0 a0_1 l0_2 a0_3 a0_4) else (none)))) else (if x9_2.length < 17592186044416 then (Zq.l3 k2 l1 x5_1 (x9_2 ++ [(-1)]) (wrap64 (x10_2 + 1)) a0_0 a0_1 l0_2 a0_3 a0_4) else (none))) = some r := by rw [← hbq43] at H; exact H); (have Nbq43 := Za.mk hbq43); (clear hbq43)
      by_cases c44 : bq43 = true
      rotate_left
      ·replace c44 := Bool.eq_false_iff.mpr c44
       (subst c44); (have H1 : (if x9_2.length < 17592186044416 then (Zq.l3 k2 l1 x5_1 (x9_2 ++ [(-1)]) (wrap64 (x10_2 + 1)) a0_0 a0_1 l0_2 a0_3 a0_4) else (none)) = some r := by rw [if_neg (show ¬ (false = true) by decide)] at H; exact H); (clear H); (have H := H1); (clear H1)
       by_cases c53 : x9_2.length < 17592186044416
       rotate_left
       ·rw [if_neg c53] at H
        exact absurd H (by simp)
       (rw [if_pos c53] at H); (have LMc53 := Za.mk c53); (clear c53); (obtain ⟨y172, hy172⟩ : ∃ y_ : List Int, y_ = (x9_2 ++ [(-1)]) := ⟨_, rfl⟩); (replace H : (Zq.l3 k2 l1 x5_1 y172 (wrap64 (x10_2 + 1)) a0_0 a0_1 l0_2 a0_3 a0_4) = some r := by first | (rw [hy172]; with_reducible exact H) | (have H2_ := (Option.bind_some _ _).symm.trans H; rw [hy172]; with_reducible exact H2_) | (have H2_ := (Option.bind_some _ _).symm.trans H; with_reducible exact H2_) | with_reducible exact H | (rw [hy172]; exact H) | exact H); (have Ny172 := Za.mk hy172); (clear hy172); (have H' := Za.mk H); (clear H); (have hcz54_0 : wr.cell? ⟨gb153, 0, none⟩ = some (.int .i64 a0_0) := (Zb BK153.out 0).trans rfl); (have hcz54_1 : wr.cell? ⟨gb153, 1, none⟩ = some (.int .i64 a0_1) := (Zb BK153.out 1).trans rfl); (have hcz54_2 : wr.cell? ⟨gb153, 2, none⟩ = some (.slice A0_2 l0_2.length c0_2) := (Zb BK153.out 2).trans rfl); (have hcz54_3 : wr.cell? ⟨gb153, 3, none⟩ = some (.int .i64 a0_3) := (Zb BK153.out 3).trans rfl); (have hcz54_4 : wr.cell? ⟨gb153, 4, none⟩ = some (.int .u32 a0_4) := (Zb BK153.out 4).trans rfl); (have hfz54_0 := Zc BK153.out 0); (have hfz54_1 := Zc BK153.out 1); (have hfz54_2 := Zc BK153.out 2); (have hfz54_3 := Zc BK153.out 3); (have hfz54_4 := Zc BK153.out 4); (have p166 : 0 ≤ (x10_2 : Int) := of_decide_eq_true (by assumption)); (have q166 : x10_2 < (x5_1.length : Int) := of_decide_eq_true (by assumption)); (obtain ⟨ad166, e166, hx166_0⟩ := Kd.at_bool (Kd.R_reads' HO_5.out).2.2 x10_2 p166 q166)
       ((try rw [← Nbq43.out] at hx166_0)); (obtain rfl : (⟨go7, 0, none⟩ : Addr) = ad166 := (by injection e166))
       (first | simp only [add_plain] at hx166_0 | simp only [add_at] at hx166_0 | simp only [Addr.add, Nat.zero_add] at hx166_0 | skip)
       (replace p166 := eq_true p166); (replace q166 := eq_true q166)
       go_wp2_with (first | ((with_reducible refine gate_builtin (b := .append) (xs := #[.tmp 82, .tmp 83]) rfl ?_); at_builtin; refine Kd.R_append (Kd.int .i64) (w0 := w) w.heap.size rfl (.tmp 82) (.tmp 83) 32 3 (.int .i64 0) 8 rfl Try.underlying32 info3 rfl (by decide) (by omega) u9 x9_2 (-1) [.int .i64 (-1)] (fun _ => True) (fun _ => False) rfl rfl ?aP (fun _ hk => hk.elim) ?aF ?aO ?aB ?aS ?aL ?_; (case aP => exact rfl); (case aB => exact (by repeat (first | (with_reducible first | exact HB.out | apply zc1 | apply zc2 | apply zc3 | refine zc4 ?_ (by assumption)) | exact HB.out))); (case aF => exact (fun _ _ => trivial)); (case aO => exact (by (with_reducible repeat (first | apply Kd.R_alloc | apply Kd.R_drewN | apply Kd.R_drew)); exact HO_9.out)); (case aS => exact (Zl (by repeat (first | (with_reducible first | exact HB.out | apply zc1 | apply zc2 | apply zc3 | refine zc4 ?_ (by assumption)) | exact HB.out)))); (case aL => have := LMc53.out; omega); intro v173 w55 ho hb hg hat; rw [← Ny172.out] at ho; replace HO_5 := Za.mk (Kd.R_over' (by (with_reducible repeat (first | apply Kd.R_alloc | apply Kd.R_drewN | apply Kd.R_drew)); exact HO_5.out) (Kd.R_typed (by (with_reducible repeat (first | apply Kd.R_alloc | apply Kd.R_drewN | apply Kd.R_drew)); exact HO_9.out)) (by decide) hg); replace BK153 := Za.mk (Zc1 (g := gb153) (by (with_reducible repeat (first | apply zb3 | apply zb2 | apply zb1)); exact BK153.out) hg (Kd.R_ne HO_9.out BK153.out (by decide))); replace HB := Za.mk (hb); have HO174 := Za.mk (ho); clear HO_9; clear ho hb hg hat))
       go_roundg k2
       case measure => have := HK1.out; have := HK2.out; omega
       case rel => exact ⟨(y172), (wrap64 (x10_2 + 1)), (by first | rfl | (simp; done) | (simp [*]; done)), H', ⟨by have := HK1.out; have := HK2.out; omega⟩, ⟨by (try simp only [hl5_1]); (with_reducible repeat (first | apply Kd.R_alloc | apply Kd.R_drewN | apply Kd.R_drew)); exact HO_5.out⟩, ⟨by (try simp only [hl5_1]); (with_reducible repeat (first | apply Kd.R_alloc | apply Kd.R_drewN | apply Kd.R_drew)); exact HO174.out⟩, ⟨by (try simp only [hl5_1]); (with_reducible repeat (first | apply zb3 | apply zb2 | apply zb1)); exact BK153.out⟩, ⟨by repeat (first | (with_reducible first | exact HB.out | apply zc1 | apply zc2 | apply zc3 | refine zc4 ?_ (by assumption)) | exact HB.out)⟩⟩
      (subst c44); (have H1 : ((Zp1.f k2 a0_0 a0_1 l0_2 a0_3 a0_4 x10_2 l1).bind fun t167 => ((Zn1.f k2 a0_0 a0_1 l0_2 a0_3 a0_4 t167).bind fun t168 => (if x9_2.length < 17592186044416 then (Zq.l3 k2 l1 x5_1 (x9_2 ++ [t168]) (wrap64 (x10_2 + 1)) a0_0 a0_1 l0_2 a0_3 a0_4) else (none)))) = some r := by rw [if_pos rfl] at H; exact H); (clear H); (have H := H1); (clear H1); (replace H := Option.bind_eq_some_iff.mp H); (obtain ⟨t167, A450, H⟩ := H); (replace H : ((Zn1.f k2 a0_0 a0_1 l0_2 a0_3 a0_4 t167).bind fun t168 => (if x9_2.length < 17592186044416 then (Zq.l3 k2 l1 x5_1 (x9_2 ++ [t168]) (wrap64 (x10_2 + 1)) a0_0 a0_1 l0_2 a0_3 a0_4) else (none))) = some r := H); (have A45 := Za.mk A450); (clear A450); (replace H := Option.bind_eq_some_iff.mp H); (obtain ⟨t168, A460, H⟩ := H); (replace H : (if x9_2.length < 17592186044416 then (Zq.l3 k2 l1 x5_1 (x9_2 ++ [t168]) (wrap64 (x10_2 + 1)) a0_0 a0_1 l0_2 a0_3 a0_4) else (none)) = some r := H); (have A46 := Za.mk A460); (clear A460)
      by_cases c47 : x9_2.length < 17592186044416
      rotate_left
      ·rw [if_neg c47] at H
       exact absurd H (by simp)
      (rw [if_pos c47] at H); (have LMc47 := Za.mk c47); (clear c47); (obtain ⟨y169, hy169⟩ : ∃ y_ : List Int, y_ = (x9_2 ++ [t168]) := ⟨_, rfl⟩); (replace H : (Zq.l3 k2 l1 x5_1 y169 (wrap64 (x10_2 + 1)) a0_0 a0_1 l0_2 a0_3 a0_4) = some r := by first | (rw [hy169]; with_reducible exact H) | (have H2_ := (Option.bind_some _ _).symm.trans H; rw [hy169]; with_reducible exact H2_) | (have H2_ := (Option.bind_some _ _).symm.trans H; with_reducible exact H2_) | with_reducible exact H | (rw [hy169]; exact H) | exact H); (have Ny169 := Za.mk hy169); (clear hy169); (have H' := Za.mk H); (clear H); (have hcz48_0 : wr.cell? ⟨gb153, 0, none⟩ = some (.int .i64 a0_0) := (Zb BK153.out 0).trans rfl); (have hcz48_1 : wr.cell? ⟨gb153, 1, none⟩ = some (.int .i64 a0_1) := (Zb BK153.out 1).trans rfl); (have hcz48_2 : wr.cell? ⟨gb153, 2, none⟩ = some (.slice A0_2 l0_2.length c0_2) := (Zb BK153.out 2).trans rfl); (have hcz48_3 : wr.cell? ⟨gb153, 3, none⟩ = some (.int .i64 a0_3) := (Zb BK153.out 3).trans rfl); (have hcz48_4 : wr.cell? ⟨gb153, 4, none⟩ = some (.int .u32 a0_4) := (Zb BK153.out 4).trans rfl); (have hfz48_0 := Zc BK153.out 0); (have hfz48_1 := Zc BK153.out 1); (have hfz48_2 := Zc BK153.out 2); (have hfz48_3 := Zc BK153.out 3); (have hfz48_4 := Zc BK153.out 4); (have p166 : 0 ≤ (x10_2 : Int) := of_decide_eq_true (by assumption)); (have q166 : x10_2 < (x5_1.length : Int) := of_decide_eq_true (by assumption)); (obtain ⟨ad166, e166, hx166_0⟩ := Kd.at_bool (Kd.R_reads' HO_5.out).2.2 x10_2 p166 q166)
      ((try rw [← Nbq43.out] at hx166_0)); (obtain rfl : (⟨go7, 0, none⟩ : Addr) = ad166 := (by injection e166))
      (first | simp only [add_plain] at hx166_0 | simp only [add_at] at hx166_0 | simp only [Addr.add, Nat.zero_add] at hx166_0 | skip)
      (replace p166 := eq_true p166); (replace q166 := eq_true q166)
      try go_wp2
      (replace HO_5 := Za.mk (Kd.R_drew HO_5.out)); (replace HO_9 := Za.mk (Kd.R_drew HO_9.out)); (replace BK153 := Za.mk (Zj BK153.out)); (replace HB := Za.mk (below_drew1 HB.out))
      refine start_ (n := 10) (S := fun w' => w'.cell? ⟨gb153, 0, none⟩ = some (.int .i64 a0_0) ∧ w'.cell? ⟨gb153, 1, none⟩ = some (.int .i64 a0_1) ∧ w'.cell? ⟨gb153, 2, none⟩ = some (.slice A0_2 l0_2.length c0_2) ∧ w'.cell? ⟨gb153, 3, none⟩ = some (.int .i64 a0_3) ∧ w'.cell? ⟨gb153, 4, none⟩ = some (.int .u32 a0_4)) (ds := []) #[false, false, false, false, false, false, false, false, false, false] (by kernel_rfl) rfl rfl ⟨(Zb BK153.out 0).trans rfl, (Zb BK153.out 1).trans rfl, (Zb BK153.out 2).trans rfl, (Zb BK153.out 3).trans rfl, (Zb BK153.out 4).trans rfl⟩ (fun hHeld => ?_); refine with_tabW Zq.tab18 Zq.bits18 (fun HT_ HW_ => ?_)
      generalize wr.drew = w49 at HO_5 HO_9 BK153 HB hHeld ⊢
      refine pure_ (i := 0) (N := some 73) (v := ?_) (a' := ?_) #[true, false, false, false, false, false, false, false, false, false] rfl rfl (Zm HT_.out (by kernel_rfl)) (fun _ _ _ h => h) (Or.inl ⟨by rfl, ?_⟩) ?_ ?_
      rotate_left;·(intro w';go_simp;with_reducible rfl)
      rotate_left;·(simp only [Act.put, zp1, zp2, zp3, Zg, Zf];rfl)
      refine pure_ (i := 3) (N := some 76) (v := ?_) (a' := ?_) #[true, false, false, true, false, false, false, false, false, false] rfl rfl (Zm HT_.out (by kernel_rfl)) (fun _ _ _ h => h) (Or.inl ⟨by rfl, ?_⟩) ?_ ?_
      rotate_left;·(intro w';go_simp;with_reducible rfl)
      rotate_left;·(simp only [Act.put, zp1, zp2, zp3, Zg, Zf];rfl)
      refine pure_ (i := 4) (N := some 77) (v := ?_) (a' := ?_) #[true, false, false, true, true, false, false, false, false, false] rfl rfl (Zm HT_.out (by kernel_rfl)) (fun _ _ _ h => h) (Or.inl ⟨by rfl, ?_⟩) ?_ ?_
      rotate_left;·(intro w';go_simp;with_reducible rfl)
      rotate_left;·(simp only [Act.put, zp1, zp2, zp3, Zg, Zf];rfl)
      refine take_ (i := 1) (N := some 74) (v := ?_) (a' := ?_) #[true, true, false, true, true, false, false, false, false, false] rfl rfl (Zi1 HT_.out HW_.out (by kernel_rfl)) (fun _ _ _ h => h) (Or.inl ⟨by rfl, ?_⟩) hHeld ?_ ?_
      rotate_left
      ·rintro w' ⟨s0, s1, s2, s3, s4⟩
       go_simp
       with_reducible rfl
      rotate_left
      ·simp only [Act.put, zp1, zp2, zp3, Zg, Zf]
       rfl
      refine take_ (i := 2) (N := some 75) (v := ?_) (a' := ?_) #[true, true, true, true, true, false, false, false, false, false] rfl rfl (Zi1 HT_.out HW_.out (by kernel_rfl)) (fun _ _ _ h => h) (Or.inl ⟨by rfl, ?_⟩) hHeld ?_ ?_
      rotate_left
      ·rintro w' ⟨s0, s1, s2, s3, s4⟩
       go_simp
       with_reducible rfl
      rotate_left
      ·simp only [Act.put, zp1, zp2, zp3, Zg, Zf]
       rfl
      refine one_ (i := 5) (N := some 78) #[true, true, true, true, true, true, false, false, false, false] rfl rfl (one_of HT_.out (by kernel_rfl)) (by decide) (fun K hK => ?_)
      refine goes_ Try.func24 (by kernel_rfl) rfl #[.agg #[.int .i64 a0_0, .int .i64 a0_1, .slice A0_2 l0_2.length c0_2, .int .i64 a0_3, .int .u32 a0_4], .int .i64 x10_2, .slice A1 l1.length c1] (by rfl) rfl rfl (by (try simp only [List.map_toArray, List.map_cons, List.map_nil]); first | done | rfl | (simp only [List.length_drop, List.length_take]; rfl)) ?_
      with_reducible refine (Zp1.calls k2 a0_0 a0_1 _ _ l0_2 a0_3 a0_4 x10_2 _ _ l1 t167 _ ?side1 ?side2 ?side3 ?side4 A45.out).mono ?_
      (case side1 => repeat (first | exact (Kd.C_below HR0_2.out HB.out) | (with_reducible refine Kd.C_alloc ?_ _) | (with_reducible refine Kd.C_drewN ?_ _) | (with_reducible refine Kd.C_drew ?_)))
      (case side2 => exact HC0_2.out)
      (case side3 => repeat (first | exact (Kd.C_below HR1.out HB.out) | (with_reducible refine Kd.C_alloc ?_ _) | (with_reducible refine Kd.C_drewN ?_ _) | (with_reducible refine Kd.C_drew ?_)))
      (case side4 => exact HC1.out)
      rintro e w50 ⟨rfl, hb⟩
      refine ⟨_, rfl, ?_⟩
      (replace HO_5 := Za.mk (Kd.R_below (by (with_reducible repeat (first | apply Kd.R_alloc | apply Kd.R_drewN | apply Kd.R_drew)); exact HO_5.out) hb)); (replace HO_9 := Za.mk (Kd.R_below (by (with_reducible repeat (first | apply Kd.R_alloc | apply Kd.R_drewN | apply Kd.R_drew)); exact HO_9.out) hb)); (replace BK153 := Za.mk (Zp (g := gb153) (by (with_reducible repeat (first | apply zb3 | apply zb2 | apply zb1)); exact BK153.out) hb)); (replace HB := Za.mk (Zr (by repeat (first | (with_reducible first | exact HB.out | apply zc1 | apply zc2 | apply zc3 | refine zc4 ?_ (by assumption)) | exact HB.out)) hb)); ((try clear hb)); ((try clear hb2)); ((try clear hk)); ((try clear hi))
      refine hK.out _ _ ⟨(Zb BK153.out 0).trans rfl, (Zb BK153.out 1).trans rfl, (Zb BK153.out 2).trans rfl, (Zb BK153.out 3).trans rfl, (Zb BK153.out 4).trans rfl⟩ (fun hHeld => ?_)
      clear hK K
      refine norm_ (a' := ?_) ?_ ?_
      rotate_left
      ·show Act.put _ (some 78) _ = _
       simp only [Act.put, zp1, zp2, zp3, Zg, Zf]
       rfl
      refine one_ (i := 6) (N := some 79) #[true, true, true, true, true, true, true, false, false, false] rfl rfl (one_of HT_.out (by kernel_rfl)) (by decide) (fun K hK => ?_)
      refine goes_ Try.func23 (by kernel_rfl) rfl #[.agg #[.int .i64 a0_0, .int .i64 a0_1, .slice A0_2 l0_2.length c0_2, .int .i64 a0_3, .int .u32 a0_4], .int .i64 t167] (by rfl) rfl rfl (by (try simp only [List.map_toArray, List.map_cons, List.map_nil]); first | done | rfl | (simp only [List.length_drop, List.length_take]; rfl)) ?_
      with_reducible refine (Zn1.calls k2 a0_0 a0_1 _ _ l0_2 a0_3 a0_4 t167 t168 _ ?side1 ?side2 A46.out).mono ?_
      (case side1 => repeat (first | exact (Kd.C_below HR0_2.out HB.out) | (with_reducible refine Kd.C_alloc ?_ _) | (with_reducible refine Kd.C_drewN ?_ _) | (with_reducible refine Kd.C_drew ?_)))
      (case side2 => exact HC0_2.out)
      rintro e w51 ⟨rfl, hb⟩
      refine ⟨_, rfl, ?_⟩
      (replace HO_5 := Za.mk (Kd.R_below (by (with_reducible repeat (first | apply Kd.R_alloc | apply Kd.R_drewN | apply Kd.R_drew)); exact HO_5.out) hb)); (replace HO_9 := Za.mk (Kd.R_below (by (with_reducible repeat (first | apply Kd.R_alloc | apply Kd.R_drewN | apply Kd.R_drew)); exact HO_9.out) hb)); (replace BK153 := Za.mk (Zp (g := gb153) (by (with_reducible repeat (first | apply zb3 | apply zb2 | apply zb1)); exact BK153.out) hb)); (replace HB := Za.mk (Zr (by repeat (first | (with_reducible first | exact HB.out | apply zc1 | apply zc2 | apply zc3 | refine zc4 ?_ (by assumption)) | exact HB.out)) hb)); ((try clear hb)); ((try clear hb2)); ((try clear hk)); ((try clear hi))
      refine hK.out _ _ ⟨(Zb BK153.out 0).trans rfl, (Zb BK153.out 1).trans rfl, (Zb BK153.out 2).trans rfl, (Zb BK153.out 3).trans rfl, (Zb BK153.out 4).trans rfl⟩ (fun hHeld => ?_)
      clear hK K
      refine norm_ (a' := ?_) ?_ ?_
      rotate_left
      ·show Act.put _ (some 79) _ = _
       simp only [Act.put, zp1, zp2, zp3, Zg, Zf]
       rfl
      refine one_ (i := 7) (N := some 80) #[true, true, true, true, true, true, true, true, false, false] rfl rfl (one_of HT_.out (by kernel_rfl)) (by decide) (fun K hK => ?_)
      refine value_ (w1 := ?_) (v := ?_) (by rfl) rfl ?_ ?_
      rotate_left 2
      ·go_simp
       constructor
       ·rfl
       rfl
      refine hK.out _ _ ⟨(Zb (Zn BK153.out _) 0).trans rfl, (Zb (Zn BK153.out _) 1).trans rfl, (Zb (Zn BK153.out _) 2).trans rfl, (Zb (Zn BK153.out _) 3).trans rfl, (Zb (Zn BK153.out _) 4).trans rfl⟩ (fun hHeld => ?_)
      clear hK K
      refine norm_ (a' := ?_) ?_ ?_
      rotate_left
      ·show Act.put _ (some 80) _ = _
       simp only [Act.put, zp1, zp2, zp3, Zg, Zf]
       rfl
      refine one_ (i := 8) (N := some 81) #[true, true, true, true, true, true, true, true, true, false] rfl rfl (one_of HT_.out (by kernel_rfl)) (by decide) (fun K hK => ?_)
      refine Kd.R_append_step (Kd.int .i64) (w0 := w) w.heap.size (by rfl) (.tmp 73) (.tmp 80) 32 3 (.int .i64 0) 8 rfl Try.underlying32 info3 rfl (by decide) (by omega) u9 x9_2 t168 [.int .i64 t168] (fun _ => True) (fun _ => False) rfl rfl ?aP (fun _ hk => hk.elim) ?aF ?aO ?aB ?aS ?aL ?_
      (case aP => exact rfl)
      (case aB => exact (by repeat (first | (with_reducible first | exact HB.out | apply zc1 | apply zc2 | apply zc3 | refine zc4 ?_ (by assumption)) | exact HB.out)))
      (case aF => exact (fun _ _ => trivial))
      (case aO => exact (by (with_reducible repeat (first | apply Kd.R_alloc | apply Kd.R_drewN | apply Kd.R_drew)); exact HO_9.out))
      (case aS => exact (Zl (by repeat (first | (with_reducible first | exact HB.out | apply zc1 | apply zc2 | apply zc3 | refine zc4 ?_ (by assumption)) | exact HB.out))))
      (case aL => have := LMc47.out; omega)
      intro v170 w52 ho hb hg hat
      (rw [← Ny169.out] at ho); (replace HO_5 := Za.mk (Kd.R_over' (by (with_reducible repeat (first | apply Kd.R_alloc | apply Kd.R_drewN | apply Kd.R_drew)); exact HO_5.out) (Kd.R_typed (by (with_reducible repeat (first | apply Kd.R_alloc | apply Kd.R_drewN | apply Kd.R_drew)); exact HO_9.out)) (by decide) hg)); (replace BK153 := Za.mk (Zc1 (g := gb153) (by (with_reducible repeat (first | apply zb3 | apply zb2 | apply zb1)); exact BK153.out) hg (Kd.R_ne HO_9.out BK153.out (by decide)))); (replace HB := Za.mk (hb)); (have HO171 := Za.mk (ho)); (clear HO_9); (clear ho hb hg hat)
      refine hK.out _ _ ⟨(Zb BK153.out 0).trans rfl, (Zb BK153.out 1).trans rfl, (Zb BK153.out 2).trans rfl, (Zb BK153.out 3).trans rfl, (Zb BK153.out 4).trans rfl⟩ (fun hHeld => ?_)
      clear hK K
      refine norm_ (a' := ?_) ?_ ?_
      rotate_left
      ·show Act.put _ (some 81) _ = _
       simp only [Act.put, zp1, zp2, zp3, Zg, Zf]
       rfl
      refine pure_ (i := 9) (N := some 9) (v := ?_) (a' := ?_) #[true, true, true, true, true, true, true, true, true, true] rfl rfl (Zm HT_.out (by kernel_rfl)) (fun _ _ _ h => h) (Or.inl ⟨by rfl, ?_⟩) ?_ ?_
      rotate_left;·(intro w';go_simp;with_reducible rfl)
      rotate_left;·(simp only [Act.put, zp1, zp2, zp3, Zg, Zf];rfl)
      refine done_ (done_of HT_.out (by kernel_rfl)) ?_
      try go_wp2
      go_roundg k2
      case measure => have := HK1.out; have := HK2.out; omega
      case rel => exact ⟨(y169), (wrap64 (x10_2 + 1)), (by first | rfl | (simp; done) | (simp [*]; done)), H', ⟨by have := HK1.out; have := HK2.out; omega⟩, ⟨by (try simp only [hl5_1]); (with_reducible repeat (first | apply Kd.R_alloc | apply Kd.R_drewN | apply Kd.R_drew)); exact HO_5.out⟩, ⟨by (try simp only [hl5_1]); (with_reducible repeat (first | apply Kd.R_alloc | apply Kd.R_drewN | apply Kd.R_drew)); exact HO171.out⟩, ⟨by (try simp only [hl5_1]); (with_reducible repeat (first | apply zb3 | apply zb2 | apply zb1)); exact BK153.out⟩, ⟨by repeat (first | (with_reducible first | exact HB.out | apply zc1 | apply zc2 | apply zc3 | refine zc4 ?_ (by assumption)) | exact HB.out)⟩⟩
   (rw [if_pos c15] at H); (have c15b0 : decide (x6_1 < a0_0) = true := decide_eq_true c15); (clear c15); (have H' := Za.mk H); (clear H); (have hcz16_0 : wr.cell? ⟨gb153, 0, none⟩ = some (.int .i64 a0_0) := (Zb BK153.out 0).trans rfl); (have hcz16_1 : wr.cell? ⟨gb153, 1, none⟩ = some (.int .i64 a0_1) := (Zb BK153.out 1).trans rfl); (have hcz16_2 : wr.cell? ⟨gb153, 2, none⟩ = some (.slice A0_2 l0_2.length c0_2) := (Zb BK153.out 2).trans rfl); (have hcz16_3 : wr.cell? ⟨gb153, 3, none⟩ = some (.int .i64 a0_3) := (Zb BK153.out 3).trans rfl); (have hcz16_4 : wr.cell? ⟨gb153, 4, none⟩ = some (.int .u32 a0_4) := (Zb BK153.out 4).trans rfl); (have hfz16_0 := Zc BK153.out 0); (have hfz16_1 := Zc BK153.out 1); (have hfz16_2 := Zc BK153.out 2); (have hfz16_3 := Zc BK153.out 3); (have hfz16_4 := Zc BK153.out 4)
   go_wp2
   go_loopg [7] k1 (fun kq v7 w' => ∃ (x5_2 : List Bool) (x7_2 : Int), v7 = .int .i64 x7_2 ∧ Za (Zq.l1 kq l1 x5_2 x6_1 x7_2 a0_0 a0_1 l0_2 a0_3 a0_4 = some r) ∧ Za (kq ≤ k1) ∧ Za (Kd.R Kd.bool 4 w' w.heap.size (fun _ => True) (.slice (some ⟨go7, 0, none⟩) x5_1.length co7) x5_2) ∧ Za (w'.heap[gb153]? = some (.cells #[.int .i64 a0_0, .int .i64 a0_1, (.slice A0_2 l0_2.length c0_2), .int .i64 a0_3, .int .u32 a0_4] 25 (0, 0))) ∧ Za (Below w.heap.size w w'))
   case atStart => exact ⟨(x5_1), (0), (by first | rfl | (simp; done) | (simp [*]; done)), H', ⟨Nat.le_refl _⟩, ⟨by (try simp only [hl5_1]); (with_reducible repeat (first | apply Kd.R_alloc | apply Kd.R_drewN | apply Kd.R_drew)); exact HO_5.out⟩, ⟨by (try simp only [hl5_1]); (with_reducible repeat (first | apply zb3 | apply zb2 | apply zb1)); exact BK153.out⟩, ⟨by repeat (first | (with_reducible first | exact HB.out | apply zc1 | apply zc2 | apply zc3 | refine zc4 ?_ (by assumption)) | exact HB.out)⟩⟩
   case round =>
    (clear H'); (try clear c1); (try clear p2); (try clear c3); (try clear c3b0); (try clear c3b1); (try clear c4); (try clear c4b0); (try clear c4b1); (try clear c5); (try clear c5b0); (try clear c6); (try clear c6b0); (try clear p7); (try clear q7); (try clear hx7); (try clear hf7); (try clear c12); (try clear c15); (try clear c15b0); (try clear hcz12_0 hcz12_1 hcz12_2 hcz12_3 hcz12_4 hcz16_0 hcz16_1 hcz16_2 hcz16_3 hcz16_4 hcz9_0 hcz9_1 hcz9_2 hcz9_3 hcz9_4 hfz12_0 hfz12_1 hfz12_2 hfz12_3 hfz12_4 hfz16_0 hfz16_1 hfz16_2 hfz16_3 hfz16_4 hfz9_0 hfz9_1 hfz9_2 hfz9_3 hfz9_4); (try clear hx7_0); (try clear p2); (try clear p7); (try clear q7); (obtain ⟨x5_2, x7_2, rfl, HA, HK2, HO_5, BK153, HB⟩ := hrel); (have hl5_2 := (Kd.R_reads' HO_5.out).1); (rw [hl5_2] at HO_5); ((try simp only [hl5_2])); ((try simp only [hl5_2] at BK153))
    cases gk with
    | zero => exact absurd HA.out (by simp [Zq.l1])
    | succ k2 =>
     (have H := HA.out); (clear HA); (simp only [Zq.l1] at H)
     by_cases c17 : x7_2 < a0_0
     rotate_left
     ·rw [if_neg c17] at H
      (have c17b0 : decide (x7_2 < a0_0) = false := decide_eq_false c17); (clear c17); (have H' := Za.mk H); (clear H); (have hcz38_0 : wr.cell? ⟨gb153, 0, none⟩ = some (.int .i64 a0_0) := (Zb BK153.out 0).trans rfl); (have hcz38_1 : wr.cell? ⟨gb153, 1, none⟩ = some (.int .i64 a0_1) := (Zb BK153.out 1).trans rfl); (have hcz38_2 : wr.cell? ⟨gb153, 2, none⟩ = some (.slice A0_2 l0_2.length c0_2) := (Zb BK153.out 2).trans rfl); (have hcz38_3 : wr.cell? ⟨gb153, 3, none⟩ = some (.int .i64 a0_3) := (Zb BK153.out 3).trans rfl); (have hcz38_4 : wr.cell? ⟨gb153, 4, none⟩ = some (.int .u32 a0_4) := (Zb BK153.out 4).trans rfl); (have hfz38_0 := Zc BK153.out 0); (have hfz38_1 := Zc BK153.out 1); (have hfz38_2 := Zc BK153.out 2); (have hfz38_3 := Zc BK153.out 3); (have hfz38_4 := Zc BK153.out 4)
      go_wp2
      (try simp only [← hl5_1, ← hl5_2])
      go_roundg k2
      case measure => have := HK1.out; have := HK2.out; omega
      case rel => exact ⟨(x5_2), (wrap64 (x6_1 + 1)), (by first | rfl | (simp; done) | (simp [*]; done)), H', ⟨by have := HK1.out; have := HK2.out; omega⟩, ⟨by (try simp only [hl5_1]); (try simp only [hl5_2]); (with_reducible repeat (first | apply Kd.R_alloc | apply Kd.R_drewN | apply Kd.R_drew)); exact HO_5.out⟩, ⟨by (try simp only [hl5_1]); (try simp only [hl5_2]); (with_reducible repeat (first | apply zb3 | apply zb2 | apply zb1)); exact BK153.out⟩, ⟨by repeat (first | (with_reducible first | exact HB.out | apply zc1 | apply zc2 | apply zc3 | refine zc4 ?_ (by assumption)) | exact HB.out)⟩⟩
     (rw [if_pos c17] at H); (have c17b0 : decide (x7_2 < a0_0) = true := decide_eq_true c17); (clear c17); (have H' := Za.mk H); (clear H); (have hcz18_0 : wr.cell? ⟨gb153, 0, none⟩ = some (.int .i64 a0_0) := (Zb BK153.out 0).trans rfl); (have hcz18_1 : wr.cell? ⟨gb153, 1, none⟩ = some (.int .i64 a0_1) := (Zb BK153.out 1).trans rfl); (have hcz18_2 : wr.cell? ⟨gb153, 2, none⟩ = some (.slice A0_2 l0_2.length c0_2) := (Zb BK153.out 2).trans rfl); (have hcz18_3 : wr.cell? ⟨gb153, 3, none⟩ = some (.int .i64 a0_3) := (Zb BK153.out 3).trans rfl); (have hcz18_4 : wr.cell? ⟨gb153, 4, none⟩ = some (.int .u32 a0_4) := (Zb BK153.out 4).trans rfl); (have hfz18_0 := Zc BK153.out 0); (have hfz18_1 := Zc BK153.out 1); (have hfz18_2 := Zc BK153.out 2); (have hfz18_3 := Zc BK153.out 3); (have hfz18_4 := Zc BK153.out 4)
     go_wp2
     go_loopg [8] k2 (fun kq v8 w' => ∃ (x5_3 : List Bool) (x8_3 : Int), v8 = .int .i64 x8_3 ∧ Za (Zq.l2 kq l1 x5_3 x6_1 x7_2 x8_3 a0_0 a0_1 l0_2 a0_3 a0_4 = some r) ∧ Za (kq ≤ k2) ∧ Za (Kd.R Kd.bool 4 w' w.heap.size (fun _ => True) (.slice (some ⟨go7, 0, none⟩) x5_2.length co7) x5_3) ∧ Za (w'.heap[gb153]? = some (.cells #[.int .i64 a0_0, .int .i64 a0_1, (.slice A0_2 l0_2.length c0_2), .int .i64 a0_3, .int .u32 a0_4] 25 (0, 0))) ∧ Za (Below w.heap.size w w'))
     case atStart => exact ⟨(x5_2), (0), (by first | rfl | (simp; done) | (simp [*]; done)), H', ⟨Nat.le_refl _⟩, ⟨by (try simp only [hl5_1]); (try simp only [hl5_2]); (with_reducible repeat (first | apply Kd.R_alloc | apply Kd.R_drewN | apply Kd.R_drew)); exact HO_5.out⟩, ⟨by (try simp only [hl5_1]); (try simp only [hl5_2]); (with_reducible repeat (first | apply zb3 | apply zb2 | apply zb1)); exact BK153.out⟩, ⟨by repeat (first | (with_reducible first | exact HB.out | apply zc1 | apply zc2 | apply zc3 | refine zc4 ?_ (by assumption)) | exact HB.out)⟩⟩
     case round =>
      (clear H'); (try clear c1); (try clear p2); (try clear c3); (try clear c3b0); (try clear c3b1); (try clear c4); (try clear c4b0); (try clear c4b1); (try clear c5); (try clear c5b0); (try clear c6); (try clear c6b0); (try clear p7); (try clear q7); (try clear hx7); (try clear hf7); (try clear c12); (try clear c15); (try clear c15b0); (try clear c17); (try clear c17b0); (try clear hcz12_0 hcz12_1 hcz12_2 hcz12_3 hcz12_4 hcz16_0 hcz16_1 hcz16_2 hcz16_3 hcz16_4 hcz18_0 hcz18_1 hcz18_2 hcz18_3 hcz18_4 hcz9_0 hcz9_1 hcz9_2 hcz9_3 hcz9_4 hfz12_0 hfz12_1 hfz12_2 hfz12_3 hfz12_4 hfz16_0 hfz16_1 hfz16_2 hfz16_3 hfz16_4 hfz18_0 hfz18_1 hfz18_2 hfz18_3 hfz18_4 hfz9_0 hfz9_1 hfz9_2 hfz9_3 hfz9_4); (try clear hx7_0); (try clear p2); (try clear p7); (try clear q7); (obtain ⟨x5_3, x8_3, rfl, HA, HK3, HO_5, BK153, HB⟩ := hrel); (have hl5_3 := (Kd.R_reads' HO_5.out).1); (rw [hl5_3] at HO_5); ((try simp only [hl5_3])); ((try simp only [hl5_3] at BK153))
      cases gk with
      | zero => exact absurd HA.out (by simp [Zq.l2])
      | succ k3 =>
       (have H := HA.out); (clear HA); (simp only [Zq.l2] at H)
       by_cases c19 : x8_3 < a0_1
       rotate_left
       ·rw [if_neg c19] at H
        (have c19b0 : decide (x8_3 < a0_1) = false := decide_eq_false c19); (clear c19); (have H' := Za.mk H); (clear H); (have hcz37_0 : wr.cell? ⟨gb153, 0, none⟩ = some (.int .i64 a0_0) := (Zb BK153.out 0).trans rfl); (have hcz37_1 : wr.cell? ⟨gb153, 1, none⟩ = some (.int .i64 a0_1) := (Zb BK153.out 1).trans rfl); (have hcz37_2 : wr.cell? ⟨gb153, 2, none⟩ = some (.slice A0_2 l0_2.length c0_2) := (Zb BK153.out 2).trans rfl); (have hcz37_3 : wr.cell? ⟨gb153, 3, none⟩ = some (.int .i64 a0_3) := (Zb BK153.out 3).trans rfl); (have hcz37_4 : wr.cell? ⟨gb153, 4, none⟩ = some (.int .u32 a0_4) := (Zb BK153.out 4).trans rfl); (have hfz37_0 := Zc BK153.out 0); (have hfz37_1 := Zc BK153.out 1); (have hfz37_2 := Zc BK153.out 2); (have hfz37_3 := Zc BK153.out 3); (have hfz37_4 := Zc BK153.out 4)
        go_wp2
        (try simp only [← hl5_2, ← hl5_3])
        go_roundg k3
        case measure => have := HK1.out; have := HK2.out; have := HK3.out; omega
        case rel => exact ⟨(x5_3), (wrap64 (x7_2 + 1)), (by first | rfl | (simp; done) | (simp [*]; done)), H', ⟨by have := HK1.out; have := HK2.out; have := HK3.out; omega⟩, ⟨by (try simp only [hl5_1]); (try simp only [hl5_2]); (try simp only [hl5_3]); (with_reducible repeat (first | apply Kd.R_alloc | apply Kd.R_drewN | apply Kd.R_drew)); exact HO_5.out⟩, ⟨by (try simp only [hl5_1]); (try simp only [hl5_2]); (try simp only [hl5_3]); (with_reducible repeat (first | apply zb3 | apply zb2 | apply zb1)); exact BK153.out⟩, ⟨by repeat (first | (with_reducible first | exact HB.out | apply zc1 | apply zc2 | apply zc3 | refine zc4 ?_ (by assumption)) | exact HB.out)⟩⟩
       (rw [if_pos c19] at H); (have c19b0 : decide (x8_3 < a0_1) = true := decide_eq_true c19); (clear c19)
       by_cases c20 : 0 ≤ x7_2
       rotate_left
       ·rw [if_neg c20] at H
        exact absurd H (by simp)
       (rw [if_pos c20] at H); (have c20b0 : decide (0 ≤ x7_2) = true := decide_eq_true c20); (clear c20)
       by_cases c21 : x7_2 < (l0_2.length : Int)
       rotate_left
       ·rw [if_neg c21] at H
        exact absurd H (by simp)
       (rw [if_pos c21] at H); (have c21b0 : decide (x7_2 < (l0_2.length : Int)) = true := decide_eq_true c21); ((try (have c21b0h := c21b0; simp only [hl5_1, hl5_2, hl5_3] at c21b0h))); (clear c21)
       by_cases c22 : 0 ≤ x8_3
       rotate_left
       ·rw [if_neg c22] at H
        exact absurd H (by simp)
       (rw [if_pos c22] at H); (have c22b0 : decide (0 ≤ x8_3) = true := decide_eq_true c22); (clear c22)
       by_cases c23 : x8_3 < ((Ze l0_2 x7_2).length : Int)
       rotate_left
       ·rw [if_neg c23] at H
        exact absurd H (by simp)
       (rw [if_pos c23] at H); (have c23b0 : decide (x8_3 < ((Ze l0_2 x7_2).length : Int)) = true := decide_eq_true c23); ((try (have c23b0h := c23b0; simp only [hl5_1, hl5_2, hl5_3] at c23b0h))); (clear c23)
       by_cases c24 : 0 ≤ (rd (Ze l0_2 x7_2) x8_3)
       rotate_left
       ·rw [if_neg c24] at H
        exact absurd H (by simp)
       (rw [if_pos c24] at H); (have c24b0 : decide (0 ≤ (rd (Ze l0_2 x7_2) x8_3)) = true := decide_eq_true c24); (clear c24)
       by_cases c25 : (rd (Ze l0_2 x7_2) x8_3) < (x5_3.length : Int)
       rotate_left
       ·rw [if_neg c25] at H
        exact absurd H (by simp)
       (rw [if_pos c25] at H); (have c25b0 : decide ((rd (Ze l0_2 x7_2) x8_3) < (x5_3.length : Int)) = true := decide_eq_true c25); ((try (have c25b0h := c25b0; simp only [hl5_1, hl5_2, hl5_3] at c25b0h))); (clear c25); (obtain ⟨bq26, hbq26⟩ : ∃ b_ : Bool, b_ = (rdOf false x5_3 (rd (Ze l0_2 x7_2) x8_3)) := ⟨_, rfl⟩); (replace H : (if bq26 = true then (Zq.l2 k3 l1 (x5_3.set ((rd (Ze l0_2 x7_2) x8_3) : Int).toNat true) x6_1 x7_2 (wrap64 (x8_3 + 1)) a0_0 a0_1 l0_2 a0_3 a0_4) else (if x7_2 < (x5_3.length : Int) then (Zq.l2 k3 l1 (x5_3.set ((rd (Ze l0_2 x7_2) x8_3) : Int).toNat (rdOf false x5_3 x7_2)) x6_1 x7_2 (wrap64 (x8_3 + 1)) a0_0 a0_1 l0_2 a0_3 a0_4) else (none))) = some r := by rw [← hbq26] at H; exact H); (have Nbq26 := Za.mk hbq26); (clear hbq26)
       by_cases c27 : bq26 = true
       ·subst c27
        (have H1 : (Zq.l2 k3 l1 (x5_3.set ((rd (Ze l0_2 x7_2) x8_3) : Int).toNat true) x6_1 x7_2 (wrap64 (x8_3 + 1)) a0_0 a0_1 l0_2 a0_3 a0_4) = some r := by rw [if_pos rfl] at H; exact H); (clear H); (have H := H1); (clear H1); (obtain ⟨y163, hy163⟩ : ∃ y_ : List Bool, y_ = (x5_3.set ((rd (Ze l0_2 x7_2) x8_3) : Int).toNat true) := ⟨_, rfl⟩); (replace H : (Zq.l2 k3 l1 y163 x6_1 x7_2 (wrap64 (x8_3 + 1)) a0_0 a0_1 l0_2 a0_3 a0_4) = some r := by first | (rw [hy163]; with_reducible exact H) | (have H2_ := (Option.bind_some _ _).symm.trans H; rw [hy163]; with_reducible exact H2_) | (have H2_ := (Option.bind_some _ _).symm.trans H; with_reducible exact H2_) | with_reducible exact H | (rw [hy163]; exact H) | exact H); (have Ny163 := Za.mk hy163); (clear hy163); (have H' := Za.mk H); (clear H); (have hcz29_0 : wr.cell? ⟨gb153, 0, none⟩ = some (.int .i64 a0_0) := (Zb BK153.out 0).trans rfl); (have hcz29_1 : wr.cell? ⟨gb153, 1, none⟩ = some (.int .i64 a0_1) := (Zb BK153.out 1).trans rfl); (have hcz29_2 : wr.cell? ⟨gb153, 2, none⟩ = some (.slice A0_2 l0_2.length c0_2) := (Zb BK153.out 2).trans rfl); (have hcz29_3 : wr.cell? ⟨gb153, 3, none⟩ = some (.int .i64 a0_3) := (Zb BK153.out 3).trans rfl); (have hcz29_4 : wr.cell? ⟨gb153, 4, none⟩ = some (.int .u32 a0_4) := (Zb BK153.out 4).trans rfl); (have hfz29_0 := Zc BK153.out 0); (have hfz29_1 := Zc BK153.out 1); (have hfz29_2 := Zc BK153.out 2); (have hfz29_3 := Zc BK153.out 3); (have hfz29_4 := Zc BK153.out 4)
        try go_wp2
        (replace HO_5 := Za.mk (Kd.R_drew HO_5.out)); (replace BK153 := Za.mk (Zj BK153.out)); (replace HB := Za.mk (below_drew1 HB.out)); (have p158 : 0 ≤ (x7_2 : Int) := of_decide_eq_true (by assumption)); (have q158 : x7_2 < (l0_2.length : Int) := of_decide_eq_true (by assumption)); (obtain ⟨ad158, A158_0, c158_0, e158, hx158_0, hl158_0, hi158_0⟩ := at_L1 HR0_2.out x7_2 p158 q158); (have hw158_0 := hx158_0); (cases e158); (replace hx158_0 := (HB.out.cell (World.block_lt_of_cell? w _ hx158_0)).trans hx158_0); (have HR158_0 := Za.mk hi158_0); (have HC158_0 := Za.mk hl158_0); (clear hi158_0 hl158_0); (replace p158 := eq_true p158); (replace q158 := eq_true q158); (have p159 : 0 ≤ (x8_3 : Int) := of_decide_eq_true (by assumption)); (have q159 : x8_3 < ((Ze l0_2 x7_2).length : Int) := of_decide_eq_true (by assumption)); (obtain ⟨ad159, e159, hx159_0⟩ := Kd.at_int HR158_0.out x8_3 p159 q159); (have hw159_0 := hx159_0); (cases e159); (replace hx159_0 := (HB.out.cell (World.block_lt_of_cell? w _ hx159_0)).trans hx159_0); (replace p159 := eq_true p159); (replace q159 := eq_true q159); (have p160 : 0 ≤ (x7_2 : Int) := of_decide_eq_true (by assumption)); (have q160 : x7_2 < (l0_2.length : Int) := of_decide_eq_true (by assumption)); (obtain ⟨ad160, A160_0, c160_0, e160, hx160_0, hl160_0, hi160_0⟩ := at_L1 HR0_2.out x7_2 p160 q160); (have hw160_0 := hx160_0); (obtain rfl : ad158 = ad160 := (by injection e160)); (replace hx160_0 := (HB.out.cell (World.block_lt_of_cell? w _ hx160_0)).trans hx160_0); (have HR160_0 := Za.mk hi160_0); (have HC160_0 := Za.mk hl160_0); (clear hi160_0 hl160_0)
        (replace p160 := eq_true p160); (replace q160 := eq_true q160); (have ea_ := Option.some.inj (hx158_0.symm.trans hx160_0)); (injection ea_ with ea_ en_ ec_); (subst ea_); (subst ec_); (clear en_); (have p161 : 0 ≤ (x8_3 : Int) := of_decide_eq_true (by assumption)); (have q161 : x8_3 < ((Ze l0_2 x7_2).length : Int) := of_decide_eq_true (by assumption)); (obtain ⟨ad161, e161, hx161_0⟩ := Kd.at_int HR160_0.out x8_3 p161 q161); (have hw161_0 := hx161_0); (obtain rfl : ad159 = ad161 := (by injection e161)); (replace hx161_0 := (HB.out.cell (World.block_lt_of_cell? w _ hx161_0)).trans hx161_0); (replace p161 := eq_true p161); (replace q161 := eq_true q161); (have p162 : 0 ≤ ((rd (Ze l0_2 x7_2) x8_3) : Int) := of_decide_eq_true (by assumption)); (have q162 : (rd (Ze l0_2 x7_2) x8_3) < (x5_3.length : Int) := of_decide_eq_true (by assumption)); (obtain ⟨ad162, e162, hx162_0⟩ := Kd.at_bool (Kd.R_reads' HO_5.out).2.2 (rd (Ze l0_2 x7_2) x8_3) p162 q162); ((try rw [← Nbq26.out] at hx162_0)); (obtain rfl : (⟨go7, 0, none⟩ : Addr) = ad162 := (by injection e162))
        (first | simp only [add_plain] at hx162_0 | simp only [add_at] at hx162_0 | simp only [Addr.add, Nat.zero_add] at hx162_0 | skip)
        (replace p162 := eq_true p162); (replace q162 := eq_true q162); (have p28 : 0 ≤ ((rd (Ze l0_2 x7_2) x8_3) : Int) := of_decide_eq_true (by assumption)); (have q28 : ((rd (Ze l0_2 x7_2) x8_3) : Int) < ((x5_3.length : Int) : Int) := of_decide_eq_true (by assumption)); (obtain ⟨hx28_0, hf28_0⟩ := Kd.R_celln false HO_5.out ((rd (Ze l0_2 x7_2) x8_3) : Int) p28 q28); (replace p28 := eq_true p28); (replace q28 := eq_true q28); (have HP31 := Kd.R_putn HO_5.out ((rd (Ze l0_2 x7_2) x8_3) : Int) true); (rw [← Ny163.out] at HP31); (have HQ31 := Za.mk HP31); (clear HP31)
        refine start_ (n := 28) (S := fun w' => w'.cell? ⟨gb153, 0, none⟩ = some (.int .i64 a0_0) ∧ w'.cell? ⟨gb153, 1, none⟩ = some (.int .i64 a0_1) ∧ w'.cell? ⟨gb153, 2, none⟩ = some (.slice (some ad158) l0_2.length c0_2) ∧ w'.cell? ⟨gb153, 3, none⟩ = some (.int .i64 a0_3) ∧ w'.cell? ⟨gb153, 4, none⟩ = some (.int .u32 a0_4) ∧ w'.cell? (ad158.add (x7_2).toNat) = some (.slice (some ad159) (Ze l0_2 x7_2).length c158_0) ∧ w'.cell? (ad159.add (x8_3).toNat) = some (.int .i64 (rd (Ze l0_2 x7_2) x8_3)) ∧ w'.cell? (ad158.add (x7_2).toNat) = some (.slice (some ad159) (Ze l0_2 x7_2).length c158_0) ∧ w'.cell? (ad159.add (x8_3).toNat) = some (.int .i64 (rd (Ze l0_2 x7_2) x8_3)) ∧ w'.cell? ⟨go7, ((rd (Ze l0_2 x7_2) x8_3)).toNat, none⟩ = some (.bool true)) (ds := [27]) #[false, false, false, false, false, false, false, false, false, false, false, false, false, false, false, false, false, false, false, false, false, false, false, false, false, false, false, false] (by kernel_rfl) rfl rfl ⟨(Zb BK153.out 0).trans rfl, (Zb BK153.out 1).trans rfl, (Zb BK153.out 2).trans rfl, (Zb BK153.out 3).trans rfl, (Zb BK153.out 4).trans rfl, ((HB.out.cell (World.block_lt_of_cell? w _ hw158_0)).trans hw158_0), ((HB.out.cell (World.block_lt_of_cell? w _ hw159_0)).trans hw159_0), ((HB.out.cell (World.block_lt_of_cell? w _ hw160_0)).trans hw160_0), ((HB.out.cell (World.block_lt_of_cell? w _ hw161_0)).trans hw161_0), hx162_0⟩ (fun hHeld => ?_); refine with_tabW Zq.tab12 Zq.bits12 (fun HT_ HW_ => ?_)
        generalize wr.drew = w30 at HO_5 BK153 HB HQ31 HR158_0 HR160_0 hf28_0 hx158_0 hx159_0 hx160_0 hx161_0 hx162_0 hx28_0 hHeld ⊢
        refine pure_ (i := 0) (N := some 36) (v := ?_) (a' := ?_) #[true, false, false, false, false, false, false, false, false, false, false, false, false, false, false, false, false, false, false, false, false, false, false, false, false, false, false, false] rfl rfl (Zm HT_.out (by kernel_rfl)) (fun _ _ _ h => h) (Or.inl ⟨by rfl, ?_⟩) ?_ ?_
        rotate_left;·(intro w';go_simp;with_reducible rfl)
        rotate_left;·(simp only [Act.put, zp1, zp2, zp3, Zg, Zf];rfl)
        refine pure_ (i := 1) (N := some 37) (v := ?_) (a' := ?_) #[true, true, false, false, false, false, false, false, false, false, false, false, false, false, false, false, false, false, false, false, false, false, false, false, false, false, false, false] rfl rfl (Zm HT_.out (by kernel_rfl)) (fun _ _ _ h => h) (Or.inl ⟨by rfl, ?_⟩) ?_ ?_
        rotate_left;·(intro w';go_simp;with_reducible rfl)
        rotate_left;·(simp only [Act.put, zp1, zp2, zp3, Zg, Zf];rfl)
        refine pure_ (i := 3) (N := some 39) (v := ?_) (a' := ?_) #[true, true, false, true, false, false, false, false, false, false, false, false, false, false, false, false, false, false, false, false, false, false, false, false, false, false, false, false] rfl rfl (Zm HT_.out (by kernel_rfl)) (fun _ _ _ h => h) (Or.inl ⟨by rfl, ?_⟩) ?_ ?_
        rotate_left;·(intro w';go_simp;with_reducible rfl)
        rotate_left;·(simp only [Act.put, zp1, zp2, zp3, Zg, Zf];rfl)
        refine pure_ (i := 6) (N := some 42) (v := ?_) (a' := ?_) #[true, true, false, true, false, false, true, false, false, false, false, false, false, false, false, false, false, false, false, false, false, false, false, false, false, false, false, false] rfl rfl (Zm HT_.out (by kernel_rfl)) (fun _ _ _ h => h) (Or.inl ⟨by rfl, ?_⟩) ?_ ?_
        rotate_left;·(intro w';go_simp;with_reducible rfl)
        rotate_left;·(simp only [Act.put, zp1, zp2, zp3, Zg, Zf];rfl)
        refine pure_ (i := 9) (N := some 45) (v := ?_) (a' := ?_) #[true, true, false, true, false, false, true, false, false, true, false, false, false, false, false, false, false, false, false, false, false, false, false, false, false, false, false, false] rfl rfl (Zm HT_.out (by kernel_rfl)) (fun _ _ _ h => h) (Or.inl ⟨by rfl, ?_⟩) ?_ ?_
        rotate_left;·(intro w';go_simp;with_reducible rfl)
        rotate_left;·(simp only [Act.put, zp1, zp2, zp3, Zg, Zf];rfl)
        refine pure_ (i := 10) (N := some 46) (v := ?_) (a' := ?_) #[true, true, false, true, false, false, true, false, false, true, true, false, false, false, false, false, false, false, false, false, false, false, false, false, false, false, false, false] rfl rfl (Zm HT_.out (by kernel_rfl)) (fun _ _ _ h => h) (Or.inl ⟨by rfl, ?_⟩) ?_ ?_
        rotate_left;·(intro w';go_simp;with_reducible rfl)
        rotate_left;·(simp only [Act.put, zp1, zp2, zp3, Zg, Zf];rfl)
        refine pure_ (i := 12) (N := some 48) (v := ?_) (a' := ?_) #[true, true, false, true, false, false, true, false, false, true, true, false, true, false, false, false, false, false, false, false, false, false, false, false, false, false, false, false] rfl rfl (Zm HT_.out (by kernel_rfl)) (fun _ _ _ h => h) (Or.inl ⟨by rfl, ?_⟩) ?_ ?_
        rotate_left;·(intro w';go_simp;with_reducible rfl)
        rotate_left;·(simp only [Act.put, zp1, zp2, zp3, Zg, Zf];rfl)
        refine pure_ (i := 15) (N := some 51) (v := ?_) (a' := ?_) #[true, true, false, true, false, false, true, false, false, true, true, false, true, false, false, true, false, false, false, false, false, false, false, false, false, false, false, false] rfl rfl (Zm HT_.out (by kernel_rfl)) (fun _ _ _ h => h) (Or.inl ⟨by rfl, ?_⟩) ?_ ?_
        rotate_left;·(intro w';go_simp;with_reducible rfl)
        rotate_left;·(simp only [Act.put, zp1, zp2, zp3, Zg, Zf];rfl)
        refine take_ (i := 2) (N := some 38) (v := ?_) (a' := ?_) #[true, true, true, true, false, false, true, false, false, true, true, false, true, false, false, true, false, false, false, false, false, false, false, false, false, false, false, false] rfl rfl (Zi1 HT_.out HW_.out (by kernel_rfl)) (fun _ _ _ h => h) (Or.inl ⟨by rfl, ?_⟩) hHeld ?_ ?_
        rotate_left
        ·rintro w' ⟨s0, s1, s2, s3, s4, s5, s6, s7, s8, s9⟩
         go_simp
         with_reducible rfl
        rotate_left
        ·simp only [Act.put, zp1, zp2, zp3, Zg, Zf]
         rfl
        refine pure_ (i := 4) (N := some 40) (v := ?_) (a' := ?_) #[true, true, true, true, true, false, true, false, false, true, true, false, true, false, false, true, false, false, false, false, false, false, false, false, false, false, false, false] rfl rfl (Zm HT_.out (by kernel_rfl)) (fun _ _ _ h => h) (Or.inl ⟨by rfl, ?_⟩) ?_ ?_
        rotate_left;·(intro w';go_simp;with_reducible rfl)
        rotate_left;·(simp only [Act.put, zp1, zp2, zp3, Zg, Zf];rfl)
        refine take_ (i := 5) (N := some 41) (v := ?_) (a' := ?_) #[true, true, true, true, true, true, true, false, false, true, true, false, true, false, false, true, false, false, false, false, false, false, false, false, false, false, false, false] rfl rfl (Zi1 HT_.out HW_.out (by kernel_rfl)) (fun _ _ _ h => h) (Or.inl ⟨by rfl, ?_⟩) hHeld ?_ ?_
        rotate_left
        ·rintro w' ⟨s0, s1, s2, s3, s4, s5, s6, s7, s8, s9⟩
         go_simp
         with_reducible rfl
        rotate_left
        ·simp only [Act.put, zp1, zp2, zp3, Zg, Zf]
         rfl
        refine pure_ (i := 7) (N := some 43) (v := ?_) (a' := ?_) #[true, true, true, true, true, true, true, true, false, true, true, false, true, false, false, true, false, false, false, false, false, false, false, false, false, false, false, false] rfl rfl (Zm HT_.out (by kernel_rfl)) (fun _ _ _ h => h) (Or.inl ⟨by rfl, ?_⟩) ?_ ?_
        rotate_left;·(intro w';go_simp;with_reducible rfl)
        rotate_left;·(simp only [Act.put, zp1, zp2, zp3, Zg, Zf];rfl)
        refine take_ (i := 8) (N := some 44) (v := ?_) (a' := ?_) #[true, true, true, true, true, true, true, true, true, true, true, false, true, false, false, true, false, false, false, false, false, false, false, false, false, false, false, false] rfl rfl (Zi1 HT_.out HW_.out (by kernel_rfl)) (fun _ _ _ h => h) (Or.inl ⟨by rfl, ?_⟩) hHeld ?_ ?_
        rotate_left
        ·rintro w' ⟨s0, s1, s2, s3, s4, s5, s6, s7, s8, s9⟩
         go_simp
         with_reducible rfl
        rotate_left
        ·simp only [Act.put, zp1, zp2, zp3, Zg, Zf]
         rfl
        refine take_ (i := 11) (N := some 47) (v := ?_) (a' := ?_) #[true, true, true, true, true, true, true, true, true, true, true, true, true, false, false, true, false, false, false, false, false, false, false, false, false, false, false, false] rfl rfl (Zi1 HT_.out HW_.out (by kernel_rfl)) (fun _ _ _ h => h) (Or.inl ⟨by rfl, ?_⟩) hHeld ?_ ?_
        rotate_left
        ·rintro w' ⟨s0, s1, s2, s3, s4, s5, s6, s7, s8, s9⟩
         go_simp
         with_reducible rfl
        rotate_left
        ·simp only [Act.put, zp1, zp2, zp3, Zg, Zf]
         rfl
        refine pure_ (i := 13) (N := some 49) (v := ?_) (a' := ?_) #[true, true, true, true, true, true, true, true, true, true, true, true, true, true, false, true, false, false, false, false, false, false, false, false, false, false, false, false] rfl rfl (Zm HT_.out (by kernel_rfl)) (fun _ _ _ h => h) (Or.inl ⟨by rfl, ?_⟩) ?_ ?_
        rotate_left;·(intro w';go_simp;with_reducible rfl)
        rotate_left;·(simp only [Act.put, zp1, zp2, zp3, Zg, Zf];rfl)
        refine take_ (i := 14) (N := some 50) (v := ?_) (a' := ?_) #[true, true, true, true, true, true, true, true, true, true, true, true, true, true, true, true, false, false, false, false, false, false, false, false, false, false, false, false] rfl rfl (Zi1 HT_.out HW_.out (by kernel_rfl)) (fun _ _ _ h => h) (Or.inl ⟨by rfl, ?_⟩) hHeld ?_ ?_
        rotate_left
        ·rintro w' ⟨s0, s1, s2, s3, s4, s5, s6, s7, s8, s9⟩
         go_simp
         with_reducible rfl
        rotate_left
        ·simp only [Act.put, zp1, zp2, zp3, Zg, Zf]
         rfl
        refine pure_ (i := 16) (N := some 52) (v := ?_) (a' := ?_) #[true, true, true, true, true, true, true, true, true, true, true, true, true, true, true, true, true, false, false, false, false, false, false, false, false, false, false, false] rfl rfl (Zm HT_.out (by kernel_rfl)) (fun _ _ _ h => h) (Or.inl ⟨by rfl, ?_⟩) ?_ ?_
        rotate_left;·(intro w';go_simp;with_reducible rfl)
        rotate_left;·(simp only [Act.put, zp1, zp2, zp3, Zg, Zf];rfl)
        refine take_ (i := 17) (N := some 53) (v := ?_) (a' := ?_) #[true, true, true, true, true, true, true, true, true, true, true, true, true, true, true, true, true, true, false, false, false, false, false, false, false, false, false, false] rfl rfl (Zi1 HT_.out HW_.out (by kernel_rfl)) (fun _ _ _ h => h) (Or.inl ⟨by rfl, ?_⟩) hHeld ?_ ?_
        rotate_left
        ·rintro w' ⟨s0, s1, s2, s3, s4, s5, s6, s7, s8, s9⟩
         go_simp
         with_reducible rfl
        rotate_left
        ·simp only [Act.put, zp1, zp2, zp3, Zg, Zf]
         rfl
        refine pure_ (i := 18) (N := some 54) (v := ?_) (a' := ?_) #[true, true, true, true, true, true, true, true, true, true, true, true, true, true, true, true, true, true, true, false, false, false, false, false, false, false, false, false] rfl rfl (Zm HT_.out (by kernel_rfl)) (fun _ _ _ h => h) (Or.inl ⟨by rfl, ?_⟩) ?_ ?_
        rotate_left;·(intro w';go_simp;with_reducible rfl)
        rotate_left;·(simp only [Act.put, zp1, zp2, zp3, Zg, Zf];rfl)
        refine take_ (i := 19) (N := some 55) (v := ?_) (a' := ?_) #[true, true, true, true, true, true, true, true, true, true, true, true, true, true, true, true, true, true, true, true, false, false, false, false, false, false, false, false] rfl rfl (Zi1 HT_.out HW_.out (by kernel_rfl)) (fun _ _ _ h => h) (Or.inl ⟨by rfl, ?_⟩) hHeld ?_ ?_
        rotate_left
        ·rintro w' ⟨s0, s1, s2, s3, s4, s5, s6, s7, s8, s9⟩
         go_simp
         with_reducible rfl
        rotate_left
        ·simp only [Act.put, zp1, zp2, zp3, Zg, Zf]
         rfl
        refine pure_ (i := 20) (N := some 56) (v := ?_) (a' := ?_) #[true, true, true, true, true, true, true, true, true, true, true, true, true, true, true, true, true, true, true, true, true, false, false, false, false, false, false, false] rfl rfl (Zm HT_.out (by kernel_rfl)) (fun _ _ _ h => h) (Or.inl ⟨by rfl, ?_⟩) ?_ ?_
        rotate_left;·(intro w';go_simp;with_reducible rfl)
        rotate_left;·(simp only [Act.put, zp1, zp2, zp3, Zg, Zf];rfl)
        refine pure_ (i := 21) (N := some 57) (v := undef) (a' := ?_) #[true, true, true, true, true, true, true, true, true, true, true, true, true, true, true, true, true, true, true, true, true, true, false, false, false, false, false, false] rfl rfl (Zm HT_.out (by kernel_rfl)) (fun _ _ _ h => h) (Or.inr ⟨by rfl, rfl⟩) ?_ ?_
        rotate_left
        ·simp only [Act.put, zp1, zp2, zp3, Zg, Zf]
         rfl
        refine pure_ (i := 22) (N := some 58) (v := undef) (a' := ?_) #[true, true, true, true, true, true, true, true, true, true, true, true, true, true, true, true, true, true, true, true, true, true, true, false, false, false, false, false] rfl rfl (Zm HT_.out (by kernel_rfl)) (fun _ _ _ h => h) (Or.inr ⟨by rfl, rfl⟩) ?_ ?_
        rotate_left
        ·simp only [Act.put, zp1, zp2, zp3, Zg, Zf]
         rfl
        refine pure_ (i := 23) (N := some 59) (v := undef) (a' := ?_) #[true, true, true, true, true, true, true, true, true, true, true, true, true, true, true, true, true, true, true, true, true, true, true, true, false, false, false, false] rfl rfl (Zm HT_.out (by kernel_rfl)) (fun _ _ _ h => h) (Or.inr ⟨by rfl, rfl⟩) ?_ ?_
        rotate_left
        ·simp only [Act.put, zp1, zp2, zp3, Zg, Zf]
         rfl
        refine pure_ (i := 24) (N := some 60) (v := undef) (a' := ?_) #[true, true, true, true, true, true, true, true, true, true, true, true, true, true, true, true, true, true, true, true, true, true, true, true, true, false, false, false] rfl rfl (Zm HT_.out (by kernel_rfl)) (fun _ _ _ h => h) (Or.inr ⟨by rfl, rfl⟩) ?_ ?_
        rotate_left
        ·simp only [Act.put, zp1, zp2, zp3, Zg, Zf]
         rfl
        refine pure_ (i := 25) (N := some 61) (v := ?_) (a' := ?_) #[true, true, true, true, true, true, true, true, true, true, true, true, true, true, true, true, true, true, true, true, true, true, true, true, true, true, false, false] rfl rfl (Zm HT_.out (by kernel_rfl)) (fun _ _ _ h => h) (Or.inl ⟨by rfl, ?_⟩) ?_ ?_
        rotate_left;·(intro w';go_simp;with_reducible rfl)
        rotate_left;·(simp only [Act.put, zp1, zp2, zp3, Zg, Zf];rfl)
        refine pure_ (i := 26) (N := some 62) (v := ?_) (a' := ?_) #[true, true, true, true, true, true, true, true, true, true, true, true, true, true, true, true, true, true, true, true, true, true, true, true, true, true, true, false] rfl rfl (Zm HT_.out (by kernel_rfl)) (fun _ _ _ h => h) (Or.inl ⟨by rfl, ?_⟩) ?_ ?_
        rotate_left;·(intro w';go_simp;with_reducible rfl)
        rotate_left;·(simp only [Act.put, zp1, zp2, zp3, Zg, Zf];rfl)
        refine last_ (i := 27) (N := none) #[true, true, true, true, true, true, true, true, true, true, true, true, true, true, true, true, true, true, true, true, true, true, true, true, true, true, true, true] rfl rfl (one_of HT_.out (by kernel_rfl)) (by decide) (fun K hK => ?_)
        refine skip_ (w1 := ?_) (by rfl) rfl ?_ ?_
        rotate_left
        ·go_simp
         rfl
        refine hK.out _ _ ?_
        clear hK K
        refine done_ (done_of HT_.out (by kernel_rfl)) ?_
        try go_wp2
        (try simp only [← hl5_3])
        go_roundg k3
        case measure => have := HK1.out; have := HK2.out; have := HK3.out; omega
        case rel => exact ⟨(y163), (wrap64 (x8_3 + 1)), (by first | rfl | (simp; done) | (simp [*]; done)), H', ⟨by have := HK1.out; have := HK2.out; have := HK3.out; omega⟩, ⟨by (try simp only [hl5_1]); (try simp only [hl5_2]); (try simp only [hl5_3]); (with_reducible repeat (first | apply Kd.R_alloc | apply Kd.R_drewN | apply Kd.R_drew)); exact HQ31.out⟩, ⟨by (try simp only [hl5_1]); (try simp only [hl5_2]); (try simp only [hl5_3]); (with_reducible repeat (first | refine Zo ?_ _ | refine Zj ?_ | refine Zn ?_ _)); refine Zu ?_ (by have h_ := Kd.R_ne HO_5.out BK153.out (by decide); intro e_; exact h_ (by rw [e_]; rfl)) _; (with_reducible repeat (first | apply zb3 | apply zb2 | apply zb1)); exact BK153.out⟩, ⟨by repeat (first | (with_reducible first | exact HB.out | apply below_alloc | apply pw_below_drewN | apply below_drew1 | refine below_set ?_ GB7.out | refine below_set ?_ GE153.out) | exact HB.out)⟩⟩
       (replace c27 := Bool.eq_false_iff.mpr c27); (subst c27); (have H1 : (if x7_2 < (x5_3.length : Int) then (Zq.l2 k3 l1 (x5_3.set ((rd (Ze l0_2 x7_2) x8_3) : Int).toNat (rdOf false x5_3 x7_2)) x6_1 x7_2 (wrap64 (x8_3 + 1)) a0_0 a0_1 l0_2 a0_3 a0_4) else (none)) = some r := by rw [if_neg (show ¬ (false = true) by decide)] at H; exact H); (clear H); (have H := H1); (clear H1)
       by_cases c32 : x7_2 < (x5_3.length : Int)
       rotate_left
       ·rw [if_neg c32] at H
        exact absurd H (by simp)
       (rw [if_pos c32] at H); (have c32b0 : decide (x7_2 < (x5_3.length : Int)) = true := decide_eq_true c32); ((try (have c32b0h := c32b0; simp only [hl5_1, hl5_2, hl5_3] at c32b0h))); (clear c32); (obtain ⟨y165, hy165⟩ : ∃ y_ : List Bool, y_ = (x5_3.set ((rd (Ze l0_2 x7_2) x8_3) : Int).toNat (rdOf false x5_3 x7_2)) := ⟨_, rfl⟩); (replace H : (Zq.l2 k3 l1 y165 x6_1 x7_2 (wrap64 (x8_3 + 1)) a0_0 a0_1 l0_2 a0_3 a0_4) = some r := by first | (rw [hy165]; with_reducible exact H) | (have H2_ := (Option.bind_some _ _).symm.trans H; rw [hy165]; with_reducible exact H2_) | (have H2_ := (Option.bind_some _ _).symm.trans H; with_reducible exact H2_) | with_reducible exact H | (rw [hy165]; exact H) | exact H); (have Ny165 := Za.mk hy165); (clear hy165); (have H' := Za.mk H); (clear H); (have hcz34_0 : wr.cell? ⟨gb153, 0, none⟩ = some (.int .i64 a0_0) := (Zb BK153.out 0).trans rfl); (have hcz34_1 : wr.cell? ⟨gb153, 1, none⟩ = some (.int .i64 a0_1) := (Zb BK153.out 1).trans rfl); (have hcz34_2 : wr.cell? ⟨gb153, 2, none⟩ = some (.slice A0_2 l0_2.length c0_2) := (Zb BK153.out 2).trans rfl); (have hcz34_3 : wr.cell? ⟨gb153, 3, none⟩ = some (.int .i64 a0_3) := (Zb BK153.out 3).trans rfl); (have hcz34_4 : wr.cell? ⟨gb153, 4, none⟩ = some (.int .u32 a0_4) := (Zb BK153.out 4).trans rfl); (have hfz34_0 := Zc BK153.out 0); (have hfz34_1 := Zc BK153.out 1); (have hfz34_2 := Zc BK153.out 2); (have hfz34_3 := Zc BK153.out 3); (have hfz34_4 := Zc BK153.out 4)
       try go_wp2
       (replace HO_5 := Za.mk (Kd.R_drew HO_5.out)); (replace BK153 := Za.mk (Zj BK153.out)); (replace HB := Za.mk (below_drew1 HB.out)); (have p158 : 0 ≤ (x7_2 : Int) := of_decide_eq_true (by assumption)); (have q158 : x7_2 < (l0_2.length : Int) := of_decide_eq_true (by assumption)); (obtain ⟨ad158, A158_0, c158_0, e158, hx158_0, hl158_0, hi158_0⟩ := at_L1 HR0_2.out x7_2 p158 q158); (have hw158_0 := hx158_0); (cases e158); (replace hx158_0 := (HB.out.cell (World.block_lt_of_cell? w _ hx158_0)).trans hx158_0); (have HR158_0 := Za.mk hi158_0); (have HC158_0 := Za.mk hl158_0); (clear hi158_0 hl158_0); (replace p158 := eq_true p158); (replace q158 := eq_true q158); (have p159 : 0 ≤ (x8_3 : Int) := of_decide_eq_true (by assumption)); (have q159 : x8_3 < ((Ze l0_2 x7_2).length : Int) := of_decide_eq_true (by assumption)); (obtain ⟨ad159, e159, hx159_0⟩ := Kd.at_int HR158_0.out x8_3 p159 q159); (have hw159_0 := hx159_0); (cases e159); (replace hx159_0 := (HB.out.cell (World.block_lt_of_cell? w _ hx159_0)).trans hx159_0); (replace p159 := eq_true p159); (replace q159 := eq_true q159); (have p160 : 0 ≤ (x7_2 : Int) := of_decide_eq_true (by assumption)); (have q160 : x7_2 < (l0_2.length : Int) := of_decide_eq_true (by assumption)); (obtain ⟨ad160, A160_0, c160_0, e160, hx160_0, hl160_0, hi160_0⟩ := at_L1 HR0_2.out x7_2 p160 q160); (have hw160_0 := hx160_0); (obtain rfl : ad158 = ad160 := (by injection e160)); (replace hx160_0 := (HB.out.cell (World.block_lt_of_cell? w _ hx160_0)).trans hx160_0); (have HR160_0 := Za.mk hi160_0); (have HC160_0 := Za.mk hl160_0); (clear hi160_0 hl160_0)
       (replace p160 := eq_true p160); (replace q160 := eq_true q160); (have ea_ := Option.some.inj (hx158_0.symm.trans hx160_0)); (injection ea_ with ea_ en_ ec_); (subst ea_); (subst ec_); (clear en_); (have p161 : 0 ≤ (x8_3 : Int) := of_decide_eq_true (by assumption)); (have q161 : x8_3 < ((Ze l0_2 x7_2).length : Int) := of_decide_eq_true (by assumption)); (obtain ⟨ad161, e161, hx161_0⟩ := Kd.at_int HR160_0.out x8_3 p161 q161); (have hw161_0 := hx161_0); (obtain rfl : ad159 = ad161 := (by injection e161)); (replace hx161_0 := (HB.out.cell (World.block_lt_of_cell? w _ hx161_0)).trans hx161_0); (replace p161 := eq_true p161); (replace q161 := eq_true q161); (have p162 : 0 ≤ ((rd (Ze l0_2 x7_2) x8_3) : Int) := of_decide_eq_true (by assumption)); (have q162 : (rd (Ze l0_2 x7_2) x8_3) < (x5_3.length : Int) := of_decide_eq_true (by assumption)); (obtain ⟨ad162, e162, hx162_0⟩ := Kd.at_bool (Kd.R_reads' HO_5.out).2.2 (rd (Ze l0_2 x7_2) x8_3) p162 q162); ((try rw [← Nbq26.out] at hx162_0)); (obtain rfl : (⟨go7, 0, none⟩ : Addr) = ad162 := (by injection e162))
       (first | simp only [add_plain] at hx162_0 | simp only [add_at] at hx162_0 | simp only [Addr.add, Nat.zero_add] at hx162_0 | skip)
       (replace p162 := eq_true p162); (replace q162 := eq_true q162); (have p164 : 0 ≤ (x7_2 : Int) := of_decide_eq_true (by assumption)); (have q164 : x7_2 < (x5_3.length : Int) := of_decide_eq_true (by assumption)); (obtain ⟨ad164, e164, hx164_0⟩ := Kd.at_bool (Kd.R_reads' HO_5.out).2.2 x7_2 p164 q164); ((try rw [← Nbq26.out] at hx164_0)); (obtain rfl : (⟨go7, 0, none⟩ : Addr) = ad164 := (by injection e164))
       (first | simp only [add_plain] at hx164_0 | simp only [add_at] at hx164_0 | simp only [Addr.add, Nat.zero_add] at hx164_0 | skip)
       (replace p164 := eq_true p164); (replace q164 := eq_true q164); (have p33 : 0 ≤ ((rd (Ze l0_2 x7_2) x8_3) : Int) := of_decide_eq_true (by assumption)); (have q33 : ((rd (Ze l0_2 x7_2) x8_3) : Int) < ((x5_3.length : Int) : Int) := of_decide_eq_true (by assumption)); (obtain ⟨hx33_0, hf33_0⟩ := Kd.R_celln false HO_5.out ((rd (Ze l0_2 x7_2) x8_3) : Int) p33 q33); (replace p33 := eq_true p33); (replace q33 := eq_true q33); (have HP36 := Kd.R_putn HO_5.out ((rd (Ze l0_2 x7_2) x8_3) : Int) (rdOf false x5_3 x7_2)); (rw [← Ny165.out] at HP36); (have HQ36 := Za.mk HP36); (clear HP36)
       refine start_ (n := 28) (S := fun w' => w'.cell? ⟨gb153, 0, none⟩ = some (.int .i64 a0_0) ∧ w'.cell? ⟨gb153, 1, none⟩ = some (.int .i64 a0_1) ∧ w'.cell? ⟨gb153, 2, none⟩ = some (.slice (some ad158) l0_2.length c0_2) ∧ w'.cell? ⟨gb153, 3, none⟩ = some (.int .i64 a0_3) ∧ w'.cell? ⟨gb153, 4, none⟩ = some (.int .u32 a0_4) ∧ w'.cell? (ad158.add (x7_2).toNat) = some (.slice (some ad159) (Ze l0_2 x7_2).length c158_0) ∧ w'.cell? (ad159.add (x8_3).toNat) = some (.int .i64 (rd (Ze l0_2 x7_2) x8_3)) ∧ w'.cell? (ad158.add (x7_2).toNat) = some (.slice (some ad159) (Ze l0_2 x7_2).length c158_0) ∧ w'.cell? (ad159.add (x8_3).toNat) = some (.int .i64 (rd (Ze l0_2 x7_2) x8_3)) ∧ w'.cell? ⟨go7, ((rd (Ze l0_2 x7_2) x8_3)).toNat, none⟩ = some (.bool false) ∧ w'.cell? ⟨go7, (x7_2).toNat, none⟩ = some (.bool (rdOf false x5_3 x7_2))) (ds := [27]) #[false, false, false, false, false, false, false, false, false, false, false, false, false, false, false, false, false, false, false, false, false, false, false, false, false, false, false, false] (by kernel_rfl) rfl rfl ⟨(Zb BK153.out 0).trans rfl, (Zb BK153.out 1).trans rfl, (Zb BK153.out 2).trans rfl, (Zb BK153.out 3).trans rfl, (Zb BK153.out 4).trans rfl, ((HB.out.cell (World.block_lt_of_cell? w _ hw158_0)).trans hw158_0), ((HB.out.cell (World.block_lt_of_cell? w _ hw159_0)).trans hw159_0), ((HB.out.cell (World.block_lt_of_cell? w _ hw160_0)).trans hw160_0), ((HB.out.cell (World.block_lt_of_cell? w _ hw161_0)).trans hw161_0), hx162_0, hx164_0⟩ (fun hHeld => ?_); refine with_tabW Zq.tab12 Zq.bits12 (fun HT_ HW_ => ?_)
       generalize wr.drew = w35 at HO_5 BK153 HB HQ36 HR158_0 HR160_0 hf33_0 hx158_0 hx159_0 hx160_0 hx161_0 hx162_0 hx164_0 hx33_0 hHeld ⊢
       refine pure_ (i := 0) (N := some 36) (v := ?_) (a' := ?_) #[true, false, false, false, false, false, false, false, false, false, false, false, false, false, false, false, false, false, false, false, false, false, false, false, false, false, false, false] rfl rfl (Zm HT_.out (by kernel_rfl)) (fun _ _ _ h => h) (Or.inl ⟨by rfl, ?_⟩) ?_ ?_
       rotate_left;·(intro w';go_simp;with_reducible rfl)
       rotate_left;·(simp only [Act.put, zp1, zp2, zp3, Zg, Zf];rfl)
       refine pure_ (i := 1) (N := some 37) (v := ?_) (a' := ?_) #[true, true, false, false, false, false, false, false, false, false, false, false, false, false, false, false, false, false, false, false, false, false, false, false, false, false, false, false] rfl rfl (Zm HT_.out (by kernel_rfl)) (fun _ _ _ h => h) (Or.inl ⟨by rfl, ?_⟩) ?_ ?_
       rotate_left;·(intro w';go_simp;with_reducible rfl)
       rotate_left;·(simp only [Act.put, zp1, zp2, zp3, Zg, Zf];rfl)
       refine pure_ (i := 3) (N := some 39) (v := ?_) (a' := ?_) #[true, true, false, true, false, false, false, false, false, false, false, false, false, false, false, false, false, false, false, false, false, false, false, false, false, false, false, false] rfl rfl (Zm HT_.out (by kernel_rfl)) (fun _ _ _ h => h) (Or.inl ⟨by rfl, ?_⟩) ?_ ?_
       rotate_left;·(intro w';go_simp;with_reducible rfl)
       rotate_left;·(simp only [Act.put, zp1, zp2, zp3, Zg, Zf];rfl)
       refine pure_ (i := 6) (N := some 42) (v := ?_) (a' := ?_) #[true, true, false, true, false, false, true, false, false, false, false, false, false, false, false, false, false, false, false, false, false, false, false, false, false, false, false, false] rfl rfl (Zm HT_.out (by kernel_rfl)) (fun _ _ _ h => h) (Or.inl ⟨by rfl, ?_⟩) ?_ ?_
       rotate_left;·(intro w';go_simp;with_reducible rfl)
       rotate_left;·(simp only [Act.put, zp1, zp2, zp3, Zg, Zf];rfl)
       refine pure_ (i := 9) (N := some 45) (v := ?_) (a' := ?_) #[true, true, false, true, false, false, true, false, false, true, false, false, false, false, false, false, false, false, false, false, false, false, false, false, false, false, false, false] rfl rfl (Zm HT_.out (by kernel_rfl)) (fun _ _ _ h => h) (Or.inl ⟨by rfl, ?_⟩) ?_ ?_
       rotate_left;·(intro w';go_simp;with_reducible rfl)
       rotate_left;·(simp only [Act.put, zp1, zp2, zp3, Zg, Zf];rfl)
       refine pure_ (i := 10) (N := some 46) (v := ?_) (a' := ?_) #[true, true, false, true, false, false, true, false, false, true, true, false, false, false, false, false, false, false, false, false, false, false, false, false, false, false, false, false] rfl rfl (Zm HT_.out (by kernel_rfl)) (fun _ _ _ h => h) (Or.inl ⟨by rfl, ?_⟩) ?_ ?_
       rotate_left;·(intro w';go_simp;with_reducible rfl)
       rotate_left;·(simp only [Act.put, zp1, zp2, zp3, Zg, Zf];rfl)
       refine pure_ (i := 12) (N := some 48) (v := ?_) (a' := ?_) #[true, true, false, true, false, false, true, false, false, true, true, false, true, false, false, false, false, false, false, false, false, false, false, false, false, false, false, false] rfl rfl (Zm HT_.out (by kernel_rfl)) (fun _ _ _ h => h) (Or.inl ⟨by rfl, ?_⟩) ?_ ?_
       rotate_left;·(intro w';go_simp;with_reducible rfl)
       rotate_left;·(simp only [Act.put, zp1, zp2, zp3, Zg, Zf];rfl)
       refine pure_ (i := 15) (N := some 51) (v := ?_) (a' := ?_) #[true, true, false, true, false, false, true, false, false, true, true, false, true, false, false, true, false, false, false, false, false, false, false, false, false, false, false, false] rfl rfl (Zm HT_.out (by kernel_rfl)) (fun _ _ _ h => h) (Or.inl ⟨by rfl, ?_⟩) ?_ ?_
       rotate_left;·(intro w';go_simp;with_reducible rfl)
       rotate_left;·(simp only [Act.put, zp1, zp2, zp3, Zg, Zf];rfl)
       refine take_ (i := 2) (N := some 38) (v := ?_) (a' := ?_) #[true, true, true, true, false, false, true, false, false, true, true, false, true, false, false, true, false, false, false, false, false, false, false, false, false, false, false, false] rfl rfl (Zi1 HT_.out HW_.out (by kernel_rfl)) (fun _ _ _ h => h) (Or.inl ⟨by rfl, ?_⟩) hHeld ?_ ?_
       rotate_left
       ·rintro w' ⟨s0, s1, s2, s3, s4, s5, s6, s7, s8, s9, s10⟩
        go_simp
        with_reducible rfl
       rotate_left
       ·simp only [Act.put, zp1, zp2, zp3, Zg, Zf]
        rfl
       refine pure_ (i := 4) (N := some 40) (v := ?_) (a' := ?_) #[true, true, true, true, true, false, true, false, false, true, true, false, true, false, false, true, false, false, false, false, false, false, false, false, false, false, false, false] rfl rfl (Zm HT_.out (by kernel_rfl)) (fun _ _ _ h => h) (Or.inl ⟨by rfl, ?_⟩) ?_ ?_
       rotate_left;·(intro w';go_simp;with_reducible rfl)
       rotate_left;·(simp only [Act.put, zp1, zp2, zp3, Zg, Zf];rfl)
       refine take_ (i := 5) (N := some 41) (v := ?_) (a' := ?_) #[true, true, true, true, true, true, true, false, false, true, true, false, true, false, false, true, false, false, false, false, false, false, false, false, false, false, false, false] rfl rfl (Zi1 HT_.out HW_.out (by kernel_rfl)) (fun _ _ _ h => h) (Or.inl ⟨by rfl, ?_⟩) hHeld ?_ ?_
       rotate_left
       ·rintro w' ⟨s0, s1, s2, s3, s4, s5, s6, s7, s8, s9, s10⟩
        go_simp
        with_reducible rfl
       rotate_left
       ·simp only [Act.put, zp1, zp2, zp3, Zg, Zf]
        rfl
       refine pure_ (i := 7) (N := some 43) (v := ?_) (a' := ?_) #[true, true, true, true, true, true, true, true, false, true, true, false, true, false, false, true, false, false, false, false, false, false, false, false, false, false, false, false] rfl rfl (Zm HT_.out (by kernel_rfl)) (fun _ _ _ h => h) (Or.inl ⟨by rfl, ?_⟩) ?_ ?_
       rotate_left;·(intro w';go_simp;with_reducible rfl)
       rotate_left;·(simp only [Act.put, zp1, zp2, zp3, Zg, Zf];rfl)
       refine take_ (i := 8) (N := some 44) (v := ?_) (a' := ?_) #[true, true, true, true, true, true, true, true, true, true, true, false, true, false, false, true, false, false, false, false, false, false, false, false, false, false, false, false] rfl rfl (Zi1 HT_.out HW_.out (by kernel_rfl)) (fun _ _ _ h => h) (Or.inl ⟨by rfl, ?_⟩) hHeld ?_ ?_
       rotate_left
       ·rintro w' ⟨s0, s1, s2, s3, s4, s5, s6, s7, s8, s9, s10⟩
        go_simp
        with_reducible rfl
       rotate_left
       ·simp only [Act.put, zp1, zp2, zp3, Zg, Zf]
        rfl
       refine take_ (i := 11) (N := some 47) (v := ?_) (a' := ?_) #[true, true, true, true, true, true, true, true, true, true, true, true, true, false, false, true, false, false, false, false, false, false, false, false, false, false, false, false] rfl rfl (Zi1 HT_.out HW_.out (by kernel_rfl)) (fun _ _ _ h => h) (Or.inl ⟨by rfl, ?_⟩) hHeld ?_ ?_
       rotate_left
       ·rintro w' ⟨s0, s1, s2, s3, s4, s5, s6, s7, s8, s9, s10⟩
        go_simp
        with_reducible rfl
       rotate_left
       ·simp only [Act.put, zp1, zp2, zp3, Zg, Zf]
        rfl
       refine pure_ (i := 13) (N := some 49) (v := ?_) (a' := ?_) #[true, true, true, true, true, true, true, true, true, true, true, true, true, true, false, true, false, false, false, false, false, false, false, false, false, false, false, false] rfl rfl (Zm HT_.out (by kernel_rfl)) (fun _ _ _ h => h) (Or.inl ⟨by rfl, ?_⟩) ?_ ?_
       rotate_left;·(intro w';go_simp;with_reducible rfl)
       rotate_left;·(simp only [Act.put, zp1, zp2, zp3, Zg, Zf];rfl)
       refine take_ (i := 14) (N := some 50) (v := ?_) (a' := ?_) #[true, true, true, true, true, true, true, true, true, true, true, true, true, true, true, true, false, false, false, false, false, false, false, false, false, false, false, false] rfl rfl (Zi1 HT_.out HW_.out (by kernel_rfl)) (fun _ _ _ h => h) (Or.inl ⟨by rfl, ?_⟩) hHeld ?_ ?_
       rotate_left
       ·rintro w' ⟨s0, s1, s2, s3, s4, s5, s6, s7, s8, s9, s10⟩
        go_simp
        with_reducible rfl
       rotate_left
       ·simp only [Act.put, zp1, zp2, zp3, Zg, Zf]
        rfl
       refine pure_ (i := 16) (N := some 52) (v := ?_) (a' := ?_) #[true, true, true, true, true, true, true, true, true, true, true, true, true, true, true, true, true, false, false, false, false, false, false, false, false, false, false, false] rfl rfl (Zm HT_.out (by kernel_rfl)) (fun _ _ _ h => h) (Or.inl ⟨by rfl, ?_⟩) ?_ ?_
       rotate_left;·(intro w';go_simp;with_reducible rfl)
       rotate_left;·(simp only [Act.put, zp1, zp2, zp3, Zg, Zf];rfl)
       refine take_ (i := 17) (N := some 53) (v := ?_) (a' := ?_) #[true, true, true, true, true, true, true, true, true, true, true, true, true, true, true, true, true, true, false, false, false, false, false, false, false, false, false, false] rfl rfl (Zi1 HT_.out HW_.out (by kernel_rfl)) (fun _ _ _ h => h) (Or.inl ⟨by rfl, ?_⟩) hHeld ?_ ?_
       rotate_left
       ·rintro w' ⟨s0, s1, s2, s3, s4, s5, s6, s7, s8, s9, s10⟩
        go_simp
        with_reducible rfl
       rotate_left
       ·simp only [Act.put, zp1, zp2, zp3, Zg, Zf]
        rfl
       refine pure_ (i := 18) (N := some 54) (v := ?_) (a' := ?_) #[true, true, true, true, true, true, true, true, true, true, true, true, true, true, true, true, true, true, true, false, false, false, false, false, false, false, false, false] rfl rfl (Zm HT_.out (by kernel_rfl)) (fun _ _ _ h => h) (Or.inl ⟨by rfl, ?_⟩) ?_ ?_
       rotate_left;·(intro w';go_simp;with_reducible rfl)
       rotate_left;·(simp only [Act.put, zp1, zp2, zp3, Zg, Zf];rfl)
       refine take_ (i := 19) (N := some 55) (v := ?_) (a' := ?_) #[true, true, true, true, true, true, true, true, true, true, true, true, true, true, true, true, true, true, true, true, false, false, false, false, false, false, false, false] rfl rfl (Zi1 HT_.out HW_.out (by kernel_rfl)) (fun _ _ _ h => h) (Or.inl ⟨by rfl, ?_⟩) hHeld ?_ ?_
       rotate_left
       ·rintro w' ⟨s0, s1, s2, s3, s4, s5, s6, s7, s8, s9, s10⟩
        go_simp
        with_reducible rfl
       rotate_left
       ·simp only [Act.put, zp1, zp2, zp3, Zg, Zf]
        rfl
       refine pure_ (i := 20) (N := some 56) (v := ?_) (a' := ?_) #[true, true, true, true, true, true, true, true, true, true, true, true, true, true, true, true, true, true, true, true, true, false, false, false, false, false, false, false] rfl rfl (Zm HT_.out (by kernel_rfl)) (fun _ _ _ h => h) (Or.inl ⟨by rfl, ?_⟩) ?_ ?_
       rotate_left;·(intro w';go_simp;with_reducible rfl)
       rotate_left;·(simp only [Act.put, zp1, zp2, zp3, Zg, Zf];rfl)
       refine pure_ (i := 21) (N := some 57) (v := ?_) (a' := ?_) #[true, true, true, true, true, true, true, true, true, true, true, true, true, true, true, true, true, true, true, true, true, true, false, false, false, false, false, false] rfl rfl (Zm HT_.out (by kernel_rfl)) (fun _ _ _ h => h) (Or.inl ⟨by rfl, ?_⟩) ?_ ?_
       rotate_left;·(intro w';go_simp;with_reducible rfl)
       rotate_left;·(simp only [Act.put, zp1, zp2, zp3, Zg, Zf];rfl)
       refine pure_ (i := 22) (N := some 58) (v := ?_) (a' := ?_) #[true, true, true, true, true, true, true, true, true, true, true, true, true, true, true, true, true, true, true, true, true, true, true, false, false, false, false, false] rfl rfl (Zm HT_.out (by kernel_rfl)) (fun _ _ _ h => h) (Or.inl ⟨by rfl, ?_⟩) ?_ ?_
       rotate_left;·(intro w';go_simp;with_reducible rfl)
       rotate_left;·(simp only [Act.put, zp1, zp2, zp3, Zg, Zf];rfl)
       refine pure_ (i := 23) (N := some 59) (v := ?_) (a' := ?_) #[true, true, true, true, true, true, true, true, true, true, true, true, true, true, true, true, true, true, true, true, true, true, true, true, false, false, false, false] rfl rfl (Zm HT_.out (by kernel_rfl)) (fun _ _ _ h => h) (Or.inl ⟨by rfl, ?_⟩) ?_ ?_
       rotate_left;·(intro w';go_simp;with_reducible rfl)
       rotate_left;·(simp only [Act.put, zp1, zp2, zp3, Zg, Zf];rfl)
       refine take_ (i := 24) (N := some 60) (v := ?_) (a' := ?_) #[true, true, true, true, true, true, true, true, true, true, true, true, true, true, true, true, true, true, true, true, true, true, true, true, true, false, false, false] rfl rfl (Zi1 HT_.out HW_.out (by kernel_rfl)) (fun _ _ _ h => h) (Or.inl ⟨by rfl, ?_⟩) hHeld ?_ ?_
       rotate_left
       ·rintro w' ⟨s0, s1, s2, s3, s4, s5, s6, s7, s8, s9, s10⟩
        go_simp
        with_reducible rfl
       rotate_left
       ·simp only [Act.put, zp1, zp2, zp3, Zg, Zf]
        rfl
       refine pure_ (i := 25) (N := some 61) (v := ?_) (a' := ?_) #[true, true, true, true, true, true, true, true, true, true, true, true, true, true, true, true, true, true, true, true, true, true, true, true, true, true, false, false] rfl rfl (Zm HT_.out (by kernel_rfl)) (fun _ _ _ h => h) (Or.inl ⟨by rfl, ?_⟩) ?_ ?_
       rotate_left;·(intro w';go_simp;with_reducible rfl)
       rotate_left;·(simp only [Act.put, zp1, zp2, zp3, Zg, Zf];rfl)
       refine pure_ (i := 26) (N := some 62) (v := ?_) (a' := ?_) #[true, true, true, true, true, true, true, true, true, true, true, true, true, true, true, true, true, true, true, true, true, true, true, true, true, true, true, false] rfl rfl (Zm HT_.out (by kernel_rfl)) (fun _ _ _ h => h) (Or.inl ⟨by rfl, ?_⟩) ?_ ?_
       rotate_left;·(intro w';go_simp;with_reducible rfl)
       rotate_left;·(simp only [Act.put, zp1, zp2, zp3, Zg, Zf];rfl)
       refine last_ (i := 27) (N := none) #[true, true, true, true, true, true, true, true, true, true, true, true, true, true, true, true, true, true, true, true, true, true, true, true, true, true, true, true] rfl rfl (one_of HT_.out (by kernel_rfl)) (by decide) (fun K hK => ?_)
       refine skip_ (w1 := ?_) (by rfl) rfl ?_ ?_
       rotate_left
       ·go_simp
        rfl
       refine hK.out _ _ ?_
       clear hK K
       refine done_ (done_of HT_.out (by kernel_rfl)) ?_
       try go_wp2
       (try simp only [← hl5_3])
       go_roundg k3
       case measure => have := HK1.out; have := HK2.out; have := HK3.out; omega
       case rel => exact ⟨(y165), (wrap64 (x8_3 + 1)), (by first | rfl | (simp; done) | (simp [*]; done)), H', ⟨by have := HK1.out; have := HK2.out; have := HK3.out; omega⟩, ⟨by (try simp only [hl5_1]); (try simp only [hl5_2]); (try simp only [hl5_3]); (with_reducible repeat (first | apply Kd.R_alloc | apply Kd.R_drewN | apply Kd.R_drew)); exact HQ36.out⟩, ⟨by (try simp only [hl5_1]); (try simp only [hl5_2]); (try simp only [hl5_3]); (with_reducible repeat (first | refine Zo ?_ _ | refine Zj ?_ | refine Zn ?_ _)); refine Zu ?_ (by have h_ := Kd.R_ne HO_5.out BK153.out (by decide); intro e_; exact h_ (by rw [e_]; rfl)) _; (with_reducible repeat (first | apply zb3 | apply zb2 | apply zb1)); exact BK153.out⟩, ⟨by repeat (first | (with_reducible first | exact HB.out | apply below_alloc | apply pw_below_drewN | apply below_drew1 | refine below_set ?_ GB7.out | refine below_set ?_ GE153.out) | exact HB.out)⟩⟩
end Go.Proofs.Ytofdaiknpficfaa.PKindsStills
