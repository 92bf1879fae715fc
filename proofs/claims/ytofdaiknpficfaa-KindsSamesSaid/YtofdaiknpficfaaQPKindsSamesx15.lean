-- Printed by a turn of a template of the kit, and shortened: remarks and what nothing here uses are left out.
import Derived.Test.YtofdaiknpficfaaQPKindsSamesx0
import Derived.Test.YtofdaiknpficfaaQPKindsSamesx14
namespace Go.Proofs.Ytofdaiknpficfaa.PKindsSames
open Go.RowKit Go.Proofs.YtofdaiknpficfaaW.PrintWords Go.Proofs.YtofdaiknpficfaaW.PrintLast Go.Proofs.YtofdaiknpficfaaW.PrintMore
attribute [local go_sem] max2_int min2_int max_two min_two max_three min_three max_four min_four
set_option linter.unusedVariables false
set_option linter.unusedSimpArgs false
mutual
def Zm.l0 : Nat → List Int → List Bool → Int → Int → Int → List (List Int) → Int → Int → Option (List Int)
  | 0, _, _, _, _, _, _, _, _ => none
  | k + 1, x1, x5, x6, x312000, x312001, x312002, x312003, x312004 => if x6 < x312000 then (Zm.l1 k x1 x5 x6 0 x312000 x312001 x312002 x312003 x312004) else (Zm.l3 k x1 x5 ([] : List Int) 0 x312000 x312001 x312002 x312003 x312004)
def Zm.l1 : Nat → List Int → List Bool → Int → Int → Int → Int → List (List Int) → Int → Int → Option (List Int)
  | 0, _, _, _, _, _, _, _, _, _ => none
  | k + 1, x1, x5, x6, x7, x312000, x312001, x312002, x312003, x312004 => if x7 < x312000 then (Zm.l2 k x1 x5 x6 x7 0 x312000 x312001 x312002 x312003 x312004) else (Zm.l0 k x1 x5 (wrap64 (x6 + 1)) x312000 x312001 x312002 x312003 x312004)
def Zm.l2 : Nat → List Int → List Bool → Int → Int → Int → Int → Int → List (List Int) → Int → Int → Option (List Int)
  | 0, _, _, _, _, _, _, _, _, _, _ => none
  | k + 1, x1, x5, x6, x7, x8, x312000, x312001, x312002, x312003, x312004 => if x8 < x312001 then (if 0 ≤ x7 then (if x7 < (x312002.length : Int) then (if 0 ≤ x8 then (if x8 < ((Zd x312002 x7).length : Int) then (if 0 ≤ (rd (Zd x312002 x7) x8) then (if (rd (Zd x312002 x7) x8) < (x5.length : Int) then (if rdOf false x5 (rd (Zd x312002 x7) x8) = true then (Zm.l2 k x1 (x5.set ((rd (Zd x312002 x7) x8) : Int).toNat true) x6 x7 (wrap64 (x8 + 1)) x312000 x312001 x312002 x312003 x312004) else (if x7 < (x5.length : Int) then (Zm.l2 k x1 (x5.set ((rd (Zd x312002 x7) x8) : Int).toNat (rdOf false x5 x7)) x6 x7 (wrap64 (x8 + 1)) x312000 x312001 x312002 x312003 x312004) else (none))) else (none)) else (none)) else (none)) else (none)) else (none)) else (none)) else (Zm.l1 k x1 x5 x6 (wrap64 (x7 + 1)) x312000 x312001 x312002 x312003 x312004)
def Zm.l3 : Nat → List Int → List Bool → List Int → Int → Int → Int → List (List Int) → Int → Int → Option (List Int)
  | 0, _, _, _, _, _, _, _, _, _ => none
  | k + 1, x1, x5, x9, x10, x312000, x312001, x312002, x312003, x312004 => if x10 < x312000 then (if 0 ≤ x10 then (if x10 < (x5.length : Int) then (if rdOf false x5 x10 = true then ((Zj1.f k x312000 x312001 x312002 x312003 x312004 x10 x1).bind fun t325 => ((Zf1.f k x312000 x312001 x312002 x312003 x312004 t325).bind fun t326 => (if x9.length < 17592186044416 then (Zm.l3 k x1 x5 (x9 ++ [t326]) (wrap64 (x10 + 1)) x312000 x312001 x312002 x312003 x312004) else (none)))) else (if x9.length < 17592186044416 then (Zm.l3 k x1 x5 (x9 ++ [(-1)]) (wrap64 (x10 + 1)) x312000 x312001 x312002 x312003 x312004) else (none))) else (none)) else (none)) else (some x9)
end
def Zm.f (k : Nat) (a0_0 : Int) (a0_1 : Int) (l0_2 : List (List Int)) (a0_3 : Int) (a0_4 : Int) (l1 : List Int) : Option (List Int) := if 0 ≤ a0_0 then (if (a0_0 : Int).toNat ≤ 281474976710656 then ((some (List.replicate (a0_0 : Int).toNat false : List Bool)).bind fun y312 => (if 0 ≤ a0_3 then (if a0_3 < (y312.length : Int) then (Zm.l0 k l1 (y312.set (a0_3 : Int).toNat true) 0 a0_0 a0_1 l0_2 a0_3 a0_4) else (none)) else (none))) else (none)) else (none)
theorem Zm.mono_l : ∀ k, (∀ y0 y1 y2 y3 y4 y5 y6 y7, LeO (Zm.l0 k y0 y1 y2 y3 y4 y5 y6 y7) (Zm.l0 (k + 1) y0 y1 y2 y3 y4 y5 y6 y7)) ∧ (∀ y0 y1 y2 y3 y4 y5 y6 y7 y8, LeO (Zm.l1 k y0 y1 y2 y3 y4 y5 y6 y7 y8) (Zm.l1 (k + 1) y0 y1 y2 y3 y4 y5 y6 y7 y8)) ∧ (∀ y0 y1 y2 y3 y4 y5 y6 y7 y8 y9, LeO (Zm.l2 k y0 y1 y2 y3 y4 y5 y6 y7 y8 y9) (Zm.l2 (k + 1) y0 y1 y2 y3 y4 y5 y6 y7 y8 y9)) ∧ (∀ y0 y1 y2 y3 y4 y5 y6 y7 y8, LeO (Zm.l3 k y0 y1 y2 y3 y4 y5 y6 y7 y8) (Zm.l3 (k + 1) y0 y1 y2 y3 y4 y5 y6 y7 y8))
  | 0 => ⟨fun _ _ _ _ _ _ _ _ r h => by simp [Zm.l0] at h, fun _ _ _ _ _ _ _ _ _ r h => by simp [Zm.l1] at h, fun _ _ _ _ _ _ _ _ _ _ r h => by simp [Zm.l2] at h, fun _ _ _ _ _ _ _ _ _ r h => by simp [Zm.l3] at h⟩
  | k + 1 => by
    obtain ⟨ih0, ih1, ih2, ih3⟩ := Zm.mono_l k
    refine ⟨?_, ?_, ?_, ?_⟩
    · intro y0 y1 y2 y3 y4 y5 y6 y7
      unfold Zm.l0
      repeat' first
      | (with_reducible exact ih0 _ _ _ _ _ _ _ _)
      | (with_reducible exact ih1 _ _ _ _ _ _ _ _ _)
      | (with_reducible exact ih2 _ _ _ _ _ _ _ _ _ _)
      | (with_reducible exact ih3 _ _ _ _ _ _ _ _ _)
      | (with_reducible exact Zj1.mono _ _ _ _ _ _ _ _)
      | (with_reducible exact Zf1.mono _ _ _ _ _ _ _)
      | (with_reducible exact LeO.refl _)
      | (with_reducible exact LeO.none _)
      | (with_reducible refine LeO.ite ?_ ?_)
      | (with_reducible refine LeO.bind ?_ (fun _ => ?_))
      | exact ih0 _ _ _ _ _ _ _ _
      | exact ih1 _ _ _ _ _ _ _ _ _
      | exact ih2 _ _ _ _ _ _ _ _ _ _
      | exact ih3 _ _ _ _ _ _ _ _ _
      | exact Zj1.mono _ _ _ _ _ _ _ _
      | exact Zf1.mono _ _ _ _ _ _ _
      | exact LeO.none _
      | refine LeO.ite ?_ ?_
      | refine LeO.bind ?_ (fun _ => ?_)
    · intro y0 y1 y2 y3 y4 y5 y6 y7 y8
      unfold Zm.l1
      repeat' first
      | (with_reducible exact ih0 _ _ _ _ _ _ _ _)
      | (with_reducible exact ih1 _ _ _ _ _ _ _ _ _)
      | (with_reducible exact ih2 _ _ _ _ _ _ _ _ _ _)
      | (with_reducible exact ih3 _ _ _ _ _ _ _ _ _)
      | (with_reducible exact Zj1.mono _ _ _ _ _ _ _ _)
      | (with_reducible exact Zf1.mono _ _ _ _ _ _ _)
      | (with_reducible exact LeO.refl _)
      | (with_reducible exact LeO.none _)
      | (with_reducible refine LeO.ite ?_ ?_)
      | (with_reducible refine LeO.bind ?_ (fun _ => ?_))
      | exact ih0 _ _ _ _ _ _ _ _
      | exact ih1 _ _ _ _ _ _ _ _ _
      | exact ih2 _ _ _ _ _ _ _ _ _ _
      | exact ih3 _ _ _ _ _ _ _ _ _
      | exact Zj1.mono _ _ _ _ _ _ _ _
      | exact Zf1.mono _ _ _ _ _ _ _
      | exact LeO.none _
      | refine LeO.ite ?_ ?_
      | refine LeO.bind ?_ (fun _ => ?_)
    · intro y0 y1 y2 y3 y4 y5 y6 y7 y8 y9
      unfold Zm.l2
      repeat' first
      | (with_reducible exact ih0 _ _ _ _ _ _ _ _)
      | (with_reducible exact ih1 _ _ _ _ _ _ _ _ _)
      | (with_reducible exact ih2 _ _ _ _ _ _ _ _ _ _)
      | (with_reducible exact ih3 _ _ _ _ _ _ _ _ _)
      | (with_reducible exact Zj1.mono _ _ _ _ _ _ _ _)
      | (with_reducible exact Zf1.mono _ _ _ _ _ _ _)
      | (with_reducible exact LeO.refl _)
      | (with_reducible exact LeO.none _)
      | (with_reducible refine LeO.ite ?_ ?_)
      | (with_reducible refine LeO.bind ?_ (fun _ => ?_))
      | exact ih0 _ _ _ _ _ _ _ _
      | exact ih1 _ _ _ _ _ _ _ _ _
      | exact ih2 _ _ _ _ _ _ _ _ _ _
      | exact ih3 _ _ _ _ _ _ _ _ _
      | exact Zj1.mono _ _ _ _ _ _ _ _
      | exact Zf1.mono _ _ _ _ _ _ _
      | exact LeO.none _
      | refine LeO.ite ?_ ?_
      | refine LeO.bind ?_ (fun _ => ?_)
    · intro y0 y1 y2 y3 y4 y5 y6 y7 y8
      unfold Zm.l3
      repeat' first
      | (with_reducible exact ih0 _ _ _ _ _ _ _ _)
      | (with_reducible exact ih1 _ _ _ _ _ _ _ _ _)
      | (with_reducible exact ih2 _ _ _ _ _ _ _ _ _ _)
      | (with_reducible exact ih3 _ _ _ _ _ _ _ _ _)
      | (with_reducible exact Zj1.mono _ _ _ _ _ _ _ _)
      | (with_reducible exact Zf1.mono _ _ _ _ _ _ _)
      | (with_reducible exact LeO.refl _)
      | (with_reducible exact LeO.none _)
      | (with_reducible refine LeO.ite ?_ ?_)
      | (with_reducible refine LeO.bind ?_ (fun _ => ?_))
      | exact ih0 _ _ _ _ _ _ _ _
      | exact ih1 _ _ _ _ _ _ _ _ _
      | exact ih2 _ _ _ _ _ _ _ _ _ _
      | exact ih3 _ _ _ _ _ _ _ _ _
      | exact Zj1.mono _ _ _ _ _ _ _ _
      | exact Zf1.mono _ _ _ _ _ _ _
      | exact LeO.none _
      | refine LeO.ite ?_ ?_
      | refine LeO.bind ?_ (fun _ => ?_)
theorem Zm.mono : ∀ a0 a1 a2 a3 a4 a5 k, LeO (Zm.f k a0 a1 a2 a3 a4 a5) (Zm.f (k + 1) a0 a1 a2 a3 a4 a5) := by
  intro a0 a1 a2 a3 a4 a5 k
  obtain ⟨ih0, ih1, ih2, ih3⟩ := Zm.mono_l k
  unfold Zm.f
  repeat' first
      | (with_reducible exact ih0 _ _ _ _ _ _ _ _)
      | (with_reducible exact ih1 _ _ _ _ _ _ _ _ _)
      | (with_reducible exact ih2 _ _ _ _ _ _ _ _ _ _)
      | (with_reducible exact ih3 _ _ _ _ _ _ _ _ _)
      | (with_reducible exact Zj1.mono _ _ _ _ _ _ _ _)
      | (with_reducible exact Zf1.mono _ _ _ _ _ _ _)
      | (with_reducible exact LeO.refl _)
      | (with_reducible exact LeO.none _)
      | (with_reducible refine LeO.ite ?_ ?_)
      | (with_reducible refine LeO.bind ?_ (fun _ => ?_))
      | exact ih0 _ _ _ _ _ _ _ _
      | exact ih1 _ _ _ _ _ _ _ _ _
      | exact ih2 _ _ _ _ _ _ _ _ _ _
      | exact ih3 _ _ _ _ _ _ _ _ _
      | exact Zj1.mono _ _ _ _ _ _ _ _
      | exact Zf1.mono _ _ _ _ _ _ _
      | exact LeO.none _
      | refine LeO.ite ?_ ?_
      | refine LeO.bind ?_ (fun _ => ?_)
def Zm.T12 : Bool × List (List Nat × List Nat) := (true, [([], []), ([], []), ([1], [1]), ([], []), ([2, 3], [2, 3]), ([4], [4]), ([], []), ([5, 6], [5, 6]), ([7], [7]), ([], []), ([], []), ([10], [10]), ([], []), ([11, 12], [11, 12]), ([13], [13]), ([], []), ([14, 15], [14, 15]), ([16], [16]), ([9, 17], [9, 17]), ([18], [18]), ([19], [19]), ([20], [20]), ([20], [20]), ([21, 22, 20], [20, 21, 22]), ([23, 20], [20, 23]), ([20, 24], [20, 24]), ([0, 8, 0, 1, 2, 3, 4, 5, 6, 7, 8, 9, 10, 11, 12, 13, 14, 15, 16, 17, 18, 19, 20, 21, 22, 23, 24, 25], [0, 8]), ([26, 25, 20, 0, 1, 2, 3, 4, 5, 6, 7, 8, 9, 10, 11, 12, 13, 14, 15, 16, 17, 18, 19, 20, 21, 22, 23, 24, 25], [25, 26])])
def Zm.B12 : List Nat := [0, 0, 2, 0, 14, 30, 0, 126, 254, 0, 0, 1024, 0, 7168, 15360, 0, 64512, 130048, 261632, 523776, 1048064, 2096640, 2096640, 8388096, 16776704, 33553920, 67108863, 134217727]
theorem Zm.tab12 : rtab .any (opsOf Try.f12 12) = Zm.T12 := by kernel_rfl
theorem Zm.bits12 : waitsOk Zm.T12.2 Zm.B12 = true := by kernel_rfl
def Zm.T18 : Bool × List (List Nat × List Nat) := (true, [([], []), ([], []), ([], []), ([], []), ([], []), ([2, 3, 4], [2, 3, 4]), ([1, 5, 5], [1, 5]), ([6], [6]), ([0, 7, 6], [0, 7]), ([8, 8, 0, 1, 2, 3, 4, 5, 6, 7, 8], [0, 8])])
def Zm.B18 : List Nat := [0, 0, 0, 0, 0, 28, 62, 126, 255, 511]
theorem Zm.tab18 : rtab .any (opsOf Try.f12 18) = Zm.T18 := by kernel_rfl
theorem Zm.bits18 : waitsOk Zm.T18.2 Zm.B18 = true := by kernel_rfl
set_option maxHeartbeats 8000000 in
set_option maxRecDepth 100000 in
theorem Zm.calls (k : Nat) (a0_0 : Int) (a0_1 : Int) (A0_2 : Option Addr) (c0_2 : Nat) (l0_2 : List (List Int)) (a0_3 : Int) (a0_4 : Int) (A1 : Option Addr) (c1 : Nat) (l1 : List Int) (r : List Int) (w : World) (hr0_2 : Kd.C (Kd.slice 3 (Kd.int .i64)) w A0_2 l0_2.length l0_2) (hc0_2 : l0_2.length ≤ c0_2) (hr1 : Kd.C (Kd.int .i64) w A1 l1.length l1) (hc1 : l1.length ≤ c1) (h : Zm.f k a0_0 a0_1 l0_2 a0_3 a0_4 l1 = some r) :
    Calls Try.prog 12 #[.agg #[.int .i64 a0_0, .int .i64 a0_1, .slice A0_2 l0_2.length c0_2, .int .i64 a0_3, .int .u32 a0_4], .slice A1 l1.length c1] w fun e w' => ∃ v0_ : Value, e = .returned (v0_) ∧ Kd.R (Kd.int .i64) 3 w' w.heap.size (fun _ => True) v0_ r ∧ Below w.heap.size w w' := by
 (have hu25 := Try.underlying25); (have hu3 := Try.underlying3); (have HR0_2 := Za.mk hr0_2); (have HC0_2 := Za.mk hc0_2); (clear hr0_2 hc0_2); (have HR1 := Za.mk hr1); (have HC1 := Za.mk hc1); (clear hr1 hc1); (have HB := Za.mk (Below.refl w.heap.size w)); (have H : (if 0 ≤ a0_0 then (if (a0_0 : Int).toNat ≤ 281474976710656 then ((some (List.replicate (a0_0 : Int).toNat false : List Bool)).bind fun y312 => (if 0 ≤ a0_3 then (if a0_3 < (y312.length : Int) then (Zm.l0 k l1 (y312.set (a0_3 : Int).toNat true) 0 a0_0 a0_1 l0_2 a0_3 a0_4) else (none)) else (none))) else (none)) else (none)) = some r := h); (clear h)
 by_cases c3 : 0 ≤ a0_0
 rotate_left
 ·rw [if_neg c3] at H
  exact absurd H (by simp)
 (rw [if_pos c3] at H); (have c3b0 := eq_true c3); (have c3b1 : decide (0 ≤ a0_0) = true := decide_eq_true c3); (clear c3)
 by_cases c4 : (a0_0 : Int).toNat ≤ 281474976710656
 rotate_left
 ·rw [if_neg c4] at H
  exact absurd H (by simp)
 (rw [if_pos c4] at H); (have c4b0 := eq_true c4); (have c4b1 : decide ((a0_0 : Int).toNat ≤ 281474976710656) = true := decide_eq_true c4); (clear c4); (obtain ⟨y312, hy312⟩ : ∃ y_ : List Bool, y_ = (List.replicate (a0_0 : Int).toNat false) := ⟨_, rfl⟩); (replace H : (if 0 ≤ a0_3 then (if a0_3 < (y312.length : Int) then (Zm.l0 k l1 (y312.set (a0_3 : Int).toNat true) 0 a0_0 a0_1 l0_2 a0_3 a0_4) else (none)) else (none)) = some r := by first | (rw [hy312]; with_reducible exact H) | (have H2_ := (Option.bind_some _ _).symm.trans H; rw [hy312]; with_reducible exact H2_) | (have H2_ := (Option.bind_some _ _).symm.trans H; with_reducible exact H2_) | with_reducible exact H | (rw [hy312]; exact H) | exact H); (have Ny312 := Za.mk hy312); (clear hy312)
 by_cases c5 : 0 ≤ a0_3
 rotate_left
 ·rw [if_neg c5] at H
  exact absurd H (by simp)
 (rw [if_pos c5] at H); (have c5b0 : decide (0 ≤ a0_3) = true := decide_eq_true c5); (clear c5)
 by_cases c6 : a0_3 < (y312.length : Int)
 rotate_left
 ·rw [if_neg c6] at H
  exact absurd H (by simp)
 (rw [if_pos c6] at H); (have c6b0 : decide (a0_3 < (y312.length : Int)) = true := decide_eq_true c6); (clear c6); (obtain ⟨y315, hy315⟩ : ∃ y_ : List Bool, y_ = (y312.set (a0_3 : Int).toNat true) := ⟨_, rfl⟩); (replace H : (Zm.l0 k l1 y315 0 a0_0 a0_1 l0_2 a0_3 a0_4) = some r := by first | (rw [hy315]; with_reducible exact H) | (have H2_ := (Option.bind_some _ _).symm.trans H; rw [hy315]; with_reducible exact H2_) | (have H2_ := (Option.bind_some _ _).symm.trans H; with_reducible exact H2_) | with_reducible exact H | (rw [hy315]; exact H) | exact H); (have Ny315 := Za.mk hy315); (clear hy315); (have H' := Za.mk H); (clear H)
 go_enter Try.func12, Try.ntmps12
 go_wp2_with (first | ((with_reducible refine Zb1 (N := 2) rfl ?_); refine Zi1 ?hg (N := 2) ?hd (cs := #[.int .i64 a0_0, .int .i64 a0_1, .slice A0_2 l0_2.length c0_2, .int .i64 a0_3, .int .u32 a0_4]) (t := 25) ?hr ?_; (case hd => rfl); (case hg => rfl); (case hr => first | (go_simp; done) | (go_simp; rfl)); intro gb311 hg w8 hbox hb; have BK311 := Za.mk (hbox); have GW311 := Za.mk ((by rw [hg]; exact (Zl (by repeat (first | (with_reducible first | exact HB.out | apply zc1 | apply zc2 | apply zc3) | exact HB.out))) : w.heap.size ≤ gb311)); have GE311 := Za.mk ((by rw [hg]; exact (Zl (by repeat (first | (with_reducible first | exact HB.out | apply zc1 | apply zc2 | apply zc3) | exact HB.out))) : w.heap.size ≤ gb311)); replace HB := Za.mk (Zo (by repeat (first | (with_reducible first | exact HB.out | apply zc1 | apply zc2 | apply zc3) | exact HB.out)) hb); clear hb hbox hg; have hcz9_0 : w8.cell? ⟨gb311, 0, none⟩ = some (.int .i64 a0_0) := (Zb BK311.out 0).trans rfl; have hcz9_1 : w8.cell? ⟨gb311, 1, none⟩ = some (.int .i64 a0_1) := (Zb BK311.out 1).trans rfl; have hcz9_2 : w8.cell? ⟨gb311, 2, none⟩ = some (.slice A0_2 l0_2.length c0_2) := (Zb BK311.out 2).trans rfl; have hcz9_3 : w8.cell? ⟨gb311, 3, none⟩ = some (.int .i64 a0_3) := (Zb BK311.out 3).trans rfl; have hcz9_4 : w8.cell? ⟨gb311, 4, none⟩ = some (.int .u32 a0_4) := (Zb BK311.out 4).trans rfl; have hfz9_0 := Zc BK311.out 0; have hfz9_1 := Zc BK311.out 1; have hfz9_2 := Zc BK311.out 2; have hfz9_3 := Zc BK311.out 3; have hfz9_4 := Zc BK311.out 4) | ((with_reducible refine Zb1 (N := 13) rfl ?_); refine Kd.R_make Kd.bool _ 4 rfl (N := 13) rfl 52 _ _ rfl a0_0 rfl rfl Try.underlying52 (.bool false) 1 info4 rfl (by decide) (by omega) false (ok := fun _ => True) (okp := fun _ => True) rfl (fun _ hk => hk) trivial (of_decide_eq_true (by assumption)) (Nat.le_trans (Nat.mul_le_mul_right _ (of_decide_eq_true (by assumption) : a0_0.toNat ≤ 281474976710656)) (by omega)) (Below.refl _ _) (Nat.le_refl _) ?_; intro v313 w10 ho11 hb hg_ hnew_; clear hg_ hnew_; (first | rw [← Ny312.out] at ho11 | (simp only [Int.reduceToNat] at ho11; rw [← Ny312.out] at ho11)); have HO314 := Za.mk (Kd.R_lower ho11 (Zl (by repeat (first | (with_reducible first | exact HB.out | apply zc1 | apply zc2 | apply zc3 | refine zc4 ?_ (by assumption)) | exact HB.out)))); replace BK311 := Za.mk (Zn (g := gb311) (by (with_reducible repeat (first | apply zb3 | apply zb2 | apply zb1)); exact BK311.out) hb); replace HB := Za.mk (Zo (by repeat (first | (with_reducible first | exact HB.out | apply zc1 | apply zc2 | apply zc3 | refine zc4 ?_ (by assumption)) | exact HB.out)) hb); clear hb ho11; have hcz12_0 : w10.cell? ⟨gb311, 0, none⟩ = some (.int .i64 a0_0) := (Zb BK311.out 0).trans rfl; have hcz12_1 : w10.cell? ⟨gb311, 1, none⟩ = some (.int .i64 a0_1) := (Zb BK311.out 1).trans rfl; have hcz12_2 : w10.cell? ⟨gb311, 2, none⟩ = some (.slice A0_2 l0_2.length c0_2) := (Zb BK311.out 2).trans rfl; have hcz12_3 : w10.cell? ⟨gb311, 3, none⟩ = some (.int .i64 a0_3) := (Zb BK311.out 3).trans rfl; have hcz12_4 : w10.cell? ⟨gb311, 4, none⟩ = some (.int .u32 a0_4) := (Zb BK311.out 4).trans rfl; have hfz12_0 := Zc BK311.out 0; have hfz12_1 := Zc BK311.out 1; have hfz12_2 := Zc BK311.out 2; have hfz12_3 := Zc BK311.out 3; have hfz12_4 := Zc BK311.out 4; have p7 : 0 ≤ (a0_3 : Int) := of_decide_eq_true (by assumption); have q7 : (a0_3 : Int) < ((y312.length : Int) : Int) := of_decide_eq_true (by assumption); obtain ⟨go7, co7, eo7, gb7, gl7, cl7, HG7⟩ := Kd.R_form HO314.out (by omega); (first | cases eo7 | (injection eo7 with ea_ en_ ec_; (first | subst ea_ | (injection ea_ with ea_; subst ea_)); subst ec_; clear en_)); have GB7 := Za.mk gb7; have GG7 := Za.mk HG7; clear gb7 gl7 HG7; obtain ⟨hx7_0, hf7_0⟩ := Kd.R_celln false HO314.out (a0_3 : Int) p7 q7; replace p7 := eq_true p7; replace q7 := eq_true q7; obtain ⟨hy13_, hz13_⟩ := Kd.R_celln false HO314.out (a0_3 : Int) (of_decide_eq_true (by assumption)) (of_decide_eq_true (by assumption)); have HP13 := Kd.R_putg HO314.out (a0_3 : Int) true) | ((with_reducible refine gate_store (t := 4) (p := 17) rfl ?_); refine store_event (t := 4) (p := 17) (v := ?vo_w14) (w1 := (w10.setCell ⟨go7, (a0_3 : Int).toNat, none⟩ (.bool true))) ?hg ?ho ?hn ?hr ?_; (case ho => rfl); (case hg => rfl); (case hn => rfl); (case hr => first | (go_simp; done) | (go_simp; rfl)); intro w14 hw; have hg : w10.grownBy w14 (some go7) := (by rw [hw]; exact HP13.2); have hp_ : Kd.R Kd.bool 4 w14 w.heap.size (fun _ => True) (.slice (some ⟨go7, 0, none⟩) y312.length co7) y315 := (by rw [hw, Ny315.out]; exact HP13.1); clear HP13; replace BK311 := Za.mk (Za1 (g := gb311) (by (with_reducible repeat (first | apply zb3 | apply zb2 | apply zb1)); exact BK311.out) hg (Kd.R_ne HO314.out BK311.out (by decide))); replace HO314 := Za.mk (hp_); replace HB := Za.mk ((by rw [hw]; exact below_set (HB.out) GB7.out : Below w.heap.size w w14)); clear hg hw hp_))
 go_loopg [6] k (fun kq v6 w' => ∃ (x5_1 : List Bool) (x6_1 : Int), v6 = .int .i64 x6_1 ∧ Za (Zm.l0 kq l1 x5_1 x6_1 a0_0 a0_1 l0_2 a0_3 a0_4 = some r) ∧ Za (kq ≤ k) ∧ Za (Kd.R Kd.bool 4 w' w.heap.size (fun _ => True) (.slice (some ⟨go7, 0, none⟩) y312.length co7) x5_1) ∧ Za (w'.heap[gb311]? = some (.cells #[.int .i64 a0_0, .int .i64 a0_1, (.slice A0_2 l0_2.length c0_2), .int .i64 a0_3, .int .u32 a0_4] 25 (0, 0))) ∧ Za (Below w.heap.size w w'))
 case atStart => exact ⟨(y315), (0), (by first | rfl | (simp; done) | (simp [*]; done)), H', ⟨Nat.le_refl _⟩, ⟨by (with_reducible repeat (first | apply Kd.R_alloc | apply Kd.R_drewN | apply Kd.R_drew)); exact HO314.out⟩, ⟨by (with_reducible repeat (first | apply zb3 | apply zb2 | apply zb1)); exact BK311.out⟩, ⟨by repeat (first | (with_reducible first | exact HB.out | apply zc1 | apply zc2 | apply zc3 | refine zc4 ?_ (by assumption)) | exact HB.out)⟩⟩
 case round =>
  (clear H'); (try clear c1); (try clear p2); (try clear c3); (try clear c3b0); (try clear c3b1); (try clear c4); (try clear c4b0); (try clear c4b1); (try clear c5); (try clear c5b0); (try clear c6); (try clear c6b0); (try clear p7); (try clear q7); (try clear hx7); (try clear hf7); (try clear c12); (try clear hcz12_0 hcz12_1 hcz12_2 hcz12_3 hcz12_4 hcz9_0 hcz9_1 hcz9_2 hcz9_3 hcz9_4 hfz12_0 hfz12_1 hfz12_2 hfz12_3 hfz12_4 hfz9_0 hfz9_1 hfz9_2 hfz9_3 hfz9_4); (try clear hx7_0); (try clear p7); (try clear q7); (obtain ⟨x5_1, x6_1, rfl, HA, HK1, HO_5, BK311, HB⟩ := hrel); (have hl5_1 := (Kd.R_reads' HO_5.out).1); (rw [hl5_1] at HO_5); ((try simp only [hl5_1])); ((try simp only [hl5_1] at BK311))
  cases gk with
  | zero => exact absurd HA.out (by simp [Zm.l0])
  | succ k1 =>
   (have H := HA.out); (clear HA); (simp only [Zm.l0] at H)
   by_cases c15 : x6_1 < a0_0
   rotate_left
   ·rw [if_neg c15] at H
    (have c15b0 : decide (x6_1 < a0_0) = false := decide_eq_false c15); (clear c15); (have H' := Za.mk H); (clear H); (have hcz39_0 : wr.cell? ⟨gb311, 0, none⟩ = some (.int .i64 a0_0) := (Zb BK311.out 0).trans rfl); (have hcz39_1 : wr.cell? ⟨gb311, 1, none⟩ = some (.int .i64 a0_1) := (Zb BK311.out 1).trans rfl); (have hcz39_2 : wr.cell? ⟨gb311, 2, none⟩ = some (.slice A0_2 l0_2.length c0_2) := (Zb BK311.out 2).trans rfl); (have hcz39_3 : wr.cell? ⟨gb311, 3, none⟩ = some (.int .i64 a0_3) := (Zb BK311.out 3).trans rfl); (have hcz39_4 : wr.cell? ⟨gb311, 4, none⟩ = some (.int .u32 a0_4) := (Zb BK311.out 4).trans rfl); (have hfz39_0 := Zc BK311.out 0); (have hfz39_1 := Zc BK311.out 1); (have hfz39_2 := Zc BK311.out 2); (have hfz39_3 := Zc BK311.out 3); (have hfz39_4 := Zc BK311.out 4)
    go_wp2
    go_loopg [9, 10] k1 (fun kq v9 v10 w' => ∃ (x9_2 : List Int) (x10_2 : Int), v10 = .int .i64 x10_2 ∧ Za (Zm.l3 kq l1 x5_1 x9_2 x10_2 a0_0 a0_1 l0_2 a0_3 a0_4 = some r) ∧ Za (kq ≤ k1) ∧ Za (Kd.R Kd.bool 4 w' w.heap.size (fun _ => True) (.slice (some ⟨go7, 0, none⟩) x5_1.length co7) x5_1) ∧ Za (Kd.R (Kd.int .i64) 3 w' w.heap.size (fun _ => True) v9 x9_2) ∧ Za (w'.heap[gb311]? = some (.cells #[.int .i64 a0_0, .int .i64 a0_1, (.slice A0_2 l0_2.length c0_2), .int .i64 a0_3, .int .u32 a0_4] 25 (0, 0))) ∧ Za (Below w.heap.size w w'))
    case atStart => exact ⟨(([] : List Int)), (0), (by first | rfl | (simp; done) | (simp [*]; done)), H', ⟨Nat.le_refl _⟩, ⟨by (try simp only [hl5_1]); (with_reducible repeat (first | apply Kd.R_alloc | apply Kd.R_drewN | apply Kd.R_drew)); exact HO_5.out⟩, ⟨by (try simp only [hl5_1]); first | exact Kd.R_nil _ _ _ _ _ | exact Kd.N_nil _ _ _ _ _ | exact Kd.V_nil _ _ _ _ _ | exact Kd.Q_nil _ _ _ _ _ | exact Kd.S_nil _ _ _ _ _ | (go_simp; exact Kd.R_nil _ _ _ _ _)⟩, ⟨by (try simp only [hl5_1]); (with_reducible repeat (first | apply zb3 | apply zb2 | apply zb1)); exact BK311.out⟩, ⟨by repeat (first | (with_reducible first | exact HB.out | apply zc1 | apply zc2 | apply zc3 | refine zc4 ?_ (by assumption)) | exact HB.out)⟩⟩
    case round =>
     (clear H'); (try clear c1); (try clear c2); (try clear p2); (try clear q2); (try clear c3); (try clear p3); (try clear q3); (try clear hx3); (try clear hf3); (try clear p6); (try clear c15); (try clear c15b0); (try clear c17); (try clear c17b0); (try clear c19); (try clear c19b0); (try clear c20); (try clear c21); (try clear c22); (try clear c23); (try clear c24); (try clear c25); (try clear q26); (try clear c27); (try clear c31); (try clear p31); (try clear q31); (try clear hx31); (try clear c32); (try clear c32b0); (try clear p32); (try clear q32); (try clear hx32); (try clear p33); (try clear q33); (try clear hx33); (try clear hf33); (try clear hcz34_0 hcz34_1 hcz34_2 hcz34_3 hcz34_4 hcz37_0 hcz37_1 hcz37_2 hcz37_3 hcz37_4 hcz38_0 hcz38_1 hcz38_2 hcz38_3 hcz38_4 hcz39_0 hcz39_1 hcz39_2 hcz39_3 hcz39_4 hfz34_0 hfz34_1 hfz34_2 hfz34_3 hfz34_4 hfz37_0 hfz37_1 hfz37_2 hfz37_3 hfz37_4 hfz38_0 hfz38_1 hfz38_2 hfz38_3 hfz38_4 hfz39_0 hfz39_1 hfz39_2 hfz39_3 hfz39_4); (try clear hx316_0); (try clear hx317_0); (try clear hx318_0); (try clear hx319_0); (try clear hx320_0); (try clear hx322_0); (try clear hx33_0); (try clear p316); (try clear p317); (try clear p318); (try clear p319); (try clear p320); (try clear p322); (try clear p33); (try clear q316); (try clear q317); (try clear q318); (try clear q319); (try clear q320); (try clear q322); (try clear q33); (obtain ⟨x9_2, x10_2, rfl, HA, HK2, HO_5, HO_9, BK311, HB⟩ := hrel)
     cases gk with
     | zero => exact absurd HA.out (by simp [Zm.l3])
     | succ k2 =>
      (have H := HA.out); (clear HA); (simp only [Zm.l3] at H)
      by_cases c40 : x10_2 < a0_0
      rotate_left
      ·rw [if_neg c40] at H
       (have c40b0 : decide (x10_2 < a0_0) = false := decide_eq_false c40); (clear c40); (obtain rfl := Option.some.inj H); (have hcz56_0 : wr.cell? ⟨gb311, 0, none⟩ = some (.int .i64 a0_0) := (Zb BK311.out 0).trans rfl); (have hcz56_1 : wr.cell? ⟨gb311, 1, none⟩ = some (.int .i64 a0_1) := (Zb BK311.out 1).trans rfl); (have hcz56_2 : wr.cell? ⟨gb311, 2, none⟩ = some (.slice A0_2 l0_2.length c0_2) := (Zb BK311.out 2).trans rfl); (have hcz56_3 : wr.cell? ⟨gb311, 3, none⟩ = some (.int .i64 a0_3) := (Zb BK311.out 3).trans rfl); (have hcz56_4 : wr.cell? ⟨gb311, 4, none⟩ = some (.int .u32 a0_4) := (Zb BK311.out 4).trans rfl); (have hfz56_0 := Zc BK311.out 0); (have hfz56_1 := Zc BK311.out 1); (have hfz56_2 := Zc BK311.out 2); (have hfz56_3 := Zc BK311.out 3); (have hfz56_4 := Zc BK311.out 4)
       go_wp2
       go_ret
       exact ⟨_, by first | rfl | (simp [Zu, Zv] <;> rfl) | (simp [*, Zu, Zv] <;> rfl), by (with_reducible repeat (first | apply Kd.R_alloc | apply Kd.R_drewN | apply Kd.R_drew)); exact HO_9.out, by repeat (first | (with_reducible first | exact HB.out | apply zc1 | apply zc2 | apply zc3 | refine zc4 ?_ (by assumption)) | exact HB.out)⟩
      (rw [if_pos c40] at H); (have c40b0 : decide (x10_2 < a0_0) = true := decide_eq_true c40); (clear c40)
      by_cases c41 : 0 ≤ x10_2
      rotate_left
      ·rw [if_neg c41] at H
       exact absurd H (by simp)
      (rw [if_pos c41] at H); (have c41b0 : decide (0 ≤ x10_2) = true := decide_eq_true c41); (clear c41)
      by_cases c42 : x10_2 < (x5_1.length : Int)
      rotate_left
      ·rw [if_neg c42] at H
       exact absurd H (by simp)
      (rw [if_pos c42] at H); (have c42b0 : decide (x10_2 < (x5_1.length : Int)) = true := decide_eq_true c42); ((try (have c42b0h := c42b0; simp only [hl5_1] at c42b0h))); (clear c42); (obtain ⟨bq43, hbq43⟩ : ∃ b_ : Bool, b_ = (rdOf false x5_1 x10_2) := ⟨_, rfl⟩); (replace H : (if bq43 = true then ((Zj1.f k2 a0_0 a0_1 l0_2 a0_3 a0_4 x10_2 l1).bind fun t325 => ((Zf1.f k2 a0_0 a0_1 l0_2 a0_3 a0_4 t325).bind fun t326 => (if x9_2.length < 17592186044416 then (Zm.l3 k2 l1 x5_1 (x9_2 ++ [t326]) (wrap64 (x10_2 + 1)) a0_0 a0_1 l0_2 a0_3 a0_4) else (none)))) else (if x9_2.length < 17592186044416 then (Zm.l3 k2 l1 x5_1 (x9_2 ++ [(-1)]) (wrap64 (x10_2 + 1)) a0_0 a0_1 l0_2 a0_3 a0_4) else (none))) = some r := by rw [← hbq43] at H; exact H); (have Nbq43 := Za.mk hbq43); (clear hbq43)
      by_cases c44 : bq43 = true
      rotate_left
      ·replace c44 := Bool.eq_false_iff.mpr c44
       (subst c44); (have H1 : (if x9_2.length < 17592186044416 then (Zm.l3 k2 l1 x5_1 (x9_2 ++ [(-1)]) (wrap64 (x10_2 + 1)) a0_0 a0_1 l0_2 a0_3 a0_4) else (none)) = some r := by rw [if_neg (show ¬ (false = true) by decide)] at H; exact H); (clear H); (have H := H1); (clear H1)
       by_cases c53 : x9_2.length < 17592186044416
       rotate_left
       ·rw [if_neg c53] at H
        exact absurd H (by simp)
       (rw [if_pos c53] at H); (have LMc53 := Za.mk c53); (clear c53); (obtain ⟨y330, hy330⟩ : ∃ y_ : List Int, y_ = (x9_2 ++ [(-1)]) := ⟨_, rfl⟩); (replace H : (Zm.l3 k2 l1 x5_1 y330 (wrap64 (x10_2 + 1)) a0_0 a0_1 l0_2 a0_3 a0_4) = some r := by first | (rw [hy330]; with_reducible exact H) | (have H2_ := (Option.bind_some _ _).symm.trans H; rw [hy330]; with_reducible exact H2_) | (have H2_ := (Option.bind_some _ _).symm.trans H; with_reducible exact H2_) | with_reducible exact H | (rw [hy330]; exact H) | exact H); (have Ny330 := Za.mk hy330); (clear hy330); (have H' := Za.mk H); (clear H); (have hcz54_0 : wr.cell? ⟨gb311, 0, none⟩ = some (.int .i64 a0_0) := (Zb BK311.out 0).trans rfl); (have hcz54_1 : wr.cell? ⟨gb311, 1, none⟩ = some (.int .i64 a0_1) := (Zb BK311.out 1).trans rfl); (have hcz54_2 : wr.cell? ⟨gb311, 2, none⟩ = some (.slice A0_2 l0_2.length c0_2) := (Zb BK311.out 2).trans rfl); (have hcz54_3 : wr.cell? ⟨gb311, 3, none⟩ = some (.int .i64 a0_3) := (Zb BK311.out 3).trans rfl); (have hcz54_4 : wr.cell? ⟨gb311, 4, none⟩ = some (.int .u32 a0_4) := (Zb BK311.out 4).trans rfl); (have hfz54_0 := Zc BK311.out 0); (have hfz54_1 := Zc BK311.out 1); (have hfz54_2 := Zc BK311.out 2); (have hfz54_3 := Zc BK311.out 3); (have hfz54_4 := Zc BK311.out 4); (have p324 : 0 ≤ (x10_2 : Int) := of_decide_eq_true (by assumption)); (have q324 : x10_2 < (x5_1.length : Int) := of_decide_eq_true (by assumption)); (obtain ⟨ad324, e324, hx324_0⟩ := Kd.at_bool (Kd.R_reads' HO_5.out).2.2 x10_2 p324 q324)
       ((try rw [← Nbq43.out] at hx324_0)); (obtain rfl : (⟨go7, 0, none⟩ : Addr) = ad324 := (by injection e324))
       (first | simp only [add_plain] at hx324_0 | simp only [add_at] at hx324_0 | simp only [Addr.add, Nat.zero_add] at hx324_0 | skip)
       (replace p324 := eq_true p324); (replace q324 := eq_true q324)
       go_wp2_with (first | ((with_reducible refine gate_builtin (b := .append) (xs := #[.tmp 82, .tmp 83]) rfl ?_); at_builtin; refine Kd.R_append (Kd.int .i64) (w0 := w) w.heap.size rfl (.tmp 82) (.tmp 83) 32 3 (.int .i64 0) 8 rfl Try.underlying32 info3 rfl (by decide) (by omega) u9 x9_2 (-1) [.int .i64 (-1)] (fun _ => True) (fun _ => False) rfl rfl ?aP (fun _ hk => hk.elim) ?aF ?aO ?aB ?aS ?aL ?_; (case aP => exact rfl); (case aB => exact (by repeat (first | (with_reducible first | exact HB.out | apply zc1 | apply zc2 | apply zc3 | refine zc4 ?_ (by assumption)) | exact HB.out))); (case aF => exact (fun _ _ => trivial)); (case aO => exact (by (with_reducible repeat (first | apply Kd.R_alloc | apply Kd.R_drewN | apply Kd.R_drew)); exact HO_9.out)); (case aS => exact (Zl (by repeat (first | (with_reducible first | exact HB.out | apply zc1 | apply zc2 | apply zc3 | refine zc4 ?_ (by assumption)) | exact HB.out)))); (case aL => have := LMc53.out; omega); intro v331 w55 ho hb hg hat; rw [← Ny330.out] at ho; replace HO_5 := Za.mk (Kd.R_over' (by (with_reducible repeat (first | apply Kd.R_alloc | apply Kd.R_drewN | apply Kd.R_drew)); exact HO_5.out) (Kd.R_typed (by (with_reducible repeat (first | apply Kd.R_alloc | apply Kd.R_drewN | apply Kd.R_drew)); exact HO_9.out)) (by decide) hg); replace BK311 := Za.mk (Za1 (g := gb311) (by (with_reducible repeat (first | apply zb3 | apply zb2 | apply zb1)); exact BK311.out) hg (Kd.R_ne HO_9.out BK311.out (by decide))); replace HB := Za.mk (hb); have HO332 := Za.mk (ho); clear HO_9; clear ho hb hg hat))
       go_roundg k2
       case measure => have := HK1.out; have := HK2.out; omega
       case rel => exact ⟨(y330), (wrap64 (x10_2 + 1)), (by first | rfl | (simp; done) | (simp [*]; done)), H', ⟨by have := HK1.out; have := HK2.out; omega⟩, ⟨by (try simp only [hl5_1]); (with_reducible repeat (first | apply Kd.R_alloc | apply Kd.R_drewN | apply Kd.R_drew)); exact HO_5.out⟩, ⟨by (try simp only [hl5_1]); (with_reducible repeat (first | apply Kd.R_alloc | apply Kd.R_drewN | apply Kd.R_drew)); exact HO332.out⟩, ⟨by (try simp only [hl5_1]); (with_reducible repeat (first | apply zb3 | apply zb2 | apply zb1)); exact BK311.out⟩, ⟨by repeat (first | (with_reducible first | exact HB.out | apply zc1 | apply zc2 | apply zc3 | refine zc4 ?_ (by assumption)) | exact HB.out)⟩⟩
      (subst c44); (have H1 : ((Zj1.f k2 a0_0 a0_1 l0_2 a0_3 a0_4 x10_2 l1).bind fun t325 => ((Zf1.f k2 a0_0 a0_1 l0_2 a0_3 a0_4 t325).bind fun t326 => (if x9_2.length < 17592186044416 then (Zm.l3 k2 l1 x5_1 (x9_2 ++ [t326]) (wrap64 (x10_2 + 1)) a0_0 a0_1 l0_2 a0_3 a0_4) else (none)))) = some r := by rw [if_pos rfl] at H; exact H); (clear H); (have H := H1); (clear H1); (replace H := Option.bind_eq_some_iff.mp H); (obtain ⟨t325, A450, H⟩ := H); (replace H : ((Zf1.f k2 a0_0 a0_1 l0_2 a0_3 a0_4 t325).bind fun t326 => (if x9_2.length < 17592186044416 then (Zm.l3 k2 l1 x5_1 (x9_2 ++ [t326]) (wrap64 (x10_2 + 1)) a0_0 a0_1 l0_2 a0_3 a0_4) else (none))) = some r := H); (have A45 := Za.mk A450); (clear A450); (replace H := Option.bind_eq_some_iff.mp H); (obtain ⟨t326, A460, H⟩ := H); (replace H : (if x9_2.length < 17592186044416 then (Zm.l3 k2 l1 x5_1 (x9_2 ++ [t326]) (wrap64 (x10_2 + 1)) a0_0 a0_1 l0_2 a0_3 a0_4) else (none)) = some r := H); (have A46 := Za.mk A460); (clear A460)
      by_cases c47 : x9_2.length < 17592186044416
      rotate_left
      ·rw [if_neg c47] at H
       exact absurd H (by simp)
      (rw [if_pos c47] at H); (have LMc47 := Za.mk c47); (clear c47); (obtain ⟨y327, hy327⟩ : ∃ y_ : List Int, y_ = (x9_2 ++ [t326]) := ⟨_, rfl⟩); (replace H : (Zm.l3 k2 l1 x5_1 y327 (wrap64 (x10_2 + 1)) a0_0 a0_1 l0_2 a0_3 a0_4) = some r := by first | (rw [hy327]; with_reducible exact H) | (have H2_ := (Option.bind_some _ _).symm.trans H; rw [hy327]; with_reducible exact H2_) | (have H2_ := (Option.bind_some _ _).symm.trans H; with_reducible exact H2_) | with_reducible exact H | (rw [hy327]; exact H) | exact H); (have Ny327 := Za.mk hy327); (clear hy327); (have H' := Za.mk H); (clear H); (have hcz48_0 : wr.cell? ⟨gb311, 0, none⟩ = some (.int .i64 a0_0) := (Zb BK311.out 0).trans rfl); (have hcz48_1 : wr.cell? ⟨gb311, 1, none⟩ = some (.int .i64 a0_1) := (Zb BK311.out 1).trans rfl); (have hcz48_2 : wr.cell? ⟨gb311, 2, none⟩ = some (.slice A0_2 l0_2.length c0_2) := (Zb BK311.out 2).trans rfl); (have hcz48_3 : wr.cell? ⟨gb311, 3, none⟩ = some (.int .i64 a0_3) := (Zb BK311.out 3).trans rfl); (have hcz48_4 : wr.cell? ⟨gb311, 4, none⟩ = some (.int .u32 a0_4) := (Zb BK311.out 4).trans rfl); (have hfz48_0 := Zc BK311.out 0); (have hfz48_1 := Zc BK311.out 1); (have hfz48_2 := Zc BK311.out 2); (have hfz48_3 := Zc BK311.out 3); (have hfz48_4 := Zc BK311.out 4); (have p324 : 0 ≤ (x10_2 : Int) := of_decide_eq_true (by assumption)); (have q324 : x10_2 < (x5_1.length : Int) := of_decide_eq_true (by assumption)); (obtain ⟨ad324, e324, hx324_0⟩ := Kd.at_bool (Kd.R_reads' HO_5.out).2.2 x10_2 p324 q324)
      ((try rw [← Nbq43.out] at hx324_0)); (obtain rfl : (⟨go7, 0, none⟩ : Addr) = ad324 := (by injection e324))
      (first | simp only [add_plain] at hx324_0 | simp only [add_at] at hx324_0 | simp only [Addr.add, Nat.zero_add] at hx324_0 | skip)
      (replace p324 := eq_true p324); (replace q324 := eq_true q324)
      try go_wp2
      (replace HO_5 := Za.mk (Kd.R_drew HO_5.out)); (replace HO_9 := Za.mk (Kd.R_drew HO_9.out)); (replace BK311 := Za.mk (Zh BK311.out)); (replace HB := Za.mk (below_drew1 HB.out))
      refine start_ (n := 10) (S := fun w' => w'.cell? ⟨gb311, 0, none⟩ = some (.int .i64 a0_0) ∧ w'.cell? ⟨gb311, 1, none⟩ = some (.int .i64 a0_1) ∧ w'.cell? ⟨gb311, 2, none⟩ = some (.slice A0_2 l0_2.length c0_2) ∧ w'.cell? ⟨gb311, 3, none⟩ = some (.int .i64 a0_3) ∧ w'.cell? ⟨gb311, 4, none⟩ = some (.int .u32 a0_4)) (ds := []) #[false, false, false, false, false, false, false, false, false, false] (by kernel_rfl) rfl rfl ⟨(Zb BK311.out 0).trans rfl, (Zb BK311.out 1).trans rfl, (Zb BK311.out 2).trans rfl, (Zb BK311.out 3).trans rfl, (Zb BK311.out 4).trans rfl⟩ (fun hHeld => ?_); refine with_tabW Zm.tab18 Zm.bits18 (fun HT_ HW_ => ?_)
      generalize wr.drew = w49 at HO_5 HO_9 BK311 HB hHeld ⊢
      refine pure_ (i := 0) (N := some 73) (v := ?_) (a' := ?_) #[true, false, false, false, false, false, false, false, false, false] rfl rfl (Zi HT_.out (by kernel_rfl)) (fun _ _ _ h => h) (Or.inl ⟨by rfl, ?_⟩) ?_ ?_
      rotate_left
      ·intro w'
       go_simp
       with_reducible rfl
      rotate_left
      ·simp only [Act.put, List.setIfInBounds_toArray, List.set_cons_zero, List.set_cons_succ, Zf, Ze]
       rfl
      refine pure_ (i := 3) (N := some 76) (v := ?_) (a' := ?_) #[true, false, false, true, false, false, false, false, false, false] rfl rfl (Zi HT_.out (by kernel_rfl)) (fun _ _ _ h => h) (Or.inl ⟨by rfl, ?_⟩) ?_ ?_
      rotate_left
      ·intro w'
       go_simp
       with_reducible rfl
      rotate_left
      ·simp only [Act.put, List.setIfInBounds_toArray, List.set_cons_zero, List.set_cons_succ, Zf, Ze]
       rfl
      refine pure_ (i := 4) (N := some 77) (v := ?_) (a' := ?_) #[true, false, false, true, true, false, false, false, false, false] rfl rfl (Zi HT_.out (by kernel_rfl)) (fun _ _ _ h => h) (Or.inl ⟨by rfl, ?_⟩) ?_ ?_
      rotate_left
      ·intro w'
       go_simp
       with_reducible rfl
      rotate_left
      ·simp only [Act.put, List.setIfInBounds_toArray, List.set_cons_zero, List.set_cons_succ, Zf, Ze]
       rfl
      refine take_ (i := 1) (N := some 74) (v := ?_) (a' := ?_) #[true, true, false, true, true, false, false, false, false, false] rfl rfl (Zg1 HT_.out HW_.out (by kernel_rfl)) (fun _ _ _ h => h) (Or.inl ⟨by rfl, ?_⟩) hHeld ?_ ?_
      rotate_left
      ·rintro w' ⟨s0, s1, s2, s3, s4⟩
       go_simp
       with_reducible rfl
      rotate_left
      ·simp only [Act.put, List.setIfInBounds_toArray, List.set_cons_zero, List.set_cons_succ, Zf, Ze]
       rfl
      refine take_ (i := 2) (N := some 75) (v := ?_) (a' := ?_) #[true, true, true, true, true, false, false, false, false, false] rfl rfl (Zg1 HT_.out HW_.out (by kernel_rfl)) (fun _ _ _ h => h) (Or.inl ⟨by rfl, ?_⟩) hHeld ?_ ?_
      rotate_left
      ·rintro w' ⟨s0, s1, s2, s3, s4⟩
       go_simp
       with_reducible rfl
      rotate_left
      ·simp only [Act.put, List.setIfInBounds_toArray, List.set_cons_zero, List.set_cons_succ, Zf, Ze]
       rfl
      refine one_ (i := 5) (N := some 78) #[true, true, true, true, true, true, false, false, false, false] rfl rfl (one_of HT_.out (by kernel_rfl)) (by decide) (fun K hK => ?_)
      refine goes_ Try.func24 (by kernel_rfl) rfl #[.agg #[.int .i64 a0_0, .int .i64 a0_1, .slice A0_2 l0_2.length c0_2, .int .i64 a0_3, .int .u32 a0_4], .int .i64 x10_2, .slice A1 l1.length c1] (by rfl) rfl rfl (by (try simp only [List.map_toArray, List.map_cons, List.map_nil]); first | done | rfl | (simp only [List.length_drop, List.length_take]; rfl)) ?_
      with_reducible refine (Zj1.calls k2 a0_0 a0_1 _ _ l0_2 a0_3 a0_4 x10_2 _ _ l1 t325 _ ?side1 ?side2 ?side3 ?side4 A45.out).mono ?_
      (case side1 => repeat (first | exact (Kd.C_below HR0_2.out HB.out) | (with_reducible refine Kd.C_alloc ?_ _) | (with_reducible refine Kd.C_drewN ?_ _) | (with_reducible refine Kd.C_drew ?_)))
      (case side2 => exact HC0_2.out)
      (case side3 => repeat (first | exact (Kd.C_below HR1.out HB.out) | (with_reducible refine Kd.C_alloc ?_ _) | (with_reducible refine Kd.C_drewN ?_ _) | (with_reducible refine Kd.C_drew ?_)))
      (case side4 => exact HC1.out)
      rintro e w50 ⟨rfl, hb⟩
      refine ⟨_, rfl, ?_⟩
      (replace HO_5 := Za.mk (Kd.R_below (by (with_reducible repeat (first | apply Kd.R_alloc | apply Kd.R_drewN | apply Kd.R_drew)); exact HO_5.out) hb)); (replace HO_9 := Za.mk (Kd.R_below (by (with_reducible repeat (first | apply Kd.R_alloc | apply Kd.R_drewN | apply Kd.R_drew)); exact HO_9.out) hb)); (replace BK311 := Za.mk (Zn (g := gb311) (by (with_reducible repeat (first | apply zb3 | apply zb2 | apply zb1)); exact BK311.out) hb)); (replace HB := Za.mk (Zo (by repeat (first | (with_reducible first | exact HB.out | apply zc1 | apply zc2 | apply zc3 | refine zc4 ?_ (by assumption)) | exact HB.out)) hb)); ((try clear hb)); ((try clear hb2)); ((try clear hk)); ((try clear hi))
      refine hK.out _ _ ⟨(Zb BK311.out 0).trans rfl, (Zb BK311.out 1).trans rfl, (Zb BK311.out 2).trans rfl, (Zb BK311.out 3).trans rfl, (Zb BK311.out 4).trans rfl⟩ (fun hHeld => ?_)
      clear hK K
      refine norm_ (a' := ?_) ?_ ?_
      rotate_left
      ·show Act.put _ (some 78) _ = _
       simp only [Act.put, List.setIfInBounds_toArray, List.set_cons_zero, List.set_cons_succ, Zf, Ze]
       rfl
      refine one_ (i := 6) (N := some 79) #[true, true, true, true, true, true, true, false, false, false] rfl rfl (one_of HT_.out (by kernel_rfl)) (by decide) (fun K hK => ?_)
      refine goes_ Try.func23 (by kernel_rfl) rfl #[.agg #[.int .i64 a0_0, .int .i64 a0_1, .slice A0_2 l0_2.length c0_2, .int .i64 a0_3, .int .u32 a0_4], .int .i64 t325] (by rfl) rfl rfl (by (try simp only [List.map_toArray, List.map_cons, List.map_nil]); first | done | rfl | (simp only [List.length_drop, List.length_take]; rfl)) ?_
      with_reducible refine (Zf1.calls k2 a0_0 a0_1 _ _ l0_2 a0_3 a0_4 t325 t326 _ ?side1 ?side2 A46.out).mono ?_
      (case side1 => repeat (first | exact (Kd.C_below HR0_2.out HB.out) | (with_reducible refine Kd.C_alloc ?_ _) | (with_reducible refine Kd.C_drewN ?_ _) | (with_reducible refine Kd.C_drew ?_)))
      (case side2 => exact HC0_2.out)
      rintro e w51 ⟨rfl, hb⟩
      refine ⟨_, rfl, ?_⟩
      (replace HO_5 := Za.mk (Kd.R_below (by (with_reducible repeat (first | apply Kd.R_alloc | apply Kd.R_drewN | apply Kd.R_drew)); exact HO_5.out) hb)); (replace HO_9 := Za.mk (Kd.R_below (by (with_reducible repeat (first | apply Kd.R_alloc | apply Kd.R_drewN | apply Kd.R_drew)); exact HO_9.out) hb)); (replace BK311 := Za.mk (Zn (g := gb311) (by (with_reducible repeat (first | apply zb3 | apply zb2 | apply zb1)); exact BK311.out) hb)); (replace HB := Za.mk (Zo (by repeat (first | (with_reducible first | exact HB.out | apply zc1 | apply zc2 | apply zc3 | refine zc4 ?_ (by assumption)) | exact HB.out)) hb)); ((try clear hb)); ((try clear hb2)); ((try clear hk)); ((try clear hi))
      refine hK.out _ _ ⟨(Zb BK311.out 0).trans rfl, (Zb BK311.out 1).trans rfl, (Zb BK311.out 2).trans rfl, (Zb BK311.out 3).trans rfl, (Zb BK311.out 4).trans rfl⟩ (fun hHeld => ?_)
      clear hK K
      refine norm_ (a' := ?_) ?_ ?_
      rotate_left
      ·show Act.put _ (some 79) _ = _
       simp only [Act.put, List.setIfInBounds_toArray, List.set_cons_zero, List.set_cons_succ, Zf, Ze]
       rfl
      refine one_ (i := 7) (N := some 80) #[true, true, true, true, true, true, true, true, false, false] rfl rfl (one_of HT_.out (by kernel_rfl)) (by decide) (fun K hK => ?_)
      refine value_ (w1 := ?_) (v := ?_) (by rfl) rfl ?_ ?_
      rotate_left 2
      ·go_simp
       constructor
       ·rfl
       rfl
      refine hK.out _ _ ⟨(Zb (Zj BK311.out _) 0).trans rfl, (Zb (Zj BK311.out _) 1).trans rfl, (Zb (Zj BK311.out _) 2).trans rfl, (Zb (Zj BK311.out _) 3).trans rfl, (Zb (Zj BK311.out _) 4).trans rfl⟩ (fun hHeld => ?_)
      clear hK K
      refine norm_ (a' := ?_) ?_ ?_
      rotate_left
      ·show Act.put _ (some 80) _ = _
       simp only [Act.put, List.setIfInBounds_toArray, List.set_cons_zero, List.set_cons_succ, Zf, Ze]
       rfl
      refine one_ (i := 8) (N := some 81) #[true, true, true, true, true, true, true, true, true, false] rfl rfl (one_of HT_.out (by kernel_rfl)) (by decide) (fun K hK => ?_)
      refine Kd.R_append_step (Kd.int .i64) (w0 := w) w.heap.size (by rfl) (.tmp 73) (.tmp 80) 32 3 (.int .i64 0) 8 rfl Try.underlying32 info3 rfl (by decide) (by omega) u9 x9_2 t326 [.int .i64 t326] (fun _ => True) (fun _ => False) rfl rfl ?aP (fun _ hk => hk.elim) ?aF ?aO ?aB ?aS ?aL ?_
      (case aP => exact rfl)
      (case aB => exact (by repeat (first | (with_reducible first | exact HB.out | apply zc1 | apply zc2 | apply zc3 | refine zc4 ?_ (by assumption)) | exact HB.out)))
      (case aF => exact (fun _ _ => trivial))
      (case aO => exact (by (with_reducible repeat (first | apply Kd.R_alloc | apply Kd.R_drewN | apply Kd.R_drew)); exact HO_9.out))
      (case aS => exact (Zl (by repeat (first | (with_reducible first | exact HB.out | apply zc1 | apply zc2 | apply zc3 | refine zc4 ?_ (by assumption)) | exact HB.out))))
      (case aL => have := LMc47.out; omega)
      intro v328 w52 ho hb hg hat
      (rw [← Ny327.out] at ho); (replace HO_5 := Za.mk (Kd.R_over' (by (with_reducible repeat (first | apply Kd.R_alloc | apply Kd.R_drewN | apply Kd.R_drew)); exact HO_5.out) (Kd.R_typed (by (with_reducible repeat (first | apply Kd.R_alloc | apply Kd.R_drewN | apply Kd.R_drew)); exact HO_9.out)) (by decide) hg)); (replace BK311 := Za.mk (Za1 (g := gb311) (by (with_reducible repeat (first | apply zb3 | apply zb2 | apply zb1)); exact BK311.out) hg (Kd.R_ne HO_9.out BK311.out (by decide)))); (replace HB := Za.mk (hb)); (have HO329 := Za.mk (ho)); (clear HO_9); (clear ho hb hg hat)
      refine hK.out _ _ ⟨(Zb BK311.out 0).trans rfl, (Zb BK311.out 1).trans rfl, (Zb BK311.out 2).trans rfl, (Zb BK311.out 3).trans rfl, (Zb BK311.out 4).trans rfl⟩ (fun hHeld => ?_)
      clear hK K
      refine norm_ (a' := ?_) ?_ ?_
      rotate_left
      ·show Act.put _ (some 81) _ = _
       simp only [Act.put, List.setIfInBounds_toArray, List.set_cons_zero, List.set_cons_succ, Zf, Ze]
       rfl
      refine pure_ (i := 9) (N := some 9) (v := ?_) (a' := ?_) #[true, true, true, true, true, true, true, true, true, true] rfl rfl (Zi HT_.out (by kernel_rfl)) (fun _ _ _ h => h) (Or.inl ⟨by rfl, ?_⟩) ?_ ?_
      rotate_left
      ·intro w'
       go_simp
       with_reducible rfl
      rotate_left
      ·simp only [Act.put, List.setIfInBounds_toArray, List.set_cons_zero, List.set_cons_succ, Zf, Ze]
       rfl
      refine done_ (done_of HT_.out (by kernel_rfl)) ?_
      try go_wp2
      go_roundg k2
      case measure => have := HK1.out; have := HK2.out; omega
      case rel => exact ⟨(y327), (wrap64 (x10_2 + 1)), (by first | rfl | (simp; done) | (simp [*]; done)), H', ⟨by have := HK1.out; have := HK2.out; omega⟩, ⟨by (try simp only [hl5_1]); (with_reducible repeat (first | apply Kd.R_alloc | apply Kd.R_drewN | apply Kd.R_drew)); exact HO_5.out⟩, ⟨by (try simp only [hl5_1]); (with_reducible repeat (first | apply Kd.R_alloc | apply Kd.R_drewN | apply Kd.R_drew)); exact HO329.out⟩, ⟨by (try simp only [hl5_1]); (with_reducible repeat (first | apply zb3 | apply zb2 | apply zb1)); exact BK311.out⟩, ⟨by repeat (first | (with_reducible first | exact HB.out | apply zc1 | apply zc2 | apply zc3 | refine zc4 ?_ (by assumption)) | exact HB.out)⟩⟩
   (rw [if_pos c15] at H); (have c15b0 : decide (x6_1 < a0_0) = true := decide_eq_true c15); (clear c15); (have H' := Za.mk H); (clear H); (have hcz16_0 : wr.cell? ⟨gb311, 0, none⟩ = some (.int .i64 a0_0) := (Zb BK311.out 0).trans rfl); (have hcz16_1 : wr.cell? ⟨gb311, 1, none⟩ = some (.int .i64 a0_1) := (Zb BK311.out 1).trans rfl); (have hcz16_2 : wr.cell? ⟨gb311, 2, none⟩ = some (.slice A0_2 l0_2.length c0_2) := (Zb BK311.out 2).trans rfl); (have hcz16_3 : wr.cell? ⟨gb311, 3, none⟩ = some (.int .i64 a0_3) := (Zb BK311.out 3).trans rfl); (have hcz16_4 : wr.cell? ⟨gb311, 4, none⟩ = some (.int .u32 a0_4) := (Zb BK311.out 4).trans rfl); (have hfz16_0 := Zc BK311.out 0); (have hfz16_1 := Zc BK311.out 1); (have hfz16_2 := Zc BK311.out 2); (have hfz16_3 := Zc BK311.out 3); (have hfz16_4 := Zc BK311.out 4)
   go_wp2
   go_loopg [7] k1 (fun kq v7 w' => ∃ (x5_2 : List Bool) (x7_2 : Int), v7 = .int .i64 x7_2 ∧ Za (Zm.l1 kq l1 x5_2 x6_1 x7_2 a0_0 a0_1 l0_2 a0_3 a0_4 = some r) ∧ Za (kq ≤ k1) ∧ Za (Kd.R Kd.bool 4 w' w.heap.size (fun _ => True) (.slice (some ⟨go7, 0, none⟩) x5_1.length co7) x5_2) ∧ Za (w'.heap[gb311]? = some (.cells #[.int .i64 a0_0, .int .i64 a0_1, (.slice A0_2 l0_2.length c0_2), .int .i64 a0_3, .int .u32 a0_4] 25 (0, 0))) ∧ Za (Below w.heap.size w w'))
   case atStart => exact ⟨(x5_1), (0), (by first | rfl | (simp; done) | (simp [*]; done)), H', ⟨Nat.le_refl _⟩, ⟨by (try simp only [hl5_1]); (with_reducible repeat (first | apply Kd.R_alloc | apply Kd.R_drewN | apply Kd.R_drew)); exact HO_5.out⟩, ⟨by (try simp only [hl5_1]); (with_reducible repeat (first | apply zb3 | apply zb2 | apply zb1)); exact BK311.out⟩, ⟨by repeat (first | (with_reducible first | exact HB.out | apply zc1 | apply zc2 | apply zc3 | refine zc4 ?_ (by assumption)) | exact HB.out)⟩⟩
   case round =>
    (clear H'); (try clear c1); (try clear p2); (try clear c3); (try clear c3b0); (try clear c3b1); (try clear c4); (try clear c4b0); (try clear c4b1); (try clear c5); (try clear c5b0); (try clear c6); (try clear c6b0); (try clear p7); (try clear q7); (try clear hx7); (try clear hf7); (try clear c12); (try clear c15); (try clear c15b0); (try clear hcz12_0 hcz12_1 hcz12_2 hcz12_3 hcz12_4 hcz16_0 hcz16_1 hcz16_2 hcz16_3 hcz16_4 hcz9_0 hcz9_1 hcz9_2 hcz9_3 hcz9_4 hfz12_0 hfz12_1 hfz12_2 hfz12_3 hfz12_4 hfz16_0 hfz16_1 hfz16_2 hfz16_3 hfz16_4 hfz9_0 hfz9_1 hfz9_2 hfz9_3 hfz9_4); (try clear hx7_0); (try clear p2); (try clear p7); (try clear q7); (obtain ⟨x5_2, x7_2, rfl, HA, HK2, HO_5, BK311, HB⟩ := hrel); (have hl5_2 := (Kd.R_reads' HO_5.out).1); (rw [hl5_2] at HO_5); ((try simp only [hl5_2])); ((try simp only [hl5_2] at BK311))
    cases gk with
    | zero => exact absurd HA.out (by simp [Zm.l1])
    | succ k2 =>
     (have H := HA.out); (clear HA); (simp only [Zm.l1] at H)
     by_cases c17 : x7_2 < a0_0
     rotate_left
     ·rw [if_neg c17] at H
      (have c17b0 : decide (x7_2 < a0_0) = false := decide_eq_false c17); (clear c17); (have H' := Za.mk H); (clear H); (have hcz38_0 : wr.cell? ⟨gb311, 0, none⟩ = some (.int .i64 a0_0) := (Zb BK311.out 0).trans rfl); (have hcz38_1 : wr.cell? ⟨gb311, 1, none⟩ = some (.int .i64 a0_1) := (Zb BK311.out 1).trans rfl); (have hcz38_2 : wr.cell? ⟨gb311, 2, none⟩ = some (.slice A0_2 l0_2.length c0_2) := (Zb BK311.out 2).trans rfl); (have hcz38_3 : wr.cell? ⟨gb311, 3, none⟩ = some (.int .i64 a0_3) := (Zb BK311.out 3).trans rfl); (have hcz38_4 : wr.cell? ⟨gb311, 4, none⟩ = some (.int .u32 a0_4) := (Zb BK311.out 4).trans rfl); (have hfz38_0 := Zc BK311.out 0); (have hfz38_1 := Zc BK311.out 1); (have hfz38_2 := Zc BK311.out 2); (have hfz38_3 := Zc BK311.out 3); (have hfz38_4 := Zc BK311.out 4)
      go_wp2
      (try simp only [← hl5_1, ← hl5_2])
      go_roundg k2
      case measure => have := HK1.out; have := HK2.out; omega
      case rel => exact ⟨(x5_2), (wrap64 (x6_1 + 1)), (by first | rfl | (simp; done) | (simp [*]; done)), H', ⟨by have := HK1.out; have := HK2.out; omega⟩, ⟨by (try simp only [hl5_1]); (try simp only [hl5_2]); (with_reducible repeat (first | apply Kd.R_alloc | apply Kd.R_drewN | apply Kd.R_drew)); exact HO_5.out⟩, ⟨by (try simp only [hl5_1]); (try simp only [hl5_2]); (with_reducible repeat (first | apply zb3 | apply zb2 | apply zb1)); exact BK311.out⟩, ⟨by repeat (first | (with_reducible first | exact HB.out | apply zc1 | apply zc2 | apply zc3 | refine zc4 ?_ (by assumption)) | exact HB.out)⟩⟩
     (rw [if_pos c17] at H); (have c17b0 : decide (x7_2 < a0_0) = true := decide_eq_true c17); (clear c17); (have H' := Za.mk H); (clear H); (have hcz18_0 : wr.cell? ⟨gb311, 0, none⟩ = some (.int .i64 a0_0) := (Zb BK311.out 0).trans rfl); (have hcz18_1 : wr.cell? ⟨gb311, 1, none⟩ = some (.int .i64 a0_1) := (Zb BK311.out 1).trans rfl); (have hcz18_2 : wr.cell? ⟨gb311, 2, none⟩ = some (.slice A0_2 l0_2.length c0_2) := (Zb BK311.out 2).trans rfl); (have hcz18_3 : wr.cell? ⟨gb311, 3, none⟩ = some (.int .i64 a0_3) := (Zb BK311.out 3).trans rfl); (have hcz18_4 : wr.cell? ⟨gb311, 4, none⟩ = some (.int .u32 a0_4) := (Zb BK311.out 4).trans rfl); (have hfz18_0 := Zc BK311.out 0); (have hfz18_1 := Zc BK311.out 1); (have hfz18_2 := Zc BK311.out 2); (have hfz18_3 := Zc BK311.out 3); (have hfz18_4 := Zc BK311.out 4)
     go_wp2
     go_loopg [8] k2 (fun kq v8 w' => ∃ (x5_3 : List Bool) (x8_3 : Int), v8 = .int .i64 x8_3 ∧ Za (Zm.l2 kq l1 x5_3 x6_1 x7_2 x8_3 a0_0 a0_1 l0_2 a0_3 a0_4 = some r) ∧ Za (kq ≤ k2) ∧ Za (Kd.R Kd.bool 4 w' w.heap.size (fun _ => True) (.slice (some ⟨go7, 0, none⟩) x5_2.length co7) x5_3) ∧ Za (w'.heap[gb311]? = some (.cells #[.int .i64 a0_0, .int .i64 a0_1, (.slice A0_2 l0_2.length c0_2), .int .i64 a0_3, .int .u32 a0_4] 25 (0, 0))) ∧ Za (Below w.heap.size w w'))
     case atStart => exact ⟨(x5_2), (0), (by first | rfl | (simp; done) | (simp [*]; done)), H', ⟨Nat.le_refl _⟩, ⟨by (try simp only [hl5_1]); (try simp only [hl5_2]); (with_reducible repeat (first | apply Kd.R_alloc | apply Kd.R_drewN | apply Kd.R_drew)); exact HO_5.out⟩, ⟨by (try simp only [hl5_1]); (try simp only [hl5_2]); (with_reducible repeat (first | apply zb3 | apply zb2 | apply zb1)); exact BK311.out⟩, ⟨by repeat (first | (with_reducible first | exact HB.out | apply zc1 | apply zc2 | apply zc3 | refine zc4 ?_ (by assumption)) | exact HB.out)⟩⟩
     case round =>
      (clear H'); (try clear c1); (try clear p2); (try clear c3); (try clear c3b0); (try clear c3b1); (try clear c4); (try clear c4b0); (try clear c4b1); (try clear c5); (try clear c5b0); (try clear c6); (try clear c6b0); (try clear p7); (try clear q7); (try clear hx7); (try clear hf7); (try clear c12); (try clear c15); (try clear c15b0); (try clear c17); (try clear c17b0); (try clear hcz12_0 hcz12_1 hcz12_2 hcz12_3 hcz12_4 hcz16_0 hcz16_1 hcz16_2 hcz16_3 hcz16_4 hcz18_0 hcz18_1 hcz18_2 hcz18_3 hcz18_4 hcz9_0 hcz9_1 hcz9_2 hcz9_3 hcz9_4 hfz12_0 hfz12_1 hfz12_2 hfz12_3 hfz12_4 hfz16_0 hfz16_1 hfz16_2 hfz16_3 hfz16_4 hfz18_0 hfz18_1 hfz18_2 hfz18_3 hfz18_4 hfz9_0 hfz9_1 hfz9_2 hfz9_3 hfz9_4); (try clear hx7_0); (try clear p2); (try clear p7); (try clear q7); (obtain ⟨x5_3, x8_3, rfl, HA, HK3, HO_5, BK311, HB⟩ := hrel); (have hl5_3 := (Kd.R_reads' HO_5.out).1); (rw [hl5_3] at HO_5); ((try simp only [hl5_3])); ((try simp only [hl5_3] at BK311))
      cases gk with
      | zero => exact absurd HA.out (by simp [Zm.l2])
      | succ k3 =>
       (have H := HA.out); (clear HA); (simp only [Zm.l2] at H)
       by_cases c19 : x8_3 < a0_1
       rotate_left
       ·rw [if_neg c19] at H
        (have c19b0 : decide (x8_3 < a0_1) = false := decide_eq_false c19); (clear c19); (have H' := Za.mk H); (clear H); (have hcz37_0 : wr.cell? ⟨gb311, 0, none⟩ = some (.int .i64 a0_0) := (Zb BK311.out 0).trans rfl); (have hcz37_1 : wr.cell? ⟨gb311, 1, none⟩ = some (.int .i64 a0_1) := (Zb BK311.out 1).trans rfl); (have hcz37_2 : wr.cell? ⟨gb311, 2, none⟩ = some (.slice A0_2 l0_2.length c0_2) := (Zb BK311.out 2).trans rfl); (have hcz37_3 : wr.cell? ⟨gb311, 3, none⟩ = some (.int .i64 a0_3) := (Zb BK311.out 3).trans rfl); (have hcz37_4 : wr.cell? ⟨gb311, 4, none⟩ = some (.int .u32 a0_4) := (Zb BK311.out 4).trans rfl); (have hfz37_0 := Zc BK311.out 0); (have hfz37_1 := Zc BK311.out 1); (have hfz37_2 := Zc BK311.out 2); (have hfz37_3 := Zc BK311.out 3); (have hfz37_4 := Zc BK311.out 4)
        go_wp2
        (try simp only [← hl5_2, ← hl5_3])
        go_roundg k3
        case measure => have := HK1.out; have := HK2.out; have := HK3.out; omega
        case rel => exact ⟨(x5_3), (wrap64 (x7_2 + 1)), (by first | rfl | (simp; done) | (simp [*]; done)), H', ⟨by have := HK1.out; have := HK2.out; have := HK3.out; omega⟩, ⟨by (try simp only [hl5_1]); (try simp only [hl5_2]); (try simp only [hl5_3]); (with_reducible repeat (first | apply Kd.R_alloc | apply Kd.R_drewN | apply Kd.R_drew)); exact HO_5.out⟩, ⟨by (try simp only [hl5_1]); (try simp only [hl5_2]); (try simp only [hl5_3]); (with_reducible repeat (first | apply zb3 | apply zb2 | apply zb1)); exact BK311.out⟩, ⟨by repeat (first | (with_reducible first | exact HB.out | apply zc1 | apply zc2 | apply zc3 | refine zc4 ?_ (by assumption)) | exact HB.out)⟩⟩
       (rw [if_pos c19] at H); (have c19b0 : decide (x8_3 < a0_1) = true := decide_eq_true c19); (clear c19)
       by_cases c20 : 0 ≤ x7_2
       rotate_left
       ·rw [if_neg c20] at H
        exact absurd H (by simp)
       (rw [if_pos c20] at H); (have c20b0 : decide (0 ≤ x7_2) = true := decide_eq_true c20); (clear c20)
       by_cases c21 : x7_2 < (l0_2.length : Int)
       rotate_left
       ·rw [if_neg c21] at H
        exact absurd H (by simp)
       (rw [if_pos c21] at H); (have c21b0 : decide (x7_2 < (l0_2.length : Int)) = true := decide_eq_true c21); ((try (have c21b0h := c21b0; simp only [hl5_1, hl5_2, hl5_3] at c21b0h))); (clear c21)
       by_cases c22 : 0 ≤ x8_3
       rotate_left
       ·rw [if_neg c22] at H
        exact absurd H (by simp)
       (rw [if_pos c22] at H); (have c22b0 : decide (0 ≤ x8_3) = true := decide_eq_true c22); (clear c22)
       by_cases c23 : x8_3 < ((Zd l0_2 x7_2).length : Int)
       rotate_left
       ·rw [if_neg c23] at H
        exact absurd H (by simp)
       (rw [if_pos c23] at H); (have c23b0 : decide (x8_3 < ((Zd l0_2 x7_2).length : Int)) = true := decide_eq_true c23); ((try (have c23b0h := c23b0; simp only [hl5_1, hl5_2, hl5_3] at c23b0h))); (clear c23)
       by_cases c24 : 0 ≤ (rd (Zd l0_2 x7_2) x8_3)
       rotate_left
       ·rw [if_neg c24] at H
        exact absurd H (by simp)
       (rw [if_pos c24] at H); (have c24b0 : decide (0 ≤ (rd (Zd l0_2 x7_2) x8_3)) = true := decide_eq_true c24); (clear c24)
       by_cases c25 : (rd (Zd l0_2 x7_2) x8_3) < (x5_3.length : Int)
       rotate_left
       ·rw [if_neg c25] at H
        exact absurd H (by simp)
       (rw [if_pos c25] at H); (have c25b0 : decide ((rd (Zd l0_2 x7_2) x8_3) < (x5_3.length : Int)) = true := decide_eq_true c25); ((try (have c25b0h := c25b0; simp only [hl5_1, hl5_2, hl5_3] at c25b0h))); (clear c25); (obtain ⟨bq26, hbq26⟩ : ∃ b_ : Bool, b_ = (rdOf false x5_3 (rd (Zd l0_2 x7_2) x8_3)) := ⟨_, rfl⟩); (replace H : (if bq26 = true then (Zm.l2 k3 l1 (x5_3.set ((rd (Zd l0_2 x7_2) x8_3) : Int).toNat true) x6_1 x7_2 (wrap64 (x8_3 + 1)) a0_0 a0_1 l0_2 a0_3 a0_4) else (if x7_2 < (x5_3.length : Int) then (Zm.l2 k3 l1 (x5_3.set ((rd (Zd l0_2 x7_2) x8_3) : Int).toNat (rdOf false x5_3 x7_2)) x6_1 x7_2 (wrap64 (x8_3 + 1)) a0_0 a0_1 l0_2 a0_3 a0_4) else (none))) = some r := by rw [← hbq26] at H; exact H); (have Nbq26 := Za.mk hbq26); (clear hbq26)
       by_cases c27 : bq26 = true
       ·subst c27
        (have H1 : (Zm.l2 k3 l1 (x5_3.set ((rd (Zd l0_2 x7_2) x8_3) : Int).toNat true) x6_1 x7_2 (wrap64 (x8_3 + 1)) a0_0 a0_1 l0_2 a0_3 a0_4) = some r := by rw [if_pos rfl] at H; exact H); (clear H); (have H := H1); (clear H1); (obtain ⟨y321, hy321⟩ : ∃ y_ : List Bool, y_ = (x5_3.set ((rd (Zd l0_2 x7_2) x8_3) : Int).toNat true) := ⟨_, rfl⟩); (replace H : (Zm.l2 k3 l1 y321 x6_1 x7_2 (wrap64 (x8_3 + 1)) a0_0 a0_1 l0_2 a0_3 a0_4) = some r := by first | (rw [hy321]; with_reducible exact H) | (have H2_ := (Option.bind_some _ _).symm.trans H; rw [hy321]; with_reducible exact H2_) | (have H2_ := (Option.bind_some _ _).symm.trans H; with_reducible exact H2_) | with_reducible exact H | (rw [hy321]; exact H) | exact H); (have Ny321 := Za.mk hy321); (clear hy321); (have H' := Za.mk H); (clear H); (have hcz29_0 : wr.cell? ⟨gb311, 0, none⟩ = some (.int .i64 a0_0) := (Zb BK311.out 0).trans rfl); (have hcz29_1 : wr.cell? ⟨gb311, 1, none⟩ = some (.int .i64 a0_1) := (Zb BK311.out 1).trans rfl); (have hcz29_2 : wr.cell? ⟨gb311, 2, none⟩ = some (.slice A0_2 l0_2.length c0_2) := (Zb BK311.out 2).trans rfl); (have hcz29_3 : wr.cell? ⟨gb311, 3, none⟩ = some (.int .i64 a0_3) := (Zb BK311.out 3).trans rfl); (have hcz29_4 : wr.cell? ⟨gb311, 4, none⟩ = some (.int .u32 a0_4) := (Zb BK311.out 4).trans rfl); (have hfz29_0 := Zc BK311.out 0); (have hfz29_1 := Zc BK311.out 1); (have hfz29_2 := Zc BK311.out 2); (have hfz29_3 := Zc BK311.out 3); (have hfz29_4 := Zc BK311.out 4)
        try go_wp2
        (replace HO_5 := Za.mk (Kd.R_drew HO_5.out)); (replace BK311 := Za.mk (Zh BK311.out)); (replace HB := Za.mk (below_drew1 HB.out)); (have p316 : 0 ≤ (x7_2 : Int) := of_decide_eq_true (by assumption)); (have q316 : x7_2 < (l0_2.length : Int) := of_decide_eq_true (by assumption)); (obtain ⟨ad316, A316_0, c316_0, e316, hx316_0, hl316_0, hi316_0⟩ := at_L1 HR0_2.out x7_2 p316 q316); (have hw316_0 := hx316_0); (cases e316); (replace hx316_0 := (HB.out.cell (World.block_lt_of_cell? w _ hx316_0)).trans hx316_0); (have HR316_0 := Za.mk hi316_0); (have HC316_0 := Za.mk hl316_0); (clear hi316_0 hl316_0); (replace p316 := eq_true p316); (replace q316 := eq_true q316); (have p317 : 0 ≤ (x8_3 : Int) := of_decide_eq_true (by assumption)); (have q317 : x8_3 < ((Zd l0_2 x7_2).length : Int) := of_decide_eq_true (by assumption)); (obtain ⟨ad317, e317, hx317_0⟩ := Kd.at_int HR316_0.out x8_3 p317 q317); (have hw317_0 := hx317_0); (cases e317); (replace hx317_0 := (HB.out.cell (World.block_lt_of_cell? w _ hx317_0)).trans hx317_0); (replace p317 := eq_true p317); (replace q317 := eq_true q317); (have p318 : 0 ≤ (x7_2 : Int) := of_decide_eq_true (by assumption)); (have q318 : x7_2 < (l0_2.length : Int) := of_decide_eq_true (by assumption)); (obtain ⟨ad318, A318_0, c318_0, e318, hx318_0, hl318_0, hi318_0⟩ := at_L1 HR0_2.out x7_2 p318 q318); (have hw318_0 := hx318_0); (obtain rfl : ad316 = ad318 := (by injection e318)); (replace hx318_0 := (HB.out.cell (World.block_lt_of_cell? w _ hx318_0)).trans hx318_0); (have HR318_0 := Za.mk hi318_0); (have HC318_0 := Za.mk hl318_0); (clear hi318_0 hl318_0)
        (replace p318 := eq_true p318); (replace q318 := eq_true q318); (have ea_ := Option.some.inj (hx316_0.symm.trans hx318_0)); (injection ea_ with ea_ en_ ec_); (subst ea_); (subst ec_); (clear en_); (have p319 : 0 ≤ (x8_3 : Int) := of_decide_eq_true (by assumption)); (have q319 : x8_3 < ((Zd l0_2 x7_2).length : Int) := of_decide_eq_true (by assumption)); (obtain ⟨ad319, e319, hx319_0⟩ := Kd.at_int HR318_0.out x8_3 p319 q319); (have hw319_0 := hx319_0); (obtain rfl : ad317 = ad319 := (by injection e319)); (replace hx319_0 := (HB.out.cell (World.block_lt_of_cell? w _ hx319_0)).trans hx319_0); (replace p319 := eq_true p319); (replace q319 := eq_true q319); (have p320 : 0 ≤ ((rd (Zd l0_2 x7_2) x8_3) : Int) := of_decide_eq_true (by assumption)); (have q320 : (rd (Zd l0_2 x7_2) x8_3) < (x5_3.length : Int) := of_decide_eq_true (by assumption)); (obtain ⟨ad320, e320, hx320_0⟩ := Kd.at_bool (Kd.R_reads' HO_5.out).2.2 (rd (Zd l0_2 x7_2) x8_3) p320 q320); ((try rw [← Nbq26.out] at hx320_0)); (obtain rfl : (⟨go7, 0, none⟩ : Addr) = ad320 := (by injection e320))
        (first | simp only [add_plain] at hx320_0 | simp only [add_at] at hx320_0 | simp only [Addr.add, Nat.zero_add] at hx320_0 | skip)
        (replace p320 := eq_true p320); (replace q320 := eq_true q320); (have p28 : 0 ≤ ((rd (Zd l0_2 x7_2) x8_3) : Int) := of_decide_eq_true (by assumption)); (have q28 : ((rd (Zd l0_2 x7_2) x8_3) : Int) < ((x5_3.length : Int) : Int) := of_decide_eq_true (by assumption)); (obtain ⟨hx28_0, hf28_0⟩ := Kd.R_celln false HO_5.out ((rd (Zd l0_2 x7_2) x8_3) : Int) p28 q28); (replace p28 := eq_true p28); (replace q28 := eq_true q28); (have HP31 := Kd.R_putn HO_5.out ((rd (Zd l0_2 x7_2) x8_3) : Int) true); (rw [← Ny321.out] at HP31); (have HQ31 := Za.mk HP31); (clear HP31)
        refine start_ (n := 28) (S := fun w' => w'.cell? ⟨gb311, 0, none⟩ = some (.int .i64 a0_0) ∧ w'.cell? ⟨gb311, 1, none⟩ = some (.int .i64 a0_1) ∧ w'.cell? ⟨gb311, 2, none⟩ = some (.slice (some ad316) l0_2.length c0_2) ∧ w'.cell? ⟨gb311, 3, none⟩ = some (.int .i64 a0_3) ∧ w'.cell? ⟨gb311, 4, none⟩ = some (.int .u32 a0_4) ∧ w'.cell? (ad316.add (x7_2).toNat) = some (.slice (some ad317) (Zd l0_2 x7_2).length c316_0) ∧ w'.cell? (ad317.add (x8_3).toNat) = some (.int .i64 (rd (Zd l0_2 x7_2) x8_3)) ∧ w'.cell? (ad316.add (x7_2).toNat) = some (.slice (some ad317) (Zd l0_2 x7_2).length c316_0) ∧ w'.cell? (ad317.add (x8_3).toNat) = some (.int .i64 (rd (Zd l0_2 x7_2) x8_3)) ∧ w'.cell? ⟨go7, ((rd (Zd l0_2 x7_2) x8_3)).toNat, none⟩ = some (.bool true)) (ds := [27]) #[false, false, false, false, false, false, false, false, false, false, false, false, false, false, false, false, false, false, false, false, false, false, false, false, false, false, false, false] (by kernel_rfl) rfl rfl ⟨(Zb BK311.out 0).trans rfl, (Zb BK311.out 1).trans rfl, (Zb BK311.out 2).trans rfl, (Zb BK311.out 3).trans rfl, (Zb BK311.out 4).trans rfl, ((HB.out.cell (World.block_lt_of_cell? w _ hw316_0)).trans hw316_0), ((HB.out.cell (World.block_lt_of_cell? w _ hw317_0)).trans hw317_0), ((HB.out.cell (World.block_lt_of_cell? w _ hw318_0)).trans hw318_0), ((HB.out.cell (World.block_lt_of_cell? w _ hw319_0)).trans hw319_0), hx320_0⟩ (fun hHeld => ?_); refine with_tabW Zm.tab12 Zm.bits12 (fun HT_ HW_ => ?_)
        generalize wr.drew = w30 at HO_5 BK311 HB HQ31 HR316_0 HR318_0 hf28_0 hx28_0 hx316_0 hx317_0 hx318_0 hx319_0 hx320_0 hHeld ⊢
        refine pure_ (i := 0) (N := some 36) (v := ?_) (a' := ?_) #[true, false, false, false, false, false, false, false, false, false, false, false, false, false, false, false, false, false, false, false, false, false, false, false, false, false, false, false] rfl rfl (Zi HT_.out (by kernel_rfl)) (fun _ _ _ h => h) (Or.inl ⟨by rfl, ?_⟩) ?_ ?_
        rotate_left
        ·intro w'
         go_simp
         with_reducible rfl
        rotate_left
        ·simp only [Act.put, List.setIfInBounds_toArray, List.set_cons_zero, List.set_cons_succ, Zf, Ze]
         rfl
        refine pure_ (i := 1) (N := some 37) (v := ?_) (a' := ?_) #[true, true, false, false, false, false, false, false, false, false, false, false, false, false, false, false, false, false, false, false, false, false, false, false, false, false, false, false] rfl rfl (Zi HT_.out (by kernel_rfl)) (fun _ _ _ h => h) (Or.inl ⟨by rfl, ?_⟩) ?_ ?_
        rotate_left
        ·intro w'
         go_simp
         with_reducible rfl
        rotate_left
        ·simp only [Act.put, List.setIfInBounds_toArray, List.set_cons_zero, List.set_cons_succ, Zf, Ze]
         rfl
        refine pure_ (i := 3) (N := some 39) (v := ?_) (a' := ?_) #[true, true, false, true, false, false, false, false, false, false, false, false, false, false, false, false, false, false, false, false, false, false, false, false, false, false, false, false] rfl rfl (Zi HT_.out (by kernel_rfl)) (fun _ _ _ h => h) (Or.inl ⟨by rfl, ?_⟩) ?_ ?_
        rotate_left
        ·intro w'
         go_simp
         with_reducible rfl
        rotate_left
        ·simp only [Act.put, List.setIfInBounds_toArray, List.set_cons_zero, List.set_cons_succ, Zf, Ze]
         rfl
        refine pure_ (i := 6) (N := some 42) (v := ?_) (a' := ?_) #[true, true, false, true, false, false, true, false, false, false, false, false, false, false, false, false, false, false, false, false, false, false, false, false, false, false, false, false] rfl rfl (Zi HT_.out (by kernel_rfl)) (fun _ _ _ h => h) (Or.inl ⟨by rfl, ?_⟩) ?_ ?_
        rotate_left
        ·intro w'
         go_simp
         with_reducible rfl
        rotate_left
        ·simp only [Act.put, List.setIfInBounds_toArray, List.set_cons_zero, List.set_cons_succ, Zf, Ze]
         rfl
        refine pure_ (i := 9) (N := some 45) (v := ?_) (a' := ?_) #[true, true, false, true, false, false, true, false, false, true, false, false, false, false, false, false, false, false, false, false, false, false, false, false, false, false, false, false] rfl rfl (Zi HT_.out (by kernel_rfl)) (fun _ _ _ h => h) (Or.inl ⟨by rfl, ?_⟩) ?_ ?_
        rotate_left
        ·intro w'
         go_simp
         with_reducible rfl
        rotate_left
        ·simp only [Act.put, List.setIfInBounds_toArray, List.set_cons_zero, List.set_cons_succ, Zf, Ze]
         rfl
        refine pure_ (i := 10) (N := some 46) (v := ?_) (a' := ?_) #[true, true, false, true, false, false, true, false, false, true, true, false, false, false, false, false, false, false, false, false, false, false, false, false, false, false, false, false] rfl rfl (Zi HT_.out (by kernel_rfl)) (fun _ _ _ h => h) (Or.inl ⟨by rfl, ?_⟩) ?_ ?_
        rotate_left
        ·intro w'
         go_simp
         with_reducible rfl
        rotate_left
        ·simp only [Act.put, List.setIfInBounds_toArray, List.set_cons_zero, List.set_cons_succ, Zf, Ze]
         rfl
        refine pure_ (i := 12) (N := some 48) (v := ?_) (a' := ?_) #[true, true, false, true, false, false, true, false, false, true, true, false, true, false, false, false, false, false, false, false, false, false, false, false, false, false, false, false] rfl rfl (Zi HT_.out (by kernel_rfl)) (fun _ _ _ h => h) (Or.inl ⟨by rfl, ?_⟩) ?_ ?_
        rotate_left
        ·intro w'
         go_simp
         with_reducible rfl
        rotate_left
        ·simp only [Act.put, List.setIfInBounds_toArray, List.set_cons_zero, List.set_cons_succ, Zf, Ze]
         rfl
        refine pure_ (i := 15) (N := some 51) (v := ?_) (a' := ?_) #[true, true, false, true, false, false, true, false, false, true, true, false, true, false, false, true, false, false, false, false, false, false, false, false, false, false, false, false] rfl rfl (Zi HT_.out (by kernel_rfl)) (fun _ _ _ h => h) (Or.inl ⟨by rfl, ?_⟩) ?_ ?_
        rotate_left
        ·intro w'
         go_simp
         with_reducible rfl
        rotate_left
        ·simp only [Act.put, List.setIfInBounds_toArray, List.set_cons_zero, List.set_cons_succ, Zf, Ze]
         rfl
        refine take_ (i := 2) (N := some 38) (v := ?_) (a' := ?_) #[true, true, true, true, false, false, true, false, false, true, true, false, true, false, false, true, false, false, false, false, false, false, false, false, false, false, false, false] rfl rfl (Zg1 HT_.out HW_.out (by kernel_rfl)) (fun _ _ _ h => h) (Or.inl ⟨by rfl, ?_⟩) hHeld ?_ ?_
        rotate_left
        ·rintro w' ⟨s0, s1, s2, s3, s4, s5, s6, s7, s8, s9⟩
         go_simp
         with_reducible rfl
        rotate_left
        ·simp only [Act.put, List.setIfInBounds_toArray, List.set_cons_zero, List.set_cons_succ, Zf, Ze]
         rfl
        refine pure_ (i := 4) (N := some 40) (v := ?_) (a' := ?_) #[true, true, true, true, true, false, true, false, false, true, true, false, true, false, false, true, false, false, false, false, false, false, false, false, false, false, false, false] rfl rfl (Zi HT_.out (by kernel_rfl)) (fun _ _ _ h => h) (Or.inl ⟨by rfl, ?_⟩) ?_ ?_
        rotate_left
        ·intro w'
         go_simp
         with_reducible rfl
        rotate_left
        ·simp only [Act.put, List.setIfInBounds_toArray, List.set_cons_zero, List.set_cons_succ, Zf, Ze]
         rfl
        refine take_ (i := 5) (N := some 41) (v := ?_) (a' := ?_) #[true, true, true, true, true, true, true, false, false, true, true, false, true, false, false, true, false, false, false, false, false, false, false, false, false, false, false, false] rfl rfl (Zg1 HT_.out HW_.out (by kernel_rfl)) (fun _ _ _ h => h) (Or.inl ⟨by rfl, ?_⟩) hHeld ?_ ?_
        rotate_left
        ·rintro w' ⟨s0, s1, s2, s3, s4, s5, s6, s7, s8, s9⟩
         go_simp
         with_reducible rfl
        rotate_left
        ·simp only [Act.put, List.setIfInBounds_toArray, List.set_cons_zero, List.set_cons_succ, Zf, Ze]
         rfl
        refine pure_ (i := 7) (N := some 43) (v := ?_) (a' := ?_) #[true, true, true, true, true, true, true, true, false, true, true, false, true, false, false, true, false, false, false, false, false, false, false, false, false, false, false, false] rfl rfl (Zi HT_.out (by kernel_rfl)) (fun _ _ _ h => h) (Or.inl ⟨by rfl, ?_⟩) ?_ ?_
        rotate_left
        ·intro w'
         go_simp
         with_reducible rfl
        rotate_left
        ·simp only [Act.put, List.setIfInBounds_toArray, List.set_cons_zero, List.set_cons_succ, Zf, Ze]
         rfl
        refine take_ (i := 8) (N := some 44) (v := ?_) (a' := ?_) #[true, true, true, true, true, true, true, true, true, true, true, false, true, false, false, true, false, false, false, false, false, false, false, false, false, false, false, false] rfl rfl (Zg1 HT_.out HW_.out (by kernel_rfl)) (fun _ _ _ h => h) (Or.inl ⟨by rfl, ?_⟩) hHeld ?_ ?_
        rotate_left
        ·rintro w' ⟨s0, s1, s2, s3, s4, s5, s6, s7, s8, s9⟩
         go_simp
         with_reducible rfl
        rotate_left
        ·simp only [Act.put, List.setIfInBounds_toArray, List.set_cons_zero, List.set_cons_succ, Zf, Ze]
         rfl
        refine take_ (i := 11) (N := some 47) (v := ?_) (a' := ?_) #[true, true, true, true, true, true, true, true, true, true, true, true, true, false, false, true, false, false, false, false, false, false, false, false, false, false, false, false] rfl rfl (Zg1 HT_.out HW_.out (by kernel_rfl)) (fun _ _ _ h => h) (Or.inl ⟨by rfl, ?_⟩) hHeld ?_ ?_
        rotate_left
        ·rintro w' ⟨s0, s1, s2, s3, s4, s5, s6, s7, s8, s9⟩
         go_simp
         with_reducible rfl
        rotate_left
        ·simp only [Act.put, List.setIfInBounds_toArray, List.set_cons_zero, List.set_cons_succ, Zf, Ze]
         rfl
        refine pure_ (i := 13) (N := some 49) (v := ?_) (a' := ?_) #[true, true, true, true, true, true, true, true, true, true, true, true, true, true, false, true, false, false, false, false, false, false, false, false, false, false, false, false] rfl rfl (Zi HT_.out (by kernel_rfl)) (fun _ _ _ h => h) (Or.inl ⟨by rfl, ?_⟩) ?_ ?_
        rotate_left
        ·intro w'
         go_simp
         with_reducible rfl
        rotate_left
        ·simp only [Act.put, List.setIfInBounds_toArray, List.set_cons_zero, List.set_cons_succ, Zf, Ze]
         rfl
        refine take_ (i := 14) (N := some 50) (v := ?_) (a' := ?_) #[true, true, true, true, true, true, true, true, true, true, true, true, true, true, true, true, false, false, false, false, false, false, false, false, false, false, false, false] rfl rfl (Zg1 HT_.out HW_.out (by kernel_rfl)) (fun _ _ _ h => h) (Or.inl ⟨by rfl, ?_⟩) hHeld ?_ ?_
        rotate_left
        ·rintro w' ⟨s0, s1, s2, s3, s4, s5, s6, s7, s8, s9⟩
         go_simp
         with_reducible rfl
        rotate_left
        ·simp only [Act.put, List.setIfInBounds_toArray, List.set_cons_zero, List.set_cons_succ, Zf, Ze]
         rfl
        refine pure_ (i := 16) (N := some 52) (v := ?_) (a' := ?_) #[true, true, true, true, true, true, true, true, true, true, true, true, true, true, true, true, true, false, false, false, false, false, false, false, false, false, false, false] rfl rfl (Zi HT_.out (by kernel_rfl)) (fun _ _ _ h => h) (Or.inl ⟨by rfl, ?_⟩) ?_ ?_
        rotate_left
        ·intro w'
         go_simp
         with_reducible rfl
        rotate_left
        ·simp only [Act.put, List.setIfInBounds_toArray, List.set_cons_zero, List.set_cons_succ, Zf, Ze]
         rfl
        refine take_ (i := 17) (N := some 53) (v := ?_) (a' := ?_) #[true, true, true, true, true, true, true, true, true, true, true, true, true, true, true, true, true, true, false, false, false, false, false, false, false, false, false, false] rfl rfl (Zg1 HT_.out HW_.out (by kernel_rfl)) (fun _ _ _ h => h) (Or.inl ⟨by rfl, ?_⟩) hHeld ?_ ?_
        rotate_left
        ·rintro w' ⟨s0, s1, s2, s3, s4, s5, s6, s7, s8, s9⟩
         go_simp
         with_reducible rfl
        rotate_left
        ·simp only [Act.put, List.setIfInBounds_toArray, List.set_cons_zero, List.set_cons_succ, Zf, Ze]
         rfl
        refine pure_ (i := 18) (N := some 54) (v := ?_) (a' := ?_) #[true, true, true, true, true, true, true, true, true, true, true, true, true, true, true, true, true, true, true, false, false, false, false, false, false, false, false, false] rfl rfl (Zi HT_.out (by kernel_rfl)) (fun _ _ _ h => h) (Or.inl ⟨by rfl, ?_⟩) ?_ ?_
        rotate_left
        ·intro w'
         go_simp
         with_reducible rfl
        rotate_left
        ·simp only [Act.put, List.setIfInBounds_toArray, List.set_cons_zero, List.set_cons_succ, Zf, Ze]
         rfl
        refine take_ (i := 19) (N := some 55) (v := ?_) (a' := ?_) #[true, true, true, true, true, true, true, true, true, true, true, true, true, true, true, true, true, true, true, true, false, false, false, false, false, false, false, false] rfl rfl (Zg1 HT_.out HW_.out (by kernel_rfl)) (fun _ _ _ h => h) (Or.inl ⟨by rfl, ?_⟩) hHeld ?_ ?_
        rotate_left
        ·rintro w' ⟨s0, s1, s2, s3, s4, s5, s6, s7, s8, s9⟩
         go_simp
         with_reducible rfl
        rotate_left
        ·simp only [Act.put, List.setIfInBounds_toArray, List.set_cons_zero, List.set_cons_succ, Zf, Ze]
         rfl
        refine pure_ (i := 20) (N := some 56) (v := ?_) (a' := ?_) #[true, true, true, true, true, true, true, true, true, true, true, true, true, true, true, true, true, true, true, true, true, false, false, false, false, false, false, false] rfl rfl (Zi HT_.out (by kernel_rfl)) (fun _ _ _ h => h) (Or.inl ⟨by rfl, ?_⟩) ?_ ?_
        rotate_left
        ·intro w'
         go_simp
         with_reducible rfl
        rotate_left
        ·simp only [Act.put, List.setIfInBounds_toArray, List.set_cons_zero, List.set_cons_succ, Zf, Ze]
         rfl
        refine pure_ (i := 21) (N := some 57) (v := undef) (a' := ?_) #[true, true, true, true, true, true, true, true, true, true, true, true, true, true, true, true, true, true, true, true, true, true, false, false, false, false, false, false] rfl rfl (Zi HT_.out (by kernel_rfl)) (fun _ _ _ h => h) (Or.inr ⟨by rfl, rfl⟩) ?_ ?_
        rotate_left
        ·simp only [Act.put, List.setIfInBounds_toArray, List.set_cons_zero, List.set_cons_succ, Zf, Ze]
         rfl
        refine pure_ (i := 22) (N := some 58) (v := undef) (a' := ?_) #[true, true, true, true, true, true, true, true, true, true, true, true, true, true, true, true, true, true, true, true, true, true, true, false, false, false, false, false] rfl rfl (Zi HT_.out (by kernel_rfl)) (fun _ _ _ h => h) (Or.inr ⟨by rfl, rfl⟩) ?_ ?_
        rotate_left
        ·simp only [Act.put, List.setIfInBounds_toArray, List.set_cons_zero, List.set_cons_succ, Zf, Ze]
         rfl
        refine pure_ (i := 23) (N := some 59) (v := undef) (a' := ?_) #[true, true, true, true, true, true, true, true, true, true, true, true, true, true, true, true, true, true, true, true, true, true, true, true, false, false, false, false] rfl rfl (Zi HT_.out (by kernel_rfl)) (fun _ _ _ h => h) (Or.inr ⟨by rfl, rfl⟩) ?_ ?_
        rotate_left
        ·simp only [Act.put, List.setIfInBounds_toArray, List.set_cons_zero, List.set_cons_succ, Zf, Ze]
         rfl
        refine pure_ (i := 24) (N := some 60) (v := undef) (a' := ?_) #[true, true, true, true, true, true, true, true, true, true, true, true, true, true, true, true, true, true, true, true, true, true, true, true, true, false, false, false] rfl rfl (Zi HT_.out (by kernel_rfl)) (fun _ _ _ h => h) (Or.inr ⟨by rfl, rfl⟩) ?_ ?_
        rotate_left
        ·simp only [Act.put, List.setIfInBounds_toArray, List.set_cons_zero, List.set_cons_succ, Zf, Ze]
         rfl
        refine pure_ (i := 25) (N := some 61) (v := ?_) (a' := ?_) #[true, true, true, true, true, true, true, true, true, true, true, true, true, true, true, true, true, true, true, true, true, true, true, true, true, true, false, false] rfl rfl (Zi HT_.out (by kernel_rfl)) (fun _ _ _ h => h) (Or.inl ⟨by rfl, ?_⟩) ?_ ?_
        rotate_left
        ·intro w'
         go_simp
         with_reducible rfl
        rotate_left
        ·simp only [Act.put, List.setIfInBounds_toArray, List.set_cons_zero, List.set_cons_succ, Zf, Ze]
         rfl
        refine pure_ (i := 26) (N := some 62) (v := ?_) (a' := ?_) #[true, true, true, true, true, true, true, true, true, true, true, true, true, true, true, true, true, true, true, true, true, true, true, true, true, true, true, false] rfl rfl (Zi HT_.out (by kernel_rfl)) (fun _ _ _ h => h) (Or.inl ⟨by rfl, ?_⟩) ?_ ?_
        rotate_left
        ·intro w'
         go_simp
         with_reducible rfl
        rotate_left
        ·simp only [Act.put, List.setIfInBounds_toArray, List.set_cons_zero, List.set_cons_succ, Zf, Ze]
         rfl
        refine last_ (i := 27) (N := none) #[true, true, true, true, true, true, true, true, true, true, true, true, true, true, true, true, true, true, true, true, true, true, true, true, true, true, true, true] rfl rfl (one_of HT_.out (by kernel_rfl)) (by decide) (fun K hK => ?_)
        refine skip_ (w1 := ?_) (by rfl) rfl ?_ ?_
        rotate_left
        ·go_simp
         rfl
        refine hK.out _ _ ?_
        clear hK K
        refine done_ (done_of HT_.out (by kernel_rfl)) ?_
        try go_wp2
        (try simp only [← hl5_3])
        go_roundg k3
        case measure => have := HK1.out; have := HK2.out; have := HK3.out; omega
        case rel => exact ⟨(y321), (wrap64 (x8_3 + 1)), (by first | rfl | (simp; done) | (simp [*]; done)), H', ⟨by have := HK1.out; have := HK2.out; have := HK3.out; omega⟩, ⟨by (try simp only [hl5_1]); (try simp only [hl5_2]); (try simp only [hl5_3]); (with_reducible repeat (first | apply Kd.R_alloc | apply Kd.R_drewN | apply Kd.R_drew)); exact HQ31.out⟩, ⟨by (try simp only [hl5_1]); (try simp only [hl5_2]); (try simp only [hl5_3]); (with_reducible repeat (first | refine Zk ?_ _ | refine Zh ?_ | refine Zj ?_ _)); refine Zr ?_ (by have h_ := Kd.R_ne HO_5.out BK311.out (by decide); intro e_; exact h_ (by rw [e_]; rfl)) _; (with_reducible repeat (first | apply zb3 | apply zb2 | apply zb1)); exact BK311.out⟩, ⟨by repeat (first | (with_reducible first | exact HB.out | apply below_alloc | apply pw_below_drewN | apply below_drew1 | refine below_set ?_ GB7.out | refine below_set ?_ GE311.out) | exact HB.out)⟩⟩
       (replace c27 := Bool.eq_false_iff.mpr c27); (subst c27); (have H1 : (if x7_2 < (x5_3.length : Int) then (Zm.l2 k3 l1 (x5_3.set ((rd (Zd l0_2 x7_2) x8_3) : Int).toNat (rdOf false x5_3 x7_2)) x6_1 x7_2 (wrap64 (x8_3 + 1)) a0_0 a0_1 l0_2 a0_3 a0_4) else (none)) = some r := by rw [if_neg (show ¬ (false = true) by decide)] at H; exact H); (clear H); (have H := H1); (clear H1)
       by_cases c32 : x7_2 < (x5_3.length : Int)
       rotate_left
       ·rw [if_neg c32] at H
        exact absurd H (by simp)
       (rw [if_pos c32] at H); (have c32b0 : decide (x7_2 < (x5_3.length : Int)) = true := decide_eq_true c32); ((try (have c32b0h := c32b0; simp only [hl5_1, hl5_2, hl5_3] at c32b0h))); (clear c32); (obtain ⟨y323, hy323⟩ : ∃ y_ : List Bool, y_ = (x5_3.set ((rd (Zd l0_2 x7_2) x8_3) : Int).toNat (rdOf false x5_3 x7_2)) := ⟨_, rfl⟩); (replace H : (Zm.l2 k3 l1 y323 x6_1 x7_2 (wrap64 (x8_3 + 1)) a0_0 a0_1 l0_2 a0_3 a0_4) = some r := by first | (rw [hy323]; with_reducible exact H) | (have H2_ := (Option.bind_some _ _).symm.trans H; rw [hy323]; with_reducible exact H2_) | (have H2_ := (Option.bind_some _ _).symm.trans H; with_reducible exact H2_) | with_reducible exact H | (rw [hy323]; exact H) | exact H); (have Ny323 := Za.mk hy323); (clear hy323); (have H' := Za.mk H); (clear H); (have hcz34_0 : wr.cell? ⟨gb311, 0, none⟩ = some (.int .i64 a0_0) := (Zb BK311.out 0).trans rfl); (have hcz34_1 : wr.cell? ⟨gb311, 1, none⟩ = some (.int .i64 a0_1) := (Zb BK311.out 1).trans rfl); (have hcz34_2 : wr.cell? ⟨gb311, 2, none⟩ = some (.slice A0_2 l0_2.length c0_2) := (Zb BK311.out 2).trans rfl); (have hcz34_3 : wr.cell? ⟨gb311, 3, none⟩ = some (.int .i64 a0_3) := (Zb BK311.out 3).trans rfl); (have hcz34_4 : wr.cell? ⟨gb311, 4, none⟩ = some (.int .u32 a0_4) := (Zb BK311.out 4).trans rfl); (have hfz34_0 := Zc BK311.out 0); (have hfz34_1 := Zc BK311.out 1); (have hfz34_2 := Zc BK311.out 2); (have hfz34_3 := Zc BK311.out 3); (have hfz34_4 := Zc BK311.out 4)
       try go_wp2
       (replace HO_5 := Za.mk (Kd.R_drew HO_5.out)); (replace BK311 := Za.mk (Zh BK311.out)); (replace HB := Za.mk (below_drew1 HB.out)); (have p316 : 0 ≤ (x7_2 : Int) := of_decide_eq_true (by assumption)); (have q316 : x7_2 < (l0_2.length : Int) := of_decide_eq_true (by assumption)); (obtain ⟨ad316, A316_0, c316_0, e316, hx316_0, hl316_0, hi316_0⟩ := at_L1 HR0_2.out x7_2 p316 q316); (have hw316_0 := hx316_0); (cases e316); (replace hx316_0 := (HB.out.cell (World.block_lt_of_cell? w _ hx316_0)).trans hx316_0); (have HR316_0 := Za.mk hi316_0); (have HC316_0 := Za.mk hl316_0); (clear hi316_0 hl316_0); (replace p316 := eq_true p316); (replace q316 := eq_true q316); (have p317 : 0 ≤ (x8_3 : Int) := of_decide_eq_true (by assumption)); (have q317 : x8_3 < ((Zd l0_2 x7_2).length : Int) := of_decide_eq_true (by assumption)); (obtain ⟨ad317, e317, hx317_0⟩ := Kd.at_int HR316_0.out x8_3 p317 q317); (have hw317_0 := hx317_0); (cases e317); (replace hx317_0 := (HB.out.cell (World.block_lt_of_cell? w _ hx317_0)).trans hx317_0); (replace p317 := eq_true p317); (replace q317 := eq_true q317); (have p318 : 0 ≤ (x7_2 : Int) := of_decide_eq_true (by assumption)); (have q318 : x7_2 < (l0_2.length : Int) := of_decide_eq_true (by assumption)); (obtain ⟨ad318, A318_0, c318_0, e318, hx318_0, hl318_0, hi318_0⟩ := at_L1 HR0_2.out x7_2 p318 q318); (have hw318_0 := hx318_0); (obtain rfl : ad316 = ad318 := (by injection e318)); (replace hx318_0 := (HB.out.cell (World.block_lt_of_cell? w _ hx318_0)).trans hx318_0); (have HR318_0 := Za.mk hi318_0); (have HC318_0 := Za.mk hl318_0); (clear hi318_0 hl318_0)
       (replace p318 := eq_true p318); (replace q318 := eq_true q318); (have ea_ := Option.some.inj (hx316_0.symm.trans hx318_0)); (injection ea_ with ea_ en_ ec_); (subst ea_); (subst ec_); (clear en_); (have p319 : 0 ≤ (x8_3 : Int) := of_decide_eq_true (by assumption)); (have q319 : x8_3 < ((Zd l0_2 x7_2).length : Int) := of_decide_eq_true (by assumption)); (obtain ⟨ad319, e319, hx319_0⟩ := Kd.at_int HR318_0.out x8_3 p319 q319); (have hw319_0 := hx319_0); (obtain rfl : ad317 = ad319 := (by injection e319)); (replace hx319_0 := (HB.out.cell (World.block_lt_of_cell? w _ hx319_0)).trans hx319_0); (replace p319 := eq_true p319); (replace q319 := eq_true q319); (have p320 : 0 ≤ ((rd (Zd l0_2 x7_2) x8_3) : Int) := of_decide_eq_true (by assumption)); (have q320 : (rd (Zd l0_2 x7_2) x8_3) < (x5_3.length : Int) := of_decide_eq_true (by assumption)); (obtain ⟨ad320, e320, hx320_0⟩ := Kd.at_bool (Kd.R_reads' HO_5.out).2.2 (rd (Zd l0_2 x7_2) x8_3) p320 q320); ((try rw [← Nbq26.out] at hx320_0)); (obtain rfl : (⟨go7, 0, none⟩ : Addr) = ad320 := (by injection e320))
       (first | simp only [add_plain] at hx320_0 | simp only [add_at] at hx320_0 | simp only [Addr.add, Nat.zero_add] at hx320_0 | skip)
       (replace p320 := eq_true p320); (replace q320 := eq_true q320); (have p322 : 0 ≤ (x7_2 : Int) := of_decide_eq_true (by assumption)); (have q322 : x7_2 < (x5_3.length : Int) := of_decide_eq_true (by assumption)); (obtain ⟨ad322, e322, hx322_0⟩ := Kd.at_bool (Kd.R_reads' HO_5.out).2.2 x7_2 p322 q322); ((try rw [← Nbq26.out] at hx322_0)); (obtain rfl : (⟨go7, 0, none⟩ : Addr) = ad322 := (by injection e322))
       (first | simp only [add_plain] at hx322_0 | simp only [add_at] at hx322_0 | simp only [Addr.add, Nat.zero_add] at hx322_0 | skip)
       (replace p322 := eq_true p322); (replace q322 := eq_true q322); (have p33 : 0 ≤ ((rd (Zd l0_2 x7_2) x8_3) : Int) := of_decide_eq_true (by assumption)); (have q33 : ((rd (Zd l0_2 x7_2) x8_3) : Int) < ((x5_3.length : Int) : Int) := of_decide_eq_true (by assumption)); (obtain ⟨hx33_0, hf33_0⟩ := Kd.R_celln false HO_5.out ((rd (Zd l0_2 x7_2) x8_3) : Int) p33 q33); (replace p33 := eq_true p33); (replace q33 := eq_true q33); (have HP36 := Kd.R_putn HO_5.out ((rd (Zd l0_2 x7_2) x8_3) : Int) (rdOf false x5_3 x7_2)); (rw [← Ny323.out] at HP36); (have HQ36 := Za.mk HP36); (clear HP36)
       refine start_ (n := 28) (S := fun w' => w'.cell? ⟨gb311, 0, none⟩ = some (.int .i64 a0_0) ∧ w'.cell? ⟨gb311, 1, none⟩ = some (.int .i64 a0_1) ∧ w'.cell? ⟨gb311, 2, none⟩ = some (.slice (some ad316) l0_2.length c0_2) ∧ w'.cell? ⟨gb311, 3, none⟩ = some (.int .i64 a0_3) ∧ w'.cell? ⟨gb311, 4, none⟩ = some (.int .u32 a0_4) ∧ w'.cell? (ad316.add (x7_2).toNat) = some (.slice (some ad317) (Zd l0_2 x7_2).length c316_0) ∧ w'.cell? (ad317.add (x8_3).toNat) = some (.int .i64 (rd (Zd l0_2 x7_2) x8_3)) ∧ w'.cell? (ad316.add (x7_2).toNat) = some (.slice (some ad317) (Zd l0_2 x7_2).length c316_0) ∧ w'.cell? (ad317.add (x8_3).toNat) = some (.int .i64 (rd (Zd l0_2 x7_2) x8_3)) ∧ w'.cell? ⟨go7, ((rd (Zd l0_2 x7_2) x8_3)).toNat, none⟩ = some (.bool false) ∧ w'.cell? ⟨go7, (x7_2).toNat, none⟩ = some (.bool (rdOf false x5_3 x7_2))) (ds := [27]) #[false, false, false, false, false, false, false, false, false, false, false, false, false, false, false, false, false, false, false, false, false, false, false, false, false, false, false, false] (by kernel_rfl) rfl rfl ⟨(Zb BK311.out 0).trans rfl, (Zb BK311.out 1).trans rfl, (Zb BK311.out 2).trans rfl, (Zb BK311.out 3).trans rfl, (Zb BK311.out 4).trans rfl, ((HB.out.cell (World.block_lt_of_cell? w _ hw316_0)).trans hw316_0), ((HB.out.cell (World.block_lt_of_cell? w _ hw317_0)).trans hw317_0), ((HB.out.cell (World.block_lt_of_cell? w _ hw318_0)).trans hw318_0), ((HB.out.cell (World.block_lt_of_cell? w _ hw319_0)).trans hw319_0), hx320_0, hx322_0⟩ (fun hHeld => ?_); refine with_tabW Zm.tab12 Zm.bits12 (fun HT_ HW_ => ?_)
       generalize wr.drew = w35 at HO_5 BK311 HB HQ36 HR316_0 HR318_0 hf33_0 hx316_0 hx317_0 hx318_0 hx319_0 hx320_0 hx322_0 hx33_0 hHeld ⊢
       refine pure_ (i := 0) (N := some 36) (v := ?_) (a' := ?_) #[true, false, false, false, false, false, false, false, false, false, false, false, false, false, false, false, false, false, false, false, false, false, false, false, false, false, false, false] rfl rfl (Zi HT_.out (by kernel_rfl)) (fun _ _ _ h => h) (Or.inl ⟨by rfl, ?_⟩) ?_ ?_
       rotate_left
       ·intro w'
        go_simp
        with_reducible rfl
       rotate_left
       ·simp only [Act.put, List.setIfInBounds_toArray, List.set_cons_zero, List.set_cons_succ, Zf, Ze]
        rfl
       refine pure_ (i := 1) (N := some 37) (v := ?_) (a' := ?_) #[true, true, false, false, false, false, false, false, false, false, false, false, false, false, false, false, false, false, false, false, false, false, false, false, false, false, false, false] rfl rfl (Zi HT_.out (by kernel_rfl)) (fun _ _ _ h => h) (Or.inl ⟨by rfl, ?_⟩) ?_ ?_
       rotate_left
       ·intro w'
        go_simp
        with_reducible rfl
       rotate_left
       ·simp only [Act.put, List.setIfInBounds_toArray, List.set_cons_zero, List.set_cons_succ, Zf, Ze]
        rfl
       refine pure_ (i := 3) (N := some 39) (v := ?_) (a' := ?_) #[true, true, false, true, false, false, false, false, false, false, false, false, false, false, false, false, false, false, false, false, false, false, false, false, false, false, false, false] rfl rfl (Zi HT_.out (by kernel_rfl)) (fun _ _ _ h => h) (Or.inl ⟨by rfl, ?_⟩) ?_ ?_
       rotate_left
       ·intro w'
        go_simp
        with_reducible rfl
       rotate_left
       ·simp only [Act.put, List.setIfInBounds_toArray, List.set_cons_zero, List.set_cons_succ, Zf, Ze]
        rfl
       refine pure_ (i := 6) (N := some 42) (v := ?_) (a' := ?_) #[true, true, false, true, false, false, true, false, false, false, false, false, false, false, false, false, false, false, false, false, false, false, false, false, false, false, false, false] rfl rfl (Zi HT_.out (by kernel_rfl)) (fun _ _ _ h => h) (Or.inl ⟨by rfl, ?_⟩) ?_ ?_
       rotate_left
       ·intro w'
        go_simp
        with_reducible rfl
       rotate_left
       ·simp only [Act.put, List.setIfInBounds_toArray, List.set_cons_zero, List.set_cons_succ, Zf, Ze]
        rfl
       refine pure_ (i := 9) (N := some 45) (v := ?_) (a' := ?_) #[true, true, false, true, false, false, true, false, false, true, false, false, false, false, false, false, false, false, false, false, false, false, false, false, false, false, false, false] rfl rfl (Zi HT_.out (by kernel_rfl)) (fun _ _ _ h => h) (Or.inl ⟨by rfl, ?_⟩) ?_ ?_
       rotate_left
       ·intro w'
        go_simp
        with_reducible rfl
       rotate_left
       ·simp only [Act.put, List.setIfInBounds_toArray, List.set_cons_zero, List.set_cons_succ, Zf, Ze]
        rfl
       refine pure_ (i := 10) (N := some 46) (v := ?_) (a' := ?_) #[true, true, false, true, false, false, true, false, false, true, true, false, false, false, false, false, false, false, false, false, false, false, false, false, false, false, false, false] rfl rfl (Zi HT_.out (by kernel_rfl)) (fun _ _ _ h => h) (Or.inl ⟨by rfl, ?_⟩) ?_ ?_
       rotate_left
       ·intro w'
        go_simp
        with_reducible rfl
       rotate_left
       ·simp only [Act.put, List.setIfInBounds_toArray, List.set_cons_zero, List.set_cons_succ, Zf, Ze]
        rfl
       refine pure_ (i := 12) (N := some 48) (v := ?_) (a' := ?_) #[true, true, false, true, false, false, true, false, false, true, true, false, true, false, false, false, false, false, false, false, false, false, false, false, false, false, false, false] rfl rfl (Zi HT_.out (by kernel_rfl)) (fun _ _ _ h => h) (Or.inl ⟨by rfl, ?_⟩) ?_ ?_
       rotate_left
       ·intro w'
        go_simp
        with_reducible rfl
       rotate_left
       ·simp only [Act.put, List.setIfInBounds_toArray, List.set_cons_zero, List.set_cons_succ, Zf, Ze]
        rfl
       refine pure_ (i := 15) (N := some 51) (v := ?_) (a' := ?_) #[true, true, false, true, false, false, true, false, false, true, true, false, true, false, false, true, false, false, false, false, false, false, false, false, false, false, false, false] rfl rfl (Zi HT_.out (by kernel_rfl)) (fun _ _ _ h => h) (Or.inl ⟨by rfl, ?_⟩) ?_ ?_
       rotate_left
       ·intro w'
        go_simp
        with_reducible rfl
       rotate_left
       ·simp only [Act.put, List.setIfInBounds_toArray, List.set_cons_zero, List.set_cons_succ, Zf, Ze]
        rfl
       refine take_ (i := 2) (N := some 38) (v := ?_) (a' := ?_) #[true, true, true, true, false, false, true, false, false, true, true, false, true, false, false, true, false, false, false, false, false, false, false, false, false, false, false, false] rfl rfl (Zg1 HT_.out HW_.out (by kernel_rfl)) (fun _ _ _ h => h) (Or.inl ⟨by rfl, ?_⟩) hHeld ?_ ?_
       rotate_left
       ·rintro w' ⟨s0, s1, s2, s3, s4, s5, s6, s7, s8, s9, s10⟩
        go_simp
        with_reducible rfl
       rotate_left
       ·simp only [Act.put, List.setIfInBounds_toArray, List.set_cons_zero, List.set_cons_succ, Zf, Ze]
        rfl
       refine pure_ (i := 4) (N := some 40) (v := ?_) (a' := ?_) #[true, true, true, true, true, false, true, false, false, true, true, false, true, false, false, true, false, false, false, false, false, false, false, false, false, false, false, false] rfl rfl (Zi HT_.out (by kernel_rfl)) (fun _ _ _ h => h) (Or.inl ⟨by rfl, ?_⟩) ?_ ?_
       rotate_left
       ·intro w'
        go_simp
        with_reducible rfl
       rotate_left
       ·simp only [Act.put, List.setIfInBounds_toArray, List.set_cons_zero, List.set_cons_succ, Zf, Ze]
        rfl
       refine take_ (i := 5) (N := some 41) (v := ?_) (a' := ?_) #[true, true, true, true, true, true, true, false, false, true, true, false, true, false, false, true, false, false, false, false, false, false, false, false, false, false, false, false] rfl rfl (Zg1 HT_.out HW_.out (by kernel_rfl)) (fun _ _ _ h => h) (Or.inl ⟨by rfl, ?_⟩) hHeld ?_ ?_
       rotate_left
       ·rintro w' ⟨s0, s1, s2, s3, s4, s5, s6, s7, s8, s9, s10⟩
        go_simp
        with_reducible rfl
       rotate_left
       ·simp only [Act.put, List.setIfInBounds_toArray, List.set_cons_zero, List.set_cons_succ, Zf, Ze]
        rfl
       refine pure_ (i := 7) (N := some 43) (v := ?_) (a' := ?_) #[true, true, true, true, true, true, true, true, false, true, true, false, true, false, false, true, false, false, false, false, false, false, false, false, false, false, false, false] rfl rfl (Zi HT_.out (by kernel_rfl)) (fun _ _ _ h => h) (Or.inl ⟨by rfl, ?_⟩) ?_ ?_
       rotate_left
       ·intro w'
        go_simp
        with_reducible rfl
       rotate_left
       ·simp only [Act.put, List.setIfInBounds_toArray, List.set_cons_zero, List.set_cons_succ, Zf, Ze]
        rfl
       refine take_ (i := 8) (N := some 44) (v := ?_) (a' := ?_) #[true, true, true, true, true, true, true, true, true, true, true, false, true, false, false, true, false, false, false, false, false, false, false, false, false, false, false, false] rfl rfl (Zg1 HT_.out HW_.out (by kernel_rfl)) (fun _ _ _ h => h) (Or.inl ⟨by rfl, ?_⟩) hHeld ?_ ?_
       rotate_left
       ·rintro w' ⟨s0, s1, s2, s3, s4, s5, s6, s7, s8, s9, s10⟩
        go_simp
        with_reducible rfl
       rotate_left
       ·simp only [Act.put, List.setIfInBounds_toArray, List.set_cons_zero, List.set_cons_succ, Zf, Ze]
        rfl
       refine take_ (i := 11) (N := some 47) (v := ?_) (a' := ?_) #[true, true, true, true, true, true, true, true, true, true, true, true, true, false, false, true, false, false, false, false, false, false, false, false, false, false, false, false] rfl rfl (Zg1 HT_.out HW_.out (by kernel_rfl)) (fun _ _ _ h => h) (Or.inl ⟨by rfl, ?_⟩) hHeld ?_ ?_
       rotate_left
       ·rintro w' ⟨s0, s1, s2, s3, s4, s5, s6, s7, s8, s9, s10⟩
        go_simp
        with_reducible rfl
       rotate_left
       ·simp only [Act.put, List.setIfInBounds_toArray, List.set_cons_zero, List.set_cons_succ, Zf, Ze]
        rfl
       refine pure_ (i := 13) (N := some 49) (v := ?_) (a' := ?_) #[true, true, true, true, true, true, true, true, true, true, true, true, true, true, false, true, false, false, false, false, false, false, false, false, false, false, false, false] rfl rfl (Zi HT_.out (by kernel_rfl)) (fun _ _ _ h => h) (Or.inl ⟨by rfl, ?_⟩) ?_ ?_
       rotate_left
       ·intro w'
        go_simp
        with_reducible rfl
       rotate_left
       ·simp only [Act.put, List.setIfInBounds_toArray, List.set_cons_zero, List.set_cons_succ, Zf, Ze]
        rfl
       refine take_ (i := 14) (N := some 50) (v := ?_) (a' := ?_) #[true, true, true, true, true, true, true, true, true, true, true, true, true, true, true, true, false, false, false, false, false, false, false, false, false, false, false, false] rfl rfl (Zg1 HT_.out HW_.out (by kernel_rfl)) (fun _ _ _ h => h) (Or.inl ⟨by rfl, ?_⟩) hHeld ?_ ?_
       rotate_left
       ·rintro w' ⟨s0, s1, s2, s3, s4, s5, s6, s7, s8, s9, s10⟩
        go_simp
        with_reducible rfl
       rotate_left
       ·simp only [Act.put, List.setIfInBounds_toArray, List.set_cons_zero, List.set_cons_succ, Zf, Ze]
        rfl
       refine pure_ (i := 16) (N := some 52) (v := ?_) (a' := ?_) #[true, true, true, true, true, true, true, true, true, true, true, true, true, true, true, true, true, false, false, false, false, false, false, false, false, false, false, false] rfl rfl (Zi HT_.out (by kernel_rfl)) (fun _ _ _ h => h) (Or.inl ⟨by rfl, ?_⟩) ?_ ?_
       rotate_left
       ·intro w'
        go_simp
        with_reducible rfl
       rotate_left
       ·simp only [Act.put, List.setIfInBounds_toArray, List.set_cons_zero, List.set_cons_succ, Zf, Ze]
        rfl
       refine take_ (i := 17) (N := some 53) (v := ?_) (a' := ?_) #[true, true, true, true, true, true, true, true, true, true, true, true, true, true, true, true, true, true, false, false, false, false, false, false, false, false, false, false] rfl rfl (Zg1 HT_.out HW_.out (by kernel_rfl)) (fun _ _ _ h => h) (Or.inl ⟨by rfl, ?_⟩) hHeld ?_ ?_
       rotate_left
       ·rintro w' ⟨s0, s1, s2, s3, s4, s5, s6, s7, s8, s9, s10⟩
        go_simp
        with_reducible rfl
       rotate_left
       ·simp only [Act.put, List.setIfInBounds_toArray, List.set_cons_zero, List.set_cons_succ, Zf, Ze]
        rfl
       refine pure_ (i := 18) (N := some 54) (v := ?_) (a' := ?_) #[true, true, true, true, true, true, true, true, true, true, true, true, true, true, true, true, true, true, true, false, false, false, false, false, false, false, false, false] rfl rfl (Zi HT_.out (by kernel_rfl)) (fun _ _ _ h => h) (Or.inl ⟨by rfl, ?_⟩) ?_ ?_
       rotate_left
       ·intro w'
        go_simp
        with_reducible rfl
       rotate_left
       ·simp only [Act.put, List.setIfInBounds_toArray, List.set_cons_zero, List.set_cons_succ, Zf, Ze]
        rfl
       refine take_ (i := 19) (N := some 55) (v := ?_) (a' := ?_) #[true, true, true, true, true, true, true, true, true, true, true, true, true, true, true, true, true, true, true, true, false, false, false, false, false, false, false, false] rfl rfl (Zg1 HT_.out HW_.out (by kernel_rfl)) (fun _ _ _ h => h) (Or.inl ⟨by rfl, ?_⟩) hHeld ?_ ?_
       rotate_left
       ·rintro w' ⟨s0, s1, s2, s3, s4, s5, s6, s7, s8, s9, s10⟩
        go_simp
        with_reducible rfl
       rotate_left
       ·simp only [Act.put, List.setIfInBounds_toArray, List.set_cons_zero, List.set_cons_succ, Zf, Ze]
        rfl
       refine pure_ (i := 20) (N := some 56) (v := ?_) (a' := ?_) #[true, true, true, true, true, true, true, true, true, true, true, true, true, true, true, true, true, true, true, true, true, false, false, false, false, false, false, false] rfl rfl (Zi HT_.out (by kernel_rfl)) (fun _ _ _ h => h) (Or.inl ⟨by rfl, ?_⟩) ?_ ?_
       rotate_left
       ·intro w'
        go_simp
        with_reducible rfl
       rotate_left
       ·simp only [Act.put, List.setIfInBounds_toArray, List.set_cons_zero, List.set_cons_succ, Zf, Ze]
        rfl
       refine pure_ (i := 21) (N := some 57) (v := ?_) (a' := ?_) #[true, true, true, true, true, true, true, true, true, true, true, true, true, true, true, true, true, true, true, true, true, true, false, false, false, false, false, false] rfl rfl (Zi HT_.out (by kernel_rfl)) (fun _ _ _ h => h) (Or.inl ⟨by rfl, ?_⟩) ?_ ?_
       rotate_left
       ·intro w'
        go_simp
        with_reducible rfl
       rotate_left
       ·simp only [Act.put, List.setIfInBounds_toArray, List.set_cons_zero, List.set_cons_succ, Zf, Ze]
        rfl
       refine pure_ (i := 22) (N := some 58) (v := ?_) (a' := ?_) #[true, true, true, true, true, true, true, true, true, true, true, true, true, true, true, true, true, true, true, true, true, true, true, false, false, false, false, false] rfl rfl (Zi HT_.out (by kernel_rfl)) (fun _ _ _ h => h) (Or.inl ⟨by rfl, ?_⟩) ?_ ?_
       rotate_left
       ·intro w'
        go_simp
        with_reducible rfl
       rotate_left
       ·simp only [Act.put, List.setIfInBounds_toArray, List.set_cons_zero, List.set_cons_succ, Zf, Ze]
        rfl
       refine pure_ (i := 23) (N := some 59) (v := ?_) (a' := ?_) #[true, true, true, true, true, true, true, true, true, true, true, true, true, true, true, true, true, true, true, true, true, true, true, true, false, false, false, false] rfl rfl (Zi HT_.out (by kernel_rfl)) (fun _ _ _ h => h) (Or.inl ⟨by rfl, ?_⟩) ?_ ?_
       rotate_left
       ·intro w'
        go_simp
        with_reducible rfl
       rotate_left
       ·simp only [Act.put, List.setIfInBounds_toArray, List.set_cons_zero, List.set_cons_succ, Zf, Ze]
        rfl
       refine take_ (i := 24) (N := some 60) (v := ?_) (a' := ?_) #[true, true, true, true, true, true, true, true, true, true, true, true, true, true, true, true, true, true, true, true, true, true, true, true, true, false, false, false] rfl rfl (Zg1 HT_.out HW_.out (by kernel_rfl)) (fun _ _ _ h => h) (Or.inl ⟨by rfl, ?_⟩) hHeld ?_ ?_
       rotate_left
       ·rintro w' ⟨s0, s1, s2, s3, s4, s5, s6, s7, s8, s9, s10⟩
        go_simp
        with_reducible rfl
       rotate_left
       ·simp only [Act.put, List.setIfInBounds_toArray, List.set_cons_zero, List.set_cons_succ, Zf, Ze]
        rfl
       refine pure_ (i := 25) (N := some 61) (v := ?_) (a' := ?_) #[true, true, true, true, true, true, true, true, true, true, true, true, true, true, true, true, true, true, true, true, true, true, true, true, true, true, false, false] rfl rfl (Zi HT_.out (by kernel_rfl)) (fun _ _ _ h => h) (Or.inl ⟨by rfl, ?_⟩) ?_ ?_
       rotate_left
       ·intro w'
        go_simp
        with_reducible rfl
       rotate_left
       ·simp only [Act.put, List.setIfInBounds_toArray, List.set_cons_zero, List.set_cons_succ, Zf, Ze]
        rfl
       refine pure_ (i := 26) (N := some 62) (v := ?_) (a' := ?_) #[true, true, true, true, true, true, true, true, true, true, true, true, true, true, true, true, true, true, true, true, true, true, true, true, true, true, true, false] rfl rfl (Zi HT_.out (by kernel_rfl)) (fun _ _ _ h => h) (Or.inl ⟨by rfl, ?_⟩) ?_ ?_
       rotate_left
       ·intro w'
        go_simp
        with_reducible rfl
       rotate_left
       ·simp only [Act.put, List.setIfInBounds_toArray, List.set_cons_zero, List.set_cons_succ, Zf, Ze]
        rfl
       refine last_ (i := 27) (N := none) #[true, true, true, true, true, true, true, true, true, true, true, true, true, true, true, true, true, true, true, true, true, true, true, true, true, true, true, true] rfl rfl (one_of HT_.out (by kernel_rfl)) (by decide) (fun K hK => ?_)
       refine skip_ (w1 := ?_) (by rfl) rfl ?_ ?_
       rotate_left
       ·go_simp
        rfl
       refine hK.out _ _ ?_
       clear hK K
       refine done_ (done_of HT_.out (by kernel_rfl)) ?_
       try go_wp2
       (try simp only [← hl5_3])
       go_roundg k3
       case measure => have := HK1.out; have := HK2.out; have := HK3.out; omega
       case rel => exact ⟨(y323), (wrap64 (x8_3 + 1)), (by first | rfl | (simp; done) | (simp [*]; done)), H', ⟨by have := HK1.out; have := HK2.out; have := HK3.out; omega⟩, ⟨by (try simp only [hl5_1]); (try simp only [hl5_2]); (try simp only [hl5_3]); (with_reducible repeat (first | apply Kd.R_alloc | apply Kd.R_drewN | apply Kd.R_drew)); exact HQ36.out⟩, ⟨by (try simp only [hl5_1]); (try simp only [hl5_2]); (try simp only [hl5_3]); (with_reducible repeat (first | refine Zk ?_ _ | refine Zh ?_ | refine Zj ?_ _)); refine Zr ?_ (by have h_ := Kd.R_ne HO_5.out BK311.out (by decide); intro e_; exact h_ (by rw [e_]; rfl)) _; (with_reducible repeat (first | apply zb3 | apply zb2 | apply zb1)); exact BK311.out⟩, ⟨by repeat (first | (with_reducible first | exact HB.out | apply below_alloc | apply pw_below_drewN | apply below_drew1 | refine below_set ?_ GB7.out | refine below_set ?_ GE311.out) | exact HB.out)⟩⟩
end Go.Proofs.Ytofdaiknpficfaa.PKindsSames
