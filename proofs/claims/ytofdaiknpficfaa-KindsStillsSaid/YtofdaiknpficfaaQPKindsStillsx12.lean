-- Printed by a turn of a template of the kit, and shortened: remarks and what nothing here uses are left out.
import Derived.Test.YtofdaiknpficfaaQPKindsStillsx0
import Derived.Test.YtofdaiknpficfaaQPKindsStillsx10
import Derived.Test.YtofdaiknpficfaaQPKindsStillsx11
namespace Go.Proofs.Ytofdaiknpficfaa.PKindsStills
open Go.RowKit Go.Proofs.YtofdaiknpficfaaW.PrintWords Go.Proofs.YtofdaiknpficfaaW.PrintLast Go.Proofs.YtofdaiknpficfaaW.PrintMore
attribute [local go_sem] max2_int min2_int max_two min_two max_three min_three max_four min_four
set_option linter.unusedVariables false
set_option linter.unusedSimpArgs false
mutual
def Zs.l0 : Nat → List Bool → List Int → Int → Int → Int → Int → List (List Int) → Int → Int → Option (List Int)
  | 0, _, _, _, _, _, _, _, _, _ => none
  | k + 1, x1, x5, x16, x17, x255000, x255001, x255002, x255003, x255004 => if x17 < x16 then (if 0 ≤ x17 then (if x17 < (x1.length : Int) then ((Zo1.f k x1 (rdOf false x1 x17)).bind fun t259 => (if x17 < (x5.length : Int) then (Zs.l0 k x1 (x5.set (x17 : Int).toNat t259) x16 (wrap64 (x17 + 1)) x255000 x255001 x255002 x255003 x255004) else (none))) else (none)) else (none)) else (Zs.l1 k x5 x255000 x255001 x255002 x255003 x255004)
def Zs.l1 : Nat → List Int → Int → Int → List (List Int) → Int → Int → Option (List Int)
  | 0, _, _, _, _, _, _ => none
  | k + 1, x5, x255000, x255001, x255002, x255003, x255004 => if 0 ≤ x255000 then (if (x255000 : Int).toNat ≤ 35184372088832 then ((some (List.replicate (x255000 : Int).toNat 0 : List Int)).bind fun y261 => (Zs.l2 k x5 y261 (y261.length : Int) 0 x255000 x255001 x255002 x255003 x255004)) else (none)) else (none)
def Zs.l2 : Nat → List Int → List Int → Int → Int → Int → Int → List (List Int) → Int → Int → Option (List Int)
  | 0, _, _, _, _, _, _, _, _, _ => none
  | k + 1, x5, x7, x34, x35, x255000, x255001, x255002, x255003, x255004 => if x35 < x34 then (Zs.l3 k x5 x7 x35 x34 x35 (wrap64 (x35 + 1)) 0 x255000 x255001 x255002 x255003 x255004) else ((Zm1.f k x7 x5).bind fun t264 => (if t264 = true then (some x7) else (Zs.l1 k x7 x255000 x255001 x255002 x255003 x255004)))
def Zs.l3 : Nat → List Int → List Int → Int → Int → Int → Int → Int → Int → Int → List (List Int) → Int → Int → Option (List Int)
  | 0, _, _, _, _, _, _, _, _, _, _, _, _ => none
  | k + 1, x5, x7, x8, x34, x35, x39, x40, x255000, x255001, x255002, x255003, x255004 => if x40 < x39 then (if 0 ≤ x8 then (if x8 < (x5.length : Int) then (if 0 ≤ x40 then (if x40 < (x5.length : Int) then (Zs.l4 k x5 x7 x8 x40 ((rd x5 x8) == (rd x5 x40)) x34 x35 x39 x40 x255001 0 x255000 x255001 x255002 x255003 x255004) else (none)) else (none)) else (none)) else (none)) else (Zs.l2 k x5 x7 x34 (wrap64 (x35 + 1)) x255000 x255001 x255002 x255003 x255004)
def Zs.l4 : Nat → List Int → List Int → Int → Int → Bool → Int → Int → Int → Int → Int → Int → Int → Int → List (List Int) → Int → Int → Option (List Int)
  | 0, _, _, _, _, _, _, _, _, _, _, _, _, _, _, _, _ => none
  | k + 1, x5, x7, x8, x9, x10, x34, x35, x39, x40, x53, x54, x255000, x255001, x255002, x255003, x255004 => if x54 < x53 then (if x10 = true then (if 0 ≤ x8 then (if x8 < (x255002.length : Int) then (if 0 ≤ x54 then (if x54 < ((Ze x255002 x8).length : Int) then (if 0 ≤ (rd (Ze x255002 x8) x54) then (if (rd (Ze x255002 x8) x54) < (x5.length : Int) then (if 0 ≤ x9 then (if x9 < (x255002.length : Int) then (if x54 < ((Ze x255002 x9).length : Int) then (if 0 ≤ (rd (Ze x255002 x9) x54) then (if (rd (Ze x255002 x9) x54) < (x5.length : Int) then (Zs.l4 k x5 x7 x8 x9 ((rd x5 (rd (Ze x255002 x8) x54)) == (rd x5 (rd (Ze x255002 x9) x54))) x34 x35 x39 x40 x53 (wrap64 (x54 + 1)) x255000 x255001 x255002 x255003 x255004) else (none)) else (none)) else (none)) else (none)) else (none)) else (none)) else (none)) else (none)) else (none)) else (none)) else (none)) else (Zs.l4 k x5 x7 x8 x9 false x34 x35 x39 x40 x53 (wrap64 (x54 + 1)) x255000 x255001 x255002 x255003 x255004)) else (if x10 = true then (if 0 ≤ x8 then (if x8 < (x7.length : Int) then (Zs.l2 k x5 (x7.set (x8 : Int).toNat x9) x34 (wrap64 (x35 + 1)) x255000 x255001 x255002 x255003 x255004) else (none)) else (none)) else (Zs.l3 k x5 x7 x8 x34 x35 x39 (wrap64 (x40 + 1)) x255000 x255001 x255002 x255003 x255004))
end
def Zs.f (k : Nat) (a0_0 : Int) (a0_1 : Int) (l0_2 : List (List Int)) (a0_3 : Int) (a0_4 : Int) (l1 : List Bool) : Option (List Int) := if 0 ≤ a0_0 then (if (a0_0 : Int).toNat ≤ 35184372088832 then ((some (List.replicate (a0_0 : Int).toNat 0 : List Int)).bind fun y255 => (Zs.l0 k l1 y255 (y255.length : Int) 0 a0_0 a0_1 l0_2 a0_3 a0_4)) else (none)) else (none)
theorem Zs.mono_l : ∀ k, (∀ y0 y1 y2 y3 y4 y5 y6 y7 y8, LeO (Zs.l0 k y0 y1 y2 y3 y4 y5 y6 y7 y8) (Zs.l0 (k + 1) y0 y1 y2 y3 y4 y5 y6 y7 y8)) ∧ (∀ y0 y1 y2 y3 y4 y5, LeO (Zs.l1 k y0 y1 y2 y3 y4 y5) (Zs.l1 (k + 1) y0 y1 y2 y3 y4 y5)) ∧ (∀ y0 y1 y2 y3 y4 y5 y6 y7 y8, LeO (Zs.l2 k y0 y1 y2 y3 y4 y5 y6 y7 y8) (Zs.l2 (k + 1) y0 y1 y2 y3 y4 y5 y6 y7 y8)) ∧ (∀ y0 y1 y2 y3 y4 y5 y6 y7 y8 y9 y10 y11, LeO (Zs.l3 k y0 y1 y2 y3 y4 y5 y6 y7 y8 y9 y10 y11) (Zs.l3 (k + 1) y0 y1 y2 y3 y4 y5 y6 y7 y8 y9 y10 y11)) ∧ (∀ y0 y1 y2 y3 y4 y5 y6 y7 y8 y9 y10 y11 y12 y13 y14 y15, LeO (Zs.l4 k y0 y1 y2 y3 y4 y5 y6 y7 y8 y9 y10 y11 y12 y13 y14 y15) (Zs.l4 (k + 1) y0 y1 y2 y3 y4 y5 y6 y7 y8 y9 y10 y11 y12 y13 y14 y15))
  | 0 => ⟨fun _ _ _ _ _ _ _ _ _ r h => by simp [Zs.l0] at h, fun _ _ _ _ _ _ r h => by simp [Zs.l1] at h, fun _ _ _ _ _ _ _ _ _ r h => by simp [Zs.l2] at h, fun _ _ _ _ _ _ _ _ _ _ _ _ r h => by simp [Zs.l3] at h, fun _ _ _ _ _ _ _ _ _ _ _ _ _ _ _ _ r h => by simp [Zs.l4] at h⟩
  | k + 1 => by
    obtain ⟨ih0, ih1, ih2, ih3, ih4⟩ := Zs.mono_l k
    refine ⟨?_, ?_, ?_, ?_, ?_⟩
    · intro y0 y1 y2 y3 y4 y5 y6 y7 y8
      unfold Zs.l0
      repeat' first | (with_reducible exact ih0 _ _ _ _ _ _ _ _ _) | (with_reducible exact ih1 _ _ _ _ _ _) | (with_reducible exact ih2 _ _ _ _ _ _ _ _ _) | (with_reducible exact ih3 _ _ _ _ _ _ _ _ _ _ _ _) | (with_reducible exact ih4 _ _ _ _ _ _ _ _ _ _ _ _ _ _ _ _) | (with_reducible exact Zm1.mono _ _ _) | (with_reducible exact Zo1.mono _ _ _) | (with_reducible exact LeO.refl _) | (with_reducible exact LeO.none _) | (with_reducible refine LeO.ite ?_ ?_) | (with_reducible refine LeO.bind ?_ (fun _ => ?_))
    · intro y0 y1 y2 y3 y4 y5
      unfold Zs.l1
      repeat' first | (with_reducible exact ih0 _ _ _ _ _ _ _ _ _) | (with_reducible exact ih1 _ _ _ _ _ _) | (with_reducible exact ih2 _ _ _ _ _ _ _ _ _) | (with_reducible exact ih3 _ _ _ _ _ _ _ _ _ _ _ _) | (with_reducible exact ih4 _ _ _ _ _ _ _ _ _ _ _ _ _ _ _ _) | (with_reducible exact Zm1.mono _ _ _) | (with_reducible exact Zo1.mono _ _ _) | (with_reducible exact LeO.refl _) | (with_reducible exact LeO.none _) | (with_reducible refine LeO.ite ?_ ?_) | (with_reducible refine LeO.bind ?_ (fun _ => ?_))
    · intro y0 y1 y2 y3 y4 y5 y6 y7 y8
      unfold Zs.l2
      repeat' first | (with_reducible exact ih0 _ _ _ _ _ _ _ _ _) | (with_reducible exact ih1 _ _ _ _ _ _) | (with_reducible exact ih2 _ _ _ _ _ _ _ _ _) | (with_reducible exact ih3 _ _ _ _ _ _ _ _ _ _ _ _) | (with_reducible exact ih4 _ _ _ _ _ _ _ _ _ _ _ _ _ _ _ _) | (with_reducible exact Zm1.mono _ _ _) | (with_reducible exact Zo1.mono _ _ _) | (with_reducible exact LeO.refl _) | (with_reducible exact LeO.none _) | (with_reducible refine LeO.ite ?_ ?_) | (with_reducible refine LeO.bind ?_ (fun _ => ?_))
    · intro y0 y1 y2 y3 y4 y5 y6 y7 y8 y9 y10 y11
      unfold Zs.l3
      repeat' first | (with_reducible exact ih0 _ _ _ _ _ _ _ _ _) | (with_reducible exact ih1 _ _ _ _ _ _) | (with_reducible exact ih2 _ _ _ _ _ _ _ _ _) | (with_reducible exact ih3 _ _ _ _ _ _ _ _ _ _ _ _) | (with_reducible exact ih4 _ _ _ _ _ _ _ _ _ _ _ _ _ _ _ _) | (with_reducible exact Zm1.mono _ _ _) | (with_reducible exact Zo1.mono _ _ _) | (with_reducible exact LeO.refl _) | (with_reducible exact LeO.none _) | (with_reducible refine LeO.ite ?_ ?_) | (with_reducible refine LeO.bind ?_ (fun _ => ?_))
    · intro y0 y1 y2 y3 y4 y5 y6 y7 y8 y9 y10 y11 y12 y13 y14 y15
      unfold Zs.l4
      repeat' first | (with_reducible exact ih0 _ _ _ _ _ _ _ _ _) | (with_reducible exact ih1 _ _ _ _ _ _) | (with_reducible exact ih2 _ _ _ _ _ _ _ _ _) | (with_reducible exact ih3 _ _ _ _ _ _ _ _ _ _ _ _) | (with_reducible exact ih4 _ _ _ _ _ _ _ _ _ _ _ _ _ _ _ _) | (with_reducible exact Zm1.mono _ _ _) | (with_reducible exact Zo1.mono _ _ _) | (with_reducible exact LeO.refl _) | (with_reducible exact LeO.none _) | (with_reducible refine LeO.ite ?_ ?_) | (with_reducible refine LeO.bind ?_ (fun _ => ?_))
theorem Zs.mono : ∀ a0 a1 a2 a3 a4 a5 k, LeO (Zs.f k a0 a1 a2 a3 a4 a5) (Zs.f (k + 1) a0 a1 a2 a3 a4 a5) := by
  intro a0 a1 a2 a3 a4 a5 k
  obtain ⟨ih0, ih1, ih2, ih3, ih4⟩ := Zs.mono_l k
  unfold Zs.f
  repeat' first | (with_reducible exact ih0 _ _ _ _ _ _ _ _ _) | (with_reducible exact ih1 _ _ _ _ _ _) | (with_reducible exact ih2 _ _ _ _ _ _ _ _ _) | (with_reducible exact ih3 _ _ _ _ _ _ _ _ _ _ _ _) | (with_reducible exact ih4 _ _ _ _ _ _ _ _ _ _ _ _ _ _ _ _) | (with_reducible exact Zm1.mono _ _ _) | (with_reducible exact Zo1.mono _ _ _) | (with_reducible exact LeO.refl _) | (with_reducible exact LeO.none _) | (with_reducible refine LeO.ite ?_ ?_) | (with_reducible refine LeO.bind ?_ (fun _ => ?_))
set_option maxHeartbeats 8000000 in
set_option maxRecDepth 100000 in
theorem Zs.calls (k : Nat) (a0_0 : Int) (a0_1 : Int) (A0_2 : Option Addr) (c0_2 : Nat) (l0_2 : List (List Int)) (a0_3 : Int) (a0_4 : Int) (A1 : Option Addr) (c1 : Nat) (l1 : List Bool) (r : List Int) (w : World) (hr0_2 : Kd.C (Kd.slice 3 (Kd.int .i64)) w A0_2 l0_2.length l0_2) (hc0_2 : l0_2.length ≤ c0_2) (hr1 : Kd.C Kd.bool w A1 l1.length l1) (hc1 : l1.length ≤ c1) (h : Zs.f k a0_0 a0_1 l0_2 a0_3 a0_4 l1 = some r) :
    Calls Try.prog 40 #[.agg #[.int .i64 a0_0, .int .i64 a0_1, .slice A0_2 l0_2.length c0_2, .int .i64 a0_3, .int .u32 a0_4], .slice A1 l1.length c1] w fun e w' => ∃ v0_ : Value, e = .returned (v0_) ∧ Kd.R (Kd.int .i64) 3 w' w.heap.size (fun _ => True) v0_ r ∧ Below w.heap.size w w' := by
 (have hu25 := Try.underlying25); (have HR0_2 := Za.mk hr0_2); (have HC0_2 := Za.mk hc0_2); (clear hr0_2 hc0_2); (have HR1 := Za.mk hr1); (have HC1 := Za.mk hc1); (clear hr1 hc1); (have HB := Za.mk (Below.refl w.heap.size w)); (have H : (if 0 ≤ a0_0 then (if (a0_0 : Int).toNat ≤ 35184372088832 then ((some (List.replicate (a0_0 : Int).toNat 0 : List Int)).bind fun y255 => (Zs.l0 k l1 y255 (y255.length : Int) 0 a0_0 a0_1 l0_2 a0_3 a0_4)) else (none)) else (none)) = some r := h); (clear h)
 by_cases c3 : 0 ≤ a0_0
 rotate_left
 ·rw [if_neg c3] at H
  exact absurd H (by simp)
 (rw [if_pos c3] at H); (have c3b0 := eq_true c3); (have c3b1 : decide (0 ≤ a0_0) = true := decide_eq_true c3); (clear c3)
 by_cases c4 : (a0_0 : Int).toNat ≤ 35184372088832
 rotate_left
 ·rw [if_neg c4] at H
  exact absurd H (by simp)
 (rw [if_pos c4] at H); (have c4b0 := eq_true c4); (have c4b1 : decide ((a0_0 : Int).toNat ≤ 35184372088832) = true := decide_eq_true c4); (clear c4); (obtain ⟨y255, hy255⟩ : ∃ y_ : List Int, y_ = (List.replicate (a0_0 : Int).toNat 0) := ⟨_, rfl⟩); (replace H : (Zs.l0 k l1 y255 (y255.length : Int) 0 a0_0 a0_1 l0_2 a0_3 a0_4) = some r := by first | (rw [hy255]; with_reducible exact H) | (have H2_ := (Option.bind_some _ _).symm.trans H; rw [hy255]; with_reducible exact H2_) | (have H2_ := (Option.bind_some _ _).symm.trans H; with_reducible exact H2_) | with_reducible exact H | (rw [hy255]; exact H) | exact H); (have Ny255 := Za.mk hy255); (clear hy255); (have H' := Za.mk H); (clear H)
 go_enter Try.func40, Try.ntmps40
 go_wp2
 repeat (go_quiet (first | ((with_reducible refine Zb1 (N := 2) rfl ?_); refine Zl1 ?hg (N := 2) ?hd (cs := #[.int .i64 a0_0, .int .i64 a0_1, .slice A0_2 l0_2.length c0_2, .int .i64 a0_3, .int .u32 a0_4]) (t := 25) ?hr ?_; (case hd => rfl); (case hg => rfl); (case hr => first | (go_simp; done) | (go_simp; rfl)); intro gb254 hg w5 hbox hb; have BK254 := Za.mk (hbox); have GW254 := Za.mk ((by rw [hg]; exact (Zl (by repeat (first | (with_reducible first | exact HB.out | apply zc1 | apply zc2 | apply zc3) | exact HB.out))) : w.heap.size ≤ gb254)); have GE254 := Za.mk ((by rw [hg]; exact (Zl (by repeat (first | (with_reducible first | exact HB.out | apply zc1 | apply zc2 | apply zc3) | exact HB.out))) : w.heap.size ≤ gb254)); replace HB := Za.mk (Zr (by repeat (first | (with_reducible first | exact HB.out | apply zc1 | apply zc2 | apply zc3) | exact HB.out)) hb); clear hb hbox hg; have hcz6_0 : w5.cell? ⟨gb254, 0, none⟩ = some (.int .i64 a0_0) := (Zb BK254.out 0).trans rfl; have hcz6_1 : w5.cell? ⟨gb254, 1, none⟩ = some (.int .i64 a0_1) := (Zb BK254.out 1).trans rfl; have hcz6_2 : w5.cell? ⟨gb254, 2, none⟩ = some (.slice A0_2 l0_2.length c0_2) := (Zb BK254.out 2).trans rfl; have hcz6_3 : w5.cell? ⟨gb254, 3, none⟩ = some (.int .i64 a0_3) := (Zb BK254.out 3).trans rfl; have hcz6_4 : w5.cell? ⟨gb254, 4, none⟩ = some (.int .u32 a0_4) := (Zb BK254.out 4).trans rfl; have hfz6_0 := Zc BK254.out 0; have hfz6_1 := Zc BK254.out 1; have hfz6_2 := Zc BK254.out 2; have hfz6_3 := Zc BK254.out 3; have hfz6_4 := Zc BK254.out 4) | ((with_reducible refine Zb1 (N := 14) rfl ?_); refine Kd.R_make (Kd.int .i64) _ 3 rfl (N := 14) rfl 32 _ _ rfl a0_0 rfl rfl Try.underlying32 (.int .i64 0) 8 info3 rfl (by decide) (by omega) 0 (ok := fun _ => True) (okp := fun _ => True) rfl (fun _ hk => hk) trivial (of_decide_eq_true (by assumption)) (Nat.le_trans (Nat.mul_le_mul_right _ (of_decide_eq_true (by assumption) : a0_0.toNat ≤ 35184372088832)) (by omega)) (Below.refl _ _) (Nat.le_refl _) ?_; intro v256 w7 ho8 hb hg_ hnew_; clear hg_ hnew_; (first | rw [← Ny255.out] at ho8 | (simp only [Int.reduceToNat] at ho8; rw [← Ny255.out] at ho8)); have HO257 := Za.mk (Kd.R_lower ho8 (Zl (by repeat (first | (with_reducible first | exact HB.out | apply zc1 | apply zc2 | apply zc3 | refine zc4 ?_ (by assumption)) | exact HB.out)))); replace BK254 := Za.mk (Zp (g := gb254) (by (with_reducible repeat (first | apply zb3 | apply zb2 | apply zb1)); exact BK254.out) hb); replace HB := Za.mk (Zr (by repeat (first | (with_reducible first | exact HB.out | apply zc1 | apply zc2 | apply zc3 | refine zc4 ?_ (by assumption)) | exact HB.out)) hb); clear hb ho8; obtain ⟨Ao9, co9, eo9⟩ := Kd.R_slice HO257.out; subst eo9)); try go_wp2)
 go_loopg [17] k (fun kq v17 w' => ∃ (x5_1 : List Int) (x17_1 : Int), v17 = .int .i64 x17_1 ∧ Za (Zs.l0 kq l1 x5_1 (y255.length : Int) x17_1 a0_0 a0_1 l0_2 a0_3 a0_4 = some r) ∧ Za (kq ≤ k) ∧ Za (Kd.R (Kd.int .i64) 3 w' w.heap.size (fun _ => True) (.slice Ao9 y255.length co9) x5_1) ∧ Za (w'.heap[gb254]? = some (.cells #[.int .i64 a0_0, .int .i64 a0_1, (.slice A0_2 l0_2.length c0_2), .int .i64 a0_3, .int .u32 a0_4] 25 (0, 0))) ∧ Za (Below w.heap.size w w'))
 case atStart => exact ⟨(y255), (0), (by first | rfl | (simp; done) | (simp [*]; done)), H', ⟨Nat.le_refl _⟩, ⟨by (with_reducible repeat (first | apply Kd.R_alloc | apply Kd.R_drewN | apply Kd.R_drew)); exact HO257.out⟩, ⟨by (with_reducible repeat (first | apply zb3 | apply zb2 | apply zb1)); exact BK254.out⟩, ⟨by repeat (first | (with_reducible first | exact HB.out | apply zc1 | apply zc2 | apply zc3 | refine zc4 ?_ (by assumption)) | exact HB.out)⟩⟩
 case round =>
  (clear H'); (try clear c1); (try clear p2); (try clear c3); (try clear c3b0); (try clear c3b1); (try clear c4); (try clear c4b0); (try clear c4b1); (try clear hcz6_0 hcz6_1 hcz6_2 hcz6_3 hcz6_4 hfz6_0 hfz6_1 hfz6_2 hfz6_3 hfz6_4); (obtain ⟨x5_1, x17_1, rfl, HA, HK1, HO_5, BK254, HB⟩ := hrel); (have hl5_1 := (Kd.R_reads' HO_5.out).1); (rw [hl5_1] at HO_5); ((try simp only [hl5_1])); ((try simp only [hl5_1] at BK254))
  cases gk with
  | zero => exact absurd HA.out (by simp [Zs.l0])
  | succ k1 =>
   (have H := HA.out); (clear HA); (simp only [Zs.l0] at H)
   by_cases c10 : x17_1 < (y255.length : Int)
   ·rw [if_pos c10] at H
    (have c10b0 : decide (x17_1 < (y255.length : Int)) = true := decide_eq_true c10); ((try (have c10b0h := c10b0; simp only [hl5_1] at c10b0h))); (clear c10)
    by_cases c11 : 0 ≤ x17_1
    rotate_left
    ·rw [if_neg c11] at H
     exact absurd H (by simp)
    (rw [if_pos c11] at H); (have c11b0 : decide (0 ≤ x17_1) = true := decide_eq_true c11); (clear c11)
    by_cases c12 : x17_1 < (l1.length : Int)
    rotate_left
    ·rw [if_neg c12] at H
     exact absurd H (by simp)
    (rw [if_pos c12] at H); (have c12b0 : decide (x17_1 < (l1.length : Int)) = true := decide_eq_true c12); ((try (have c12b0h := c12b0; simp only [hl5_1] at c12b0h))); (clear c12); (replace H := Option.bind_eq_some_iff.mp H); (obtain ⟨t259, A130, H⟩ := H); (replace H : (if x17_1 < (x5_1.length : Int) then (Zs.l0 k1 l1 (x5_1.set (x17_1 : Int).toNat t259) (y255.length : Int) (wrap64 (x17_1 + 1)) a0_0 a0_1 l0_2 a0_3 a0_4) else (none)) = some r := H); (have A13 := Za.mk A130); (clear A130)
    by_cases c14 : x17_1 < (x5_1.length : Int)
    rotate_left
    ·rw [if_neg c14] at H
     exact absurd H (by simp)
    (rw [if_pos c14] at H); (have c14b0 : decide (x17_1 < (x5_1.length : Int)) = true := decide_eq_true c14); ((try (have c14b0h := c14b0; simp only [hl5_1] at c14b0h))); (clear c14); (obtain ⟨y260, hy260⟩ : ∃ y_ : List Int, y_ = (x5_1.set (x17_1 : Int).toNat t259) := ⟨_, rfl⟩); (replace H : (Zs.l0 k1 l1 y260 (y255.length : Int) (wrap64 (x17_1 + 1)) a0_0 a0_1 l0_2 a0_3 a0_4) = some r := by first | (rw [hy260]; with_reducible exact H) | (have H2_ := (Option.bind_some _ _).symm.trans H; rw [hy260]; with_reducible exact H2_) | (have H2_ := (Option.bind_some _ _).symm.trans H; with_reducible exact H2_) | with_reducible exact H | (rw [hy260]; exact H) | exact H); (have Ny260 := Za.mk hy260); (clear hy260); (have H' := Za.mk H); (clear H); (have p258 : 0 ≤ (x17_1 : Int) := of_decide_eq_true (by assumption)); (have q258 : x17_1 < (l1.length : Int) := of_decide_eq_true (by assumption)); (obtain ⟨ad258, e258, hx258_0⟩ := Kd.at_bool HR1.out x17_1 p258 q258); (cases e258); (replace hx258_0 := (HB.out.cell (World.block_lt_of_cell? w _ hx258_0)).trans hx258_0); (replace p258 := eq_true p258); (replace q258 := eq_true q258)
    go_wp2
    repeat (go_quiet (first | (go_at_call 43; (with_reducible refine (Zo1.calls k1 _ _ l1 (rdOf false l1 x17_1) t259 _ ?side1 ?side2 A13.out).mono ?_); (case side1 => repeat (first | exact (Kd.C_below HR1.out HB.out) | (with_reducible refine Kd.C_alloc ?_ _) | (with_reducible refine Kd.C_drewN ?_ _) | (with_reducible refine Kd.C_drew ?_))); (case side2 => exact HC1.out); rintro e w' ⟨rfl, ⟨nd, rfl⟩⟩; (try first | exact ⟨rfl, _, World.drewN_drewN _ _ _⟩ | exact ⟨rfl, _, Eq.trans (World.drewN_drewN _ _ _) (congrArg (World.drewN _) (Nat.add_assoc _ _ _))⟩); have p15 : 0 ≤ (x17_1 : Int) := of_decide_eq_true (by assumption); have q15 : (x17_1 : Int) < ((x5_1.length : Int) : Int) := of_decide_eq_true (by assumption); obtain ⟨go15, co15, eo15, gb15, gl15, cl15, HG15⟩ := Kd.R_form HO_5.out (by omega); (first | cases eo15 | (injection eo15 with ea_ en_ ec_; (first | subst ea_ | (injection ea_ with ea_; subst ea_)); subst ec_; clear en_)); have GB15 := Za.mk gb15; have GG15 := Za.mk HG15; clear gb15 gl15 HG15; obtain ⟨hx15_0, hf15_0⟩ := Kd.R_celln 0 HO_5.out (x17_1 : Int) p15 q15; replace p15 := eq_true p15; replace q15 := eq_true q15; obtain ⟨hy16_, hz16_⟩ := Kd.R_celln 0 HO_5.out (x17_1 : Int) (of_decide_eq_true (by assumption)) (of_decide_eq_true (by assumption)); have HP16 := Kd.R_putg HO_5.out (x17_1 : Int) t259) | ((with_reducible refine gate_store (t := 3) (p := 28) rfl ?_); (try (rw [drewN_self wr]; generalize hq_ : World.drewN wr _ = wr; (try (replace HO_5 := Za.mk (Kd.R_at hq_ HO_5.out))); (try (replace BK254 := Za.mk (blk_at hq_ BK254.out))); (try (replace HB := Za.mk (below_at hq_ HB.out))); (try clear hq_); (try (obtain ⟨hy16_, hz16_⟩ := Kd.R_celln 0 HO_5.out (x17_1 : Int) (of_decide_eq_true (by assumption)) (of_decide_eq_true (by assumption)))); (try (have HP16 := Kd.R_putg HO_5.out (x17_1 : Int) t259)))); refine store_event (t := 3) (p := 28) (v := ?vo_w17) (w1 := (wr.setCell ⟨go15, (x17_1 : Int).toNat, none⟩ (.int .i64 t259))) ?hg ?ho ?hn ?hr ?_; (case ho => rfl); (case hg => rfl); (case hn => rfl); (case hr => first | (go_simp; done) | (go_simp; rfl)); intro w17 hw; have hg : wr.grownBy w17 (some go15) := (by rw [hw]; exact HP16.2); have hp_ : Kd.R (Kd.int .i64) 3 w17 w.heap.size (fun _ => True) (.slice (some ⟨go15, 0, none⟩) x5_1.length co9) y260 := (by rw [hw, Ny260.out]; exact HP16.1); clear HP16; replace BK254 := Za.mk (Zc1 (g := gb254) (by (with_reducible repeat (first | apply zb3 | apply zb2 | apply zb1)); exact BK254.out) hg (Kd.R_ne HO_5.out BK254.out (by decide))); replace HO_5 := Za.mk (hp_); replace HB := Za.mk ((by rw [hw]; exact below_set (HB.out) GB15.out : Below w.heap.size w w17)); clear hg hw hp_)); try go_wp2)
    (try simp only [← hl5_1])
    go_roundg k1
    case measure => have := HK1.out; omega
    case rel => exact ⟨(y260), (wrap64 (x17_1 + 1)), (by first | rfl | (simp; done) | (simp [*]; done)), H', ⟨by have := HK1.out; omega⟩, ⟨by (try simp only [hl5_1]); (with_reducible repeat (first | apply Kd.R_alloc | apply Kd.R_drewN | apply Kd.R_drew)); exact HO_5.out⟩, ⟨by (try simp only [hl5_1]); (with_reducible repeat (first | apply zb3 | apply zb2 | apply zb1)); exact BK254.out⟩, ⟨by repeat (first | (with_reducible first | exact HB.out | apply zc1 | apply zc2 | apply zc3 | refine zc4 ?_ (by assumption)) | exact HB.out)⟩⟩
   (rw [if_neg c10] at H); (have c10b0 : decide (x17_1 < (y255.length : Int)) = false := decide_eq_false c10); ((try (have c10b0h := c10b0; simp only [hl5_1] at c10b0h))); (clear c10); (have H' := Za.mk H); (clear H)
   go_wp2
   repeat (go_quiet (fail); try go_wp2)
   go_loopg [5] k1 (fun kq v5 w' => ∃ (x5_2 : List Int), Za (Zs.l1 kq x5_2 a0_0 a0_1 l0_2 a0_3 a0_4 = some r) ∧ Za (kq ≤ k1) ∧ Za (Kd.R (Kd.int .i64) 3 w' w.heap.size (fun _ => True) v5 x5_2) ∧ Za (w'.heap[gb254]? = some (.cells #[.int .i64 a0_0, .int .i64 a0_1, (.slice A0_2 l0_2.length c0_2), .int .i64 a0_3, .int .u32 a0_4] 25 (0, 0))) ∧ Za (Below w.heap.size w w'))
   case atStart => exact ⟨(x5_1), H', ⟨Nat.le_refl _⟩, ⟨by (try simp only [hl5_1]); (with_reducible repeat (first | apply Kd.R_alloc | apply Kd.R_drewN | apply Kd.R_drew)); exact HO_5.out⟩, ⟨by (try simp only [hl5_1]); (with_reducible repeat (first | apply zb3 | apply zb2 | apply zb1)); exact BK254.out⟩, ⟨by repeat (first | (with_reducible first | exact HB.out | apply zc1 | apply zc2 | apply zc3 | refine zc4 ?_ (by assumption)) | exact HB.out)⟩⟩
   case round =>
    (clear H'); (try clear c1); (try clear p1); (try clear q1); (try clear hx1); (try clear p2); (try clear q2); (try clear hx2); (try clear c3); (try clear c3b0); (try clear c3b1); (try clear c4); (try clear c4b0); (try clear c4b1); (try clear p6); (try clear c10); (try clear c10b0); (try clear c11); (try clear c11b0); (try clear c12); (try clear c12b0); (try clear c14); (try clear c14b0); (try clear p15); (try clear q15); (try clear hx15); (try clear hf15); (try clear hcz6_0 hcz6_1 hcz6_2 hcz6_3 hcz6_4 hfz6_0 hfz6_1 hfz6_2 hfz6_3 hfz6_4); (try clear hx15_0); (try clear hx258_0); (try clear p15); (try clear p2); (try clear p258); (try clear q15); (try clear q258); (obtain ⟨x5_2, HA, HK2, HO_5, BK254, HB⟩ := hrel)
    cases gk with
    | zero => exact absurd HA.out (by simp [Zs.l1])
    | succ k2 =>
     (have H := HA.out); (clear HA); (simp only [Zs.l1] at H)
     by_cases c18 : 0 ≤ a0_0
     rotate_left
     ·rw [if_neg c18] at H
      exact absurd H (by simp)
     (rw [if_pos c18] at H); (have c18b0 := eq_true c18); (have c18b1 : decide (0 ≤ a0_0) = true := decide_eq_true c18); (clear c18)
     by_cases c19 : (a0_0 : Int).toNat ≤ 35184372088832
     rotate_left
     ·rw [if_neg c19] at H
      exact absurd H (by simp)
     (rw [if_pos c19] at H); (have c19b0 := eq_true c19); (have c19b1 : decide ((a0_0 : Int).toNat ≤ 35184372088832) = true := decide_eq_true c19); (clear c19); (obtain ⟨y261, hy261⟩ : ∃ y_ : List Int, y_ = (List.replicate (a0_0 : Int).toNat 0) := ⟨_, rfl⟩); (replace H : (Zs.l2 k2 x5_2 y261 (y261.length : Int) 0 a0_0 a0_1 l0_2 a0_3 a0_4) = some r := by first | (rw [hy261]; with_reducible exact H) | (have H2_ := (Option.bind_some _ _).symm.trans H; rw [hy261]; with_reducible exact H2_) | (have H2_ := (Option.bind_some _ _).symm.trans H; with_reducible exact H2_) | with_reducible exact H | (rw [hy261]; exact H) | exact H); (have Ny261 := Za.mk hy261); (clear hy261); (have H' := Za.mk H); (clear H); (have hcz20_0 : wr.cell? ⟨gb254, 0, none⟩ = some (.int .i64 a0_0) := (Zb BK254.out 0).trans rfl); (have hcz20_1 : wr.cell? ⟨gb254, 1, none⟩ = some (.int .i64 a0_1) := (Zb BK254.out 1).trans rfl); (have hcz20_2 : wr.cell? ⟨gb254, 2, none⟩ = some (.slice A0_2 l0_2.length c0_2) := (Zb BK254.out 2).trans rfl); (have hcz20_3 : wr.cell? ⟨gb254, 3, none⟩ = some (.int .i64 a0_3) := (Zb BK254.out 3).trans rfl); (have hcz20_4 : wr.cell? ⟨gb254, 4, none⟩ = some (.int .u32 a0_4) := (Zb BK254.out 4).trans rfl); (have hfz20_0 := Zc BK254.out 0); (have hfz20_1 := Zc BK254.out 1); (have hfz20_2 := Zc BK254.out 2); (have hfz20_3 := Zc BK254.out 3); (have hfz20_4 := Zc BK254.out 4)
     go_wp2
     repeat (go_quiet (first | ((with_reducible refine Zb1 (N := 32) rfl ?_); refine Kd.R_make (Kd.int .i64) _ 3 rfl (N := 32) rfl 32 _ _ rfl a0_0 rfl rfl Try.underlying32 (.int .i64 0) 8 info3 rfl (by decide) (by omega) 0 (ok := fun _ => True) (okp := fun _ => True) rfl (fun _ hk => hk) trivial (of_decide_eq_true (by assumption)) (Nat.le_trans (Nat.mul_le_mul_right _ (of_decide_eq_true (by assumption) : a0_0.toNat ≤ 35184372088832)) (by omega)) (Below.refl _ _) (Nat.le_refl _) ?_; intro v262 w21 ho22 hb hg_ hnew_; clear hg_ hnew_; (first | rw [← Ny261.out] at ho22 | (simp only [Int.reduceToNat] at ho22; rw [← Ny261.out] at ho22)); have HO263 := Za.mk (Kd.R_lower (Kd.R_new' ho22 (Kd.R_lt (by (with_reducible repeat (first | apply Kd.R_alloc | apply Kd.R_drewN | apply Kd.R_drew)); exact HO_5.out))) (Zl (by repeat (first | (with_reducible first | exact HB.out | apply zc1 | apply zc2 | apply zc3 | refine zc4 ?_ (by assumption)) | exact HB.out)))); replace HO_5 := Za.mk (Kd.R_elder' (by (with_reducible repeat (first | apply Kd.R_alloc | apply Kd.R_drewN | apply Kd.R_drew)); exact HO_5.out) (Kd.R_base ho22) hb); replace BK254 := Za.mk (Zp (g := gb254) (by (with_reducible repeat (first | apply zb3 | apply zb2 | apply zb1)); exact BK254.out) hb); replace HB := Za.mk (Zr (by repeat (first | (with_reducible first | exact HB.out | apply zc1 | apply zc2 | apply zc3 | refine zc4 ?_ (by assumption)) | exact HB.out)) hb); clear hb ho22; obtain ⟨Ao23, co23, eo23⟩ := Kd.R_slice HO263.out; subst eo23)); try go_wp2)
     go_loopg [35] k2 (fun kq v35 w' => ∃ (x7_3 : List Int) (x35_3 : Int), v35 = .int .i64 x35_3 ∧ Za (Zs.l2 kq x5_2 x7_3 (y261.length : Int) x35_3 a0_0 a0_1 l0_2 a0_3 a0_4 = some r) ∧ Za (kq ≤ k2) ∧ Za (Kd.R (Kd.int .i64) 3 w' w.heap.size (fun k_ => some k_ ≠ ((.slice Ao23 y261.length co23) : Value).ownBlock) u5 x5_2) ∧ Za (Kd.R (Kd.int .i64) 3 w' w.heap.size (fun k_ => some k_ ≠ (u5 : Value).ownBlock) (.slice Ao23 y261.length co23) x7_3) ∧ Za (w'.heap[gb254]? = some (.cells #[.int .i64 a0_0, .int .i64 a0_1, (.slice A0_2 l0_2.length c0_2), .int .i64 a0_3, .int .u32 a0_4] 25 (0, 0))) ∧ Za (Below w.heap.size w w'))
     case atStart => exact ⟨(y261), (0), (by first | rfl | (simp; done) | (simp [*]; done)), H', ⟨Nat.le_refl _⟩, ⟨by (try simp only [hl5_1]); (with_reducible repeat (first | apply Kd.R_alloc | apply Kd.R_drewN | apply Kd.R_drew)); exact Kd.R_mono HO_5.out (fun _ hk => hk.2)⟩, ⟨by (try simp only [hl5_1]); (with_reducible repeat (first | apply Kd.R_alloc | apply Kd.R_drewN | apply Kd.R_drew)); exact Kd.R_mono HO263.out (fun _ hk => hk.2)⟩, ⟨by (try simp only [hl5_1]); (with_reducible repeat (first | apply zb3 | apply zb2 | apply zb1)); exact BK254.out⟩, ⟨by repeat (first | (with_reducible first | exact HB.out | apply zc1 | apply zc2 | apply zc3 | refine zc4 ?_ (by assumption)) | exact HB.out)⟩⟩
     case round =>
      (clear H'); (try clear c1); (try clear p1); (try clear q1); (try clear hx1); (try clear p2); (try clear q2); (try clear hx2); (try clear c3); (try clear c3b0); (try clear c3b1); (try clear c4); (try clear c4b0); (try clear c4b1); (try clear p6); (try clear c10); (try clear c10b0); (try clear c11); (try clear c11b0); (try clear c12); (try clear c12b0); (try clear c14); (try clear c14b0); (try clear p15); (try clear q15); (try clear hx15); (try clear hf15); (try clear c18); (try clear c18b0); (try clear c18b1); (try clear c19); (try clear c19b0); (try clear c19b1); (try clear hcz20_0 hcz20_1 hcz20_2 hcz20_3 hcz20_4 hcz6_0 hcz6_1 hcz6_2 hcz6_3 hcz6_4 hfz20_0 hfz20_1 hfz20_2 hfz20_3 hfz20_4 hfz6_0 hfz6_1 hfz6_2 hfz6_3 hfz6_4); (try clear hx15_0); (try clear hx258_0); (try clear p1); (try clear p15); (try clear p2); (try clear p258); (try clear p6); (try clear q1); (try clear q15); (try clear q2); (try clear q258); (obtain ⟨x7_3, x35_3, rfl, HA, HK3, HO_5, HO_7, BK254, HB⟩ := hrel); (have hl7_3 := (Kd.R_reads' HO_7.out).1); (rw [hl7_3] at HO_7); ((try simp only [hl7_3])); ((try simp only [hl7_3] at BK254)); ((try simp only [hl7_3] at HO_5))
      cases gk with
      | zero => exact absurd HA.out (by simp [Zs.l2])
      | succ k3 =>
       (have H := HA.out); (clear HA); (simp only [Zs.l2] at H)
       by_cases c24 : x35_3 < (y261.length : Int)
       rotate_left
       ·rw [if_neg c24] at H
        (have c24b0 : decide (x35_3 < (y261.length : Int)) = false := decide_eq_false c24); ((try (have c24b0h := c24b0; simp only [hl5_1, hl7_3] at c24b0h))); (clear c24); (replace H := Option.bind_eq_some_iff.mp H); (obtain ⟨t264, A520, H⟩ := H); (replace H : (if t264 = true then (some x7_3) else (Zs.l1 k3 x7_3 a0_0 a0_1 l0_2 a0_3 a0_4)) = some r := H); (have A52 := Za.mk A520); (clear A520)
        by_cases c53 : t264 = true
        ·subst c53
         (have H1 : (some x7_3) = some r := by rw [if_pos rfl] at H; exact H); (clear H); (have H := H1); (clear H1); (obtain rfl := Option.some.inj H); (obtain ⟨Ao54, co54, eo54⟩ := Kd.R_slice HO_5.out); (subst eo54)
         go_wp2
         repeat (go_quiet (first | (go_at_call 44; (with_reducible refine (Zm1.calls k3 _ _ x7_3 _ _ x5_2 true _ ?side1 ?side2 ?side3 ?side4 A52.out).mono ?_); (case side1 => repeat (first | exact (Kd.R_reads' HO_7.out).2.2 | (with_reducible refine Kd.C_alloc ?_ _) | (with_reducible refine Kd.C_drewN ?_ _) | (with_reducible refine Kd.C_drew ?_))); (case side2 => exact (Kd.R_reads' HO_7.out).2.1); (case side3 => repeat (first | exact (Kd.R_reads' HO_5.out).2.2 | (with_reducible refine Kd.C_alloc ?_ _) | (with_reducible refine Kd.C_drewN ?_ _) | (with_reducible refine Kd.C_drew ?_))); (case side4 => exact (Kd.R_reads' HO_5.out).2.1); rintro e w' ⟨rfl, ⟨nd, rfl⟩⟩; (try first | exact ⟨rfl, _, World.drewN_drewN _ _ _⟩ | exact ⟨rfl, _, Eq.trans (World.drewN_drewN _ _ _) (congrArg (World.drewN _) (Nat.add_assoc _ _ _))⟩))); try go_wp2)
         go_ret
         exact ⟨_, by first | rfl | (simp [Zw, Zx] <;> rfl) | (simp [*, Zw, Zx] <;> rfl), by (with_reducible repeat (first | apply Kd.R_alloc | apply Kd.R_drewN | apply Kd.R_drew)); exact Kd.R_mono HO_7.out (fun _ hk => trivial), by repeat (first | (with_reducible first | exact HB.out | apply zc1 | apply zc2 | apply zc3 | refine zc4 ?_ (by assumption)) | exact HB.out)⟩
        (replace c53 := Bool.eq_false_iff.mpr c53); (subst c53); (have H1 : (Zs.l1 k3 x7_3 a0_0 a0_1 l0_2 a0_3 a0_4) = some r := by rw [if_neg (show ¬ (false = true) by decide)] at H; exact H); (clear H); (have H := H1); (clear H1); (have H' := Za.mk H); (clear H); (obtain ⟨Ao55, co55, eo55⟩ := Kd.R_slice HO_5.out); (subst eo55)
        go_wp2
        repeat (go_quiet (first | (go_at_call 44; (with_reducible refine (Zm1.calls k3 _ _ x7_3 _ _ x5_2 false _ ?side1 ?side2 ?side3 ?side4 A52.out).mono ?_); (case side1 => repeat (first | exact (Kd.R_reads' HO_7.out).2.2 | (with_reducible refine Kd.C_alloc ?_ _) | (with_reducible refine Kd.C_drewN ?_ _) | (with_reducible refine Kd.C_drew ?_))); (case side2 => exact (Kd.R_reads' HO_7.out).2.1); (case side3 => repeat (first | exact (Kd.R_reads' HO_5.out).2.2 | (with_reducible refine Kd.C_alloc ?_ _) | (with_reducible refine Kd.C_drewN ?_ _) | (with_reducible refine Kd.C_drew ?_))); (case side4 => exact (Kd.R_reads' HO_5.out).2.1); rintro e w' ⟨rfl, ⟨nd, rfl⟩⟩; (try first | exact ⟨rfl, _, World.drewN_drewN _ _ _⟩ | exact ⟨rfl, _, Eq.trans (World.drewN_drewN _ _ _) (congrArg (World.drewN _) (Nat.add_assoc _ _ _))⟩))); try go_wp2)
        (try simp only [← hl7_3])
        go_roundg k3
        case measure => have := HK1.out; have := HK2.out; have := HK3.out; omega
        case rel => exact ⟨(x7_3), H', ⟨by have := HK1.out; have := HK2.out; have := HK3.out; omega⟩, ⟨by (try simp only [hl5_1]); (try simp only [hl7_3]); (with_reducible repeat (first | apply Kd.R_alloc | apply Kd.R_drewN | apply Kd.R_drew)); exact Kd.R_mono HO_7.out (fun _ hk => trivial)⟩, ⟨by (try simp only [hl5_1]); (try simp only [hl7_3]); (with_reducible repeat (first | apply zb3 | apply zb2 | apply zb1)); exact BK254.out⟩, ⟨by repeat (first | (with_reducible first | exact HB.out | apply zc1 | apply zc2 | apply zc3 | refine zc4 ?_ (by assumption)) | exact HB.out)⟩⟩
       (rw [if_pos c24] at H); (have c24b0 : decide (x35_3 < (y261.length : Int)) = true := decide_eq_true c24); ((try (have c24b0h := c24b0; simp only [hl5_1, hl7_3] at c24b0h))); (clear c24); (have H' := Za.mk H); (clear H)
       go_wp2
       repeat (go_quiet (fail); try go_wp2)
       go_loopg [40] k3 (fun kq v40 w' => ∃ (x7_4 : List Int) (x40_4 : Int), v40 = .int .i64 x40_4 ∧ Za (Zs.l3 kq x5_2 x7_4 x35_3 (y261.length : Int) x35_3 (wrap64 (x35_3 + 1)) x40_4 a0_0 a0_1 l0_2 a0_3 a0_4 = some r) ∧ Za (kq ≤ k3) ∧ Za (Kd.R (Kd.int .i64) 3 w' w.heap.size (fun k_ => some k_ ≠ ((.slice Ao23 x7_3.length co23) : Value).ownBlock) u5 x5_2) ∧ Za (Kd.R (Kd.int .i64) 3 w' w.heap.size (fun k_ => some k_ ≠ (u5 : Value).ownBlock) (.slice Ao23 x7_3.length co23) x7_4) ∧ Za (w'.heap[gb254]? = some (.cells #[.int .i64 a0_0, .int .i64 a0_1, (.slice A0_2 l0_2.length c0_2), .int .i64 a0_3, .int .u32 a0_4] 25 (0, 0))) ∧ Za (Below w.heap.size w w'))
       case atStart => exact ⟨(x7_3), (0), (by first | rfl | (simp; done) | (simp [*]; done)), H', ⟨Nat.le_refl _⟩, ⟨by (try simp only [hl5_1]); (try simp only [hl7_3]); (with_reducible repeat (first | apply Kd.R_alloc | apply Kd.R_drewN | apply Kd.R_drew)); exact HO_5.out⟩, ⟨by (try simp only [hl5_1]); (try simp only [hl7_3]); (with_reducible repeat (first | apply Kd.R_alloc | apply Kd.R_drewN | apply Kd.R_drew)); exact HO_7.out⟩, ⟨by (try simp only [hl5_1]); (try simp only [hl7_3]); (with_reducible repeat (first | apply zb3 | apply zb2 | apply zb1)); exact BK254.out⟩, ⟨by repeat (first | (with_reducible first | exact HB.out | apply zc1 | apply zc2 | apply zc3 | refine zc4 ?_ (by assumption)) | exact HB.out)⟩⟩
       case round =>
        (clear H'); (try clear c1); (try clear p1); (try clear q1); (try clear hx1); (try clear c2); (try clear p2); (try clear q2); (try clear hx2); (try clear c3); (try clear c3b0); (try clear c3b1); (try clear c4); (try clear c4b0); (try clear c4b1); (try clear p6); (try clear c10); (try clear c10b0); (try clear c11); (try clear c11b0); (try clear c12); (try clear c12b0); (try clear c14); (try clear c14b0); (try clear p15); (try clear q15); (try clear hx15); (try clear hf15); (try clear c18); (try clear c18b0); (try clear c18b1); (try clear c19); (try clear c19b0); (try clear c19b1); (try clear c24); (try clear c24b0); (try clear hcz20_0 hcz20_1 hcz20_2 hcz20_3 hcz20_4 hcz6_0 hcz6_1 hcz6_2 hcz6_3 hcz6_4 hfz20_0 hfz20_1 hfz20_2 hfz20_3 hfz20_4 hfz6_0 hfz6_1 hfz6_2 hfz6_3 hfz6_4); (try clear hx15_0); (try clear hx258_0); (try clear p1); (try clear p15); (try clear p2); (try clear p258); (try clear p6); (try clear q1); (try clear q15); (try clear q2); (try clear q258); (obtain ⟨x7_4, x40_4, rfl, HA, HK4, HO_5, HO_7, BK254, HB⟩ := hrel); (have hl7_4 := (Kd.R_reads' HO_7.out).1); (rw [hl7_4] at HO_7); ((try simp only [hl7_4])); ((try simp only [hl7_4] at BK254)); ((try simp only [hl7_4] at HO_5))
        cases gk with
        | zero => exact absurd HA.out (by simp [Zs.l3])
        | succ k4 =>
         (have H := HA.out); (clear HA); (simp only [Zs.l3] at H)
         by_cases c25 : x40_4 < (wrap64 (x35_3 + 1))
         rotate_left
         ·rw [if_neg c25] at H
          (have c25b0 : decide (x40_4 < (wrap64 (x35_3 + 1))) = false := decide_eq_false c25); (clear c25); (have H' := Za.mk H); (clear H)
          go_wp2
          repeat (go_quiet (fail); try go_wp2)
          (try simp only [← hl7_3, ← hl7_4])
          go_roundg k4
          case measure => have := HK1.out; have := HK2.out; have := HK3.out; have := HK4.out; omega
          case rel => exact ⟨(x7_4), (wrap64 (x35_3 + 1)), (by first | rfl | (simp; done) | (simp [*]; done)), H', ⟨by have := HK1.out; have := HK2.out; have := HK3.out; have := HK4.out; omega⟩, ⟨by (try simp only [hl5_1]); (try simp only [hl7_3]); (try simp only [hl7_4]); (with_reducible repeat (first | apply Kd.R_alloc | apply Kd.R_drewN | apply Kd.R_drew)); exact HO_5.out⟩, ⟨by (try simp only [hl5_1]); (try simp only [hl7_3]); (try simp only [hl7_4]); (with_reducible repeat (first | apply Kd.R_alloc | apply Kd.R_drewN | apply Kd.R_drew)); exact HO_7.out⟩, ⟨by (try simp only [hl5_1]); (try simp only [hl7_3]); (try simp only [hl7_4]); (with_reducible repeat (first | apply zb3 | apply zb2 | apply zb1)); exact BK254.out⟩, ⟨by repeat (first | (with_reducible first | exact HB.out | apply zc1 | apply zc2 | apply zc3 | refine zc4 ?_ (by assumption)) | exact HB.out)⟩⟩
         (rw [if_pos c25] at H); (have c25b0 : decide (x40_4 < (wrap64 (x35_3 + 1))) = true := decide_eq_true c25); (clear c25)
         by_cases c26 : 0 ≤ x35_3
         rotate_left
         ·rw [if_neg c26] at H
          exact absurd H (by simp)
         (rw [if_pos c26] at H); (have c26b0 : decide (0 ≤ x35_3) = true := decide_eq_true c26); (clear c26)
         by_cases c27 : x35_3 < (x5_2.length : Int)
         rotate_left
         ·rw [if_neg c27] at H
          exact absurd H (by simp)
         (rw [if_pos c27] at H); (have c27b0 : decide (x35_3 < (x5_2.length : Int)) = true := decide_eq_true c27); ((try (have c27b0h := c27b0; simp only [hl5_1, hl7_3, hl7_4] at c27b0h))); (clear c27)
         by_cases c28 : 0 ≤ x40_4
         rotate_left
         ·rw [if_neg c28] at H
          exact absurd H (by simp)
         (rw [if_pos c28] at H); (have c28b0 : decide (0 ≤ x40_4) = true := decide_eq_true c28); (clear c28)
         by_cases c29 : x40_4 < (x5_2.length : Int)
         rotate_left
         ·rw [if_neg c29] at H
          exact absurd H (by simp)
         (rw [if_pos c29] at H); (have c29b0 : decide (x40_4 < (x5_2.length : Int)) = true := decide_eq_true c29); ((try (have c29b0h := c29b0; simp only [hl5_1, hl7_3, hl7_4] at c29b0h))); (clear c29); (have H' := Za.mk H); (clear H); (obtain ⟨Ao30, co30, eo30⟩ := Kd.R_slice HO_5.out); (subst eo30); (have p265 : 0 ≤ (x35_3 : Int) := of_decide_eq_true (by assumption)); (have q265 : x35_3 < (x5_2.length : Int) := of_decide_eq_true (by assumption)); (obtain ⟨ad265, e265, hx265_0⟩ := Kd.at_int (Kd.R_reads' HO_5.out).2.2 x35_3 p265 q265); (cases e265); (replace p265 := eq_true p265); (replace q265 := eq_true q265); (have p266 : 0 ≤ (x40_4 : Int) := of_decide_eq_true (by assumption)); (have q266 : x40_4 < (x5_2.length : Int) := of_decide_eq_true (by assumption)); (obtain ⟨ad266, e266, hx266_0⟩ := Kd.at_int (Kd.R_reads' HO_5.out).2.2 x40_4 p266 q266); (obtain rfl : ad265 = ad266 := (by injection e266)); (replace p266 := eq_true p266); (replace q266 := eq_true q266); (have hcz31_0 : wr.cell? ⟨gb254, 0, none⟩ = some (.int .i64 a0_0) := (Zb BK254.out 0).trans rfl); (have hcz31_1 : wr.cell? ⟨gb254, 1, none⟩ = some (.int .i64 a0_1) := (Zb BK254.out 1).trans rfl); (have hcz31_2 : wr.cell? ⟨gb254, 2, none⟩ = some (.slice A0_2 l0_2.length c0_2) := (Zb BK254.out 2).trans rfl); (have hcz31_3 : wr.cell? ⟨gb254, 3, none⟩ = some (.int .i64 a0_3) := (Zb BK254.out 3).trans rfl); (have hcz31_4 : wr.cell? ⟨gb254, 4, none⟩ = some (.int .u32 a0_4) := (Zb BK254.out 4).trans rfl); (have hfz31_0 := Zc BK254.out 0); (have hfz31_1 := Zc BK254.out 1); (have hfz31_2 := Zc BK254.out 2)
         (have hfz31_3 := Zc BK254.out 3); (have hfz31_4 := Zc BK254.out 4)
         go_wp2
         repeat (go_quiet (fail); try go_wp2)
         go_loopg [10, 54] k4 (fun kq v10 v54 w' => ∃ (x10_5 : Bool) (x54_5 : Int), v10 = .bool x10_5 ∧ v54 = .int .i64 x54_5 ∧ Za (Zs.l4 kq x5_2 x7_4 x35_3 x40_4 x10_5 (y261.length : Int) x35_3 (wrap64 (x35_3 + 1)) x40_4 a0_1 x54_5 a0_0 a0_1 l0_2 a0_3 a0_4 = some r) ∧ Za (kq ≤ k4) ∧ Za (Kd.R (Kd.int .i64) 3 w' w.heap.size (fun k_ => some k_ ≠ ((.slice Ao23 x7_4.length co23) : Value).ownBlock) (.slice (some ad265) x5_2.length co30) x5_2) ∧ Za (Kd.R (Kd.int .i64) 3 w' w.heap.size (fun k_ => some k_ ≠ ((.slice (some ad265) x5_2.length co30) : Value).ownBlock) (.slice Ao23 x7_4.length co23) x7_4) ∧ Za (w'.heap[gb254]? = some (.cells #[.int .i64 a0_0, .int .i64 a0_1, (.slice A0_2 l0_2.length c0_2), .int .i64 a0_3, .int .u32 a0_4] 25 (0, 0))) ∧ Za (Below w.heap.size w w'))
         case atStart => exact ⟨(((rd x5_2 x35_3) == (rd x5_2 x40_4))), (0), (by first | rfl | (simp; done) | (simp [*]; done)), (by first | rfl | (simp; done) | (simp [*]; done)), H', ⟨Nat.le_refl _⟩, ⟨by (try simp only [hl5_1]); (try simp only [hl7_3]); (try simp only [hl7_4]); (with_reducible repeat (first | apply Kd.R_alloc | apply Kd.R_drewN | apply Kd.R_drew)); exact HO_5.out⟩, ⟨by (try simp only [hl5_1]); (try simp only [hl7_3]); (try simp only [hl7_4]); (with_reducible repeat (first | apply Kd.R_alloc | apply Kd.R_drewN | apply Kd.R_drew)); exact HO_7.out⟩, ⟨by (try simp only [hl5_1]); (try simp only [hl7_3]); (try simp only [hl7_4]); (with_reducible repeat (first | apply zb3 | apply zb2 | apply zb1)); exact BK254.out⟩, ⟨by repeat (first | (with_reducible first | exact HB.out | apply zc1 | apply zc2 | apply zc3 | refine zc4 ?_ (by assumption)) | exact HB.out)⟩⟩
         case round =>
          (clear H'); (try clear c1); (try clear p1); (try clear q1); (try clear hx1); (try clear c2); (try clear p2); (try clear q2); (try clear hx2); (try clear c3); (try clear c3b0); (try clear c3b1); (try clear c4); (try clear c4b0); (try clear c4b1); (try clear p6); (try clear c10); (try clear c10b0); (try clear c11); (try clear c11b0); (try clear c12); (try clear c12b0); (try clear c14); (try clear c14b0); (try clear p15); (try clear q15); (try clear hx15); (try clear hf15); (try clear c18); (try clear c18b0); (try clear c18b1); (try clear c19); (try clear c19b0); (try clear c19b1); (try clear c24); (try clear c24b0); (try clear c25); (try clear c25b0); (try clear p25); (try clear q25); (try clear hx25); (try clear c26); (try clear c26b0); (try clear p26); (try clear q26); (try clear hx26); (try clear c27); (try clear c27b0); (try clear c28); (try clear c28b0); (try clear c29); (try clear c29b0); (try clear hcz20_0 hcz20_1 hcz20_2 hcz20_3 hcz20_4 hcz31_0 hcz31_1 hcz31_2 hcz31_3 hcz31_4 hcz6_0 hcz6_1 hcz6_2 hcz6_3 hcz6_4 hfz20_0 hfz20_1 hfz20_2 hfz20_3 hfz20_4 hfz31_0 hfz31_1 hfz31_2 hfz31_3 hfz31_4 hfz6_0 hfz6_1 hfz6_2 hfz6_3 hfz6_4); (try clear hx15_0); (try clear hx258_0); (try clear hx265_0); (try clear hx266_0); (try clear p1); (try clear p15); (try clear p2); (try clear p258); (try clear p265); (try clear p266); (try clear p6); (try clear q1); (try clear q15); (try clear q2); (try clear q258); (try clear q265); (try clear q266); (obtain ⟨x10_5, x54_5, rfl, rfl, HA, HK5, HO_5, HO_7, BK254, HB⟩ := hrel)
          cases gk with
          | zero => exact absurd HA.out (by simp [Zs.l4])
          | succ k5 =>
           (have H := HA.out); (clear HA); (simp only [Zs.l4] at H)
           by_cases c32 : x54_5 < a0_1
           rotate_left
           ·rw [if_neg c32] at H
            (have c32b0 : decide (x54_5 < a0_1) = false := decide_eq_false c32); (clear c32)
            by_cases c46 : x10_5 = true
            rotate_left
            ·replace c46 := Bool.eq_false_iff.mpr c46
             (subst c46); (have H1 : (Zs.l3 k5 x5_2 x7_4 x35_3 (y261.length : Int) x35_3 (wrap64 (x35_3 + 1)) (wrap64 (x40_4 + 1)) a0_0 a0_1 l0_2 a0_3 a0_4) = some r := by rw [if_neg (show ¬ (false = true) by decide)] at H; exact H); (clear H); (have H := H1); (clear H1); (have H' := Za.mk H); (clear H)
             go_wp2
             repeat (go_quiet (fail); try go_wp2)
             (try simp only [← hl7_4])
             go_roundg k5
             case measure => have := HK1.out; have := HK2.out; have := HK3.out; have := HK4.out; have := HK5.out; omega
             case rel => exact ⟨(x7_4), (wrap64 (x40_4 + 1)), (by first | rfl | (simp; done) | (simp [*]; done)), H', ⟨by have := HK1.out; have := HK2.out; have := HK3.out; have := HK4.out; have := HK5.out; omega⟩, ⟨by (try simp only [hl5_1]); (try simp only [hl7_3]); (try simp only [hl7_4]); (with_reducible repeat (first | apply Kd.R_alloc | apply Kd.R_drewN | apply Kd.R_drew)); exact HO_5.out⟩, ⟨by (try simp only [hl5_1]); (try simp only [hl7_3]); (try simp only [hl7_4]); (with_reducible repeat (first | apply Kd.R_alloc | apply Kd.R_drewN | apply Kd.R_drew)); exact HO_7.out⟩, ⟨by (try simp only [hl5_1]); (try simp only [hl7_3]); (try simp only [hl7_4]); (with_reducible repeat (first | apply zb3 | apply zb2 | apply zb1)); exact BK254.out⟩, ⟨by repeat (first | (with_reducible first | exact HB.out | apply zc1 | apply zc2 | apply zc3 | refine zc4 ?_ (by assumption)) | exact HB.out)⟩⟩
            (subst c46); (have H1 : (if 0 ≤ x35_3 then (if x35_3 < (x7_4.length : Int) then (Zs.l2 k5 x5_2 (x7_4.set (x35_3 : Int).toNat x40_4) (y261.length : Int) (wrap64 (x35_3 + 1)) a0_0 a0_1 l0_2 a0_3 a0_4) else (none)) else (none)) = some r := by rw [if_pos rfl] at H; exact H); (clear H); (have H := H1); (clear H1)
            by_cases c47 : 0 ≤ x35_3
            rotate_left
            ·rw [if_neg c47] at H
             exact absurd H (by simp)
            (rw [if_pos c47] at H); (have c47b0 : decide (0 ≤ x35_3) = true := decide_eq_true c47); (clear c47)
            by_cases c48 : x35_3 < (x7_4.length : Int)
            rotate_left
            ·rw [if_neg c48] at H
             exact absurd H (by simp)
            (rw [if_pos c48] at H); (have c48b0 : decide (x35_3 < (x7_4.length : Int)) = true := decide_eq_true c48); ((try (have c48b0h := c48b0; simp only [hl5_1, hl7_3, hl7_4] at c48b0h))); (clear c48); (obtain ⟨y273, hy273⟩ : ∃ y_ : List Int, y_ = (x7_4.set (x35_3 : Int).toNat x40_4) := ⟨_, rfl⟩); (replace H : (Zs.l2 k5 x5_2 y273 (y261.length : Int) (wrap64 (x35_3 + 1)) a0_0 a0_1 l0_2 a0_3 a0_4) = some r := by first | (rw [hy273]; with_reducible exact H) | (have H2_ := (Option.bind_some _ _).symm.trans H; rw [hy273]; with_reducible exact H2_) | (have H2_ := (Option.bind_some _ _).symm.trans H; with_reducible exact H2_) | with_reducible exact H | (rw [hy273]; exact H) | exact H); (have Ny273 := Za.mk hy273); (clear hy273); (have H' := Za.mk H); (clear H); (have p49 : 0 ≤ (x35_3 : Int) := of_decide_eq_true (by assumption)); (have q49 : (x35_3 : Int) < ((x7_4.length : Int) : Int) := of_decide_eq_true (by assumption)); (obtain ⟨go49, co49, eo49, gb49, gl49, cl49, HG49⟩ := Kd.R_form HO_7.out (by omega))
            (first | cases eo49 | (injection eo49 with ea_ en_ ec_; (first | subst ea_ | (injection ea_ with ea_; subst ea_)); subst ec_; clear en_))
            (have GB49 := Za.mk gb49); (have GG49 := Za.mk HG49); (clear gb49 gl49 HG49); (obtain ⟨hx49_0, hf49_0⟩ := Kd.R_celln 0 HO_7.out (x35_3 : Int) p49 q49); (replace p49 := eq_true p49); (replace q49 := eq_true q49); (obtain ⟨hy50_, hz50_⟩ := Kd.R_celln 0 HO_7.out (x35_3 : Int) (of_decide_eq_true (by assumption)) (of_decide_eq_true (by assumption))); (have HP50 := Kd.R_putg HO_7.out (x35_3 : Int) x40_4)
            go_wp2
            repeat (go_quiet (first | ((with_reducible refine gate_store (t := 3) (p := 88) rfl ?_); (try (rw [drewN_self wr]; generalize hq_ : World.drewN wr _ = wr; (try (replace HO_5 := Za.mk (Kd.R_at hq_ HO_5.out))); (try (replace HO_7 := Za.mk (Kd.R_at hq_ HO_7.out))); (try (replace BK254 := Za.mk (blk_at hq_ BK254.out))); (try (replace HB := Za.mk (below_at hq_ HB.out))); (try clear hq_); (try (obtain ⟨hy50_, hz50_⟩ := Kd.R_celln 0 HO_7.out (x35_3 : Int) (of_decide_eq_true (by assumption)) (of_decide_eq_true (by assumption)))); (try (have HP50 := Kd.R_putg HO_7.out (x35_3 : Int) x40_4)))); refine store_event (t := 3) (p := 88) (v := ?vo_w51) (w1 := (wr.setCell ⟨go49, (x35_3 : Int).toNat, none⟩ (.int .i64 x40_4))) ?hg ?ho ?hn ?hr ?_; (case ho => rfl); (case hg => rfl); (case hn => rfl); (case hr => first | (go_simp; done) | (go_simp; rfl)); intro w51 hw; have hg : wr.grownBy w51 (some go49) := (by rw [hw]; exact HP50.2); have hp_ : Kd.R (Kd.int .i64) 3 w51 w.heap.size (fun k_ => some k_ ≠ (.slice (some ad265) x5_2.length co30 : Value).ownBlock) (.slice (some ⟨go49, 0, none⟩) x7_4.length co23) y273 := (by rw [hw, Ny273.out]; exact HP50.1); clear HP50; replace HO_5 := Za.mk (Kd.R_after (v := (.slice (some ⟨go49, 0, none⟩) x7_4.length co23)) (v1 := (.slice (some ⟨go49, 0, none⟩) x7_4.length co23)) (ok := (fun _ => True)) (by (with_reducible repeat (first | apply Kd.R_alloc | apply Kd.R_drewN | apply Kd.R_drew)); exact Kd.R_mono HO_5.out (fun _ hk => ⟨trivial, hk⟩)) hg (.inl rfl)); replace BK254 := Za.mk (Zc1 (g := gb254) (by (with_reducible repeat (first | apply zb3 | apply zb2 | apply zb1)); exact BK254.out) hg (Kd.R_ne HO_7.out BK254.out (by decide))); replace HO_7 := Za.mk (hp_); replace HB := Za.mk ((by rw [hw]; exact below_set (HB.out) GB49.out : Below w.heap.size w w51)); clear hg hw hp_)); try go_wp2)
            (try simp only [← hl7_3, ← hl7_4])
            go_roundg k5
            case measure => have := HK1.out; have := HK2.out; have := HK3.out; have := HK4.out; have := HK5.out; omega
            case rel => exact ⟨(y273), (wrap64 (x35_3 + 1)), (by first | rfl | (simp; done) | (simp [*]; done)), H', ⟨by have := HK1.out; have := HK2.out; have := HK3.out; have := HK4.out; have := HK5.out; omega⟩, ⟨by (try simp only [hl5_1]); (try simp only [hl7_3]); (try simp only [hl7_4]); (with_reducible repeat (first | apply Kd.R_alloc | apply Kd.R_drewN | apply Kd.R_drew)); exact Kd.R_mono HO_5.out (fun _ hk => hk.2)⟩, ⟨by (try simp only [hl5_1]); (try simp only [hl7_3]); (try simp only [hl7_4]); (with_reducible repeat (first | apply Kd.R_alloc | apply Kd.R_drewN | apply Kd.R_drew)); exact HO_7.out⟩, ⟨by (try simp only [hl5_1]); (try simp only [hl7_3]); (try simp only [hl7_4]); (with_reducible repeat (first | apply zb3 | apply zb2 | apply zb1)); exact BK254.out⟩, ⟨by repeat (first | (with_reducible first | exact HB.out | apply zc1 | apply zc2 | apply zc3 | refine zc4 ?_ (by assumption)) | exact HB.out)⟩⟩
           (rw [if_pos c32] at H); (have c32b0 : decide (x54_5 < a0_1) = true := decide_eq_true c32); (clear c32)
           by_cases c33 : x10_5 = true
           rotate_left
           ·replace c33 := Bool.eq_false_iff.mpr c33
            (subst c33); (have H1 : (Zs.l4 k5 x5_2 x7_4 x35_3 x40_4 false (y261.length : Int) x35_3 (wrap64 (x35_3 + 1)) x40_4 a0_1 (wrap64 (x54_5 + 1)) a0_0 a0_1 l0_2 a0_3 a0_4) = some r := by rw [if_neg (show ¬ (false = true) by decide)] at H; exact H); (clear H); (have H := H1); (clear H1); (have H' := Za.mk H); (clear H)
            go_wp2
            repeat (go_quiet (fail); try go_wp2)
            go_roundg k5
            case measure => have := HK1.out; have := HK2.out; have := HK3.out; have := HK4.out; have := HK5.out; omega
            case rel => exact ⟨(false), (wrap64 (x54_5 + 1)), (by first | rfl | (simp; done) | (simp [*]; done)), (by first | rfl | (simp; done) | (simp [*]; done)), H', ⟨by have := HK1.out; have := HK2.out; have := HK3.out; have := HK4.out; have := HK5.out; omega⟩, ⟨by (try simp only [hl5_1]); (try simp only [hl7_3]); (try simp only [hl7_4]); (with_reducible repeat (first | apply Kd.R_alloc | apply Kd.R_drewN | apply Kd.R_drew)); exact HO_5.out⟩, ⟨by (try simp only [hl5_1]); (try simp only [hl7_3]); (try simp only [hl7_4]); (with_reducible repeat (first | apply Kd.R_alloc | apply Kd.R_drewN | apply Kd.R_drew)); exact HO_7.out⟩, ⟨by (try simp only [hl5_1]); (try simp only [hl7_3]); (try simp only [hl7_4]); (with_reducible repeat (first | apply zb3 | apply zb2 | apply zb1)); exact BK254.out⟩, ⟨by repeat (first | (with_reducible first | exact HB.out | apply zc1 | apply zc2 | apply zc3 | refine zc4 ?_ (by assumption)) | exact HB.out)⟩⟩
           (subst c33); (have H1 : (if 0 ≤ x35_3 then (if x35_3 < (l0_2.length : Int) then (if 0 ≤ x54_5 then (if x54_5 < ((Ze l0_2 x35_3).length : Int) then (if 0 ≤ (rd (Ze l0_2 x35_3) x54_5) then (if (rd (Ze l0_2 x35_3) x54_5) < (x5_2.length : Int) then (if 0 ≤ x40_4 then (if x40_4 < (l0_2.length : Int) then (if x54_5 < ((Ze l0_2 x40_4).length : Int) then (if 0 ≤ (rd (Ze l0_2 x40_4) x54_5) then (if (rd (Ze l0_2 x40_4) x54_5) < (x5_2.length : Int) then (Zs.l4 k5 x5_2 x7_4 x35_3 x40_4 ((rd x5_2 (rd (Ze l0_2 x35_3) x54_5)) == (rd x5_2 (rd (Ze l0_2 x40_4) x54_5))) (y261.length : Int) x35_3 (wrap64 (x35_3 + 1)) x40_4 a0_1 (wrap64 (x54_5 + 1)) a0_0 a0_1 l0_2 a0_3 a0_4) else (none)) else (none)) else (none)) else (none)) else (none)) else (none)) else (none)) else (none)) else (none)) else (none)) else (none)) = some r := by rw [if_pos rfl] at H; exact H); (clear H); (have H := H1); (clear H1)
           by_cases c34 : 0 ≤ x35_3
           rotate_left
           ·rw [if_neg c34] at H
            exact absurd H (by simp)
           (rw [if_pos c34] at H); (have c34b0 : decide (0 ≤ x35_3) = true := decide_eq_true c34); (clear c34)
           by_cases c35 : x35_3 < (l0_2.length : Int)
           rotate_left
           ·rw [if_neg c35] at H
            exact absurd H (by simp)
           (rw [if_pos c35] at H); (have c35b0 : decide (x35_3 < (l0_2.length : Int)) = true := decide_eq_true c35); ((try (have c35b0h := c35b0; simp only [hl5_1, hl7_3, hl7_4] at c35b0h))); (clear c35)
           by_cases c36 : 0 ≤ x54_5
           rotate_left
           ·rw [if_neg c36] at H
            exact absurd H (by simp)
           (rw [if_pos c36] at H); (have c36b0 : decide (0 ≤ x54_5) = true := decide_eq_true c36); (clear c36)
           by_cases c37 : x54_5 < ((Ze l0_2 x35_3).length : Int)
           rotate_left
           ·rw [if_neg c37] at H
            exact absurd H (by simp)
           (rw [if_pos c37] at H); (have c37b0 : decide (x54_5 < ((Ze l0_2 x35_3).length : Int)) = true := decide_eq_true c37); ((try (have c37b0h := c37b0; simp only [hl5_1, hl7_3, hl7_4] at c37b0h))); (clear c37)
           by_cases c38 : 0 ≤ (rd (Ze l0_2 x35_3) x54_5)
           rotate_left
           ·rw [if_neg c38] at H
            exact absurd H (by simp)
           (rw [if_pos c38] at H); (have c38b0 : decide (0 ≤ (rd (Ze l0_2 x35_3) x54_5)) = true := decide_eq_true c38); (clear c38)
           by_cases c39 : (rd (Ze l0_2 x35_3) x54_5) < (x5_2.length : Int)
           rotate_left
           ·rw [if_neg c39] at H
            exact absurd H (by simp)
           (rw [if_pos c39] at H); (have c39b0 : decide ((rd (Ze l0_2 x35_3) x54_5) < (x5_2.length : Int)) = true := decide_eq_true c39); ((try (have c39b0h := c39b0; simp only [hl5_1, hl7_3, hl7_4] at c39b0h))); (clear c39)
           by_cases c40 : 0 ≤ x40_4
           rotate_left
           ·rw [if_neg c40] at H
            exact absurd H (by simp)
           (rw [if_pos c40] at H); (have c40b0 : decide (0 ≤ x40_4) = true := decide_eq_true c40); (clear c40)
           by_cases c41 : x40_4 < (l0_2.length : Int)
           rotate_left
           ·rw [if_neg c41] at H
            exact absurd H (by simp)
           (rw [if_pos c41] at H); (have c41b0 : decide (x40_4 < (l0_2.length : Int)) = true := decide_eq_true c41); ((try (have c41b0h := c41b0; simp only [hl5_1, hl7_3, hl7_4] at c41b0h))); (clear c41)
           by_cases c42 : x54_5 < ((Ze l0_2 x40_4).length : Int)
           rotate_left
           ·rw [if_neg c42] at H
            exact absurd H (by simp)
           (rw [if_pos c42] at H); (have c42b0 : decide (x54_5 < ((Ze l0_2 x40_4).length : Int)) = true := decide_eq_true c42); ((try (have c42b0h := c42b0; simp only [hl5_1, hl7_3, hl7_4] at c42b0h))); (clear c42)
           by_cases c43 : 0 ≤ (rd (Ze l0_2 x40_4) x54_5)
           rotate_left
           ·rw [if_neg c43] at H
            exact absurd H (by simp)
           (rw [if_pos c43] at H); (have c43b0 : decide (0 ≤ (rd (Ze l0_2 x40_4) x54_5)) = true := decide_eq_true c43); (clear c43)
           by_cases c44 : (rd (Ze l0_2 x40_4) x54_5) < (x5_2.length : Int)
           rotate_left
           ·rw [if_neg c44] at H
            exact absurd H (by simp)
           (rw [if_pos c44] at H); (have c44b0 : decide ((rd (Ze l0_2 x40_4) x54_5) < (x5_2.length : Int)) = true := decide_eq_true c44); ((try (have c44b0h := c44b0; simp only [hl5_1, hl7_3, hl7_4] at c44b0h))); (clear c44); (have H' := Za.mk H); (clear H); (have hcz45_0 : wr.cell? ⟨gb254, 0, none⟩ = some (.int .i64 a0_0) := (Zb BK254.out 0).trans rfl); (have hcz45_1 : wr.cell? ⟨gb254, 1, none⟩ = some (.int .i64 a0_1) := (Zb BK254.out 1).trans rfl); (have hcz45_2 : wr.cell? ⟨gb254, 2, none⟩ = some (.slice A0_2 l0_2.length c0_2) := (Zb BK254.out 2).trans rfl); (have hcz45_3 : wr.cell? ⟨gb254, 3, none⟩ = some (.int .i64 a0_3) := (Zb BK254.out 3).trans rfl); (have hcz45_4 : wr.cell? ⟨gb254, 4, none⟩ = some (.int .u32 a0_4) := (Zb BK254.out 4).trans rfl); (have hfz45_0 := Zc BK254.out 0); (have hfz45_1 := Zc BK254.out 1); (have hfz45_2 := Zc BK254.out 2); (have hfz45_3 := Zc BK254.out 3); (have hfz45_4 := Zc BK254.out 4); (have p267 : 0 ≤ (x35_3 : Int) := of_decide_eq_true (by assumption)); (have q267 : x35_3 < (l0_2.length : Int) := of_decide_eq_true (by assumption)); (obtain ⟨ad267, A267_0, c267_0, e267, hx267_0, hl267_0, hi267_0⟩ := at_L1 HR0_2.out x35_3 p267 q267); (cases e267); (replace hx267_0 := (HB.out.cell (World.block_lt_of_cell? w _ hx267_0)).trans hx267_0); (have HR267_0 := Za.mk hi267_0); (have HC267_0 := Za.mk hl267_0); (clear hi267_0 hl267_0); (replace p267 := eq_true p267); (replace q267 := eq_true q267); (have p268 : 0 ≤ (x54_5 : Int) := of_decide_eq_true (by assumption)); (have q268 : x54_5 < ((Ze l0_2 x35_3).length : Int) := of_decide_eq_true (by assumption))
           (obtain ⟨ad268, e268, hx268_0⟩ := Kd.at_int HR267_0.out x54_5 p268 q268); (cases e268); (replace hx268_0 := (HB.out.cell (World.block_lt_of_cell? w _ hx268_0)).trans hx268_0); (replace p268 := eq_true p268); (replace q268 := eq_true q268); (have p269 : 0 ≤ ((rd (Ze l0_2 x35_3) x54_5) : Int) := of_decide_eq_true (by assumption)); (have q269 : (rd (Ze l0_2 x35_3) x54_5) < (x5_2.length : Int) := of_decide_eq_true (by assumption)); (obtain ⟨ad269, e269, hx269_0⟩ := Kd.at_int (Kd.R_reads' HO_5.out).2.2 (rd (Ze l0_2 x35_3) x54_5) p269 q269); (obtain rfl : ad265 = ad269 := (by injection e269)); (replace p269 := eq_true p269); (replace q269 := eq_true q269); (have p270 : 0 ≤ (x40_4 : Int) := of_decide_eq_true (by assumption)); (have q270 : x40_4 < (l0_2.length : Int) := of_decide_eq_true (by assumption)); (obtain ⟨ad270, A270_0, c270_0, e270, hx270_0, hl270_0, hi270_0⟩ := at_L1 HR0_2.out x40_4 p270 q270); (obtain rfl : ad267 = ad270 := (by injection e270)); (replace hx270_0 := (HB.out.cell (World.block_lt_of_cell? w _ hx270_0)).trans hx270_0); (have HR270_0 := Za.mk hi270_0); (have HC270_0 := Za.mk hl270_0); (clear hi270_0 hl270_0); (replace p270 := eq_true p270); (replace q270 := eq_true q270); (have p271 : 0 ≤ (x54_5 : Int) := of_decide_eq_true (by assumption)); (have q271 : x54_5 < ((Ze l0_2 x40_4).length : Int) := of_decide_eq_true (by assumption)); (obtain ⟨ad271, e271, hx271_0⟩ := Kd.at_int HR270_0.out x54_5 p271 q271); (cases e271); (replace hx271_0 := (HB.out.cell (World.block_lt_of_cell? w _ hx271_0)).trans hx271_0); (replace p271 := eq_true p271); (replace q271 := eq_true q271)
           (have p272 : 0 ≤ ((rd (Ze l0_2 x40_4) x54_5) : Int) := of_decide_eq_true (by assumption)); (have q272 : (rd (Ze l0_2 x40_4) x54_5) < (x5_2.length : Int) := of_decide_eq_true (by assumption)); (obtain ⟨ad272, e272, hx272_0⟩ := Kd.at_int (Kd.R_reads' HO_5.out).2.2 (rd (Ze l0_2 x40_4) x54_5) p272 q272); (obtain rfl : ad265 = ad272 := (by injection e272)); (replace p272 := eq_true p272); (replace q272 := eq_true q272)
           go_wp2
           repeat (go_quiet (fail); try go_wp2)
           go_roundg k5
           case measure => have := HK1.out; have := HK2.out; have := HK3.out; have := HK4.out; have := HK5.out; omega
           case rel => exact ⟨(((rd x5_2 (rd (Ze l0_2 x35_3) x54_5)) == (rd x5_2 (rd (Ze l0_2 x40_4) x54_5)))), (wrap64 (x54_5 + 1)), (by first | rfl | (simp; done) | (simp [*]; done)), (by first | rfl | (simp; done) | (simp [*]; done)), H', ⟨by have := HK1.out; have := HK2.out; have := HK3.out; have := HK4.out; have := HK5.out; omega⟩, ⟨by (try simp only [hl5_1]); (try simp only [hl7_3]); (try simp only [hl7_4]); (with_reducible repeat (first | apply Kd.R_alloc | apply Kd.R_drewN | apply Kd.R_drew)); exact HO_5.out⟩, ⟨by (try simp only [hl5_1]); (try simp only [hl7_3]); (try simp only [hl7_4]); (with_reducible repeat (first | apply Kd.R_alloc | apply Kd.R_drewN | apply Kd.R_drew)); exact HO_7.out⟩, ⟨by (try simp only [hl5_1]); (try simp only [hl7_3]); (try simp only [hl7_4]); (with_reducible repeat (first | apply zb3 | apply zb2 | apply zb1)); exact BK254.out⟩, ⟨by repeat (first | (with_reducible first | exact HB.out | apply zc1 | apply zc2 | apply zc3 | refine zc4 ?_ (by assumption)) | exact HB.out)⟩⟩
end Go.Proofs.Ytofdaiknpficfaa.PKindsStills
