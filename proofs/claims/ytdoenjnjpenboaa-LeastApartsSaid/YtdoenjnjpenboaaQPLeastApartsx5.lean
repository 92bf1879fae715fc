-- Printed by a turn of a template of the kit, and shortened: remarks and what nothing here uses are left out.
import Derived.Test.YtdoenjnjpenboaaQPLeastApartsx0
namespace Go.Proofs.Ytdoenjnjpenboaa.PLeastAparts
open Go.RowKit Go.Proofs.YtdoenjnjpenboaaW.PrintWords Go.Proofs.YtdoenjnjpenboaaW.PrintLast Go.Proofs.YtdoenjnjpenboaaW.PrintMore
attribute [local go_sem] max2_int min2_int max_two min_two max_three min_three max_four min_four
set_option linter.unusedVariables false
set_option linter.unusedSimpArgs false
mutual
def Zp.j0 : Nat → Bool → Int → Int → List (List Int) → Int → Int → Option (Int)
  | 0, _, _, _, _, _, _ => none
  | k + 1, x26, x155000, x155001, x155002, x155003, x155004 => if x26 = true then (some 1) else (if (x155002.length : Int) = x155000 then (Zp.l0 k x155002 (x155002.length : Int) 0 x155000 x155001 x155002 x155003 x155004) else (some 3))
def Zp.l0 : Nat → List (List Int) → Int → Int → Int → Int → List (List Int) → Int → Int → Option (Int)
  | 0, _, _, _, _, _, _, _, _ => none
  | k + 1, x34, x35, x36, x155000, x155001, x155002, x155003, x155004 => if x36 < x35 then (if 0 ≤ x36 then (if x36 < (x34.length : Int) then (if ((Zd x34 x36).length : Int) = x155001 then (Zp.l0 k x34 x35 (wrap64 (x36 + 1)) x155000 x155001 x155002 x155003 x155004) else (some 3)) else (none)) else (none)) else (Zp.l1 k x155002 (x155002.length : Int) 0 x155000 x155001 x155002 x155003 x155004)
def Zp.l1 : Nat → List (List Int) → Int → Int → Int → Int → List (List Int) → Int → Int → Option (Int)
  | 0, _, _, _, _, _, _, _, _ => none
  | k + 1, x47, x48, x49, x155000, x155001, x155002, x155003, x155004 => if x49 < x48 then (if 0 ≤ x49 then (if x49 < (x47.length : Int) then (Zp.l2 k x47 x48 x49 (Zd x47 x49) ((Zd x47 x49).length : Int) 0 x155000 x155001 x155002 x155003 x155004) else (none)) else (none)) else (if x155003 < 0 then (Zp.j4 k true x155000 x155001 x155002 x155003 x155004) else (Zp.j4 k (decide (x155003 ≥ x155000)) x155000 x155001 x155002 x155003 x155004))
def Zp.l2 : Nat → List (List Int) → Int → Int → List Int → Int → Int → Int → Int → List (List Int) → Int → Int → Option (Int)
  | 0, _, _, _, _, _, _, _, _, _, _, _ => none
  | k + 1, x47, x48, x49, x53, x54, x55, x155000, x155001, x155002, x155003, x155004 => if x55 < x54 then (if 0 ≤ x55 then (if x55 < (x53.length : Int) then (if (rd x53 x55) < 0 then (some 2) else (if (rd x53 x55) ≥ x155000 then (some 2) else (Zp.l2 k x47 x48 x49 x53 x54 (wrap64 (x55 + 1)) x155000 x155001 x155002 x155003 x155004))) else (none)) else (none)) else (Zp.l1 k x47 x48 (wrap64 (x49 + 1)) x155000 x155001 x155002 x155003 x155004)
def Zp.j4 : Nat → Bool → Int → Int → List (List Int) → Int → Int → Option (Int)
  | 0, _, _, _, _, _, _ => none
  | k + 1, x78, x155000, x155001, x155002, x155003, x155004 => if x78 = true then (some 2) else (if 0 ≤ (IntKind.u64.wrap (x155000)) then (if x155004 ≥ (shl .u32 1 (IntKind.u64.wrap (x155000))) then (some 4) else (some 0)) else (none))
end
def Zp.f (k : Nat) (a0_0 : Int) (a0_1 : Int) (l0_2 : List (List Int)) (a0_3 : Int) (a0_4 : Int) : Option (Int) := if a0_0 < 1 then (Zp.j0 k true a0_0 a0_1 l0_2 a0_3 a0_4) else (if a0_0 > 7 then (Zp.j0 k true a0_0 a0_1 l0_2 a0_3 a0_4) else (if a0_1 < 1 then (Zp.j0 k true a0_0 a0_1 l0_2 a0_3 a0_4) else (Zp.j0 k (decide (a0_1 > 3)) a0_0 a0_1 l0_2 a0_3 a0_4)))
theorem Zp.mono_l : ∀ k, (∀ y0 y1 y2 y3 y4 y5, LeO (Zp.j0 k y0 y1 y2 y3 y4 y5) (Zp.j0 (k + 1) y0 y1 y2 y3 y4 y5)) ∧ (∀ y0 y1 y2 y3 y4 y5 y6 y7, LeO (Zp.l0 k y0 y1 y2 y3 y4 y5 y6 y7) (Zp.l0 (k + 1) y0 y1 y2 y3 y4 y5 y6 y7)) ∧ (∀ y0 y1 y2 y3 y4 y5 y6 y7, LeO (Zp.l1 k y0 y1 y2 y3 y4 y5 y6 y7) (Zp.l1 (k + 1) y0 y1 y2 y3 y4 y5 y6 y7)) ∧ (∀ y0 y1 y2 y3 y4 y5 y6 y7 y8 y9 y10, LeO (Zp.l2 k y0 y1 y2 y3 y4 y5 y6 y7 y8 y9 y10) (Zp.l2 (k + 1) y0 y1 y2 y3 y4 y5 y6 y7 y8 y9 y10)) ∧ (∀ y0 y1 y2 y3 y4 y5, LeO (Zp.j4 k y0 y1 y2 y3 y4 y5) (Zp.j4 (k + 1) y0 y1 y2 y3 y4 y5))
  | 0 => ⟨fun _ _ _ _ _ _ r h => by simp [Zp.j0] at h, fun _ _ _ _ _ _ _ _ r h => by simp [Zp.l0] at h, fun _ _ _ _ _ _ _ _ r h => by simp [Zp.l1] at h, fun _ _ _ _ _ _ _ _ _ _ _ r h => by simp [Zp.l2] at h, fun _ _ _ _ _ _ r h => by simp [Zp.j4] at h⟩
  | k + 1 => by
    obtain ⟨ih0, ih1, ih2, ih3, ih4⟩ := Zp.mono_l k
    refine ⟨?_, ?_, ?_, ?_, ?_⟩
    · intro y0 y1 y2 y3 y4 y5
      unfold Zp.j0
      repeat' first
      | (with_reducible exact ih0 _ _ _ _ _ _)
      | (with_reducible exact ih1 _ _ _ _ _ _ _ _)
      | (with_reducible exact ih2 _ _ _ _ _ _ _ _)
      | (with_reducible exact ih3 _ _ _ _ _ _ _ _ _ _ _)
      | (with_reducible exact ih4 _ _ _ _ _ _)
      | (with_reducible exact LeO.refl _)
      | (with_reducible exact LeO.none _)
      | (with_reducible refine LeO.ite ?_ ?_)
      | (with_reducible refine LeO.bind ?_ (fun _ => ?_))
      | exact ih0 _ _ _ _ _ _
      | exact ih1 _ _ _ _ _ _ _ _
      | exact ih2 _ _ _ _ _ _ _ _
      | exact ih3 _ _ _ _ _ _ _ _ _ _ _
      | exact ih4 _ _ _ _ _ _
      | exact LeO.none _
      | refine LeO.ite ?_ ?_
      | refine LeO.bind ?_ (fun _ => ?_)
    · intro y0 y1 y2 y3 y4 y5 y6 y7
      unfold Zp.l0
      repeat' first
      | (with_reducible exact ih0 _ _ _ _ _ _)
      | (with_reducible exact ih1 _ _ _ _ _ _ _ _)
      | (with_reducible exact ih2 _ _ _ _ _ _ _ _)
      | (with_reducible exact ih3 _ _ _ _ _ _ _ _ _ _ _)
      | (with_reducible exact ih4 _ _ _ _ _ _)
      | (with_reducible exact LeO.refl _)
      | (with_reducible exact LeO.none _)
      | (with_reducible refine LeO.ite ?_ ?_)
      | (with_reducible refine LeO.bind ?_ (fun _ => ?_))
      | exact ih0 _ _ _ _ _ _
      | exact ih1 _ _ _ _ _ _ _ _
      | exact ih2 _ _ _ _ _ _ _ _
      | exact ih3 _ _ _ _ _ _ _ _ _ _ _
      | exact ih4 _ _ _ _ _ _
      | exact LeO.none _
      | refine LeO.ite ?_ ?_
      | refine LeO.bind ?_ (fun _ => ?_)
    · intro y0 y1 y2 y3 y4 y5 y6 y7
      unfold Zp.l1
      repeat' first
      | (with_reducible exact ih0 _ _ _ _ _ _)
      | (with_reducible exact ih1 _ _ _ _ _ _ _ _)
      | (with_reducible exact ih2 _ _ _ _ _ _ _ _)
      | (with_reducible exact ih3 _ _ _ _ _ _ _ _ _ _ _)
      | (with_reducible exact ih4 _ _ _ _ _ _)
      | (with_reducible exact LeO.refl _)
      | (with_reducible exact LeO.none _)
      | (with_reducible refine LeO.ite ?_ ?_)
      | (with_reducible refine LeO.bind ?_ (fun _ => ?_))
      | exact ih0 _ _ _ _ _ _
      | exact ih1 _ _ _ _ _ _ _ _
      | exact ih2 _ _ _ _ _ _ _ _
      | exact ih3 _ _ _ _ _ _ _ _ _ _ _
      | exact ih4 _ _ _ _ _ _
      | exact LeO.none _
      | refine LeO.ite ?_ ?_
      | refine LeO.bind ?_ (fun _ => ?_)
    · intro y0 y1 y2 y3 y4 y5 y6 y7 y8 y9 y10
      unfold Zp.l2
      repeat' first
      | (with_reducible exact ih0 _ _ _ _ _ _)
      | (with_reducible exact ih1 _ _ _ _ _ _ _ _)
      | (with_reducible exact ih2 _ _ _ _ _ _ _ _)
      | (with_reducible exact ih3 _ _ _ _ _ _ _ _ _ _ _)
      | (with_reducible exact ih4 _ _ _ _ _ _)
      | (with_reducible exact LeO.refl _)
      | (with_reducible exact LeO.none _)
      | (with_reducible refine LeO.ite ?_ ?_)
      | (with_reducible refine LeO.bind ?_ (fun _ => ?_))
      | exact ih0 _ _ _ _ _ _
      | exact ih1 _ _ _ _ _ _ _ _
      | exact ih2 _ _ _ _ _ _ _ _
      | exact ih3 _ _ _ _ _ _ _ _ _ _ _
      | exact ih4 _ _ _ _ _ _
      | exact LeO.none _
      | refine LeO.ite ?_ ?_
      | refine LeO.bind ?_ (fun _ => ?_)
    · intro y0 y1 y2 y3 y4 y5
      unfold Zp.j4
      repeat' first
      | (with_reducible exact ih0 _ _ _ _ _ _)
      | (with_reducible exact ih1 _ _ _ _ _ _ _ _)
      | (with_reducible exact ih2 _ _ _ _ _ _ _ _)
      | (with_reducible exact ih3 _ _ _ _ _ _ _ _ _ _ _)
      | (with_reducible exact ih4 _ _ _ _ _ _)
      | (with_reducible exact LeO.refl _)
      | (with_reducible exact LeO.none _)
      | (with_reducible refine LeO.ite ?_ ?_)
      | (with_reducible refine LeO.bind ?_ (fun _ => ?_))
      | exact ih0 _ _ _ _ _ _
      | exact ih1 _ _ _ _ _ _ _ _
      | exact ih2 _ _ _ _ _ _ _ _
      | exact ih3 _ _ _ _ _ _ _ _ _ _ _
      | exact ih4 _ _ _ _ _ _
      | exact LeO.none _
      | refine LeO.ite ?_ ?_
      | refine LeO.bind ?_ (fun _ => ?_)
theorem Zp.mono : ∀ a0 a1 a2 a3 a4 k, LeO (Zp.f k a0 a1 a2 a3 a4) (Zp.f (k + 1) a0 a1 a2 a3 a4) := by
  intro a0 a1 a2 a3 a4 k
  obtain ⟨ih0, ih1, ih2, ih3, ih4⟩ := Zp.mono_l k
  unfold Zp.f
  repeat' first
      | (with_reducible exact ih0 _ _ _ _ _ _)
      | (with_reducible exact ih1 _ _ _ _ _ _ _ _)
      | (with_reducible exact ih2 _ _ _ _ _ _ _ _)
      | (with_reducible exact ih3 _ _ _ _ _ _ _ _ _ _ _)
      | (with_reducible exact ih4 _ _ _ _ _ _)
      | (with_reducible exact LeO.refl _)
      | (with_reducible exact LeO.none _)
      | (with_reducible refine LeO.ite ?_ ?_)
      | (with_reducible refine LeO.bind ?_ (fun _ => ?_))
      | exact ih0 _ _ _ _ _ _
      | exact ih1 _ _ _ _ _ _ _ _
      | exact ih2 _ _ _ _ _ _ _ _
      | exact ih3 _ _ _ _ _ _ _ _ _ _ _
      | exact ih4 _ _ _ _ _ _
      | exact LeO.none _
      | refine LeO.ite ?_ ?_
      | refine LeO.bind ?_ (fun _ => ?_)
set_option maxHeartbeats 8000000 in
set_option maxRecDepth 100000 in
theorem Zp.calls (k : Nat) (a0_0 : Int) (a0_1 : Int) (A0_2 : Option Addr) (c0_2 : Nat) (l0_2 : List (List Int)) (a0_3 : Int) (a0_4 : Int) (r : Int) (w : World) (hr0_2 : Kd.C (Kd.slice 3 (Kd.int .i64)) w A0_2 l0_2.length l0_2) (hc0_2 : l0_2.length ≤ c0_2) (h : Zp.f k a0_0 a0_1 l0_2 a0_3 a0_4 = some r) :
    Calls Try.prog 10 #[.agg #[.int .i64 a0_0, .int .i64 a0_1, .slice A0_2 l0_2.length c0_2, .int .i64 a0_3, .int .u32 a0_4]] w fun e w' => e = .returned (.int .i64 r) ∧ Below w.heap.size w w' := by
 (have hu25 := Try.underlying25); (have hu26 := Try.underlying26); (have HR0_2 := Za.mk hr0_2); (have HC0_2 := Za.mk hc0_2); (clear hr0_2 hc0_2); (have HB := Za.mk (Below.refl w.heap.size w)); (have H : (if a0_0 < 1 then (Zp.j0 k true a0_0 a0_1 l0_2 a0_3 a0_4) else (if a0_0 > 7 then (Zp.j0 k true a0_0 a0_1 l0_2 a0_3 a0_4) else (if a0_1 < 1 then (Zp.j0 k true a0_0 a0_1 l0_2 a0_3 a0_4) else (Zp.j0 k (decide (a0_1 > 3)) a0_0 a0_1 l0_2 a0_3 a0_4)))) = some r := h); (clear h); (have HC2 := Za.mk H); (clear H)
 go_enter Try.func10, Try.ntmps10
 go_upto_region 1 with (first | ((with_reducible refine Zc1 (N := 1) rfl ?_); refine Zd1 ?hg (N := 1) ?hd (cs := #[.int .i64 a0_0, .int .i64 a0_1, .slice A0_2 l0_2.length c0_2, .int .i64 a0_3, .int .u32 a0_4]) (t := 25) ?hr ?_; (case hd => rfl); (case hg => rfl); (case hr => first | (go_simp; done) | (go_simp; rfl)); intro gb154 hg w3 hbox hb; have n0_ := Za.mk (Zm (by repeat (first | (with_reducible first | exact HB.out | apply zc1 | apply zc2 | apply zc3) | exact HB.out)) hb); have n1_ := Za.mk (hbox); have n2_ := Za.mk ((by rw [hg]; exact (Zk (by repeat (first | (with_reducible first | exact HB.out | apply zc1 | apply zc2 | apply zc3) | exact HB.out))) : w.heap.size ≤ gb154)); have n3_ := Za.mk ((by rw [hg]; exact (Zk (by repeat (first | (with_reducible first | exact HB.out | apply zc1 | apply zc2 | apply zc3) | exact HB.out))) : w.heap.size ≤ gb154)); clear HB; have HB := n0_; have BK154 := n1_; have GW154 := n2_; have GE154 := n3_; clear n0_ n1_ n2_ n3_; clear hb hbox hg))
 (try simp only [Act.put, List.setIfInBounds_toArray, List.set_cons_zero, List.set_cons_succ])
 go_cut [26] (fun v26 wc => ∃ (kq : Nat) (x26_1 : Bool), v26 = .bool x26_1 ∧ Za (Zp.j0 kq x26_1 a0_0 a0_1 l0_2 a0_3 a0_4 = some r) ∧ Za (kq ≤ k) ∧ Za (wc.heap[gb154]? = some (.cells #[.int .i64 a0_0, .int .i64 a0_1, (.slice A0_2 l0_2.length c0_2), .int .i64 a0_3, .int .u32 a0_4] 25 (0, 0))) ∧ Za (Below w.heap.size w wc))
 case first =>
  (have H := HC2.out); (clear HC2)
  by_cases c4 : a0_0 < 1
  ·rw [if_pos c4] at H
   (have c4b0 : decide (a0_0 < 1) = true := decide_eq_true c4); (clear c4)
   (first | rw [c4b0] | (simp only [Zg, Zf]; rw [c4b0]) | skip)
   (have H' := Za.mk H); (clear H); (have hcz5_0 : w3.cell? ⟨gb154, 0, none⟩ = some (.int .i64 a0_0) := (Zb BK154.out 0).trans rfl); (have hcz5_1 : w3.cell? ⟨gb154, 1, none⟩ = some (.int .i64 a0_1) := (Zb BK154.out 1).trans rfl); (have hcz5_2 : w3.cell? ⟨gb154, 2, none⟩ = some (.slice A0_2 l0_2.length c0_2) := (Zb BK154.out 2).trans rfl); (have hcz5_3 : w3.cell? ⟨gb154, 3, none⟩ = some (.int .i64 a0_3) := (Zb BK154.out 3).trans rfl); (have hcz5_4 : w3.cell? ⟨gb154, 4, none⟩ = some (.int .u32 a0_4) := (Zb BK154.out 4).trans rfl); (have hfz5_0 := Zc BK154.out 0); (have hfz5_1 := Zc BK154.out 1); (have hfz5_2 := Zc BK154.out 2); (have hfz5_3 := Zc BK154.out 3); (have hfz5_4 := Zc BK154.out 4)
   go_wp2
   go_meet
   case rel => exact ⟨_, (true), (by first | rfl | (simp; done) | (simp [*]; done)), H', ⟨by first | omega | exact Nat.le_refl _⟩, ⟨by (with_reducible repeat (first | apply zb3 | apply zb2 | apply zb1)); exact BK154.out⟩, ⟨by repeat (first | (with_reducible first | exact HB.out | apply zc1 | apply zc2 | apply zc3 | refine zc4 ?_ (by assumption)) | exact HB.out)⟩⟩
  (rw [if_neg c4] at H); (have c4b0 : decide (a0_0 < 1) = false := decide_eq_false c4); (clear c4)
  (first | rw [c4b0] | (simp only [Zg, Zf]; rw [c4b0]) | skip)
  by_cases c6 : a0_0 > 7
  ·rw [if_pos c6] at H
   (have c6b0 : decide (7 < a0_0) = true := decide_eq_true c6); (clear c6); (have H' := Za.mk H); (clear H); (have hcz7_0 : w3.cell? ⟨gb154, 0, none⟩ = some (.int .i64 a0_0) := (Zb BK154.out 0).trans rfl); (have hcz7_1 : w3.cell? ⟨gb154, 1, none⟩ = some (.int .i64 a0_1) := (Zb BK154.out 1).trans rfl); (have hcz7_2 : w3.cell? ⟨gb154, 2, none⟩ = some (.slice A0_2 l0_2.length c0_2) := (Zb BK154.out 2).trans rfl); (have hcz7_3 : w3.cell? ⟨gb154, 3, none⟩ = some (.int .i64 a0_3) := (Zb BK154.out 3).trans rfl); (have hcz7_4 : w3.cell? ⟨gb154, 4, none⟩ = some (.int .u32 a0_4) := (Zb BK154.out 4).trans rfl); (have hfz7_0 := Zc BK154.out 0); (have hfz7_1 := Zc BK154.out 1); (have hfz7_2 := Zc BK154.out 2); (have hfz7_3 := Zc BK154.out 3); (have hfz7_4 := Zc BK154.out 4)
   go_wp2
   go_meet
   case rel => exact ⟨_, (true), (by first | rfl | (simp; done) | (simp [*]; done)), H', ⟨by first | omega | exact Nat.le_refl _⟩, ⟨by (with_reducible repeat (first | apply zb3 | apply zb2 | apply zb1)); exact BK154.out⟩, ⟨by repeat (first | (with_reducible first | exact HB.out | apply zc1 | apply zc2 | apply zc3 | refine zc4 ?_ (by assumption)) | exact HB.out)⟩⟩
  (rw [if_neg c6] at H); (have c6b0 : decide (7 < a0_0) = false := decide_eq_false c6); (clear c6)
  by_cases c8 : a0_1 < 1
  ·rw [if_pos c8] at H
   (have c8b0 : decide (a0_1 < 1) = true := decide_eq_true c8); (clear c8); (have H' := Za.mk H); (clear H); (have hcz9_0 : w3.cell? ⟨gb154, 0, none⟩ = some (.int .i64 a0_0) := (Zb BK154.out 0).trans rfl); (have hcz9_1 : w3.cell? ⟨gb154, 1, none⟩ = some (.int .i64 a0_1) := (Zb BK154.out 1).trans rfl); (have hcz9_2 : w3.cell? ⟨gb154, 2, none⟩ = some (.slice A0_2 l0_2.length c0_2) := (Zb BK154.out 2).trans rfl); (have hcz9_3 : w3.cell? ⟨gb154, 3, none⟩ = some (.int .i64 a0_3) := (Zb BK154.out 3).trans rfl); (have hcz9_4 : w3.cell? ⟨gb154, 4, none⟩ = some (.int .u32 a0_4) := (Zb BK154.out 4).trans rfl); (have hfz9_0 := Zc BK154.out 0); (have hfz9_1 := Zc BK154.out 1); (have hfz9_2 := Zc BK154.out 2); (have hfz9_3 := Zc BK154.out 3); (have hfz9_4 := Zc BK154.out 4)
   go_wp2
   go_meet
   case rel => exact ⟨_, (true), (by first | rfl | (simp; done) | (simp [*]; done)), H', ⟨by first | omega | exact Nat.le_refl _⟩, ⟨by (with_reducible repeat (first | apply zb3 | apply zb2 | apply zb1)); exact BK154.out⟩, ⟨by repeat (first | (with_reducible first | exact HB.out | apply zc1 | apply zc2 | apply zc3 | refine zc4 ?_ (by assumption)) | exact HB.out)⟩⟩
  (rw [if_neg c8] at H); (have c8b0 : decide (a0_1 < 1) = false := decide_eq_false c8); (clear c8); (have H' := Za.mk H); (clear H); (have hcz10_0 : w3.cell? ⟨gb154, 0, none⟩ = some (.int .i64 a0_0) := (Zb BK154.out 0).trans rfl); (have hcz10_1 : w3.cell? ⟨gb154, 1, none⟩ = some (.int .i64 a0_1) := (Zb BK154.out 1).trans rfl); (have hcz10_2 : w3.cell? ⟨gb154, 2, none⟩ = some (.slice A0_2 l0_2.length c0_2) := (Zb BK154.out 2).trans rfl); (have hcz10_3 : w3.cell? ⟨gb154, 3, none⟩ = some (.int .i64 a0_3) := (Zb BK154.out 3).trans rfl); (have hcz10_4 : w3.cell? ⟨gb154, 4, none⟩ = some (.int .u32 a0_4) := (Zb BK154.out 4).trans rfl); (have hfz10_0 := Zc BK154.out 0); (have hfz10_1 := Zc BK154.out 1); (have hfz10_2 := Zc BK154.out 2); (have hfz10_3 := Zc BK154.out 3); (have hfz10_4 := Zc BK154.out 4)
  go_wp2
  go_meet
  case rel => exact ⟨_, (decide (a0_1 > 3)), (by first | rfl | (simp; done) | (simp [*]; done)), H', ⟨by first | omega | exact Nat.le_refl _⟩, ⟨by (with_reducible repeat (first | apply zb3 | apply zb2 | apply zb1)); exact BK154.out⟩, ⟨by repeat (first | (with_reducible first | exact HB.out | apply zc1 | apply zc2 | apply zc3 | refine zc4 ?_ (by assumption)) | exact HB.out)⟩⟩
 case rest =>
  (clear HC2); (try clear c1); (try clear p2); (try clear c4); (try clear c4b0); (try clear c6); (try clear c6b0); (try clear c8); (try clear c8b0); (try clear c10); (try clear hcz10_0 hcz10_1 hcz10_2 hcz10_3 hcz10_4 hcz5_0 hcz5_1 hcz5_2 hcz5_3 hcz5_4 hcz7_0 hcz7_1 hcz7_2 hcz7_3 hcz7_4 hcz9_0 hcz9_1 hcz9_2 hcz9_3 hcz9_4 hfz10_0 hfz10_1 hfz10_2 hfz10_3 hfz10_4 hfz5_0 hfz5_1 hfz5_2 hfz5_3 hfz5_4 hfz7_0 hfz7_1 hfz7_2 hfz7_3 hfz7_4 hfz9_0 hfz9_1 hfz9_2 hfz9_3 hfz9_4); (obtain ⟨kq, x26_1, rfl, HA, HJ1, BK154, HB⟩ := hcut)
  cases kq with
  | zero => exact absurd HA.out (by simp [Zp.j0])
  | succ kj1 =>
   (have H := HA.out); (clear HA); (simp only [Zp.j0] at H)
   by_cases c11 : x26_1 = true
   ·subst c11
    (have H1 : (some 1) = some r := by rw [if_pos rfl] at H; exact H); (clear H); (have H := H1); (clear H1); (obtain rfl := Option.some.inj H)
    go_wp2
    go_ret
    exact ⟨by first | rfl | (simp [Zv, Zw] <;> rfl) | (simp [*, Zv, Zw] <;> rfl), by repeat (first | (with_reducible first | exact HB.out | apply zc1 | apply zc2 | apply zc3 | refine zc4 ?_ (by assumption)) | exact HB.out)⟩
   (replace c11 := Bool.eq_false_iff.mpr c11); (subst c11); (have H1 : (if (l0_2.length : Int) = a0_0 then (Zp.l0 kj1 l0_2 (l0_2.length : Int) 0 a0_0 a0_1 l0_2 a0_3 a0_4) else (some 3)) = some r := by rw [if_neg (show ¬ (false = true) by decide)] at H; exact H); (clear H); (have H := H1); (clear H1)
   by_cases c12 : (l0_2.length : Int) = a0_0
   rotate_left
   ·rw [if_neg c12] at H
    (have c12b0 : ((l0_2.length : Int) == a0_0) = false := beq_eq_false_iff_ne.mpr c12); (have c12b1 : ((l0_2.length : Int) != a0_0) = true := bne_iff_ne.mpr c12); (obtain rfl := Option.some.inj H); (have hcz42_0 : wc.cell? ⟨gb154, 0, none⟩ = some (.int .i64 a0_0) := (Zb BK154.out 0).trans rfl); (have hcz42_1 : wc.cell? ⟨gb154, 1, none⟩ = some (.int .i64 a0_1) := (Zb BK154.out 1).trans rfl); (have hcz42_2 : wc.cell? ⟨gb154, 2, none⟩ = some (.slice A0_2 l0_2.length c0_2) := (Zb BK154.out 2).trans rfl); (have hcz42_3 : wc.cell? ⟨gb154, 3, none⟩ = some (.int .i64 a0_3) := (Zb BK154.out 3).trans rfl); (have hcz42_4 : wc.cell? ⟨gb154, 4, none⟩ = some (.int .u32 a0_4) := (Zb BK154.out 4).trans rfl); (have hfz42_0 := Zc BK154.out 0); (have hfz42_1 := Zc BK154.out 1); (have hfz42_2 := Zc BK154.out 2); (have hfz42_3 := Zc BK154.out 3); (have hfz42_4 := Zc BK154.out 4)
    go_wp2
    go_ret
    exact ⟨by first | rfl | (simp [Zv, Zw] <;> rfl) | (simp [*, Zv, Zw] <;> rfl), by repeat (first | (with_reducible first | exact HB.out | apply zc1 | apply zc2 | apply zc3 | refine zc4 ?_ (by assumption)) | exact HB.out)⟩
   (rw [if_pos c12] at H); (have c12b0 : ((l0_2.length : Int) == a0_0) = true := beq_iff_eq.mpr c12); (have c12b1 : ((l0_2.length : Int) != a0_0) = false := bne_eq_false_iff_eq.mpr c12); (clear c12); (have H' := Za.mk H); (clear H); (have hcz13_0 : wc.cell? ⟨gb154, 0, none⟩ = some (.int .i64 a0_0) := (Zb BK154.out 0).trans rfl); (have hcz13_1 : wc.cell? ⟨gb154, 1, none⟩ = some (.int .i64 a0_1) := (Zb BK154.out 1).trans rfl); (have hcz13_2 : wc.cell? ⟨gb154, 2, none⟩ = some (.slice A0_2 l0_2.length c0_2) := (Zb BK154.out 2).trans rfl); (have hcz13_3 : wc.cell? ⟨gb154, 3, none⟩ = some (.int .i64 a0_3) := (Zb BK154.out 3).trans rfl); (have hcz13_4 : wc.cell? ⟨gb154, 4, none⟩ = some (.int .u32 a0_4) := (Zb BK154.out 4).trans rfl); (have hfz13_0 := Zc BK154.out 0); (have hfz13_1 := Zc BK154.out 1); (have hfz13_2 := Zc BK154.out 2); (have hfz13_3 := Zc BK154.out 3); (have hfz13_4 := Zc BK154.out 4)
   go_wp2
   go_loopg [36] kj1 (fun kq v36 w' => ∃ (x36_2 : Int), v36 = .int .i64 x36_2 ∧ Za (Zp.l0 kq l0_2 (l0_2.length : Int) x36_2 a0_0 a0_1 l0_2 a0_3 a0_4 = some r) ∧ Za (kq ≤ kj1) ∧ Za (w'.heap[gb154]? = some (.cells #[.int .i64 a0_0, .int .i64 a0_1, (.slice A0_2 l0_2.length c0_2), .int .i64 a0_3, .int .u32 a0_4] 25 (0, 0))) ∧ Za (Below w.heap.size w w'))
   case atStart => exact ⟨(0), (by first | rfl | (simp; done) | (simp [*]; done)), H', ⟨Nat.le_refl _⟩, ⟨by (with_reducible repeat (first | apply zb3 | apply zb2 | apply zb1)); exact BK154.out⟩, ⟨by repeat (first | (with_reducible first | exact HB.out | apply zc1 | apply zc2 | apply zc3 | refine zc4 ?_ (by assumption)) | exact HB.out)⟩⟩
   case round =>
    (clear H'); (try clear c1); (try clear p2); (try clear c4); (try clear c4b0); (try clear c6); (try clear c6b0); (try clear c8); (try clear c8b0); (try clear c10); (try clear c11); (try clear c12); (try clear c12b0); (try clear c12b1); (try clear hcz10_0 hcz10_1 hcz10_2 hcz10_3 hcz10_4 hcz13_0 hcz13_1 hcz13_2 hcz13_3 hcz13_4 hcz5_0 hcz5_1 hcz5_2 hcz5_3 hcz5_4 hcz7_0 hcz7_1 hcz7_2 hcz7_3 hcz7_4 hcz9_0 hcz9_1 hcz9_2 hcz9_3 hcz9_4 hfz10_0 hfz10_1 hfz10_2 hfz10_3 hfz10_4 hfz13_0 hfz13_1 hfz13_2 hfz13_3 hfz13_4 hfz5_0 hfz5_1 hfz5_2 hfz5_3 hfz5_4 hfz7_0 hfz7_1 hfz7_2 hfz7_3 hfz7_4 hfz9_0 hfz9_1 hfz9_2 hfz9_3 hfz9_4); (try clear p2); (obtain ⟨x36_2, rfl, HA, HK2, BK154, HB⟩ := hrel)
    cases gk with
    | zero => exact absurd HA.out (by simp [Zp.l0])
    | succ k2 =>
     (have H := HA.out); (clear HA); (simp only [Zp.l0] at H)
     by_cases c14 : x36_2 < (l0_2.length : Int)
     ·rw [if_pos c14] at H
      (have c14b0 : decide (x36_2 < (l0_2.length : Int)) = true := decide_eq_true c14); (clear c14)
      by_cases c15 : 0 ≤ x36_2
      rotate_left
      ·rw [if_neg c15] at H
       exact absurd H (by simp)
      (rw [if_pos c15] at H); (have c15b0 : decide (0 ≤ x36_2) = true := decide_eq_true c15); (clear c15)
      by_cases c16 : x36_2 < (l0_2.length : Int)
      rotate_left
      ·rw [if_neg c16] at H
       exact absurd H (by simp)
      (rw [if_pos c16] at H); (have c16b0 : decide (x36_2 < (l0_2.length : Int)) = true := decide_eq_true c16); (clear c16)
      by_cases c17 : ((Zd l0_2 x36_2).length : Int) = a0_1
      rotate_left
      ·rw [if_neg c17] at H
       (have c17b0 : (((Zd l0_2 x36_2).length : Int) == a0_1) = false := beq_eq_false_iff_ne.mpr c17); (have c17b1 : (((Zd l0_2 x36_2).length : Int) != a0_1) = true := bne_iff_ne.mpr c17); (obtain rfl := Option.some.inj H); (have p155 : 0 ≤ (x36_2 : Int) := of_decide_eq_true (by assumption)); (have q155 : x36_2 < (l0_2.length : Int) := of_decide_eq_true (by assumption)); (obtain ⟨ad155, A155_0, c155_0, e155, hx155_0, hl155_0, hi155_0⟩ := at_L1 HR0_2.out x36_2 p155 q155); (cases e155); (replace hx155_0 := (HB.out.cell (World.block_lt_of_cell? w _ hx155_0)).trans hx155_0); (have HR155_0 := Za.mk hi155_0); (have HC155_0 := Za.mk hl155_0); (clear hi155_0 hl155_0); (replace p155 := eq_true p155); (replace q155 := eq_true q155); (have hcz19_0 : wr.cell? ⟨gb154, 0, none⟩ = some (.int .i64 a0_0) := (Zb BK154.out 0).trans rfl); (have hcz19_1 : wr.cell? ⟨gb154, 1, none⟩ = some (.int .i64 a0_1) := (Zb BK154.out 1).trans rfl); (have hcz19_2 : wr.cell? ⟨gb154, 2, none⟩ = some (.slice (some ad155) l0_2.length c0_2) := (Zb BK154.out 2).trans rfl); (have hcz19_3 : wr.cell? ⟨gb154, 3, none⟩ = some (.int .i64 a0_3) := (Zb BK154.out 3).trans rfl); (have hcz19_4 : wr.cell? ⟨gb154, 4, none⟩ = some (.int .u32 a0_4) := (Zb BK154.out 4).trans rfl); (have hfz19_0 := Zc BK154.out 0); (have hfz19_1 := Zc BK154.out 1); (have hfz19_2 := Zc BK154.out 2); (have hfz19_3 := Zc BK154.out 3); (have hfz19_4 := Zc BK154.out 4)
       go_wp2
       go_ret
       exact ⟨by first | rfl | (simp [Zv, Zw] <;> rfl) | (simp [*, Zv, Zw] <;> rfl), by repeat (first | (with_reducible first | exact HB.out | apply zc1 | apply zc2 | apply zc3 | refine zc4 ?_ (by assumption)) | exact HB.out)⟩
      (rw [if_pos c17] at H); (have c17b0 : (((Zd l0_2 x36_2).length : Int) == a0_1) = true := beq_iff_eq.mpr c17); (have c17b1 : (((Zd l0_2 x36_2).length : Int) != a0_1) = false := bne_eq_false_iff_eq.mpr c17); (clear c17); (have H' := Za.mk H); (clear H); (have p155 : 0 ≤ (x36_2 : Int) := of_decide_eq_true (by assumption)); (have q155 : x36_2 < (l0_2.length : Int) := of_decide_eq_true (by assumption)); (obtain ⟨ad155, A155_0, c155_0, e155, hx155_0, hl155_0, hi155_0⟩ := at_L1 HR0_2.out x36_2 p155 q155); (cases e155); (replace hx155_0 := (HB.out.cell (World.block_lt_of_cell? w _ hx155_0)).trans hx155_0); (have HR155_0 := Za.mk hi155_0); (have HC155_0 := Za.mk hl155_0); (clear hi155_0 hl155_0); (replace p155 := eq_true p155); (replace q155 := eq_true q155); (have hcz18_0 : wr.cell? ⟨gb154, 0, none⟩ = some (.int .i64 a0_0) := (Zb BK154.out 0).trans rfl); (have hcz18_1 : wr.cell? ⟨gb154, 1, none⟩ = some (.int .i64 a0_1) := (Zb BK154.out 1).trans rfl); (have hcz18_2 : wr.cell? ⟨gb154, 2, none⟩ = some (.slice (some ad155) l0_2.length c0_2) := (Zb BK154.out 2).trans rfl); (have hcz18_3 : wr.cell? ⟨gb154, 3, none⟩ = some (.int .i64 a0_3) := (Zb BK154.out 3).trans rfl); (have hcz18_4 : wr.cell? ⟨gb154, 4, none⟩ = some (.int .u32 a0_4) := (Zb BK154.out 4).trans rfl); (have hfz18_0 := Zc BK154.out 0); (have hfz18_1 := Zc BK154.out 1); (have hfz18_2 := Zc BK154.out 2); (have hfz18_3 := Zc BK154.out 3); (have hfz18_4 := Zc BK154.out 4)
      go_wp2
      go_roundg k2
      case measure => have := HJ1.out; have := HK2.out; omega
      case rel => exact ⟨(wrap64 (x36_2 + 1)), (by first | rfl | (simp; done) | (simp [*]; done)), H', ⟨by have := HJ1.out; have := HK2.out; omega⟩, ⟨by (with_reducible repeat (first | apply zb3 | apply zb2 | apply zb1)); exact BK154.out⟩, ⟨by repeat (first | (with_reducible first | exact HB.out | apply zc1 | apply zc2 | apply zc3 | refine zc4 ?_ (by assumption)) | exact HB.out)⟩⟩
     (rw [if_neg c14] at H); (have c14b0 : decide (x36_2 < (l0_2.length : Int)) = false := decide_eq_false c14); (clear c14); (have H' := Za.mk H); (clear H); (have hcz20_0 : wr.cell? ⟨gb154, 0, none⟩ = some (.int .i64 a0_0) := (Zb BK154.out 0).trans rfl); (have hcz20_1 : wr.cell? ⟨gb154, 1, none⟩ = some (.int .i64 a0_1) := (Zb BK154.out 1).trans rfl); (have hcz20_2 : wr.cell? ⟨gb154, 2, none⟩ = some (.slice A0_2 l0_2.length c0_2) := (Zb BK154.out 2).trans rfl); (have hcz20_3 : wr.cell? ⟨gb154, 3, none⟩ = some (.int .i64 a0_3) := (Zb BK154.out 3).trans rfl); (have hcz20_4 : wr.cell? ⟨gb154, 4, none⟩ = some (.int .u32 a0_4) := (Zb BK154.out 4).trans rfl); (have hfz20_0 := Zc BK154.out 0); (have hfz20_1 := Zc BK154.out 1); (have hfz20_2 := Zc BK154.out 2); (have hfz20_3 := Zc BK154.out 3); (have hfz20_4 := Zc BK154.out 4)
     go_wp2
     go_loopg [49] k2 (fun kq v49 w' => ∃ (x49_3 : Int), v49 = .int .i64 x49_3 ∧ Za (Zp.l1 kq l0_2 (l0_2.length : Int) x49_3 a0_0 a0_1 l0_2 a0_3 a0_4 = some r) ∧ Za (kq ≤ k2) ∧ Za (w'.heap[gb154]? = some (.cells #[.int .i64 a0_0, .int .i64 a0_1, (.slice A0_2 l0_2.length c0_2), .int .i64 a0_3, .int .u32 a0_4] 25 (0, 0))) ∧ Za (Below w.heap.size w w'))
     case atStart => exact ⟨(0), (by first | rfl | (simp; done) | (simp [*]; done)), H', ⟨Nat.le_refl _⟩, ⟨by (with_reducible repeat (first | apply zb3 | apply zb2 | apply zb1)); exact BK154.out⟩, ⟨by repeat (first | (with_reducible first | exact HB.out | apply zc1 | apply zc2 | apply zc3 | refine zc4 ?_ (by assumption)) | exact HB.out)⟩⟩
     case round =>
      (clear H'); (try clear c1); (try clear p1); (try clear q1); (try clear hx1); (try clear p2); (try clear c4); (try clear c4b0); (try clear c6); (try clear c6b0); (try clear p6); (try clear c8); (try clear c8b0); (try clear c10); (try clear c11); (try clear c12); (try clear c12b0); (try clear c12b1); (try clear c14); (try clear c14b0); (try clear c15); (try clear c15b0); (try clear p15); (try clear q15); (try clear hx15); (try clear c16); (try clear c16b0); (try clear c17); (try clear c17b0); (try clear c17b1); (try clear hcz10_0 hcz10_1 hcz10_2 hcz10_3 hcz10_4 hcz13_0 hcz13_1 hcz13_2 hcz13_3 hcz13_4 hcz18_0 hcz18_1 hcz18_2 hcz18_3 hcz18_4 hcz19_0 hcz19_1 hcz19_2 hcz19_3 hcz19_4 hcz20_0 hcz20_1 hcz20_2 hcz20_3 hcz20_4 hcz5_0 hcz5_1 hcz5_2 hcz5_3 hcz5_4 hcz7_0 hcz7_1 hcz7_2 hcz7_3 hcz7_4 hcz9_0 hcz9_1 hcz9_2 hcz9_3 hcz9_4 hfz10_0 hfz10_1 hfz10_2 hfz10_3 hfz10_4 hfz13_0 hfz13_1 hfz13_2 hfz13_3 hfz13_4 hfz18_0 hfz18_1 hfz18_2 hfz18_3 hfz18_4 hfz19_0 hfz19_1 hfz19_2 hfz19_3 hfz19_4 hfz20_0 hfz20_1 hfz20_2 hfz20_3 hfz20_4 hfz5_0 hfz5_1 hfz5_2 hfz5_3 hfz5_4 hfz7_0 hfz7_1 hfz7_2 hfz7_3 hfz7_4 hfz9_0 hfz9_1 hfz9_2 hfz9_3 hfz9_4); (try clear hx155_0); (try clear p155); (try clear p2); (try clear q155); (obtain ⟨x49_3, rfl, HA, HK3, BK154, HB⟩ := hrel)
      cases gk with
      | zero => exact absurd HA.out (by simp [Zp.l1])
      | succ k3 =>
       (have H := HA.out); (clear HA); (simp only [Zp.l1] at H)
       by_cases c21 : x49_3 < (l0_2.length : Int)
       ·rw [if_pos c21] at H
        (have c21b0 : decide (x49_3 < (l0_2.length : Int)) = true := decide_eq_true c21); (clear c21)
        by_cases c22 : 0 ≤ x49_3
        rotate_left
        ·rw [if_neg c22] at H
         exact absurd H (by simp)
        (rw [if_pos c22] at H); (have c22b0 : decide (0 ≤ x49_3) = true := decide_eq_true c22); (clear c22)
        by_cases c23 : x49_3 < (l0_2.length : Int)
        rotate_left
        ·rw [if_neg c23] at H
         exact absurd H (by simp)
        (rw [if_pos c23] at H); (have c23b0 : decide (x49_3 < (l0_2.length : Int)) = true := decide_eq_true c23); (clear c23); (have H' := Za.mk H); (clear H); (have p156 : 0 ≤ (x49_3 : Int) := of_decide_eq_true (by assumption)); (have q156 : x49_3 < (l0_2.length : Int) := of_decide_eq_true (by assumption)); (obtain ⟨ad156, A156_0, c156_0, e156, hx156_0, hl156_0, hi156_0⟩ := at_L1 HR0_2.out x49_3 p156 q156); (cases e156); (replace hx156_0 := (HB.out.cell (World.block_lt_of_cell? w _ hx156_0)).trans hx156_0); (have HR156_0 := Za.mk hi156_0); (have HC156_0 := Za.mk hl156_0); (clear hi156_0 hl156_0); (replace p156 := eq_true p156); (replace q156 := eq_true q156)
        go_wp2
        go_loopg [55] k3 (fun kq v55 w' => ∃ (x55_4 : Int), v55 = .int .i64 x55_4 ∧ Za (Zp.l2 kq l0_2 (l0_2.length : Int) x49_3 (Zd l0_2 x49_3) ((Zd l0_2 x49_3).length : Int) x55_4 a0_0 a0_1 l0_2 a0_3 a0_4 = some r) ∧ Za (kq ≤ k3) ∧ Za (w'.heap[gb154]? = some (.cells #[.int .i64 a0_0, .int .i64 a0_1, (.slice (some ad156) l0_2.length c0_2), .int .i64 a0_3, .int .u32 a0_4] 25 (0, 0))) ∧ Za (Below w.heap.size w w'))
        case atStart => exact ⟨(0), (by first | rfl | (simp; done) | (simp [*]; done)), H', ⟨Nat.le_refl _⟩, ⟨by (with_reducible repeat (first | apply zb3 | apply zb2 | apply zb1)); exact BK154.out⟩, ⟨by repeat (first | (with_reducible first | exact HB.out | apply zc1 | apply zc2 | apply zc3 | refine zc4 ?_ (by assumption)) | exact HB.out)⟩⟩
        case round =>
         (clear H'); (try clear c1); (try clear p1); (try clear q1); (try clear hx1); (try clear c2); (try clear p2); (try clear c4); (try clear c4b0); (try clear c6); (try clear c6b0); (try clear p6); (try clear c8); (try clear c8b0); (try clear c10); (try clear c11); (try clear c12); (try clear c12b0); (try clear c12b1); (try clear c14); (try clear c14b0); (try clear c15); (try clear c15b0); (try clear p15); (try clear q15); (try clear hx15); (try clear c16); (try clear c16b0); (try clear c17); (try clear c17b0); (try clear c17b1); (try clear c21); (try clear c21b0); (try clear c22); (try clear c22b0); (try clear c23); (try clear c23b0); (try clear hcz10_0 hcz10_1 hcz10_2 hcz10_3 hcz10_4 hcz13_0 hcz13_1 hcz13_2 hcz13_3 hcz13_4 hcz18_0 hcz18_1 hcz18_2 hcz18_3 hcz18_4 hcz19_0 hcz19_1 hcz19_2 hcz19_3 hcz19_4 hcz20_0 hcz20_1 hcz20_2 hcz20_3 hcz20_4 hcz5_0 hcz5_1 hcz5_2 hcz5_3 hcz5_4 hcz7_0 hcz7_1 hcz7_2 hcz7_3 hcz7_4 hcz9_0 hcz9_1 hcz9_2 hcz9_3 hcz9_4 hfz10_0 hfz10_1 hfz10_2 hfz10_3 hfz10_4 hfz13_0 hfz13_1 hfz13_2 hfz13_3 hfz13_4 hfz18_0 hfz18_1 hfz18_2 hfz18_3 hfz18_4 hfz19_0 hfz19_1 hfz19_2 hfz19_3 hfz19_4 hfz20_0 hfz20_1 hfz20_2 hfz20_3 hfz20_4 hfz5_0 hfz5_1 hfz5_2 hfz5_3 hfz5_4 hfz7_0 hfz7_1 hfz7_2 hfz7_3 hfz7_4 hfz9_0 hfz9_1 hfz9_2 hfz9_3 hfz9_4); (try clear hx155_0); (try clear hx156_0); (try clear p1); (try clear p15); (try clear p155); (try clear p156); (try clear p2); (try clear p6); (try clear q1); (try clear q15); (try clear q155); (try clear q156); (obtain ⟨x55_4, rfl, HA, HK4, BK154, HB⟩ := hrel)
         cases gk with
         | zero => exact absurd HA.out (by simp [Zp.l2])
         | succ k4 =>
          (have H := HA.out); (clear HA); (simp only [Zp.l2] at H)
          by_cases c24 : x55_4 < ((Zd l0_2 x49_3).length : Int)
          rotate_left
          ·rw [if_neg c24] at H
           (have c24b0 : decide (x55_4 < ((Zd l0_2 x49_3).length : Int)) = false := decide_eq_false c24); (clear c24); (have H' := Za.mk H); (clear H)
           go_wp2
           go_roundg k4
           case measure => have := HJ1.out; have := HK2.out; have := HK3.out; have := HK4.out; omega
           case rel => exact ⟨(wrap64 (x49_3 + 1)), (by first | rfl | (simp; done) | (simp [*]; done)), H', ⟨by have := HJ1.out; have := HK2.out; have := HK3.out; have := HK4.out; omega⟩, ⟨by (with_reducible repeat (first | apply zb3 | apply zb2 | apply zb1)); exact BK154.out⟩, ⟨by repeat (first | (with_reducible first | exact HB.out | apply zc1 | apply zc2 | apply zc3 | refine zc4 ?_ (by assumption)) | exact HB.out)⟩⟩
          (rw [if_pos c24] at H); (have c24b0 : decide (x55_4 < ((Zd l0_2 x49_3).length : Int)) = true := decide_eq_true c24); (clear c24)
          by_cases c25 : 0 ≤ x55_4
          rotate_left
          ·rw [if_neg c25] at H
           exact absurd H (by simp)
          (rw [if_pos c25] at H); (have c25b0 : decide (0 ≤ x55_4) = true := decide_eq_true c25); (clear c25)
          by_cases c26 : x55_4 < ((Zd l0_2 x49_3).length : Int)
          rotate_left
          ·rw [if_neg c26] at H
           exact absurd H (by simp)
          (rw [if_pos c26] at H); (have c26b0 : decide (x55_4 < ((Zd l0_2 x49_3).length : Int)) = true := decide_eq_true c26); (clear c26)
          by_cases c27 : (rd (Zd l0_2 x49_3) x55_4) < 0
          ·rw [if_pos c27] at H
           (have c27b0 : decide ((rd (Zd l0_2 x49_3) x55_4) < 0) = true := decide_eq_true c27); (clear c27); (obtain rfl := Option.some.inj H); (have p157 : 0 ≤ (x55_4 : Int) := of_decide_eq_true (by assumption)); (have q157 : x55_4 < ((Zd l0_2 x49_3).length : Int) := of_decide_eq_true (by assumption)); (obtain ⟨ad157, e157, hx157_0⟩ := Kd.at_int HR156_0.out x55_4 p157 q157); (cases e157); (replace hx157_0 := (HB.out.cell (World.block_lt_of_cell? w _ hx157_0)).trans hx157_0); (replace p157 := eq_true p157); (replace q157 := eq_true q157)
           go_wp2
           go_ret
           exact ⟨by first | rfl | (simp [Zv, Zw] <;> rfl) | (simp [*, Zv, Zw] <;> rfl), by repeat (first | (with_reducible first | exact HB.out | apply zc1 | apply zc2 | apply zc3 | refine zc4 ?_ (by assumption)) | exact HB.out)⟩
          (rw [if_neg c27] at H); (have c27b0 : decide ((rd (Zd l0_2 x49_3) x55_4) < 0) = false := decide_eq_false c27); (clear c27)
          by_cases c28 : (rd (Zd l0_2 x49_3) x55_4) ≥ a0_0
          ·rw [if_pos c28] at H
           (have c28b0 : decide (a0_0 ≤ (rd (Zd l0_2 x49_3) x55_4)) = true := decide_eq_true c28); (clear c28); (obtain rfl := Option.some.inj H); (have p157 : 0 ≤ (x55_4 : Int) := of_decide_eq_true (by assumption)); (have q157 : x55_4 < ((Zd l0_2 x49_3).length : Int) := of_decide_eq_true (by assumption)); (obtain ⟨ad157, e157, hx157_0⟩ := Kd.at_int HR156_0.out x55_4 p157 q157); (cases e157); (replace hx157_0 := (HB.out.cell (World.block_lt_of_cell? w _ hx157_0)).trans hx157_0); (replace p157 := eq_true p157); (replace q157 := eq_true q157); (have hcz29_0 : wr.cell? ⟨gb154, 0, none⟩ = some (.int .i64 a0_0) := (Zb BK154.out 0).trans rfl); (have hcz29_1 : wr.cell? ⟨gb154, 1, none⟩ = some (.int .i64 a0_1) := (Zb BK154.out 1).trans rfl); (have hcz29_2 : wr.cell? ⟨gb154, 2, none⟩ = some (.slice (some ad156) l0_2.length c0_2) := (Zb BK154.out 2).trans rfl); (have hcz29_3 : wr.cell? ⟨gb154, 3, none⟩ = some (.int .i64 a0_3) := (Zb BK154.out 3).trans rfl); (have hcz29_4 : wr.cell? ⟨gb154, 4, none⟩ = some (.int .u32 a0_4) := (Zb BK154.out 4).trans rfl); (have hfz29_0 := Zc BK154.out 0); (have hfz29_1 := Zc BK154.out 1); (have hfz29_2 := Zc BK154.out 2); (have hfz29_3 := Zc BK154.out 3); (have hfz29_4 := Zc BK154.out 4)
           go_wp2
           go_ret
           exact ⟨by first | rfl | (simp [Zv, Zw] <;> rfl) | (simp [*, Zv, Zw] <;> rfl), by repeat (first | (with_reducible first | exact HB.out | apply zc1 | apply zc2 | apply zc3 | refine zc4 ?_ (by assumption)) | exact HB.out)⟩
          (rw [if_neg c28] at H); (have c28b0 : decide (a0_0 ≤ (rd (Zd l0_2 x49_3) x55_4)) = false := decide_eq_false c28); (clear c28); (have H' := Za.mk H); (clear H); (have p157 : 0 ≤ (x55_4 : Int) := of_decide_eq_true (by assumption)); (have q157 : x55_4 < ((Zd l0_2 x49_3).length : Int) := of_decide_eq_true (by assumption)); (obtain ⟨ad157, e157, hx157_0⟩ := Kd.at_int HR156_0.out x55_4 p157 q157); (cases e157); (replace hx157_0 := (HB.out.cell (World.block_lt_of_cell? w _ hx157_0)).trans hx157_0); (replace p157 := eq_true p157); (replace q157 := eq_true q157); (have hcz30_0 : wr.cell? ⟨gb154, 0, none⟩ = some (.int .i64 a0_0) := (Zb BK154.out 0).trans rfl); (have hcz30_1 : wr.cell? ⟨gb154, 1, none⟩ = some (.int .i64 a0_1) := (Zb BK154.out 1).trans rfl); (have hcz30_2 : wr.cell? ⟨gb154, 2, none⟩ = some (.slice (some ad156) l0_2.length c0_2) := (Zb BK154.out 2).trans rfl); (have hcz30_3 : wr.cell? ⟨gb154, 3, none⟩ = some (.int .i64 a0_3) := (Zb BK154.out 3).trans rfl); (have hcz30_4 : wr.cell? ⟨gb154, 4, none⟩ = some (.int .u32 a0_4) := (Zb BK154.out 4).trans rfl); (have hfz30_0 := Zc BK154.out 0); (have hfz30_1 := Zc BK154.out 1); (have hfz30_2 := Zc BK154.out 2); (have hfz30_3 := Zc BK154.out 3); (have hfz30_4 := Zc BK154.out 4)
          go_wp2
          go_roundg k4
          case measure => have := HJ1.out; have := HK2.out; have := HK3.out; have := HK4.out; omega
          case rel => exact ⟨(wrap64 (x55_4 + 1)), (by first | rfl | (simp; done) | (simp [*]; done)), H', ⟨by have := HJ1.out; have := HK2.out; have := HK3.out; have := HK4.out; omega⟩, ⟨by (with_reducible repeat (first | apply zb3 | apply zb2 | apply zb1)); exact BK154.out⟩, ⟨by repeat (first | (with_reducible first | exact HB.out | apply zc1 | apply zc2 | apply zc3 | refine zc4 ?_ (by assumption)) | exact HB.out)⟩⟩
       (rw [if_neg c21] at H); (have c21b0 : decide (x49_3 < (l0_2.length : Int)) = false := decide_eq_false c21); (clear c21); (have HC31 := Za.mk H); (clear H)
       go_upto_region 21 with (fail)
       go_cut [78] (fun v78 wc => ∃ (kq : Nat) (x78_30 : Bool), v78 = .bool x78_30 ∧ Za (Zp.j4 kq x78_30 a0_0 a0_1 l0_2 a0_3 a0_4 = some r) ∧ Za (kq ≤ k3) ∧ Za (wc.heap[gb154]? = some (.cells #[.int .i64 a0_0, .int .i64 a0_1, (.slice A0_2 l0_2.length c0_2), .int .i64 a0_3, .int .u32 a0_4] 25 (0, 0))) ∧ Za (Below w.heap.size w wc))
       case first =>
        (have H := HC31.out); (clear HC31)
        by_cases c32 : a0_3 < 0
        ·rw [if_pos c32] at H
         (have c32b0 : decide (a0_3 < 0) = true := decide_eq_true c32); (clear c32)
         (first | rw [c32b0] | (simp only [Zg, Zf]; rw [c32b0]) | skip)
         (have H' := Za.mk H); (clear H); (have hcz33_0 : wr.cell? ⟨gb154, 0, none⟩ = some (.int .i64 a0_0) := (Zb BK154.out 0).trans rfl); (have hcz33_1 : wr.cell? ⟨gb154, 1, none⟩ = some (.int .i64 a0_1) := (Zb BK154.out 1).trans rfl); (have hcz33_2 : wr.cell? ⟨gb154, 2, none⟩ = some (.slice A0_2 l0_2.length c0_2) := (Zb BK154.out 2).trans rfl); (have hcz33_3 : wr.cell? ⟨gb154, 3, none⟩ = some (.int .i64 a0_3) := (Zb BK154.out 3).trans rfl); (have hcz33_4 : wr.cell? ⟨gb154, 4, none⟩ = some (.int .u32 a0_4) := (Zb BK154.out 4).trans rfl); (have hfz33_0 := Zc BK154.out 0); (have hfz33_1 := Zc BK154.out 1); (have hfz33_2 := Zc BK154.out 2); (have hfz33_3 := Zc BK154.out 3); (have hfz33_4 := Zc BK154.out 4)
         go_wp2
         go_meet
         case rel => exact ⟨_, (true), (by first | rfl | (simp; done) | (simp [*]; done)), H', ⟨by have := HJ1.out; have := HK2.out; have := HK3.out; first | omega | exact Nat.le_refl _⟩, ⟨by (with_reducible repeat (first | apply zb3 | apply zb2 | apply zb1)); exact BK154.out⟩, ⟨by repeat (first | (with_reducible first | exact HB.out | apply zc1 | apply zc2 | apply zc3 | refine zc4 ?_ (by assumption)) | exact HB.out)⟩⟩
        (rw [if_neg c32] at H); (have c32b0 : decide (a0_3 < 0) = false := decide_eq_false c32); (clear c32)
        (first | rw [c32b0] | (simp only [Zg, Zf]; rw [c32b0]) | skip)
        (have H' := Za.mk H); (clear H); (have hcz34_0 : wr.cell? ⟨gb154, 0, none⟩ = some (.int .i64 a0_0) := (Zb BK154.out 0).trans rfl); (have hcz34_1 : wr.cell? ⟨gb154, 1, none⟩ = some (.int .i64 a0_1) := (Zb BK154.out 1).trans rfl); (have hcz34_2 : wr.cell? ⟨gb154, 2, none⟩ = some (.slice A0_2 l0_2.length c0_2) := (Zb BK154.out 2).trans rfl); (have hcz34_3 : wr.cell? ⟨gb154, 3, none⟩ = some (.int .i64 a0_3) := (Zb BK154.out 3).trans rfl); (have hcz34_4 : wr.cell? ⟨gb154, 4, none⟩ = some (.int .u32 a0_4) := (Zb BK154.out 4).trans rfl); (have hfz34_0 := Zc BK154.out 0); (have hfz34_1 := Zc BK154.out 1); (have hfz34_2 := Zc BK154.out 2); (have hfz34_3 := Zc BK154.out 3); (have hfz34_4 := Zc BK154.out 4)
        go_wp2
        go_meet
        case rel => exact ⟨_, (decide (a0_3 ≥ a0_0)), (by first | rfl | (simp; done) | (simp [*]; done)), H', ⟨by have := HJ1.out; have := HK2.out; have := HK3.out; first | omega | exact Nat.le_refl _⟩, ⟨by (with_reducible repeat (first | apply zb3 | apply zb2 | apply zb1)); exact BK154.out⟩, ⟨by repeat (first | (with_reducible first | exact HB.out | apply zc1 | apply zc2 | apply zc3 | refine zc4 ?_ (by assumption)) | exact HB.out)⟩⟩
       case rest =>
        (clear HC31); (try clear c1); (try clear p1); (try clear q1); (try clear hx1); (try clear c2); (try clear p2); (try clear c3); (try clear c4); (try clear c4b0); (try clear c6); (try clear c6b0); (try clear p6); (try clear c8); (try clear c8b0); (try clear c10); (try clear c11); (try clear c12); (try clear c12b0); (try clear c12b1); (try clear c14); (try clear c14b0); (try clear c15); (try clear c15b0); (try clear p15); (try clear q15); (try clear hx15); (try clear c16); (try clear c16b0); (try clear c17); (try clear c17b0); (try clear c17b1); (try clear c21); (try clear c21b0); (try clear c22); (try clear c22b0); (try clear c23); (try clear c23b0); (try clear c24); (try clear c24b0); (try clear c25); (try clear c25b0); (try clear c26); (try clear c26b0); (try clear c27); (try clear c27b0); (try clear c28); (try clear c28b0); (try clear c32); (try clear c32b0); (try clear hcz10_0 hcz10_1 hcz10_2 hcz10_3 hcz10_4 hcz13_0 hcz13_1 hcz13_2 hcz13_3 hcz13_4 hcz18_0 hcz18_1 hcz18_2 hcz18_3 hcz18_4 hcz19_0 hcz19_1 hcz19_2 hcz19_3 hcz19_4 hcz20_0 hcz20_1 hcz20_2 hcz20_3 hcz20_4 hcz29_0 hcz29_1 hcz29_2 hcz29_3 hcz29_4 hcz30_0 hcz30_1 hcz30_2 hcz30_3 hcz30_4 hcz33_0 hcz33_1 hcz33_2 hcz33_3 hcz33_4 hcz34_0 hcz34_1 hcz34_2 hcz34_3 hcz34_4 hcz5_0 hcz5_1 hcz5_2 hcz5_3 hcz5_4 hcz7_0 hcz7_1 hcz7_2 hcz7_3 hcz7_4 hcz9_0 hcz9_1 hcz9_2 hcz9_3 hcz9_4 hfz10_0 hfz10_1 hfz10_2 hfz10_3 hfz10_4 hfz13_0 hfz13_1 hfz13_2 hfz13_3 hfz13_4 hfz18_0 hfz18_1 hfz18_2 hfz18_3 hfz18_4 hfz19_0 hfz19_1 hfz19_2 hfz19_3 hfz19_4 hfz20_0 hfz20_1 hfz20_2 hfz20_3 hfz20_4 hfz29_0 hfz29_1 hfz29_2 hfz29_3 hfz29_4 hfz30_0 hfz30_1 hfz30_2 hfz30_3 hfz30_4 hfz33_0 hfz33_1 hfz33_2 hfz33_3 hfz33_4 hfz34_0 hfz34_1 hfz34_2 hfz34_3 hfz34_4 hfz5_0 hfz5_1 hfz5_2 hfz5_3 hfz5_4 hfz7_0 hfz7_1 hfz7_2 hfz7_3 hfz7_4 hfz9_0 hfz9_1 hfz9_2 hfz9_3 hfz9_4)
        (try clear hx155_0); (try clear hx156_0); (try clear hx157_0); (try clear p1); (try clear p15); (try clear p155); (try clear p156); (try clear p157); (try clear p2); (try clear p6); (try clear q1); (try clear q15); (try clear q155); (try clear q156); (try clear q157); (obtain ⟨kq, x78_30, rfl, HA, HJ30, BK154, HB⟩ := hcut)
        cases kq with
        | zero => exact absurd HA.out (by simp [Zp.j4])
        | succ kj30 =>
         (have H := HA.out); (clear HA); (simp only [Zp.j4] at H)
         by_cases c35 : x78_30 = true
         ·subst c35
          (have H1 : (some 2) = some r := by rw [if_pos rfl] at H; exact H); (clear H); (have H := H1); (clear H1); (obtain rfl := Option.some.inj H)
          go_wp2
          go_ret
          exact ⟨by first | rfl | (simp [Zv, Zw] <;> rfl) | (simp [*, Zv, Zw] <;> rfl), by repeat (first | (with_reducible first | exact HB.out | apply zc1 | apply zc2 | apply zc3 | refine zc4 ?_ (by assumption)) | exact HB.out)⟩
         (replace c35 := Bool.eq_false_iff.mpr c35); (subst c35); (have H1 : (if 0 ≤ (IntKind.u64.wrap (a0_0)) then (if a0_4 ≥ (shl .u32 1 (IntKind.u64.wrap (a0_0))) then (some 4) else (some 0)) else (none)) = some r := by rw [if_neg (show ¬ (false = true) by decide)] at H; exact H); (clear H); (have H := H1); (clear H1); (obtain ⟨ji36, hji36⟩ : ∃ j_ : Int, (IntKind.u64.wrap (a0_0)) = j_ := ⟨_, rfl⟩); (replace H : (if 0 ≤ (ji36) then (if a0_4 ≥ (shl .u32 1 (ji36)) then (some 4) else (some 0)) else (none)) = some r := by first | (rw [hji36] at H; exact H) | (simp only [hji36] at H ⊢; exact H))
         by_cases c37 : 0 ≤ (ji36)
         rotate_left
         ·rw [if_neg c37] at H
          exact absurd H (by simp)
         (rw [if_pos c37] at H); (have c37b0 := eq_true c37); (have c37b1 : decide (0 ≤ (ji36)) = true := decide_eq_true c37); (clear c37); (obtain ⟨ji38, hji38⟩ : ∃ j_ : Int, (shl .u32 1 (ji36)) = j_ := ⟨_, rfl⟩); (replace H : (if a0_4 ≥ (ji38) then (some 4) else (some 0)) = some r := by first | (rw [hji38] at H; exact H) | (simp only [hji38] at H ⊢; exact H)); (have hji38_ : (IntKind.u32.wrap (1 * 2 ^ min (ji36).toNat 32)) = ji38 := hji38); (have hji38z : (ji36) ≤ 32 → (IntKind.u32.wrap (1 * 2 ^ (ji36).toNat)) = ji38 := shl_small hji38); (have hji38u : (IntKind.u32.wrap (2 ^ min (ji36).toNat 32)) = ji38 := by have h_ := hji38_; rw [Int.one_mul] at h_; exact h_); (have hji38v : (ji36) ≤ 32 → (IntKind.u32.wrap (2 ^ (ji36).toNat)) = ji38 := fun hle_ => by have h_ := hji38z hle_; rw [Int.one_mul] at h_; exact h_)
         by_cases c39 : a0_4 ≥ (ji38)
         ·rw [if_pos c39] at H
          (have c39b0 : decide ((ji38) ≤ a0_4) = true := decide_eq_true c39); (clear c39); (obtain rfl := Option.some.inj H); (have hcz40_0 : wc.cell? ⟨gb154, 0, none⟩ = some (.int .i64 a0_0) := (Zb BK154.out 0).trans rfl); (have hcz40_1 : wc.cell? ⟨gb154, 1, none⟩ = some (.int .i64 a0_1) := (Zb BK154.out 1).trans rfl); (have hcz40_2 : wc.cell? ⟨gb154, 2, none⟩ = some (.slice A0_2 l0_2.length c0_2) := (Zb BK154.out 2).trans rfl); (have hcz40_3 : wc.cell? ⟨gb154, 3, none⟩ = some (.int .i64 a0_3) := (Zb BK154.out 3).trans rfl); (have hcz40_4 : wc.cell? ⟨gb154, 4, none⟩ = some (.int .u32 a0_4) := (Zb BK154.out 4).trans rfl); (have hfz40_0 := Zc BK154.out 0); (have hfz40_1 := Zc BK154.out 1); (have hfz40_2 := Zc BK154.out 2); (have hfz40_3 := Zc BK154.out 3); (have hfz40_4 := Zc BK154.out 4)
          go_wp2
          go_ret
          exact ⟨by first | rfl | (simp [Zv, Zw] <;> rfl) | (simp only [← hji36, ← hji38]; first | rfl | (simp [Zv, Zw] <;> rfl)) | (simp [*, Zv, Zw] <;> rfl), by repeat (first | (with_reducible first | exact HB.out | apply zc1 | apply zc2 | apply zc3 | refine zc4 ?_ (by assumption)) | exact HB.out)⟩
         (rw [if_neg c39] at H); (have c39b0 : decide ((ji38) ≤ a0_4) = false := decide_eq_false c39); (clear c39); (obtain rfl := Option.some.inj H); (have hcz41_0 : wc.cell? ⟨gb154, 0, none⟩ = some (.int .i64 a0_0) := (Zb BK154.out 0).trans rfl); (have hcz41_1 : wc.cell? ⟨gb154, 1, none⟩ = some (.int .i64 a0_1) := (Zb BK154.out 1).trans rfl); (have hcz41_2 : wc.cell? ⟨gb154, 2, none⟩ = some (.slice A0_2 l0_2.length c0_2) := (Zb BK154.out 2).trans rfl); (have hcz41_3 : wc.cell? ⟨gb154, 3, none⟩ = some (.int .i64 a0_3) := (Zb BK154.out 3).trans rfl); (have hcz41_4 : wc.cell? ⟨gb154, 4, none⟩ = some (.int .u32 a0_4) := (Zb BK154.out 4).trans rfl); (have hfz41_0 := Zc BK154.out 0); (have hfz41_1 := Zc BK154.out 1); (have hfz41_2 := Zc BK154.out 2); (have hfz41_3 := Zc BK154.out 3); (have hfz41_4 := Zc BK154.out 4)
         go_wp2
         go_ret
         exact ⟨by first | rfl | (simp [Zv, Zw] <;> rfl) | (simp only [← hji36, ← hji38]; first | rfl | (simp [Zv, Zw] <;> rfl)) | (simp [*, Zv, Zw] <;> rfl), by repeat (first | (with_reducible first | exact HB.out | apply zc1 | apply zc2 | apply zc3 | refine zc4 ?_ (by assumption)) | exact HB.out)⟩
end Go.Proofs.Ytdoenjnjpenboaa.PLeastAparts
