-- Printed by a turn of a template of the kit, and shortened: remarks and what nothing here uses are left out.
import Derived.Test.YtdoenjnjpenboaaQPLeastApartsx0
import Derived.Test.YtdoenjnjpenboaaQPLeastApartsx1
namespace Go.Proofs.Ytdoenjnjpenboaa.PLeastAparts
open Go.RowKit Go.Proofs.YtdoenjnjpenboaaW.PrintWords Go.Proofs.YtdoenjnjpenboaaW.PrintLast Go.Proofs.YtdoenjnjpenboaaW.PrintMore
attribute [local go_sem] max2_int min2_int max_two min_two max_three min_three max_four min_four
set_option linter.unusedVariables false
set_option linter.unusedSimpArgs false
mutual
def Zt.j0 : Nat → Bool → Int → Int → List (List Int) → Int → Int → Option (Int)
  | 0, _, _, _, _, _, _ => none
  | k + 1, x22, x110000, x110001, x110002, x110003, x110004 => if x22 = true then (some 1) else (if (x110002.length : Int) = x110000 then ((machine_Check_1_any.f x110002 x110000 x110001 x110002 x110003 x110004).bind fun t110 => (Zt.j1 k t110 x110000 x110001 x110002 x110003 x110004)) else (Zt.j1 k true x110000 x110001 x110002 x110003 x110004))
def Zt.j1 : Nat → Bool → Int → Int → List (List Int) → Int → Int → Option (Int)
  | 0, _, _, _, _, _, _ => none
  | k + 1, x34, x110000, x110001, x110002, x110003, x110004 => if x34 = true then (some 3) else ((Zb1.f k x110002).bind fun t111 => ((some (([x110003] : List Int) : List Int)).bind fun y114 => (if t111.length + y114.length < 17592186044416 then ((some (t111 ++ y114 : List Int)).bind fun y117 => (Zt.l0 k y117 (y117.length : Int) 0 x110000 x110001 x110002 x110003 x110004)) else (none))))
def Zt.l0 : Nat → List Int → Int → Int → Int → Int → List (List Int) → Int → Int → Option (Int)
  | 0, _, _, _, _, _, _, _, _ => none
  | k + 1, x41, x42, x43, x110000, x110001, x110002, x110003, x110004 => if x43 < x42 then (if 0 ≤ x43 then (if x43 < (x41.length : Int) then (if (rd x41 x43) < 0 then (some 2) else (if (rd x41 x43) ≥ x110000 then (some 2) else (Zt.l0 k x41 x42 (wrap64 (x43 + 1)) x110000 x110001 x110002 x110003 x110004))) else (none)) else (none)) else (if 0 ≤ x110000 then (if (shr .u32 x110004 x110000) = 0 then (some 0) else (some 4)) else (none))
end
def Zt.f (k : Nat) (a0_0 : Int) (a0_1 : Int) (l0_2 : List (List Int)) (a0_3 : Int) (a0_4 : Int) : Option (Int) := if a0_0 < 1 then (Zt.j0 k true a0_0 a0_1 l0_2 a0_3 a0_4) else (if a0_0 > 7 then (Zt.j0 k true a0_0 a0_1 l0_2 a0_3 a0_4) else (if a0_1 < 1 then (Zt.j0 k true a0_0 a0_1 l0_2 a0_3 a0_4) else (Zt.j0 k (decide (a0_1 > 3)) a0_0 a0_1 l0_2 a0_3 a0_4)))
theorem Zt.mono_l : ∀ k, (∀ y0 y1 y2 y3 y4 y5, LeO (Zt.j0 k y0 y1 y2 y3 y4 y5) (Zt.j0 (k + 1) y0 y1 y2 y3 y4 y5)) ∧ (∀ y0 y1 y2 y3 y4 y5, LeO (Zt.j1 k y0 y1 y2 y3 y4 y5) (Zt.j1 (k + 1) y0 y1 y2 y3 y4 y5)) ∧ (∀ y0 y1 y2 y3 y4 y5 y6 y7, LeO (Zt.l0 k y0 y1 y2 y3 y4 y5 y6 y7) (Zt.l0 (k + 1) y0 y1 y2 y3 y4 y5 y6 y7))
  | 0 => ⟨fun _ _ _ _ _ _ r h => by simp [Zt.j0] at h, fun _ _ _ _ _ _ r h => by simp [Zt.j1] at h, fun _ _ _ _ _ _ _ _ r h => by simp [Zt.l0] at h⟩
  | k + 1 => by
    obtain ⟨ih0, ih1, ih2⟩ := Zt.mono_l k
    refine ⟨?_, ?_, ?_⟩
    · intro y0 y1 y2 y3 y4 y5
      unfold Zt.j0
      repeat' first
      | (with_reducible exact ih0 _ _ _ _ _ _)
      | (with_reducible exact ih1 _ _ _ _ _ _)
      | (with_reducible exact ih2 _ _ _ _ _ _ _ _)
      | (with_reducible exact Zb1.mono _ _)
      | (with_reducible exact LeO.refl _)
      | (with_reducible exact LeO.none _)
      | (with_reducible refine LeO.ite ?_ ?_)
      | (with_reducible refine LeO.bind ?_ (fun _ => ?_))
      | exact ih0 _ _ _ _ _ _
      | exact ih1 _ _ _ _ _ _
      | exact ih2 _ _ _ _ _ _ _ _
      | exact Zb1.mono _ _
      | exact LeO.none _
      | refine LeO.ite ?_ ?_
      | refine LeO.bind ?_ (fun _ => ?_)
    · intro y0 y1 y2 y3 y4 y5
      unfold Zt.j1
      repeat' first
      | (with_reducible exact ih0 _ _ _ _ _ _)
      | (with_reducible exact ih1 _ _ _ _ _ _)
      | (with_reducible exact ih2 _ _ _ _ _ _ _ _)
      | (with_reducible exact Zb1.mono _ _)
      | (with_reducible exact LeO.refl _)
      | (with_reducible exact LeO.none _)
      | (with_reducible refine LeO.ite ?_ ?_)
      | (with_reducible refine LeO.bind ?_ (fun _ => ?_))
      | exact ih0 _ _ _ _ _ _
      | exact ih1 _ _ _ _ _ _
      | exact ih2 _ _ _ _ _ _ _ _
      | exact Zb1.mono _ _
      | exact LeO.none _
      | refine LeO.ite ?_ ?_
      | refine LeO.bind ?_ (fun _ => ?_)
    · intro y0 y1 y2 y3 y4 y5 y6 y7
      unfold Zt.l0
      repeat' first
      | (with_reducible exact ih0 _ _ _ _ _ _)
      | (with_reducible exact ih1 _ _ _ _ _ _)
      | (with_reducible exact ih2 _ _ _ _ _ _ _ _)
      | (with_reducible exact Zb1.mono _ _)
      | (with_reducible exact LeO.refl _)
      | (with_reducible exact LeO.none _)
      | (with_reducible refine LeO.ite ?_ ?_)
      | (with_reducible refine LeO.bind ?_ (fun _ => ?_))
      | exact ih0 _ _ _ _ _ _
      | exact ih1 _ _ _ _ _ _
      | exact ih2 _ _ _ _ _ _ _ _
      | exact Zb1.mono _ _
      | exact LeO.none _
      | refine LeO.ite ?_ ?_
      | refine LeO.bind ?_ (fun _ => ?_)
theorem Zt.mono : ∀ a0 a1 a2 a3 a4 k, LeO (Zt.f k a0 a1 a2 a3 a4) (Zt.f (k + 1) a0 a1 a2 a3 a4) := by
  intro a0 a1 a2 a3 a4 k
  obtain ⟨ih0, ih1, ih2⟩ := Zt.mono_l k
  unfold Zt.f
  repeat' first
      | (with_reducible exact ih0 _ _ _ _ _ _)
      | (with_reducible exact ih1 _ _ _ _ _ _)
      | (with_reducible exact ih2 _ _ _ _ _ _ _ _)
      | (with_reducible exact Zb1.mono _ _)
      | (with_reducible exact LeO.refl _)
      | (with_reducible exact LeO.none _)
      | (with_reducible refine LeO.ite ?_ ?_)
      | (with_reducible refine LeO.bind ?_ (fun _ => ?_))
      | exact ih0 _ _ _ _ _ _
      | exact ih1 _ _ _ _ _ _
      | exact ih2 _ _ _ _ _ _ _ _
      | exact Zb1.mono _ _
      | exact LeO.none _
      | refine LeO.ite ?_ ?_
      | refine LeO.bind ?_ (fun _ => ?_)
def Zt.T5 : Bool × List (List Nat × List Nat) := (true, [([], []), ([0], [0]), ([1], [1]), ([], []), ([3], [3]), ([4], [4]), ([2, 5, 2], [2, 5]), ([6], [6]), ([], [])])
def Zt.B5 : List Nat := [0, 1, 3, 0, 8, 24, 63, 127, 0]
theorem Zt.tab5 : rtab .any (opsOf Try.f13 5) = Zt.T5 := by kernel_rfl
theorem Zt.bits5 : waitsOk Zt.T5.2 Zt.B5 = true := by kernel_rfl
set_option maxHeartbeats 8000000 in
set_option maxRecDepth 100000 in
theorem Zt.calls (k : Nat) (a0_0 : Int) (a0_1 : Int) (A0_2 : Option Addr) (c0_2 : Nat) (l0_2 : List (List Int)) (a0_3 : Int) (a0_4 : Int) (r : Int) (w : World) (hr0_2 : Kd.C (Kd.slice 3 (Kd.int .i64)) w A0_2 l0_2.length l0_2) (hc0_2 : l0_2.length ≤ c0_2) (h : Zt.f k a0_0 a0_1 l0_2 a0_3 a0_4 = some r) :
    Calls Try.prog 13 #[.agg #[.int .i64 a0_0, .int .i64 a0_1, .slice A0_2 l0_2.length c0_2, .int .i64 a0_3, .int .u32 a0_4]] w fun e w' => e = .returned (.int .i64 r) ∧ Below w.heap.size w w' := by
 (have hu25 := Try.underlying25); (have HR0_2 := Za.mk hr0_2); (have HC0_2 := Za.mk hc0_2); (clear hr0_2 hc0_2); (have HB := Za.mk (Below.refl w.heap.size w)); (have H : (if a0_0 < 1 then (Zt.j0 k true a0_0 a0_1 l0_2 a0_3 a0_4) else (if a0_0 > 7 then (Zt.j0 k true a0_0 a0_1 l0_2 a0_3 a0_4) else (if a0_1 < 1 then (Zt.j0 k true a0_0 a0_1 l0_2 a0_3 a0_4) else (Zt.j0 k (decide (a0_1 > 3)) a0_0 a0_1 l0_2 a0_3 a0_4)))) = some r := h); (clear h); (have HC2 := Za.mk H); (clear H)
 go_enter Try.func13, Try.ntmps13
 go_upto_region 1 with (first | ((with_reducible refine Zc1 (N := 1) rfl ?_); refine Zd1 ?hg (N := 1) ?hd (cs := #[.int .i64 a0_0, .int .i64 a0_1, .slice A0_2 l0_2.length c0_2, .int .i64 a0_3, .int .u32 a0_4]) (t := 25) ?hr ?_; (case hd => rfl); (case hg => rfl); (case hr => first | (go_simp; done) | (go_simp; rfl)); intro gb109 hg w3 hbox hb; have n0_ := Za.mk (Zm (by repeat (first | (with_reducible first | exact HB.out | apply zc1 | apply zc2 | apply zc3) | exact HB.out)) hb); have n1_ := Za.mk (hbox); have n2_ := Za.mk ((by rw [hg]; exact (Zk (by repeat (first | (with_reducible first | exact HB.out | apply zc1 | apply zc2 | apply zc3) | exact HB.out))) : w.heap.size ≤ gb109)); have n3_ := Za.mk ((by rw [hg]; exact (Zk (by repeat (first | (with_reducible first | exact HB.out | apply zc1 | apply zc2 | apply zc3) | exact HB.out))) : w.heap.size ≤ gb109)); clear HB; have HB := n0_; have BK109 := n1_; have GW109 := n2_; have GE109 := n3_; clear n0_ n1_ n2_ n3_; clear hb hbox hg))
 (try simp only [Act.put, List.setIfInBounds_toArray, List.set_cons_zero, List.set_cons_succ])
 go_cut [22] (fun v22 wc => ∃ (kq : Nat) (x22_1 : Bool), v22 = .bool x22_1 ∧ Za (Zt.j0 kq x22_1 a0_0 a0_1 l0_2 a0_3 a0_4 = some r) ∧ Za (kq ≤ k) ∧ Za (wc.heap[gb109]? = some (.cells #[.int .i64 a0_0, .int .i64 a0_1, (.slice A0_2 l0_2.length c0_2), .int .i64 a0_3, .int .u32 a0_4] 25 (0, 0))) ∧ Za (Below w.heap.size w wc))
 case first =>
  (have H := HC2.out); (clear HC2)
  by_cases c4 : a0_0 < 1
  ·rw [if_pos c4] at H
   (have c4b0 : decide (a0_0 < 1) = true := decide_eq_true c4); (clear c4)
   (first | rw [c4b0] | (simp only [Zg, Zf]; rw [c4b0]) | skip)
   (have H' := Za.mk H); (clear H); (have hcz5_0 : w3.cell? ⟨gb109, 0, none⟩ = some (.int .i64 a0_0) := (Zb BK109.out 0).trans rfl); (have hcz5_1 : w3.cell? ⟨gb109, 1, none⟩ = some (.int .i64 a0_1) := (Zb BK109.out 1).trans rfl); (have hcz5_2 : w3.cell? ⟨gb109, 2, none⟩ = some (.slice A0_2 l0_2.length c0_2) := (Zb BK109.out 2).trans rfl); (have hcz5_3 : w3.cell? ⟨gb109, 3, none⟩ = some (.int .i64 a0_3) := (Zb BK109.out 3).trans rfl); (have hcz5_4 : w3.cell? ⟨gb109, 4, none⟩ = some (.int .u32 a0_4) := (Zb BK109.out 4).trans rfl); (have hfz5_0 := Zc BK109.out 0); (have hfz5_1 := Zc BK109.out 1); (have hfz5_2 := Zc BK109.out 2); (have hfz5_3 := Zc BK109.out 3); (have hfz5_4 := Zc BK109.out 4)
   go_wp2
   go_meet
   case rel => exact ⟨_, (true), (by first | rfl | (simp; done) | (simp [*]; done)), H', ⟨by first | omega | exact Nat.le_refl _⟩, ⟨by (with_reducible repeat (first | apply zb3 | apply zb2 | apply zb1)); exact BK109.out⟩, ⟨by repeat (first | (with_reducible first | exact HB.out | apply zc1 | apply zc2 | apply zc3 | refine zc4 ?_ (by assumption)) | exact HB.out)⟩⟩
  (rw [if_neg c4] at H); (have c4b0 : decide (a0_0 < 1) = false := decide_eq_false c4); (clear c4)
  (first | rw [c4b0] | (simp only [Zg, Zf]; rw [c4b0]) | skip)
  by_cases c6 : a0_0 > 7
  ·rw [if_pos c6] at H
   (have c6b0 : decide (7 < a0_0) = true := decide_eq_true c6); (clear c6); (have H' := Za.mk H); (clear H); (have hcz7_0 : w3.cell? ⟨gb109, 0, none⟩ = some (.int .i64 a0_0) := (Zb BK109.out 0).trans rfl); (have hcz7_1 : w3.cell? ⟨gb109, 1, none⟩ = some (.int .i64 a0_1) := (Zb BK109.out 1).trans rfl); (have hcz7_2 : w3.cell? ⟨gb109, 2, none⟩ = some (.slice A0_2 l0_2.length c0_2) := (Zb BK109.out 2).trans rfl); (have hcz7_3 : w3.cell? ⟨gb109, 3, none⟩ = some (.int .i64 a0_3) := (Zb BK109.out 3).trans rfl); (have hcz7_4 : w3.cell? ⟨gb109, 4, none⟩ = some (.int .u32 a0_4) := (Zb BK109.out 4).trans rfl); (have hfz7_0 := Zc BK109.out 0); (have hfz7_1 := Zc BK109.out 1); (have hfz7_2 := Zc BK109.out 2); (have hfz7_3 := Zc BK109.out 3); (have hfz7_4 := Zc BK109.out 4)
   go_wp2
   go_meet
   case rel => exact ⟨_, (true), (by first | rfl | (simp; done) | (simp [*]; done)), H', ⟨by first | omega | exact Nat.le_refl _⟩, ⟨by (with_reducible repeat (first | apply zb3 | apply zb2 | apply zb1)); exact BK109.out⟩, ⟨by repeat (first | (with_reducible first | exact HB.out | apply zc1 | apply zc2 | apply zc3 | refine zc4 ?_ (by assumption)) | exact HB.out)⟩⟩
  (rw [if_neg c6] at H); (have c6b0 : decide (7 < a0_0) = false := decide_eq_false c6); (clear c6)
  by_cases c8 : a0_1 < 1
  ·rw [if_pos c8] at H
   (have c8b0 : decide (a0_1 < 1) = true := decide_eq_true c8); (clear c8); (have H' := Za.mk H); (clear H); (have hcz9_0 : w3.cell? ⟨gb109, 0, none⟩ = some (.int .i64 a0_0) := (Zb BK109.out 0).trans rfl); (have hcz9_1 : w3.cell? ⟨gb109, 1, none⟩ = some (.int .i64 a0_1) := (Zb BK109.out 1).trans rfl); (have hcz9_2 : w3.cell? ⟨gb109, 2, none⟩ = some (.slice A0_2 l0_2.length c0_2) := (Zb BK109.out 2).trans rfl); (have hcz9_3 : w3.cell? ⟨gb109, 3, none⟩ = some (.int .i64 a0_3) := (Zb BK109.out 3).trans rfl); (have hcz9_4 : w3.cell? ⟨gb109, 4, none⟩ = some (.int .u32 a0_4) := (Zb BK109.out 4).trans rfl); (have hfz9_0 := Zc BK109.out 0); (have hfz9_1 := Zc BK109.out 1); (have hfz9_2 := Zc BK109.out 2); (have hfz9_3 := Zc BK109.out 3); (have hfz9_4 := Zc BK109.out 4)
   go_wp2
   go_meet
   case rel => exact ⟨_, (true), (by first | rfl | (simp; done) | (simp [*]; done)), H', ⟨by first | omega | exact Nat.le_refl _⟩, ⟨by (with_reducible repeat (first | apply zb3 | apply zb2 | apply zb1)); exact BK109.out⟩, ⟨by repeat (first | (with_reducible first | exact HB.out | apply zc1 | apply zc2 | apply zc3 | refine zc4 ?_ (by assumption)) | exact HB.out)⟩⟩
  (rw [if_neg c8] at H); (have c8b0 : decide (a0_1 < 1) = false := decide_eq_false c8); (clear c8); (have H' := Za.mk H); (clear H); (have hcz10_0 : w3.cell? ⟨gb109, 0, none⟩ = some (.int .i64 a0_0) := (Zb BK109.out 0).trans rfl); (have hcz10_1 : w3.cell? ⟨gb109, 1, none⟩ = some (.int .i64 a0_1) := (Zb BK109.out 1).trans rfl); (have hcz10_2 : w3.cell? ⟨gb109, 2, none⟩ = some (.slice A0_2 l0_2.length c0_2) := (Zb BK109.out 2).trans rfl); (have hcz10_3 : w3.cell? ⟨gb109, 3, none⟩ = some (.int .i64 a0_3) := (Zb BK109.out 3).trans rfl); (have hcz10_4 : w3.cell? ⟨gb109, 4, none⟩ = some (.int .u32 a0_4) := (Zb BK109.out 4).trans rfl); (have hfz10_0 := Zc BK109.out 0); (have hfz10_1 := Zc BK109.out 1); (have hfz10_2 := Zc BK109.out 2); (have hfz10_3 := Zc BK109.out 3); (have hfz10_4 := Zc BK109.out 4)
  go_wp2
  go_meet
  case rel => exact ⟨_, (decide (a0_1 > 3)), (by first | rfl | (simp; done) | (simp [*]; done)), H', ⟨by first | omega | exact Nat.le_refl _⟩, ⟨by (with_reducible repeat (first | apply zb3 | apply zb2 | apply zb1)); exact BK109.out⟩, ⟨by repeat (first | (with_reducible first | exact HB.out | apply zc1 | apply zc2 | apply zc3 | refine zc4 ?_ (by assumption)) | exact HB.out)⟩⟩
 case rest =>
  (clear HC2); (try clear c1); (try clear p2); (try clear c4); (try clear c4b0); (try clear c6); (try clear c6b0); (try clear c8); (try clear c8b0); (try clear hcz10_0 hcz10_1 hcz10_2 hcz10_3 hcz10_4 hcz5_0 hcz5_1 hcz5_2 hcz5_3 hcz5_4 hcz7_0 hcz7_1 hcz7_2 hcz7_3 hcz7_4 hcz9_0 hcz9_1 hcz9_2 hcz9_3 hcz9_4 hfz10_0 hfz10_1 hfz10_2 hfz10_3 hfz10_4 hfz5_0 hfz5_1 hfz5_2 hfz5_3 hfz5_4 hfz7_0 hfz7_1 hfz7_2 hfz7_3 hfz7_4 hfz9_0 hfz9_1 hfz9_2 hfz9_3 hfz9_4); (obtain ⟨kq, x22_1, rfl, HA, HJ1, BK109, HB⟩ := hcut)
  cases kq with
  | zero => exact absurd HA.out (by simp [Zt.j0])
  | succ kj1 =>
   (have H := HA.out); (clear HA); (simp only [Zt.j0] at H)
   by_cases c11 : x22_1 = true
   ·subst c11
    (have H1 : (some 1) = some r := by rw [if_pos rfl] at H; exact H); (clear H); (have H := H1); (clear H1); (obtain rfl := Option.some.inj H)
    go_wp2
    go_ret
    exact ⟨by first | rfl | (simp [Zv, Zw] <;> rfl) | (simp [*, Zv, Zw] <;> rfl), by repeat (first | (with_reducible first | exact HB.out | apply zc1 | apply zc2 | apply zc3 | refine zc4 ?_ (by assumption)) | exact HB.out)⟩
   (replace c11 := Bool.eq_false_iff.mpr c11); (subst c11); (have H1 : (if (l0_2.length : Int) = a0_0 then ((machine_Check_1_any.f l0_2 a0_0 a0_1 l0_2 a0_3 a0_4).bind fun t110 => (Zt.j1 kj1 t110 a0_0 a0_1 l0_2 a0_3 a0_4)) else (Zt.j1 kj1 true a0_0 a0_1 l0_2 a0_3 a0_4)) = some r := by rw [if_neg (show ¬ (false = true) by decide)] at H; exact H); (clear H); (have H := H1); (clear H1); (have HC12 := Za.mk H); (clear H)
   go_upto_region 3 with (fail)
   go_cut [34] (fun v34 wc => ∃ (kq : Nat) (x34_11 : Bool), v34 = .bool x34_11 ∧ Za (Zt.j1 kq x34_11 a0_0 a0_1 l0_2 a0_3 a0_4 = some r) ∧ Za (kq ≤ kj1) ∧ Za (wc.heap[gb109]? = some (.cells #[.int .i64 a0_0, .int .i64 a0_1, (.slice A0_2 l0_2.length c0_2), .int .i64 a0_3, .int .u32 a0_4] 25 (0, 0))) ∧ Za (Below w.heap.size w wc))
   case first =>
    (have H := HC12.out); (clear HC12)
    by_cases c13 : (l0_2.length : Int) = a0_0
    rotate_left
    ·rw [if_neg c13] at H
     (have c13b0 : ((l0_2.length : Int) == a0_0) = false := beq_eq_false_iff_ne.mpr c13); (have c13b1 : ((l0_2.length : Int) != a0_0) = true := bne_iff_ne.mpr c13)
     (first | rw [c13b0] | (simp only [Zg, Zf]; rw [c13b0]) | skip)
     (have H' := Za.mk H); (clear H); (have hcz17_0 : wc.cell? ⟨gb109, 0, none⟩ = some (.int .i64 a0_0) := (Zb BK109.out 0).trans rfl); (have hcz17_1 : wc.cell? ⟨gb109, 1, none⟩ = some (.int .i64 a0_1) := (Zb BK109.out 1).trans rfl); (have hcz17_2 : wc.cell? ⟨gb109, 2, none⟩ = some (.slice A0_2 l0_2.length c0_2) := (Zb BK109.out 2).trans rfl); (have hcz17_3 : wc.cell? ⟨gb109, 3, none⟩ = some (.int .i64 a0_3) := (Zb BK109.out 3).trans rfl); (have hcz17_4 : wc.cell? ⟨gb109, 4, none⟩ = some (.int .u32 a0_4) := (Zb BK109.out 4).trans rfl); (have hfz17_0 := Zc BK109.out 0); (have hfz17_1 := Zc BK109.out 1); (have hfz17_2 := Zc BK109.out 2); (have hfz17_3 := Zc BK109.out 3); (have hfz17_4 := Zc BK109.out 4)
     go_wp2
     go_meet
     case rel => exact ⟨_, (true), (by first | rfl | (simp; done) | (simp [*]; done)), H', ⟨by have := HJ1.out; first | omega | exact Nat.le_refl _⟩, ⟨by (with_reducible repeat (first | apply zb3 | apply zb2 | apply zb1)); exact BK109.out⟩, ⟨by repeat (first | (with_reducible first | exact HB.out | apply zc1 | apply zc2 | apply zc3 | refine zc4 ?_ (by assumption)) | exact HB.out)⟩⟩
    (rw [if_pos c13] at H); (have c13b0 : ((l0_2.length : Int) == a0_0) = true := beq_iff_eq.mpr c13); (have c13b1 : ((l0_2.length : Int) != a0_0) = false := bne_eq_false_iff_eq.mpr c13); (clear c13)
    (first | rw [c13b0] | (simp only [Zg, Zf]; rw [c13b0]) | skip)
    (replace H := Option.bind_eq_some_iff.mp H); (obtain ⟨t110, A140, H⟩ := H); (replace H : (Zt.j1 kj1 t110 a0_0 a0_1 l0_2 a0_3 a0_4) = some r := H); (have A14 := Za.mk A140); (clear A140); (have H' := Za.mk H); (clear H); (have hcz15_0 : wc.cell? ⟨gb109, 0, none⟩ = some (.int .i64 a0_0) := (Zb BK109.out 0).trans rfl); (have hcz15_1 : wc.cell? ⟨gb109, 1, none⟩ = some (.int .i64 a0_1) := (Zb BK109.out 1).trans rfl); (have hcz15_2 : wc.cell? ⟨gb109, 2, none⟩ = some (.slice A0_2 l0_2.length c0_2) := (Zb BK109.out 2).trans rfl); (have hcz15_3 : wc.cell? ⟨gb109, 3, none⟩ = some (.int .i64 a0_3) := (Zb BK109.out 3).trans rfl); (have hcz15_4 : wc.cell? ⟨gb109, 4, none⟩ = some (.int .u32 a0_4) := (Zb BK109.out 4).trans rfl); (have hfz15_0 := Zc BK109.out 0); (have hfz15_1 := Zc BK109.out 1); (have hfz15_2 := Zc BK109.out 2); (have hfz15_3 := Zc BK109.out 3); (have hfz15_4 := Zc BK109.out 4)
    go_wp2_with (first | (go_at_call 15; (with_reducible refine (machine_Check_1_any.calls _ _ l0_2 a0_0 a0_1 (A0_2) (c0_2) l0_2 a0_3 a0_4 gb109 t110 _ ?side1 ?side2 ?side3 ?side4 ?side5 A14.out).mono ?_); (case side1 => repeat (first | exact (Kd.C_below HR0_2.out HB.out) | (with_reducible refine Kd.C_alloc ?_ _) | (with_reducible refine Kd.C_drewN ?_ _) | (with_reducible refine Kd.C_drew ?_))); (case side2 => exact HC0_2.out); (case side3 => repeat (first | exact (Kd.C_below HR0_2.out HB.out) | (with_reducible refine Kd.C_alloc ?_ _) | (with_reducible refine Kd.C_drewN ?_ _) | (with_reducible refine Kd.C_drew ?_))); (case side4 => exact HC0_2.out); (case side5 => exact (by (with_reducible repeat (first | apply zb3 | apply zb2 | apply zb1)); exact BK109.out)); rintro e w16 ⟨rfl, hb⟩; replace BK109 := Za.mk (Zi (g := gb109) (by (with_reducible repeat (first | apply zb3 | apply zb2 | apply zb1)); exact BK109.out) hb); replace HB := Za.mk (Zm (by repeat (first | (with_reducible first | exact HB.out | apply zc1 | apply zc2 | apply zc3 | refine zc4 ?_ (by assumption)) | exact HB.out)) hb); (try clear hb); (try clear hb2); (try clear hk); (try clear hi)))
    go_meet
    case rel => exact ⟨_, (t110), (by first | rfl | (simp; done) | (simp [*]; done)), H', ⟨by have := HJ1.out; first | omega | exact Nat.le_refl _⟩, ⟨by (with_reducible repeat (first | apply zb3 | apply zb2 | apply zb1)); exact BK109.out⟩, ⟨by repeat (first | (with_reducible first | exact HB.out | apply zc1 | apply zc2 | apply zc3 | refine zc4 ?_ (by assumption)) | exact HB.out)⟩⟩
   case rest =>
    (clear HC12); (try clear c1); (try clear p2); (try clear c4); (try clear c4b0); (try clear c6); (try clear c6b0); (try clear c8); (try clear c8b0); (try clear c11); (try clear c13); (try clear c13b0); (try clear c13b1); (try clear hcz10_0 hcz10_1 hcz10_2 hcz10_3 hcz10_4 hcz15_0 hcz15_1 hcz15_2 hcz15_3 hcz15_4 hcz17_0 hcz17_1 hcz17_2 hcz17_3 hcz17_4 hcz5_0 hcz5_1 hcz5_2 hcz5_3 hcz5_4 hcz7_0 hcz7_1 hcz7_2 hcz7_3 hcz7_4 hcz9_0 hcz9_1 hcz9_2 hcz9_3 hcz9_4 hfz10_0 hfz10_1 hfz10_2 hfz10_3 hfz10_4 hfz15_0 hfz15_1 hfz15_2 hfz15_3 hfz15_4 hfz17_0 hfz17_1 hfz17_2 hfz17_3 hfz17_4 hfz5_0 hfz5_1 hfz5_2 hfz5_3 hfz5_4 hfz7_0 hfz7_1 hfz7_2 hfz7_3 hfz7_4 hfz9_0 hfz9_1 hfz9_2 hfz9_3 hfz9_4); (try clear p2); (obtain ⟨kq, x34_11, rfl, HA, HJ11, BK109, HB⟩ := hcut)
    cases kq with
    | zero => exact absurd HA.out (by simp [Zt.j1])
    | succ kj11 =>
     (have H := HA.out); (clear HA); (simp only [Zt.j1] at H)
     by_cases c18 : x34_11 = true
     ·subst c18
      (have H1 : (some 3) = some r := by rw [if_pos rfl] at H; exact H); (clear H); (have H := H1); (clear H1); (obtain rfl := Option.some.inj H)
      go_wp2
      go_ret
      exact ⟨by first | rfl | (simp [Zv, Zw] <;> rfl) | (simp [*, Zv, Zw] <;> rfl), by repeat (first | (with_reducible first | exact HB.out | apply zc1 | apply zc2 | apply zc3 | refine zc4 ?_ (by assumption)) | exact HB.out)⟩
     (replace c18 := Bool.eq_false_iff.mpr c18); (subst c18); (have H1 : ((Zb1.f kj11 l0_2).bind fun t111 => ((some (([a0_3] : List Int) : List Int)).bind fun y114 => (if t111.length + y114.length < 17592186044416 then ((some (t111 ++ y114 : List Int)).bind fun y117 => (Zt.l0 kj11 y117 (y117.length : Int) 0 a0_0 a0_1 l0_2 a0_3 a0_4)) else (none)))) = some r := by rw [if_neg (show ¬ (false = true) by decide)] at H; exact H); (clear H); (have H := H1); (clear H1); (replace H := Option.bind_eq_some_iff.mp H); (obtain ⟨t111, A190, H⟩ := H); (replace H : ((some (([a0_3] : List Int) : List Int)).bind fun y114 => (if t111.length + y114.length < 17592186044416 then ((some (t111 ++ y114 : List Int)).bind fun y117 => (Zt.l0 kj11 y117 (y117.length : Int) 0 a0_0 a0_1 l0_2 a0_3 a0_4)) else (none))) = some r := H); (have A19 := Za.mk A190); (clear A190); (obtain ⟨y114, hy114⟩ : ∃ y_ : List Int, y_ = (([a0_3] : List Int)) := ⟨_, rfl⟩); (replace H : (if t111.length + y114.length < 17592186044416 then ((some (t111 ++ y114 : List Int)).bind fun y117 => (Zt.l0 kj11 y117 (y117.length : Int) 0 a0_0 a0_1 l0_2 a0_3 a0_4)) else (none)) = some r := by first | (rw [hy114]; with_reducible exact H) | (have H2_ := (Option.bind_some _ _).symm.trans H; rw [hy114]; with_reducible exact H2_) | (have H2_ := (Option.bind_some _ _).symm.trans H; with_reducible exact H2_) | with_reducible exact H | (rw [hy114]; exact H) | exact H); (have Ny114 := Za.mk hy114); (clear hy114)
     by_cases c20 : t111.length + y114.length < 17592186044416
     rotate_left
     ·rw [if_neg c20] at H
      exact absurd H (by simp)
     (rw [if_pos c20] at H); (have LMc20 := Za.mk c20); (clear c20); (obtain ⟨y117, hy117⟩ : ∃ y_ : List Int, y_ = (t111 ++ y114) := ⟨_, rfl⟩); (replace H : (Zt.l0 kj11 y117 (y117.length : Int) 0 a0_0 a0_1 l0_2 a0_3 a0_4) = some r := by first | (rw [hy117]; with_reducible exact H) | (have H2_ := (Option.bind_some _ _).symm.trans H; rw [hy117]; with_reducible exact H2_) | (have H2_ := (Option.bind_some _ _).symm.trans H; with_reducible exact H2_) | with_reducible exact H | (rw [hy117]; exact H) | exact H); (have Ny117 := Za.mk hy117); (clear hy117); (have H' := Za.mk H); (clear H)
     try go_wp2
     (replace BK109 := Za.mk (Zl BK109.out)); (replace HB := Za.mk (below_drew1 HB.out))
     refine start_ (n := 9) (S := fun w' => w'.cell? ⟨gb109, 0, none⟩ = some (.int .i64 a0_0) ∧ w'.cell? ⟨gb109, 1, none⟩ = some (.int .i64 a0_1) ∧ w'.cell? ⟨gb109, 2, none⟩ = some (.slice A0_2 l0_2.length c0_2) ∧ w'.cell? ⟨gb109, 3, none⟩ = some (.int .i64 a0_3) ∧ w'.cell? ⟨gb109, 4, none⟩ = some (.int .u32 a0_4)) (ds := []) #[false, false, false, false, false, false, false, false, false] (by kernel_rfl) rfl rfl ⟨(Zb BK109.out 0).trans rfl, (Zb BK109.out 1).trans rfl, (Zb BK109.out 2).trans rfl, (Zb BK109.out 3).trans rfl, (Zb BK109.out 4).trans rfl⟩ (fun hHeld => ?_); refine with_tabW Zt.tab5 Zt.bits5 (fun HT_ HW_ => ?_)
     generalize wc.drew = w21 at BK109 HB hHeld ⊢
     refine pure_ (i := 0) (N := some 35) (v := ?_) (a' := ?_) #[true, false, false, false, false, false, false, false, false] rfl rfl (Zj HT_.out (by kernel_rfl)) (fun _ _ _ h => h) (Or.inl ⟨by rfl, ?_⟩) ?_ ?_
     rotate_left
     ·intro w'
      go_simp
      with_reducible rfl
     rotate_left
     ·simp only [Act.put, List.setIfInBounds_toArray, List.set_cons_zero, List.set_cons_succ, Zg, Zf]
      rfl
     refine pure_ (i := 3) (N := some 38) (v := ?_) (a' := ?_) #[true, false, false, true, false, false, false, false, false] rfl rfl (Zj HT_.out (by kernel_rfl)) (fun _ _ _ h => h) (Or.inl ⟨by rfl, ?_⟩) ?_ ?_
     rotate_left
     ·intro w'
      go_simp
      with_reducible rfl
     rotate_left
     ·simp only [Act.put, List.setIfInBounds_toArray, List.set_cons_zero, List.set_cons_succ, Zg, Zf]
      rfl
     refine pure_ (i := 8) (N := some 43) (v := ?_) (a' := ?_) #[true, false, false, true, false, false, false, false, true] rfl rfl (Zj HT_.out (by kernel_rfl)) (fun _ _ _ h => h) (Or.inl ⟨by rfl, ?_⟩) ?_ ?_
     rotate_left
     ·intro w'
      go_simp
      with_reducible rfl
     rotate_left
     ·simp only [Act.put, List.setIfInBounds_toArray, List.set_cons_zero, List.set_cons_succ, Zg, Zf]
      rfl
     refine take_ (i := 1) (N := some 36) (v := ?_) (a' := ?_) #[true, true, false, true, false, false, false, false, true] rfl rfl (Zz HT_.out HW_.out (by kernel_rfl)) (fun _ _ _ h => h) (Or.inl ⟨by rfl, ?_⟩) hHeld ?_ ?_
     rotate_left
     ·rintro w' ⟨s0, s1, s2, s3, s4⟩
      go_simp
      with_reducible rfl
     rotate_left
     ·simp only [Act.put, List.setIfInBounds_toArray, List.set_cons_zero, List.set_cons_succ, Zg, Zf]
      rfl
     refine take_ (i := 4) (N := some 39) (v := ?_) (a' := ?_) #[true, true, false, true, true, false, false, false, true] rfl rfl (Zz HT_.out HW_.out (by kernel_rfl)) (fun _ _ _ h => h) (Or.inl ⟨by rfl, ?_⟩) hHeld ?_ ?_
     rotate_left
     ·rintro w' ⟨s0, s1, s2, s3, s4⟩
      go_simp
      with_reducible rfl
     rotate_left
     ·simp only [Act.put, List.setIfInBounds_toArray, List.set_cons_zero, List.set_cons_succ, Zg, Zf]
      rfl
     refine join_ (σ := Value × Value) 2 #[true, true, true, true, true, true, false, false, true] (fun s_ => [(37, s_.1), (40, s_.2)]) (fun s_ w' => (w'.cell? ⟨gb109, 0, none⟩ = some (.int .i64 a0_0) ∧ w'.cell? ⟨gb109, 1, none⟩ = some (.int .i64 a0_1) ∧ w'.cell? ⟨gb109, 2, none⟩ = some (.slice A0_2 l0_2.length c0_2) ∧ w'.cell? ⟨gb109, 3, none⟩ = some (.int .i64 a0_3) ∧ w'.cell? ⟨gb109, 4, none⟩ = some (.int .u32 a0_4)) ∧ (Kd.R (Kd.int .i64) 3 w' w.heap.size (fun k_ => some k_ ≠ (s_.2 : Value).ownBlock) s_.1 t111) ∧ (Kd.R (Kd.int .i64) 3 w' w.heap.size (fun k_ => some k_ ≠ (s_.1 : Value).ownBlock) s_.2 y114) ∧ (w'.heap[gb109]? = some (.cells #[.int .i64 a0_0, .int .i64 a0_1, .slice A0_2 l0_2.length c0_2, .int .i64 a0_3, .int .u32 a0_4] 25 (0, 0))) ∧ (Below w.heap.size w w')) ?_ ?_
     rotate_left
     ·intro hCont
      refine two_ (i := 2) (j := 5) (Ni := some 37) (Nj := some 40) #[true, true, true, true, true, false, false, false, true] #[true, true, false, true, true, true, false, false, true] rfl rfl rfl rfl (two_of HT_.out (by kernel_rfl)) (by decide) (by decide) (fun K hK => ?_) (fun K hK => ?_)
      ·skip
       refine goes_ Try.func17 (by kernel_rfl) rfl #[.slice A0_2 l0_2.length c0_2] (by rfl) rfl rfl (by (try simp only [List.map_toArray, List.map_cons, List.map_nil]); first | done | rfl | (simp only [List.length_drop, List.length_take]; rfl)) ?_
       with_reducible refine (Zb1.calls kj11 _ _ l0_2 t111 _ ?side1 ?side2 A19.out).mono ?_
       (case side1 => repeat (first | exact (Kd.C_below HR0_2.out HB.out) | (with_reducible refine Kd.C_alloc ?_ _) | (with_reducible refine Kd.C_drewN ?_ _) | (with_reducible refine Kd.C_drew ?_)))
       (case side2 => exact HC0_2.out)
       rintro e w22 ⟨v112, rfl, ho0, hb⟩
       refine ⟨_, rfl, ?_⟩
       (have HO113 := Za.mk (Kd.R_lower ho0 (Zk (by repeat (first | (with_reducible first | exact HB.out | apply zc1 | apply zc2 | apply zc3 | refine zc4 ?_ (by assumption)) | exact HB.out))))); (replace BK109 := Za.mk (Zi (g := gb109) (by (with_reducible repeat (first | apply zb3 | apply zb2 | apply zb1)); exact BK109.out) hb)); (replace HB := Za.mk (Zm (by repeat (first | (with_reducible first | exact HB.out | apply zc1 | apply zc2 | apply zc3 | refine zc4 ?_ (by assumption)) | exact HB.out)) hb)); ((try clear hb)); ((try clear hb2)); ((try clear hk)); ((try clear hi)); ((try clear ho0))
       refine hK.out _ _ ⟨(Zb BK109.out 0).trans rfl, (Zb BK109.out 1).trans rfl, (Zb BK109.out 2).trans rfl, (Zb BK109.out 3).trans rfl, (Zb BK109.out 4).trans rfl⟩ (fun hHeld => ?_)
       clear hK K
       refine norm_ (a' := ?_) ?_ ?_
       rotate_left
       ·show Act.put _ (some 37) _ = _
        simp only [Act.put, List.setIfInBounds_toArray, List.set_cons_zero, List.set_cons_succ, Zg, Zf]
        rfl
       refine one_ (i := 5) (N := some 40) #[true, true, true, true, true, true, false, false, true] rfl rfl (one_of HT_.out (by kernel_rfl)) (by decide) (fun K hK => ?_)
       refine Kd.R_lit_step (Kd.int .i64) _ 3 ?hg (N := 40) ?hd (xs := ([a0_3] : List Int)) (inner := [.int .i64 a0_3]) (ok := fun _ => True) (okp := fun _ => True) ?hr ?hp (fun _ hk => hk) trivial (Below.refl _ _) (Nat.le_refl _) (by simp) ?_; (case hd => rfl); (case hg => rfl); (case hr => first | (go_simp; done) | (go_simp; rfl)); (case hp => exact (Reps.one (show Kd.M (Kd.int .i64) _ _ _ a0_3 [.int .i64 a0_3] from rfl) (Reps.none _ _)))
       intro v115 w23 ho24 hb hg_ hnew_
       clear hg_ hnew_
       (first | rw [← Ny114.out] at ho24 | (simp only [Int.reduceToNat] at ho24; rw [← Ny114.out] at ho24))
       (have HO116 := Za.mk (Kd.R_lower (Kd.R_new' ho24 (Kd.R_lt (by (with_reducible repeat (first | apply Kd.R_alloc | apply Kd.R_drewN | apply Kd.R_drew)); exact HO113.out))) (Zk (by repeat (first | (with_reducible first | exact HB.out | apply zc1 | apply zc2 | apply zc3 | refine zc4 ?_ (by assumption)) | exact HB.out))))); (replace HO113 := Za.mk (Kd.R_elder' (by (with_reducible repeat (first | apply Kd.R_alloc | apply Kd.R_drewN | apply Kd.R_drew)); exact HO113.out) (Kd.R_base ho24) hb)); (replace BK109 := Za.mk (Zi (g := gb109) (by (with_reducible repeat (first | apply zb3 | apply zb2 | apply zb1)); exact BK109.out) hb)); (replace HB := Za.mk (Zm (by repeat (first | (with_reducible first | exact HB.out | apply zc1 | apply zc2 | apply zc3 | refine zc4 ?_ (by assumption)) | exact HB.out)) hb)); (clear hb ho24)
       refine hK.out _ _ ⟨(Zb BK109.out 0).trans rfl, (Zb BK109.out 1).trans rfl, (Zb BK109.out 2).trans rfl, (Zb BK109.out 3).trans rfl, (Zb BK109.out 4).trans rfl⟩ (fun hHeld => ?_)
       clear hK K
       refine norm_ (a' := ?_) ?_ ?_
       rotate_left
       ·show Act.put _ (some 40) _ = _
        simp only [Act.put, List.setIfInBounds_toArray, List.set_cons_zero, List.set_cons_succ, Zg, Zf]
        rfl
       exact norm_ (by simp only [putAll, Act.put, List.setIfInBounds_toArray, List.set_cons_zero, List.set_cons_succ]) (hCont (v112, v115) _ ⟨hHeld, (by (with_reducible repeat (first | apply Kd.R_alloc | apply Kd.R_drewN | apply Kd.R_drew)); exact Kd.R_mono HO113.out (fun _ hk => hk.2)), (by (with_reducible repeat (first | apply Kd.R_alloc | apply Kd.R_drewN | apply Kd.R_drew)); exact Kd.R_mono HO116.out (fun _ hk => hk.2)), (by (with_reducible repeat (first | apply zb3 | apply zb2 | apply zb1)); exact BK109.out), (by repeat (first | (with_reducible first | exact HB.out | apply zc1 | apply zc2 | apply zc3 | refine zc4 ?_ (by assumption)) | exact HB.out))⟩)
      skip
      refine Kd.R_lit_step (Kd.int .i64) _ 3 ?hg (N := 40) ?hd (xs := ([a0_3] : List Int)) (inner := [.int .i64 a0_3]) (ok := fun _ => True) (okp := fun _ => True) ?hr ?hp (fun _ hk => hk) trivial (Below.refl _ _) (Nat.le_refl _) (by simp) ?_; (case hd => rfl); (case hg => rfl); (case hr => first | (go_simp; done) | (go_simp; rfl)); (case hp => exact (Reps.one (show Kd.M (Kd.int .i64) _ _ _ a0_3 [.int .i64 a0_3] from rfl) (Reps.none _ _)))
      intro v115 w22 ho23 hb hg_ hnew_
      clear hg_ hnew_
      (first | rw [← Ny114.out] at ho23 | (simp only [Int.reduceToNat] at ho23; rw [← Ny114.out] at ho23))
      (have HO116 := Za.mk (Kd.R_lower ho23 (Zk (by repeat (first | (with_reducible first | exact HB.out | apply zc1 | apply zc2 | apply zc3 | refine zc4 ?_ (by assumption)) | exact HB.out))))); (replace BK109 := Za.mk (Zi (g := gb109) (by (with_reducible repeat (first | apply zb3 | apply zb2 | apply zb1)); exact BK109.out) hb)); (replace HB := Za.mk (Zm (by repeat (first | (with_reducible first | exact HB.out | apply zc1 | apply zc2 | apply zc3 | refine zc4 ?_ (by assumption)) | exact HB.out)) hb)); (clear hb ho23)
      refine hK.out _ _ ⟨(Zb BK109.out 0).trans rfl, (Zb BK109.out 1).trans rfl, (Zb BK109.out 2).trans rfl, (Zb BK109.out 3).trans rfl, (Zb BK109.out 4).trans rfl⟩ (fun hHeld => ?_)
      clear hK K
      refine norm_ (a' := ?_) ?_ ?_
      rotate_left
      ·show Act.put _ (some 40) _ = _
       simp only [Act.put, List.setIfInBounds_toArray, List.set_cons_zero, List.set_cons_succ, Zg, Zf]
       rfl
      refine one_ (i := 2) (N := some 37) #[true, true, true, true, true, true, false, false, true] rfl rfl (one_of HT_.out (by kernel_rfl)) (by decide) (fun K hK => ?_)
      refine goes_ Try.func17 (by kernel_rfl) rfl #[.slice A0_2 l0_2.length c0_2] (by rfl) rfl rfl (by (try simp only [List.map_toArray, List.map_cons, List.map_nil]); first | done | rfl | (simp only [List.length_drop, List.length_take]; rfl)) ?_
      with_reducible refine (Zb1.calls kj11 _ _ l0_2 t111 _ ?side1 ?side2 A19.out).mono ?_
      (case side1 => repeat (first | exact (Kd.C_below HR0_2.out HB.out) | (with_reducible refine Kd.C_alloc ?_ _) | (with_reducible refine Kd.C_drewN ?_ _) | (with_reducible refine Kd.C_drew ?_)))
      (case side2 => exact HC0_2.out)
      rintro e w24 ⟨v112, rfl, ho0, hb⟩
      refine ⟨_, rfl, ?_⟩
      (have HO113 := Za.mk (Kd.R_lower (Kd.R_new' ho0 (Kd.R_lt (by (with_reducible repeat (first | apply Kd.R_alloc | apply Kd.R_drewN | apply Kd.R_drew)); exact HO116.out))) (Zk (by repeat (first | (with_reducible first | exact HB.out | apply zc1 | apply zc2 | apply zc3 | refine zc4 ?_ (by assumption)) | exact HB.out))))); (replace HO116 := Za.mk (Kd.R_elder' (by (with_reducible repeat (first | apply Kd.R_alloc | apply Kd.R_drewN | apply Kd.R_drew)); exact HO116.out) (Kd.R_base ho0) hb)); (replace BK109 := Za.mk (Zi (g := gb109) (by (with_reducible repeat (first | apply zb3 | apply zb2 | apply zb1)); exact BK109.out) hb)); (replace HB := Za.mk (Zm (by repeat (first | (with_reducible first | exact HB.out | apply zc1 | apply zc2 | apply zc3 | refine zc4 ?_ (by assumption)) | exact HB.out)) hb)); ((try clear hb)); ((try clear hb2)); ((try clear hk)); ((try clear hi)); ((try clear ho0))
      refine hK.out _ _ ⟨(Zb BK109.out 0).trans rfl, (Zb BK109.out 1).trans rfl, (Zb BK109.out 2).trans rfl, (Zb BK109.out 3).trans rfl, (Zb BK109.out 4).trans rfl⟩ (fun hHeld => ?_)
      clear hK K
      refine norm_ (a' := ?_) ?_ ?_
      rotate_left
      ·show Act.put _ (some 37) _ = _
       simp only [Act.put, List.setIfInBounds_toArray, List.set_cons_zero, List.set_cons_succ, Zg, Zf]
       rfl
      exact norm_ (by simp only [putAll, Act.put, List.setIfInBounds_toArray, List.set_cons_zero, List.set_cons_succ]) (hCont (v112, v115) _ ⟨hHeld, (by (with_reducible repeat (first | apply Kd.R_alloc | apply Kd.R_drewN | apply Kd.R_drew)); exact Kd.R_mono HO113.out (fun _ hk => hk.2)), (by (with_reducible repeat (first | apply Kd.R_alloc | apply Kd.R_drewN | apply Kd.R_drew)); exact Kd.R_mono HO116.out (fun _ hk => hk.2)), (by (with_reducible repeat (first | apply zb3 | apply zb2 | apply zb1)); exact BK109.out), (by repeat (first | (with_reducible first | exact HB.out | apply zc1 | apply zc2 | apply zc3 | refine zc4 ?_ (by assumption)) | exact HB.out))⟩)
     rintro ⟨v112, v115⟩ w25 ⟨hS_, h0_, h1_, h2_, h3_⟩
     (have n0_ : Za (Kd.R (Kd.int .i64) 3 w25 w.heap.size (fun k_ => some k_ ≠ (v115 : Value).ownBlock) v112 t111) := ⟨h0_⟩); (have n1_ : Za (Kd.R (Kd.int .i64) 3 w25 w.heap.size (fun k_ => some k_ ≠ (v112 : Value).ownBlock) v115 y114) := ⟨h1_⟩); (have n2_ : Za (w25.heap[gb109]? = some (.cells #[.int .i64 a0_0, .int .i64 a0_1, .slice A0_2 l0_2.length c0_2, .int .i64 a0_3, .int .u32 a0_4] 25 (0, 0))) := ⟨h2_⟩); (have n3_ : Za (Below w.heap.size w w25) := ⟨h3_⟩); (clear BK109); (clear HB); (clear h0_ h1_ h2_ h3_); (have HO113 := n0_); (have HO116 := n1_); (have BK109 := n2_); (have HB := n3_); (clear n0_ n1_ n2_ n3_); (have hHeld : w25.cell? ⟨gb109, 0, none⟩ = some (.int .i64 a0_0) ∧ w25.cell? ⟨gb109, 1, none⟩ = some (.int .i64 a0_1) ∧ w25.cell? ⟨gb109, 2, none⟩ = some (.slice A0_2 l0_2.length c0_2) ∧ w25.cell? ⟨gb109, 3, none⟩ = some (.int .i64 a0_3) ∧ w25.cell? ⟨gb109, 4, none⟩ = some (.int .u32 a0_4) := hS_); (obtain ⟨Ao27, co27, eo27⟩ := Kd.R_slice HO116.out)
     (first | subst eo27 | (injection eo27 with f1_ f2_ f3_; have f4_ := f1_.symm; have f5_ := f3_.symm; clear f1_ f2_ f3_; subst f4_; subst f5_))
     refine norm_ (a' := ?_) ?_ ?_
     rotate_left
     ·simp only [putAll, Act.put, List.setIfInBounds_toArray, List.set_cons_zero, List.set_cons_succ]
      rfl
     refine one_ (i := 6) (N := some 41) #[true, true, true, true, true, true, true, false, true] rfl rfl (one_of HT_.out (by kernel_rfl)) (by decide) (fun K hK => ?_)
     refine Kd.R_append_rows_step (Kd.int .i64) (w0 := w) w.heap.size (by rfl) (.tmp 37) (.tmp 40) 26 3 (.int .i64 0) 8 rfl Try.underlying26 info3 rfl (by decide) (by omega) v112 t111 y114 _ _ _ (fun k_ => some k_ ≠ (.slice Ao27 y114.length co27 : Value).ownBlock) (fun _ => False) rfl rfl ?aO ?aR (fun _ _ h => h) (fun _ h => h.elim) ?aF ?aB ?aS ?aL ?_
     (case aR => repeat (first | exact (Kd.R_reads' HO116.out).2.2 | (with_reducible refine Kd.C_alloc ?_ _) | (with_reducible refine Kd.C_drewN ?_ _) | (with_reducible refine Kd.C_drew ?_)))
     (case aB => exact (by repeat (first | (with_reducible first | exact HB.out | apply zc1 | apply zc2 | apply zc3 | refine zc4 ?_ (by assumption)) | exact HB.out)))
     (case aF => exact (fun k_ hk => Kd.fresh' (Kd.R_lt (by (with_reducible repeat (first | apply Kd.R_alloc | apply Kd.R_drewN | apply Kd.R_drew)); exact HO116.out)) k_ hk))
     (case aO => exact (by (with_reducible repeat (first | apply Kd.R_alloc | apply Kd.R_drewN | apply Kd.R_drew)); exact HO113.out))
     (case aS => exact (Zk (by repeat (first | (with_reducible first | exact HB.out | apply zc1 | apply zc2 | apply zc3 | refine zc4 ?_ (by assumption)) | exact HB.out))))
     (case aL => have := LMc20.out; omega)
     intro v118 w26 ho hb hg hat
     (rw [← Ny117.out] at ho); (replace BK109 := Za.mk (Zf1 (g := gb109) (by (with_reducible repeat (first | apply zb3 | apply zb2 | apply zb1)); exact BK109.out) hg (Kd.R_ne HO113.out BK109.out (by decide)))); (replace HO116 := Za.mk (Kd.R_after (ok := (fun _ => True)) (by (with_reducible repeat (first | apply Kd.R_alloc | apply Kd.R_drewN | apply Kd.R_drew)); exact Kd.R_mono HO116.out (fun _ hk => ⟨trivial, hk⟩)) hg hat)); (replace HB := Za.mk (hb)); (have HO119 := Za.mk (ho)); (clear HO113); (clear ho hb hg hat); (obtain ⟨Ao28, co28, eo28⟩ := Kd.R_slice HO119.out)
     (first | subst eo28 | (injection eo28 with f1_ f2_ f3_; have f4_ := f1_.symm; have f5_ := f3_.symm; clear f1_ f2_ f3_; subst f4_; subst f5_))
     refine hK.out _ _ ⟨(Zb BK109.out 0).trans rfl, (Zb BK109.out 1).trans rfl, (Zb BK109.out 2).trans rfl, (Zb BK109.out 3).trans rfl, (Zb BK109.out 4).trans rfl⟩ (fun hHeld => ?_)
     clear hK K
     refine norm_ (a' := ?_) ?_ ?_
     rotate_left
     ·show Act.put _ (some 41) _ = _
      simp only [Act.put, List.setIfInBounds_toArray, List.set_cons_zero, List.set_cons_succ, Zg, Zf]
      rfl
     refine pure_ (i := 7) (N := some 42) (v := ?_) (a' := ?_) #[true, true, true, true, true, true, true, true, true] rfl rfl (Zj HT_.out (by kernel_rfl)) (fun _ _ _ h => h) (Or.inl ⟨by rfl, ?_⟩) ?_ ?_
     rotate_left
     ·intro w'
      go_simp
      with_reducible rfl
     rotate_left
     ·simp only [Act.put, List.setIfInBounds_toArray, List.set_cons_zero, List.set_cons_succ, Zg, Zf]
      rfl
     refine done_ (done_of HT_.out (by kernel_rfl)) ?_
     try go_wp2
     go_loopg [43] kj11 (fun kq v43 w' => ∃ (x43_3 : Int), v43 = .int .i64 x43_3 ∧ Za (Zt.l0 kq y117 (y117.length : Int) x43_3 a0_0 a0_1 l0_2 a0_3 a0_4 = some r) ∧ Za (kq ≤ kj11) ∧ Za (Kd.R (Kd.int .i64) 3 w' w.heap.size (fun _ => True) (.slice Ao28 y117.length co28) y117) ∧ Za (w'.heap[gb109]? = some (.cells #[.int .i64 a0_0, .int .i64 a0_1, (.slice A0_2 l0_2.length c0_2), .int .i64 a0_3, .int .u32 a0_4] 25 (0, 0))) ∧ Za (Below w.heap.size w w'))
     case atStart => exact ⟨(0), (by first | rfl | (simp; done) | (simp [*]; done)), H', ⟨Nat.le_refl _⟩, ⟨by (with_reducible repeat (first | apply Kd.R_alloc | apply Kd.R_drewN | apply Kd.R_drew)); exact Kd.R_mono HO119.out (fun _ hk => trivial)⟩, ⟨by (with_reducible repeat (first | apply zb3 | apply zb2 | apply zb1)); exact BK109.out⟩, ⟨by repeat (first | (with_reducible first | exact HB.out | apply zc1 | apply zc2 | apply zc3 | refine zc4 ?_ (by assumption)) | exact HB.out)⟩⟩
     case round =>
      (clear H'); (try clear c1); (try clear c2); (try clear p2); (try clear c4); (try clear c4b0); (try clear c6); (try clear c6b0); (try clear c8); (try clear c8b0); (try clear c11); (try clear c13); (try clear c13b0); (try clear c13b1); (try clear c17); (try clear c18); (try clear c20); (try clear hcz10_0 hcz10_1 hcz10_2 hcz10_3 hcz10_4 hcz15_0 hcz15_1 hcz15_2 hcz15_3 hcz15_4 hcz17_0 hcz17_1 hcz17_2 hcz17_3 hcz17_4 hcz5_0 hcz5_1 hcz5_2 hcz5_3 hcz5_4 hcz7_0 hcz7_1 hcz7_2 hcz7_3 hcz7_4 hcz9_0 hcz9_1 hcz9_2 hcz9_3 hcz9_4 hfz10_0 hfz10_1 hfz10_2 hfz10_3 hfz10_4 hfz15_0 hfz15_1 hfz15_2 hfz15_3 hfz15_4 hfz17_0 hfz17_1 hfz17_2 hfz17_3 hfz17_4 hfz5_0 hfz5_1 hfz5_2 hfz5_3 hfz5_4 hfz7_0 hfz7_1 hfz7_2 hfz7_3 hfz7_4 hfz9_0 hfz9_1 hfz9_2 hfz9_3 hfz9_4); (try clear p2); (obtain ⟨x43_3, rfl, HA, HK3, HO_41, BK109, HB⟩ := hrel)
      cases gk with
      | zero => exact absurd HA.out (by simp [Zt.l0])
      | succ k3 =>
       (have H := HA.out); (clear HA); (simp only [Zt.l0] at H)
       by_cases c29 : x43_3 < (y117.length : Int)
       rotate_left
       ·rw [if_neg c29] at H
        (have c29b0 : decide (x43_3 < (y117.length : Int)) = false := decide_eq_false c29); (clear c29)
        by_cases c36 : 0 ≤ a0_0
        rotate_left
        ·rw [if_neg c36] at H
         exact absurd H (by simp)
        (rw [if_pos c36] at H); (have c36b0 := eq_true c36); (have c36b1 : decide (0 ≤ a0_0) = true := decide_eq_true c36); (clear c36); (obtain ⟨ji37, hji37⟩ : ∃ j_ : Int, (shr .u32 a0_4 a0_0) = j_ := ⟨_, rfl⟩); (replace H : (if (ji37) = 0 then (some 0) else (some 4)) = some r := by first | (rw [hji37] at H; exact H) | (simp only [hji37] at H ⊢; exact H)); (have hji37_ : (a0_4 / 2 ^ min a0_0.toNat 32) = ji37 := hji37); (have hji37z : a0_0 ≤ 32 → (a0_4 / 2 ^ a0_0.toNat) = ji37 := shr_small hji37)
        by_cases c38 : (ji37) = 0
        rotate_left
        ·rw [if_neg c38] at H
         (have c38b0 : ((ji37) == 0) = false := beq_eq_false_iff_ne.mpr c38); (have c38b1 : ((ji37) != 0) = true := bne_iff_ne.mpr c38); (obtain rfl := Option.some.inj H); (have hcz40_0 : wr.cell? ⟨gb109, 0, none⟩ = some (.int .i64 a0_0) := (Zb BK109.out 0).trans rfl); (have hcz40_1 : wr.cell? ⟨gb109, 1, none⟩ = some (.int .i64 a0_1) := (Zb BK109.out 1).trans rfl); (have hcz40_2 : wr.cell? ⟨gb109, 2, none⟩ = some (.slice A0_2 l0_2.length c0_2) := (Zb BK109.out 2).trans rfl); (have hcz40_3 : wr.cell? ⟨gb109, 3, none⟩ = some (.int .i64 a0_3) := (Zb BK109.out 3).trans rfl); (have hcz40_4 : wr.cell? ⟨gb109, 4, none⟩ = some (.int .u32 a0_4) := (Zb BK109.out 4).trans rfl); (have hfz40_0 := Zc BK109.out 0); (have hfz40_1 := Zc BK109.out 1); (have hfz40_2 := Zc BK109.out 2); (have hfz40_3 := Zc BK109.out 3); (have hfz40_4 := Zc BK109.out 4)
         go_wp2
         go_ret
         exact ⟨by first | rfl | (simp [Zv, Zw] <;> rfl) | (simp only [← hji37]; first | rfl | (simp [Zv, Zw] <;> rfl)) | (simp [*, Zv, Zw] <;> rfl), by repeat (first | (with_reducible first | exact HB.out | apply zc1 | apply zc2 | apply zc3 | refine zc4 ?_ (by assumption)) | exact HB.out)⟩
        (rw [if_pos c38] at H); (have c38b0 : ((ji37) == 0) = true := beq_iff_eq.mpr c38); (have c38b1 : ((ji37) != 0) = false := bne_eq_false_iff_eq.mpr c38); (clear c38); (obtain rfl := Option.some.inj H); (have hcz39_0 : wr.cell? ⟨gb109, 0, none⟩ = some (.int .i64 a0_0) := (Zb BK109.out 0).trans rfl); (have hcz39_1 : wr.cell? ⟨gb109, 1, none⟩ = some (.int .i64 a0_1) := (Zb BK109.out 1).trans rfl); (have hcz39_2 : wr.cell? ⟨gb109, 2, none⟩ = some (.slice A0_2 l0_2.length c0_2) := (Zb BK109.out 2).trans rfl); (have hcz39_3 : wr.cell? ⟨gb109, 3, none⟩ = some (.int .i64 a0_3) := (Zb BK109.out 3).trans rfl); (have hcz39_4 : wr.cell? ⟨gb109, 4, none⟩ = some (.int .u32 a0_4) := (Zb BK109.out 4).trans rfl); (have hfz39_0 := Zc BK109.out 0); (have hfz39_1 := Zc BK109.out 1); (have hfz39_2 := Zc BK109.out 2); (have hfz39_3 := Zc BK109.out 3); (have hfz39_4 := Zc BK109.out 4)
        go_wp2
        go_ret
        exact ⟨by first | rfl | (simp [Zv, Zw] <;> rfl) | (simp only [← hji37]; first | rfl | (simp [Zv, Zw] <;> rfl)) | (simp [*, Zv, Zw] <;> rfl), by repeat (first | (with_reducible first | exact HB.out | apply zc1 | apply zc2 | apply zc3 | refine zc4 ?_ (by assumption)) | exact HB.out)⟩
       (rw [if_pos c29] at H); (have c29b0 : decide (x43_3 < (y117.length : Int)) = true := decide_eq_true c29); (clear c29)
       by_cases c30 : 0 ≤ x43_3
       rotate_left
       ·rw [if_neg c30] at H
        exact absurd H (by simp)
       (rw [if_pos c30] at H); (have c30b0 : decide (0 ≤ x43_3) = true := decide_eq_true c30); (clear c30)
       by_cases c31 : x43_3 < (y117.length : Int)
       rotate_left
       ·rw [if_neg c31] at H
        exact absurd H (by simp)
       (rw [if_pos c31] at H); (have c31b0 : decide (x43_3 < (y117.length : Int)) = true := decide_eq_true c31); (clear c31)
       by_cases c32 : (rd y117 x43_3) < 0
       ·rw [if_pos c32] at H
        (have c32b0 : decide ((rd y117 x43_3) < 0) = true := decide_eq_true c32); (clear c32); (obtain rfl := Option.some.inj H); (have p120 : 0 ≤ (x43_3 : Int) := of_decide_eq_true (by assumption)); (have q120 : x43_3 < (y117.length : Int) := of_decide_eq_true (by assumption)); (obtain ⟨ad120, e120, hx120_0⟩ := Kd.at_int (Kd.R_reads' HO_41.out).2.2 x43_3 p120 q120); (cases e120); (replace p120 := eq_true p120); (replace q120 := eq_true q120)
        go_wp2
        go_ret
        exact ⟨by first | rfl | (simp [Zv, Zw] <;> rfl) | (simp [*, Zv, Zw] <;> rfl), by repeat (first | (with_reducible first | exact HB.out | apply zc1 | apply zc2 | apply zc3 | refine zc4 ?_ (by assumption)) | exact HB.out)⟩
       (rw [if_neg c32] at H); (have c32b0 : decide ((rd y117 x43_3) < 0) = false := decide_eq_false c32); (clear c32)
       by_cases c33 : (rd y117 x43_3) ≥ a0_0
       ·rw [if_pos c33] at H
        (have c33b0 : decide (a0_0 ≤ (rd y117 x43_3)) = true := decide_eq_true c33); (clear c33); (obtain rfl := Option.some.inj H); (have p120 : 0 ≤ (x43_3 : Int) := of_decide_eq_true (by assumption)); (have q120 : x43_3 < (y117.length : Int) := of_decide_eq_true (by assumption)); (obtain ⟨ad120, e120, hx120_0⟩ := Kd.at_int (Kd.R_reads' HO_41.out).2.2 x43_3 p120 q120); (cases e120); (replace p120 := eq_true p120); (replace q120 := eq_true q120); (have hcz34_0 : wr.cell? ⟨gb109, 0, none⟩ = some (.int .i64 a0_0) := (Zb BK109.out 0).trans rfl); (have hcz34_1 : wr.cell? ⟨gb109, 1, none⟩ = some (.int .i64 a0_1) := (Zb BK109.out 1).trans rfl); (have hcz34_2 : wr.cell? ⟨gb109, 2, none⟩ = some (.slice A0_2 l0_2.length c0_2) := (Zb BK109.out 2).trans rfl); (have hcz34_3 : wr.cell? ⟨gb109, 3, none⟩ = some (.int .i64 a0_3) := (Zb BK109.out 3).trans rfl); (have hcz34_4 : wr.cell? ⟨gb109, 4, none⟩ = some (.int .u32 a0_4) := (Zb BK109.out 4).trans rfl); (have hfz34_0 := Zc BK109.out 0); (have hfz34_1 := Zc BK109.out 1); (have hfz34_2 := Zc BK109.out 2); (have hfz34_3 := Zc BK109.out 3); (have hfz34_4 := Zc BK109.out 4)
        go_wp2
        go_ret
        exact ⟨by first | rfl | (simp [Zv, Zw] <;> rfl) | (simp [*, Zv, Zw] <;> rfl), by repeat (first | (with_reducible first | exact HB.out | apply zc1 | apply zc2 | apply zc3 | refine zc4 ?_ (by assumption)) | exact HB.out)⟩
       (rw [if_neg c33] at H); (have c33b0 : decide (a0_0 ≤ (rd y117 x43_3)) = false := decide_eq_false c33); (clear c33); (have H' := Za.mk H); (clear H); (have p120 : 0 ≤ (x43_3 : Int) := of_decide_eq_true (by assumption)); (have q120 : x43_3 < (y117.length : Int) := of_decide_eq_true (by assumption)); (obtain ⟨ad120, e120, hx120_0⟩ := Kd.at_int (Kd.R_reads' HO_41.out).2.2 x43_3 p120 q120); (cases e120); (replace p120 := eq_true p120); (replace q120 := eq_true q120); (have hcz35_0 : wr.cell? ⟨gb109, 0, none⟩ = some (.int .i64 a0_0) := (Zb BK109.out 0).trans rfl); (have hcz35_1 : wr.cell? ⟨gb109, 1, none⟩ = some (.int .i64 a0_1) := (Zb BK109.out 1).trans rfl); (have hcz35_2 : wr.cell? ⟨gb109, 2, none⟩ = some (.slice A0_2 l0_2.length c0_2) := (Zb BK109.out 2).trans rfl); (have hcz35_3 : wr.cell? ⟨gb109, 3, none⟩ = some (.int .i64 a0_3) := (Zb BK109.out 3).trans rfl); (have hcz35_4 : wr.cell? ⟨gb109, 4, none⟩ = some (.int .u32 a0_4) := (Zb BK109.out 4).trans rfl); (have hfz35_0 := Zc BK109.out 0); (have hfz35_1 := Zc BK109.out 1); (have hfz35_2 := Zc BK109.out 2); (have hfz35_3 := Zc BK109.out 3); (have hfz35_4 := Zc BK109.out 4)
       go_wp2
       go_roundg k3
       case measure => have := HJ1.out; have := HJ11.out; have := HK3.out; omega
       case rel => exact ⟨(wrap64 (x43_3 + 1)), (by first | rfl | (simp; done) | (simp [*]; done)), H', ⟨by have := HJ1.out; have := HJ11.out; have := HK3.out; omega⟩, ⟨by (with_reducible repeat (first | apply Kd.R_alloc | apply Kd.R_drewN | apply Kd.R_drew)); exact HO_41.out⟩, ⟨by (with_reducible repeat (first | apply zb3 | apply zb2 | apply zb1)); exact BK109.out⟩, ⟨by repeat (first | (with_reducible first | exact HB.out | apply zc1 | apply zc2 | apply zc3 | refine zc4 ?_ (by assumption)) | exact HB.out)⟩⟩
end Go.Proofs.Ytdoenjnjpenboaa.PLeastAparts
