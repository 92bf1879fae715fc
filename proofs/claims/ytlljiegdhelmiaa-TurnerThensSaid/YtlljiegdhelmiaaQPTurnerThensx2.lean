-- Printed by a turn of a template of the kit, and shortened: remarks and what nothing here uses are left out.
import Derived.Test.YtlljiegdhelmiaaQPTurnerThensx0
import Derived.Test.YtlljiegdhelmiaaQPTurnerThensx1
namespace Go.Proofs.Ytlljiegdhelmiaa.PTurnerThens
open Go.RowKit Go.Proofs.YtlljiegdhelmiaaW.PrintWords Go.Proofs.YtlljiegdhelmiaaW.PrintLast Go.Proofs.YtlljiegdhelmiaaW.PrintMore
attribute [local go_sem] max2_int min2_int max_two min_two max_three min_three max_four min_four
set_option linter.unusedVariables false
set_option linter.unusedSimpArgs false
mutual
def Zp.j0 : Nat → Bool → Int → Int → Int → List (List Int) → List (List (List Int)) → Int → Option (Int)
  | 0, _, _, _, _, _, _, _ => none
  | k + 1, x32, x118000, x118001, x118002, x118003, x118004, x118005 => if x32 = true then (some 1) else (if (x118003.length : Int) = x118000 then (Zp.j1 k ((x118004.length : Int) != x118000) x118000 x118001 x118002 x118003 x118004 x118005) else (Zp.j1 k true x118000 x118001 x118002 x118003 x118004 x118005))
def Zp.j1 : Nat → Bool → Int → Int → Int → List (List Int) → List (List (List Int)) → Int → Option (Int)
  | 0, _, _, _, _, _, _, _ => none
  | k + 1, x46, x118000, x118001, x118002, x118003, x118004, x118005 => if x46 = true then (some 3) else (Zp.l0 k x118000 0 x118000 x118001 x118002 x118003 x118004 x118005)
def Zp.l0 : Nat → Int → Int → Int → Int → Int → List (List Int) → List (List (List Int)) → Int → Option (Int)
  | 0, _, _, _, _, _, _, _, _ => none
  | k + 1, x48, x49, x118000, x118001, x118002, x118003, x118004, x118005 => if x49 < x48 then (if 0 ≤ x49 then (if x49 < (x118003.length : Int) then (if ((Zj x118003 x49).length : Int) = x118001 then (if x49 < (x118004.length : Int) then (if ((Zm x118004 x49).length : Int) = x118001 then (Zp.l0 k x48 (wrap64 (x49 + 1)) x118000 x118001 x118002 x118003 x118004 x118005) else (some 3)) else (none)) else (some 3)) else (none)) else (none)) else ((Za1.f k x118004).bind fun t120 => ((turner_Check_1_any.f t120).bind fun t123 => (if t123 = true then (some 1) else ((Zz.f k x118003).bind fun t124 => ((some (([x118005] : List Int) : List Int)).bind fun y127 => (if t124.length + y127.length < 17592186044416 then ((some (t124 ++ y127 : List Int)).bind fun y130 => (Zp.l1 k t120 y130 (y130.length : Int) 0 x118000 x118001 x118002 x118003 x118004 x118005)) else (none)))))))
def Zp.l1 : Nat → List (List Int) → List Int → Int → Int → Int → Int → Int → List (List Int) → List (List (List Int)) → Int → Option (Int)
  | 0, _, _, _, _, _, _, _, _, _, _ => none
  | k + 1, x4, x84, x85, x86, x118000, x118001, x118002, x118003, x118004, x118005 => if x86 < x85 then (if 0 ≤ x86 then (if x86 < (x84.length : Int) then (if (rd x84 x86) < 0 then (some 2) else (if (rd x84 x86) ≥ x118000 then (some 2) else (Zp.l1 k x4 x84 x85 (wrap64 (x86 + 1)) x118000 x118001 x118002 x118003 x118004 x118005))) else (none)) else (none)) else ((Zz.f k x4).bind fun t134 => (Zp.l2 k t134 (t134.length : Int) 0 x118000 x118001 x118002 x118003 x118004 x118005))
def Zp.l2 : Nat → List Int → Int → Int → Int → Int → Int → List (List Int) → List (List (List Int)) → Int → Option (Int)
  | 0, _, _, _, _, _, _, _, _, _ => none
  | k + 1, x100, x101, x102, x118000, x118001, x118002, x118003, x118004, x118005 => if x102 < x101 then (if 0 ≤ x102 then (if x102 < (x100.length : Int) then (if (rd x100 x102) < 0 then (some 2) else (if (rd x100 x102) ≥ x118002 then (some 2) else (Zp.l2 k x100 x101 (wrap64 (x102 + 1)) x118000 x118001 x118002 x118003 x118004 x118005))) else (none)) else (none)) else (some 0)
end
def Zp.f (k : Nat) (a0_0 : Int) (a0_1 : Int) (a0_2 : Int) (l0_3 : List (List Int)) (l0_4 : List (List (List Int))) (a0_5 : Int) : Option (Int) := if a0_0 < 1 then (Zp.j0 k true a0_0 a0_1 a0_2 l0_3 l0_4 a0_5) else (if a0_0 > 7 then (Zp.j0 k true a0_0 a0_1 a0_2 l0_3 l0_4 a0_5) else (if (mn a0_1 a0_2) < 1 then (Zp.j0 k true a0_0 a0_1 a0_2 l0_3 l0_4 a0_5) else (Zp.j0 k (decide ((mx a0_1 a0_2) > 3)) a0_0 a0_1 a0_2 l0_3 l0_4 a0_5)))
theorem Zp.mono_l : ∀ k, (∀ y0 y1 y2 y3 y4 y5 y6, LeO (Zp.j0 k y0 y1 y2 y3 y4 y5 y6) (Zp.j0 (k + 1) y0 y1 y2 y3 y4 y5 y6)) ∧ (∀ y0 y1 y2 y3 y4 y5 y6, LeO (Zp.j1 k y0 y1 y2 y3 y4 y5 y6) (Zp.j1 (k + 1) y0 y1 y2 y3 y4 y5 y6)) ∧ (∀ y0 y1 y2 y3 y4 y5 y6 y7, LeO (Zp.l0 k y0 y1 y2 y3 y4 y5 y6 y7) (Zp.l0 (k + 1) y0 y1 y2 y3 y4 y5 y6 y7)) ∧ (∀ y0 y1 y2 y3 y4 y5 y6 y7 y8 y9, LeO (Zp.l1 k y0 y1 y2 y3 y4 y5 y6 y7 y8 y9) (Zp.l1 (k + 1) y0 y1 y2 y3 y4 y5 y6 y7 y8 y9)) ∧ (∀ y0 y1 y2 y3 y4 y5 y6 y7 y8, LeO (Zp.l2 k y0 y1 y2 y3 y4 y5 y6 y7 y8) (Zp.l2 (k + 1) y0 y1 y2 y3 y4 y5 y6 y7 y8))
  | 0 => ⟨fun _ _ _ _ _ _ _ r h => by simp [Zp.j0] at h, fun _ _ _ _ _ _ _ r h => by simp [Zp.j1] at h, fun _ _ _ _ _ _ _ _ r h => by simp [Zp.l0] at h, fun _ _ _ _ _ _ _ _ _ _ r h => by simp [Zp.l1] at h, fun _ _ _ _ _ _ _ _ _ r h => by simp [Zp.l2] at h⟩
  | k + 1 => by
    obtain ⟨ih0, ih1, ih2, ih3, ih4⟩ := Zp.mono_l k
    refine ⟨?_, ?_, ?_, ?_, ?_⟩
    · intro y0 y1 y2 y3 y4 y5 y6
      unfold Zp.j0
      repeat' first
      | (with_reducible exact ih0 _ _ _ _ _ _ _)
      | (with_reducible exact ih1 _ _ _ _ _ _ _)
      | (with_reducible exact ih2 _ _ _ _ _ _ _ _)
      | (with_reducible exact ih3 _ _ _ _ _ _ _ _ _ _)
      | (with_reducible exact ih4 _ _ _ _ _ _ _ _ _)
      | (with_reducible exact Za1.mono _ _)
      | (with_reducible exact Zz.mono _ _)
      | (with_reducible exact LeO.refl _)
      | (with_reducible exact LeO.none _)
      | (with_reducible refine LeO.ite ?_ ?_)
      | (with_reducible refine LeO.bind ?_ (fun _ => ?_))
      | exact ih0 _ _ _ _ _ _ _
      | exact ih1 _ _ _ _ _ _ _
      | exact ih2 _ _ _ _ _ _ _ _
      | exact ih3 _ _ _ _ _ _ _ _ _ _
      | exact ih4 _ _ _ _ _ _ _ _ _
      | exact Za1.mono _ _
      | exact Zz.mono _ _
      | exact LeO.none _
      | refine LeO.ite ?_ ?_
      | refine LeO.bind ?_ (fun _ => ?_)
    · intro y0 y1 y2 y3 y4 y5 y6
      unfold Zp.j1
      repeat' first
      | (with_reducible exact ih0 _ _ _ _ _ _ _)
      | (with_reducible exact ih1 _ _ _ _ _ _ _)
      | (with_reducible exact ih2 _ _ _ _ _ _ _ _)
      | (with_reducible exact ih3 _ _ _ _ _ _ _ _ _ _)
      | (with_reducible exact ih4 _ _ _ _ _ _ _ _ _)
      | (with_reducible exact Za1.mono _ _)
      | (with_reducible exact Zz.mono _ _)
      | (with_reducible exact LeO.refl _)
      | (with_reducible exact LeO.none _)
      | (with_reducible refine LeO.ite ?_ ?_)
      | (with_reducible refine LeO.bind ?_ (fun _ => ?_))
      | exact ih0 _ _ _ _ _ _ _
      | exact ih1 _ _ _ _ _ _ _
      | exact ih2 _ _ _ _ _ _ _ _
      | exact ih3 _ _ _ _ _ _ _ _ _ _
      | exact ih4 _ _ _ _ _ _ _ _ _
      | exact Za1.mono _ _
      | exact Zz.mono _ _
      | exact LeO.none _
      | refine LeO.ite ?_ ?_
      | refine LeO.bind ?_ (fun _ => ?_)
    · intro y0 y1 y2 y3 y4 y5 y6 y7
      unfold Zp.l0
      repeat' first
      | (with_reducible exact ih0 _ _ _ _ _ _ _)
      | (with_reducible exact ih1 _ _ _ _ _ _ _)
      | (with_reducible exact ih2 _ _ _ _ _ _ _ _)
      | (with_reducible exact ih3 _ _ _ _ _ _ _ _ _ _)
      | (with_reducible exact ih4 _ _ _ _ _ _ _ _ _)
      | (with_reducible exact Za1.mono _ _)
      | (with_reducible exact Zz.mono _ _)
      | (with_reducible exact LeO.refl _)
      | (with_reducible exact LeO.none _)
      | (with_reducible refine LeO.ite ?_ ?_)
      | (with_reducible refine LeO.bind ?_ (fun _ => ?_))
      | exact ih0 _ _ _ _ _ _ _
      | exact ih1 _ _ _ _ _ _ _
      | exact ih2 _ _ _ _ _ _ _ _
      | exact ih3 _ _ _ _ _ _ _ _ _ _
      | exact ih4 _ _ _ _ _ _ _ _ _
      | exact Za1.mono _ _
      | exact Zz.mono _ _
      | exact LeO.none _
      | refine LeO.ite ?_ ?_
      | refine LeO.bind ?_ (fun _ => ?_)
    · intro y0 y1 y2 y3 y4 y5 y6 y7 y8 y9
      unfold Zp.l1
      repeat' first
      | (with_reducible exact ih0 _ _ _ _ _ _ _)
      | (with_reducible exact ih1 _ _ _ _ _ _ _)
      | (with_reducible exact ih2 _ _ _ _ _ _ _ _)
      | (with_reducible exact ih3 _ _ _ _ _ _ _ _ _ _)
      | (with_reducible exact ih4 _ _ _ _ _ _ _ _ _)
      | (with_reducible exact Za1.mono _ _)
      | (with_reducible exact Zz.mono _ _)
      | (with_reducible exact LeO.refl _)
      | (with_reducible exact LeO.none _)
      | (with_reducible refine LeO.ite ?_ ?_)
      | (with_reducible refine LeO.bind ?_ (fun _ => ?_))
      | exact ih0 _ _ _ _ _ _ _
      | exact ih1 _ _ _ _ _ _ _
      | exact ih2 _ _ _ _ _ _ _ _
      | exact ih3 _ _ _ _ _ _ _ _ _ _
      | exact ih4 _ _ _ _ _ _ _ _ _
      | exact Za1.mono _ _
      | exact Zz.mono _ _
      | exact LeO.none _
      | refine LeO.ite ?_ ?_
      | refine LeO.bind ?_ (fun _ => ?_)
    · intro y0 y1 y2 y3 y4 y5 y6 y7 y8
      unfold Zp.l2
      repeat' first
      | (with_reducible exact ih0 _ _ _ _ _ _ _)
      | (with_reducible exact ih1 _ _ _ _ _ _ _)
      | (with_reducible exact ih2 _ _ _ _ _ _ _ _)
      | (with_reducible exact ih3 _ _ _ _ _ _ _ _ _ _)
      | (with_reducible exact ih4 _ _ _ _ _ _ _ _ _)
      | (with_reducible exact Za1.mono _ _)
      | (with_reducible exact Zz.mono _ _)
      | (with_reducible exact LeO.refl _)
      | (with_reducible exact LeO.none _)
      | (with_reducible refine LeO.ite ?_ ?_)
      | (with_reducible refine LeO.bind ?_ (fun _ => ?_))
      | exact ih0 _ _ _ _ _ _ _
      | exact ih1 _ _ _ _ _ _ _
      | exact ih2 _ _ _ _ _ _ _ _
      | exact ih3 _ _ _ _ _ _ _ _ _ _
      | exact ih4 _ _ _ _ _ _ _ _ _
      | exact Za1.mono _ _
      | exact Zz.mono _ _
      | exact LeO.none _
      | refine LeO.ite ?_ ?_
      | refine LeO.bind ?_ (fun _ => ?_)
theorem Zp.mono : ∀ a0 a1 a2 a3 a4 a5 k, LeO (Zp.f k a0 a1 a2 a3 a4 a5) (Zp.f (k + 1) a0 a1 a2 a3 a4 a5) := by
  intro a0 a1 a2 a3 a4 a5 k
  obtain ⟨ih0, ih1, ih2, ih3, ih4⟩ := Zp.mono_l k
  unfold Zp.f
  repeat' first
      | (with_reducible exact ih0 _ _ _ _ _ _ _)
      | (with_reducible exact ih1 _ _ _ _ _ _ _)
      | (with_reducible exact ih2 _ _ _ _ _ _ _ _)
      | (with_reducible exact ih3 _ _ _ _ _ _ _ _ _ _)
      | (with_reducible exact ih4 _ _ _ _ _ _ _ _ _)
      | (with_reducible exact Za1.mono _ _)
      | (with_reducible exact Zz.mono _ _)
      | (with_reducible exact LeO.refl _)
      | (with_reducible exact LeO.none _)
      | (with_reducible refine LeO.ite ?_ ?_)
      | (with_reducible refine LeO.bind ?_ (fun _ => ?_))
      | exact ih0 _ _ _ _ _ _ _
      | exact ih1 _ _ _ _ _ _ _
      | exact ih2 _ _ _ _ _ _ _ _
      | exact ih3 _ _ _ _ _ _ _ _ _ _
      | exact ih4 _ _ _ _ _ _ _ _ _
      | exact Za1.mono _ _
      | exact Zz.mono _ _
      | exact LeO.none _
      | refine LeO.ite ?_ ?_
      | refine LeO.bind ?_ (fun _ => ?_)
def Zp.T8 : Bool × List (List Nat × List Nat) := (true, [([], []), ([0], [0]), ([], []), ([1, 2], [1, 2]), ([3], [3]), ([4], [4]), ([], []), ([6], [6]), ([5, 7], [5, 7]), ([8], [8]), ([9], [9]), ([10, 9], [9, 10]), ([9], [9]), ([11, 12, 9], [9, 11, 12]), ([13, 9], [9, 13]), ([14, 9], [9, 14]), ([9], [9]), ([16, 9], [9, 16]), ([15, 17, 9], [9, 15, 17]), ([9, 18], [9, 18])])
def Zp.B8 : List Nat := [0, 1, 0, 7, 15, 31, 0, 64, 255, 511, 1023, 2047, 1023, 8191, 16383, 32767, 1023, 66559, 262143, 524287]
theorem Zp.tab8 : rtab .any (opsOf Try.f8 8) = Zp.T8 := by kernel_rfl
theorem Zp.bits8 : waitsOk Zp.T8.2 Zp.B8 = true := by kernel_rfl
def Zp.T14 : Bool × List (List Nat × List Nat) := (true, [([], []), ([0], [0]), ([1], [1]), ([], []), ([3], [3]), ([4], [4]), ([2, 5, 2], [2, 5]), ([6], [6]), ([], [])])
def Zp.B14 : List Nat := [0, 1, 3, 0, 8, 24, 63, 127, 0]
theorem Zp.tab14 : rtab .any (opsOf Try.f8 14) = Zp.T14 := by kernel_rfl
theorem Zp.bits14 : waitsOk Zp.T14.2 Zp.B14 = true := by kernel_rfl
set_option maxHeartbeats 8000000 in
set_option maxRecDepth 100000 in
theorem Zp.calls (k : Nat) (a0_0 : Int) (a0_1 : Int) (a0_2 : Int) (A0_3 : Option Addr) (c0_3 : Nat) (l0_3 : List (List Int)) (A0_4 : Option Addr) (c0_4 : Nat) (l0_4 : List (List (List Int))) (a0_5 : Int) (r : Int) (w : World) (hr0_3 : Kd.C (Kd.slice 3 (Kd.int .i64)) w A0_3 l0_3.length l0_3) (hc0_3 : l0_3.length ≤ c0_3) (hr0_4 : Kd.C (Kd.slice 33 (Kd.slice 3 (Kd.int .i64))) w A0_4 l0_4.length l0_4) (hc0_4 : l0_4.length ≤ c0_4) (h : Zp.f k a0_0 a0_1 a0_2 l0_3 l0_4 a0_5 = some r) :
    Calls Try.prog 8 #[.agg #[.int .i64 a0_0, .int .i64 a0_1, .int .i64 a0_2, .slice A0_3 l0_3.length c0_3, .slice A0_4 l0_4.length c0_4, .int .i64 a0_5]] w fun e w' => e = .returned (.int .i64 r) ∧ Below w.heap.size w w' := by
 (have hu25 := Try.underlying25); (have HR0_3 := Za.mk hr0_3); (have HC0_3 := Za.mk hc0_3); (clear hr0_3 hc0_3); (have HR0_4 := Za.mk hr0_4); (have HC0_4 := Za.mk hc0_4); (clear hr0_4 hc0_4); (have HB := Za.mk (Below.refl w.heap.size w)); (have H : (if a0_0 < 1 then (Zp.j0 k true a0_0 a0_1 a0_2 l0_3 l0_4 a0_5) else (if a0_0 > 7 then (Zp.j0 k true a0_0 a0_1 a0_2 l0_3 l0_4 a0_5) else (if (mn a0_1 a0_2) < 1 then (Zp.j0 k true a0_0 a0_1 a0_2 l0_3 l0_4 a0_5) else (Zp.j0 k (decide ((mx a0_1 a0_2) > 3)) a0_0 a0_1 a0_2 l0_3 l0_4 a0_5)))) = some r := h); (clear h); (have HC2 := Za.mk H); (clear H)
 go_enter Try.func8, Try.ntmps8
 go_upto_region 1 with (first | ((with_reducible refine Ze1 (N := 1) rfl ?_); (try (refine gate_guard (by rfl) ?_; dsimp only)); refine Zf1 ?hg (N := 1) ?hd (cs := #[.int .i64 a0_0, .int .i64 a0_1, .int .i64 a0_2, .slice A0_3 l0_3.length c0_3, .slice A0_4 l0_4.length c0_4, .int .i64 a0_5]) (t := 25) ?hr ?_; (case hd => rfl); (case hg => rfl); (case hr => first | (go_simp; done) | (go_simp; rfl)); intro gb117 hg w3 hbox hb; have n0_ := Za.mk (Zu (by repeat (first | (with_reducible first | exact HB.out | apply zc1 | apply zc2 | apply zc3) | exact HB.out)) hb); have n1_ := Za.mk (hbox); have n2_ := Za.mk ((by rw [hg]; exact (Zo (by repeat (first | (with_reducible first | exact HB.out | apply zc1 | apply zc2 | apply zc3) | exact HB.out))) : w.heap.size ≤ gb117)); have n3_ := Za.mk ((by rw [hg]; exact (Zo (by repeat (first | (with_reducible first | exact HB.out | apply zc1 | apply zc2 | apply zc3) | exact HB.out))) : w.heap.size ≤ gb117)); clear HB; have HB := n0_; have BK117 := n1_; have GW117 := n2_; have GE117 := n3_; clear n0_ n1_ n2_ n3_; clear hb hbox hg))
 (try simp only [Act.put, List.setIfInBounds_toArray, List.set_cons_zero, List.set_cons_succ])
 go_cut [32] (fun v32 wc => ∃ (kq : Nat) (x32_1 : Bool), v32 = .bool x32_1 ∧ Za (Zp.j0 kq x32_1 a0_0 a0_1 a0_2 l0_3 l0_4 a0_5 = some r) ∧ Za (kq ≤ k) ∧ Za (wc.heap[gb117]? = some (.cells #[.int .i64 a0_0, .int .i64 a0_1, .int .i64 a0_2, (.slice A0_3 l0_3.length c0_3), (.slice A0_4 l0_4.length c0_4), .int .i64 a0_5] 25 (0, 0))) ∧ Za (Below w.heap.size w wc))
 case first =>
  (have H := HC2.out); (clear HC2)
  by_cases c4 : a0_0 < 1
  ·rw [if_pos c4] at H
   (have c4b0 : decide (a0_0 < 1) = true := decide_eq_true c4); (clear c4)
   (first | rw [c4b0] | (simp only [Zh, Zi]; rw [c4b0]) | skip)
   (have H' := Za.mk H); (clear H); (have hcz5_0 : w3.cell? ⟨gb117, 0, none⟩ = some (.int .i64 a0_0) := (Zb BK117.out 0).trans rfl); (have hcz5_1 : w3.cell? ⟨gb117, 1, none⟩ = some (.int .i64 a0_1) := (Zb BK117.out 1).trans rfl); (have hcz5_2 : w3.cell? ⟨gb117, 2, none⟩ = some (.int .i64 a0_2) := (Zb BK117.out 2).trans rfl); (have hcz5_3 : w3.cell? ⟨gb117, 3, none⟩ = some (.slice A0_3 l0_3.length c0_3) := (Zb BK117.out 3).trans rfl); (have hcz5_4 : w3.cell? ⟨gb117, 4, none⟩ = some (.slice A0_4 l0_4.length c0_4) := (Zb BK117.out 4).trans rfl); (have hcz5_5 : w3.cell? ⟨gb117, 5, none⟩ = some (.int .i64 a0_5) := (Zb BK117.out 5).trans rfl); (have hfz5_0 := Zc BK117.out 0); (have hfz5_1 := Zc BK117.out 1); (have hfz5_2 := Zc BK117.out 2); (have hfz5_3 := Zc BK117.out 3); (have hfz5_4 := Zc BK117.out 4); (have hfz5_5 := Zc BK117.out 5)
   go_wp2
   go_meet
   case rel => exact ⟨_, (true), (by first | rfl | (simp; done) | (simp [*]; done)), H', ⟨by first | omega | exact Nat.le_refl _⟩, ⟨by (with_reducible repeat (first | apply zb3 | apply zb2 | apply zb1)); exact BK117.out⟩, ⟨by repeat (first | (with_reducible first | exact HB.out | apply zc1 | apply zc2 | apply zc3 | refine zc4 ?_ (by assumption)) | exact HB.out)⟩⟩
  (rw [if_neg c4] at H); (have c4b0 : decide (a0_0 < 1) = false := decide_eq_false c4); (clear c4)
  (first | rw [c4b0] | (simp only [Zh, Zi]; rw [c4b0]) | skip)
  by_cases c6 : a0_0 > 7
  ·rw [if_pos c6] at H
   (have c6b0 : decide (7 < a0_0) = true := decide_eq_true c6); (clear c6); (have H' := Za.mk H); (clear H); (have hcz7_0 : w3.cell? ⟨gb117, 0, none⟩ = some (.int .i64 a0_0) := (Zb BK117.out 0).trans rfl); (have hcz7_1 : w3.cell? ⟨gb117, 1, none⟩ = some (.int .i64 a0_1) := (Zb BK117.out 1).trans rfl); (have hcz7_2 : w3.cell? ⟨gb117, 2, none⟩ = some (.int .i64 a0_2) := (Zb BK117.out 2).trans rfl); (have hcz7_3 : w3.cell? ⟨gb117, 3, none⟩ = some (.slice A0_3 l0_3.length c0_3) := (Zb BK117.out 3).trans rfl); (have hcz7_4 : w3.cell? ⟨gb117, 4, none⟩ = some (.slice A0_4 l0_4.length c0_4) := (Zb BK117.out 4).trans rfl); (have hcz7_5 : w3.cell? ⟨gb117, 5, none⟩ = some (.int .i64 a0_5) := (Zb BK117.out 5).trans rfl); (have hfz7_0 := Zc BK117.out 0); (have hfz7_1 := Zc BK117.out 1); (have hfz7_2 := Zc BK117.out 2); (have hfz7_3 := Zc BK117.out 3); (have hfz7_4 := Zc BK117.out 4); (have hfz7_5 := Zc BK117.out 5)
   go_wp2
   go_meet
   case rel => exact ⟨_, (true), (by first | rfl | (simp; done) | (simp [*]; done)), H', ⟨by first | omega | exact Nat.le_refl _⟩, ⟨by (with_reducible repeat (first | apply zb3 | apply zb2 | apply zb1)); exact BK117.out⟩, ⟨by repeat (first | (with_reducible first | exact HB.out | apply zc1 | apply zc2 | apply zc3 | refine zc4 ?_ (by assumption)) | exact HB.out)⟩⟩
  (rw [if_neg c6] at H); (have c6b0 : decide (7 < a0_0) = false := decide_eq_false c6); (clear c6); (obtain ⟨ji8, hji8⟩ : ∃ j_ : Int, (mn a0_1 a0_2) = j_ := ⟨_, rfl⟩); (replace H : (if (ji8) < 1 then (Zp.j0 k true a0_0 a0_1 a0_2 l0_3 l0_4 a0_5) else (Zp.j0 k (decide ((mx a0_1 a0_2) > 3)) a0_0 a0_1 a0_2 l0_3 l0_4 a0_5)) = some r := by first | (rw [hji8] at H; exact H) | (simp only [hji8] at H ⊢; exact H)); (have hji8_ : (if a0_2 < a0_1 then a0_2 else a0_1) = ji8 := hji8)
  by_cases c9 : (ji8) < 1
  ·rw [if_pos c9] at H
   (have c9b0 : decide ((ji8) < 1) = true := decide_eq_true c9); (clear c9); (have H' := Za.mk H); (clear H); (have hcz10_0 : w3.cell? ⟨gb117, 0, none⟩ = some (.int .i64 a0_0) := (Zb BK117.out 0).trans rfl); (have hcz10_1 : w3.cell? ⟨gb117, 1, none⟩ = some (.int .i64 a0_1) := (Zb BK117.out 1).trans rfl); (have hcz10_2 : w3.cell? ⟨gb117, 2, none⟩ = some (.int .i64 a0_2) := (Zb BK117.out 2).trans rfl); (have hcz10_3 : w3.cell? ⟨gb117, 3, none⟩ = some (.slice A0_3 l0_3.length c0_3) := (Zb BK117.out 3).trans rfl); (have hcz10_4 : w3.cell? ⟨gb117, 4, none⟩ = some (.slice A0_4 l0_4.length c0_4) := (Zb BK117.out 4).trans rfl); (have hcz10_5 : w3.cell? ⟨gb117, 5, none⟩ = some (.int .i64 a0_5) := (Zb BK117.out 5).trans rfl); (have hfz10_0 := Zc BK117.out 0); (have hfz10_1 := Zc BK117.out 1); (have hfz10_2 := Zc BK117.out 2); (have hfz10_3 := Zc BK117.out 3); (have hfz10_4 := Zc BK117.out 4); (have hfz10_5 := Zc BK117.out 5)
   go_wp2
   go_meet
   case rel => exact ⟨_, (true), (by first | rfl | (simp; done) | (simp [*]; done)), H', ⟨by first | omega | exact Nat.le_refl _⟩, ⟨by (with_reducible repeat (first | apply zb3 | apply zb2 | apply zb1)); exact BK117.out⟩, ⟨by repeat (first | (with_reducible first | exact HB.out | apply zc1 | apply zc2 | apply zc3 | refine zc4 ?_ (by assumption)) | exact HB.out)⟩⟩
  (rw [if_neg c9] at H); (have c9b0 : decide ((ji8) < 1) = false := decide_eq_false c9); (clear c9); (obtain ⟨ji11, hji11⟩ : ∃ j_ : Int, (mx a0_1 a0_2) = j_ := ⟨_, rfl⟩); (replace H : (Zp.j0 k (decide ((ji11) > 3)) a0_0 a0_1 a0_2 l0_3 l0_4 a0_5) = some r := by first | (rw [hji11] at H; exact H) | (simp only [hji11] at H ⊢; exact H)); (have hji11_ : (if a0_1 < a0_2 then a0_2 else a0_1) = ji11 := hji11); (have H' := Za.mk H); (clear H); (have hcz12_0 : w3.cell? ⟨gb117, 0, none⟩ = some (.int .i64 a0_0) := (Zb BK117.out 0).trans rfl); (have hcz12_1 : w3.cell? ⟨gb117, 1, none⟩ = some (.int .i64 a0_1) := (Zb BK117.out 1).trans rfl); (have hcz12_2 : w3.cell? ⟨gb117, 2, none⟩ = some (.int .i64 a0_2) := (Zb BK117.out 2).trans rfl); (have hcz12_3 : w3.cell? ⟨gb117, 3, none⟩ = some (.slice A0_3 l0_3.length c0_3) := (Zb BK117.out 3).trans rfl); (have hcz12_4 : w3.cell? ⟨gb117, 4, none⟩ = some (.slice A0_4 l0_4.length c0_4) := (Zb BK117.out 4).trans rfl); (have hcz12_5 : w3.cell? ⟨gb117, 5, none⟩ = some (.int .i64 a0_5) := (Zb BK117.out 5).trans rfl); (have hfz12_0 := Zc BK117.out 0); (have hfz12_1 := Zc BK117.out 1); (have hfz12_2 := Zc BK117.out 2); (have hfz12_3 := Zc BK117.out 3); (have hfz12_4 := Zc BK117.out 4); (have hfz12_5 := Zc BK117.out 5)
  go_wp2
  go_meet
  case rel => exact ⟨_, (decide ((ji11) > 3)), (by first | rfl | (simp; done) | (simp only [← hji11] <;> (first | rfl | simp)) | (simp [*]; done)), H', ⟨by first | omega | exact Nat.le_refl _⟩, ⟨by (with_reducible repeat (first | apply zb3 | apply zb2 | apply zb1)); exact BK117.out⟩, ⟨by repeat (first | (with_reducible first | exact HB.out | apply zc1 | apply zc2 | apply zc3 | refine zc4 ?_ (by assumption)) | exact HB.out)⟩⟩
 case rest =>
  (clear HC2); (try clear p2); (try clear c4); (try clear c4b0); (try clear c6); (try clear c6b0); (try clear c8); (try clear c9); (try clear c9b0); (try clear hcz10_0 hcz10_1 hcz10_2 hcz10_3 hcz10_4 hcz10_5 hcz12_0 hcz12_1 hcz12_2 hcz12_3 hcz12_4 hcz12_5 hcz5_0 hcz5_1 hcz5_2 hcz5_3 hcz5_4 hcz5_5 hcz7_0 hcz7_1 hcz7_2 hcz7_3 hcz7_4 hcz7_5 hfz10_0 hfz10_1 hfz10_2 hfz10_3 hfz10_4 hfz10_5 hfz12_0 hfz12_1 hfz12_2 hfz12_3 hfz12_4 hfz12_5 hfz5_0 hfz5_1 hfz5_2 hfz5_3 hfz5_4 hfz5_5 hfz7_0 hfz7_1 hfz7_2 hfz7_3 hfz7_4 hfz7_5); (obtain ⟨kq, x32_1, rfl, HA, HJ1, BK117, HB⟩ := hcut)
  cases kq with
  | zero => exact absurd HA.out (by simp [Zp.j0])
  | succ kj1 =>
   (have H := HA.out); (clear HA); (simp only [Zp.j0] at H)
   by_cases c13 : x32_1 = true
   ·subst c13
    (have H1 : (some 1) = some r := by rw [if_pos rfl] at H; exact H); (clear H); (have H := H1); (clear H1); (obtain rfl := Option.some.inj H)
    go_wp2
    go_ret
    exact ⟨by first | rfl | (simp [Zx, Zw] <;> rfl) | (simp [*, Zx, Zw] <;> rfl), by repeat (first | (with_reducible first | exact HB.out | apply zc1 | apply zc2 | apply zc3 | refine zc4 ?_ (by assumption)) | exact HB.out)⟩
   (replace c13 := Bool.eq_false_iff.mpr c13); (subst c13); (have H1 : (if (l0_3.length : Int) = a0_0 then (Zp.j1 kj1 ((l0_4.length : Int) != a0_0) a0_0 a0_1 a0_2 l0_3 l0_4 a0_5) else (Zp.j1 kj1 true a0_0 a0_1 a0_2 l0_3 l0_4 a0_5)) = some r := by rw [if_neg (show ¬ (false = true) by decide)] at H; exact H); (clear H); (have H := H1); (clear H1); (have HC14 := Za.mk H); (clear H)
   go_upto_region 3 with (fail)
   go_cut [46] (fun v46 wc => ∃ (kq : Nat) (x46_13 : Bool), v46 = .bool x46_13 ∧ Za (Zp.j1 kq x46_13 a0_0 a0_1 a0_2 l0_3 l0_4 a0_5 = some r) ∧ Za (kq ≤ kj1) ∧ Za (wc.heap[gb117]? = some (.cells #[.int .i64 a0_0, .int .i64 a0_1, .int .i64 a0_2, (.slice A0_3 l0_3.length c0_3), (.slice A0_4 l0_4.length c0_4), .int .i64 a0_5] 25 (0, 0))) ∧ Za (Below w.heap.size w wc))
   case first =>
    (have H := HC14.out); (clear HC14)
    by_cases c15 : (l0_3.length : Int) = a0_0
    rotate_left
    ·rw [if_neg c15] at H
     (have c15b0 : ((l0_3.length : Int) == a0_0) = false := beq_eq_false_iff_ne.mpr c15); (have c15b1 : ((l0_3.length : Int) != a0_0) = true := bne_iff_ne.mpr c15)
     (first | rw [c15b0] | (simp only [Zh, Zi]; rw [c15b0]) | skip)
     (have H' := Za.mk H); (clear H); (have hcz17_0 : wc.cell? ⟨gb117, 0, none⟩ = some (.int .i64 a0_0) := (Zb BK117.out 0).trans rfl); (have hcz17_1 : wc.cell? ⟨gb117, 1, none⟩ = some (.int .i64 a0_1) := (Zb BK117.out 1).trans rfl); (have hcz17_2 : wc.cell? ⟨gb117, 2, none⟩ = some (.int .i64 a0_2) := (Zb BK117.out 2).trans rfl); (have hcz17_3 : wc.cell? ⟨gb117, 3, none⟩ = some (.slice A0_3 l0_3.length c0_3) := (Zb BK117.out 3).trans rfl); (have hcz17_4 : wc.cell? ⟨gb117, 4, none⟩ = some (.slice A0_4 l0_4.length c0_4) := (Zb BK117.out 4).trans rfl); (have hcz17_5 : wc.cell? ⟨gb117, 5, none⟩ = some (.int .i64 a0_5) := (Zb BK117.out 5).trans rfl); (have hfz17_0 := Zc BK117.out 0); (have hfz17_1 := Zc BK117.out 1); (have hfz17_2 := Zc BK117.out 2); (have hfz17_3 := Zc BK117.out 3); (have hfz17_4 := Zc BK117.out 4); (have hfz17_5 := Zc BK117.out 5)
     go_wp2
     go_meet
     case rel => exact ⟨_, (true), (by first | rfl | (simp; done) | (simp [*]; done)), H', ⟨by have := HJ1.out; first | omega | exact Nat.le_refl _⟩, ⟨by (with_reducible repeat (first | apply zb3 | apply zb2 | apply zb1)); exact BK117.out⟩, ⟨by repeat (first | (with_reducible first | exact HB.out | apply zc1 | apply zc2 | apply zc3 | refine zc4 ?_ (by assumption)) | exact HB.out)⟩⟩
    (rw [if_pos c15] at H); (have c15b0 : ((l0_3.length : Int) == a0_0) = true := beq_iff_eq.mpr c15); (have c15b1 : ((l0_3.length : Int) != a0_0) = false := bne_eq_false_iff_eq.mpr c15); (clear c15)
    (first | rw [c15b0] | (simp only [Zh, Zi]; rw [c15b0]) | skip)
    (have H' := Za.mk H); (clear H); (have hcz16_0 : wc.cell? ⟨gb117, 0, none⟩ = some (.int .i64 a0_0) := (Zb BK117.out 0).trans rfl); (have hcz16_1 : wc.cell? ⟨gb117, 1, none⟩ = some (.int .i64 a0_1) := (Zb BK117.out 1).trans rfl); (have hcz16_2 : wc.cell? ⟨gb117, 2, none⟩ = some (.int .i64 a0_2) := (Zb BK117.out 2).trans rfl); (have hcz16_3 : wc.cell? ⟨gb117, 3, none⟩ = some (.slice A0_3 l0_3.length c0_3) := (Zb BK117.out 3).trans rfl); (have hcz16_4 : wc.cell? ⟨gb117, 4, none⟩ = some (.slice A0_4 l0_4.length c0_4) := (Zb BK117.out 4).trans rfl); (have hcz16_5 : wc.cell? ⟨gb117, 5, none⟩ = some (.int .i64 a0_5) := (Zb BK117.out 5).trans rfl); (have hfz16_0 := Zc BK117.out 0); (have hfz16_1 := Zc BK117.out 1); (have hfz16_2 := Zc BK117.out 2); (have hfz16_3 := Zc BK117.out 3); (have hfz16_4 := Zc BK117.out 4); (have hfz16_5 := Zc BK117.out 5)
    go_wp2
    go_meet
    case rel => exact ⟨_, (((l0_4.length : Int) != a0_0)), (by first | rfl | (simp; done) | (simp [*]; done)), H', ⟨by have := HJ1.out; first | omega | exact Nat.le_refl _⟩, ⟨by (with_reducible repeat (first | apply zb3 | apply zb2 | apply zb1)); exact BK117.out⟩, ⟨by repeat (first | (with_reducible first | exact HB.out | apply zc1 | apply zc2 | apply zc3 | refine zc4 ?_ (by assumption)) | exact HB.out)⟩⟩
   case rest =>
    (clear HC14); (try clear c1); (try clear p2); (try clear c4); (try clear c4b0); (try clear c6); (try clear c6b0); (try clear c8); (try clear c9); (try clear c9b0); (try clear c13); (try clear c15); (try clear c15b0); (try clear c15b1); (try clear hcz10_0 hcz10_1 hcz10_2 hcz10_3 hcz10_4 hcz10_5 hcz12_0 hcz12_1 hcz12_2 hcz12_3 hcz12_4 hcz12_5 hcz16_0 hcz16_1 hcz16_2 hcz16_3 hcz16_4 hcz16_5 hcz17_0 hcz17_1 hcz17_2 hcz17_3 hcz17_4 hcz17_5 hcz5_0 hcz5_1 hcz5_2 hcz5_3 hcz5_4 hcz5_5 hcz7_0 hcz7_1 hcz7_2 hcz7_3 hcz7_4 hcz7_5 hfz10_0 hfz10_1 hfz10_2 hfz10_3 hfz10_4 hfz10_5 hfz12_0 hfz12_1 hfz12_2 hfz12_3 hfz12_4 hfz12_5 hfz16_0 hfz16_1 hfz16_2 hfz16_3 hfz16_4 hfz16_5 hfz17_0 hfz17_1 hfz17_2 hfz17_3 hfz17_4 hfz17_5 hfz5_0 hfz5_1 hfz5_2 hfz5_3 hfz5_4 hfz5_5 hfz7_0 hfz7_1 hfz7_2 hfz7_3 hfz7_4 hfz7_5); (try clear p2); (obtain ⟨kq, x46_13, rfl, HA, HJ13, BK117, HB⟩ := hcut)
    cases kq with
    | zero => exact absurd HA.out (by simp [Zp.j1])
    | succ kj13 =>
     (have H := HA.out); (clear HA); (simp only [Zp.j1] at H)
     by_cases c18 : x46_13 = true
     ·subst c18
      (have H1 : (some 3) = some r := by rw [if_pos rfl] at H; exact H); (clear H); (have H := H1); (clear H1); (obtain rfl := Option.some.inj H)
      go_wp2
      go_ret
      exact ⟨by first | rfl | (simp [Zx, Zw] <;> rfl) | (simp [*, Zx, Zw] <;> rfl), by repeat (first | (with_reducible first | exact HB.out | apply zc1 | apply zc2 | apply zc3 | refine zc4 ?_ (by assumption)) | exact HB.out)⟩
     (replace c18 := Bool.eq_false_iff.mpr c18); (subst c18); (have H1 : (Zp.l0 kj13 a0_0 0 a0_0 a0_1 a0_2 l0_3 l0_4 a0_5) = some r := by rw [if_neg (show ¬ (false = true) by decide)] at H; exact H); (clear H); (have H := H1); (clear H1); (have H' := Za.mk H); (clear H); (have hcz19_0 : wc.cell? ⟨gb117, 0, none⟩ = some (.int .i64 a0_0) := (Zb BK117.out 0).trans rfl); (have hcz19_1 : wc.cell? ⟨gb117, 1, none⟩ = some (.int .i64 a0_1) := (Zb BK117.out 1).trans rfl); (have hcz19_2 : wc.cell? ⟨gb117, 2, none⟩ = some (.int .i64 a0_2) := (Zb BK117.out 2).trans rfl); (have hcz19_3 : wc.cell? ⟨gb117, 3, none⟩ = some (.slice A0_3 l0_3.length c0_3) := (Zb BK117.out 3).trans rfl); (have hcz19_4 : wc.cell? ⟨gb117, 4, none⟩ = some (.slice A0_4 l0_4.length c0_4) := (Zb BK117.out 4).trans rfl); (have hcz19_5 : wc.cell? ⟨gb117, 5, none⟩ = some (.int .i64 a0_5) := (Zb BK117.out 5).trans rfl); (have hfz19_0 := Zc BK117.out 0); (have hfz19_1 := Zc BK117.out 1); (have hfz19_2 := Zc BK117.out 2); (have hfz19_3 := Zc BK117.out 3); (have hfz19_4 := Zc BK117.out 4); (have hfz19_5 := Zc BK117.out 5)
     go_wp2
     go_loopg [49] kj13 (fun kq v49 w' => ∃ (x49_3 : Int), v49 = .int .i64 x49_3 ∧ Za (Zp.l0 kq a0_0 x49_3 a0_0 a0_1 a0_2 l0_3 l0_4 a0_5 = some r) ∧ Za (kq ≤ kj13) ∧ Za (w'.heap[gb117]? = some (.cells #[.int .i64 a0_0, .int .i64 a0_1, .int .i64 a0_2, (.slice A0_3 l0_3.length c0_3), (.slice A0_4 l0_4.length c0_4), .int .i64 a0_5] 25 (0, 0))) ∧ Za (Below w.heap.size w w'))
     case atStart => exact ⟨(0), (by first | rfl | (simp; done) | (simp [*]; done)), H', ⟨Nat.le_refl _⟩, ⟨by (with_reducible repeat (first | apply zb3 | apply zb2 | apply zb1)); exact BK117.out⟩, ⟨by repeat (first | (with_reducible first | exact HB.out | apply zc1 | apply zc2 | apply zc3 | refine zc4 ?_ (by assumption)) | exact HB.out)⟩⟩
     case round =>
      (clear H'); (try clear c1); (try clear p2); (try clear c4); (try clear c4b0); (try clear c6); (try clear c6b0); (try clear c8); (try clear c9); (try clear c9b0); (try clear c13); (try clear c15); (try clear c15b0); (try clear c15b1); (try clear c18); (try clear hcz10_0 hcz10_1 hcz10_2 hcz10_3 hcz10_4 hcz10_5 hcz12_0 hcz12_1 hcz12_2 hcz12_3 hcz12_4 hcz12_5 hcz16_0 hcz16_1 hcz16_2 hcz16_3 hcz16_4 hcz16_5 hcz17_0 hcz17_1 hcz17_2 hcz17_3 hcz17_4 hcz17_5 hcz19_0 hcz19_1 hcz19_2 hcz19_3 hcz19_4 hcz19_5 hcz5_0 hcz5_1 hcz5_2 hcz5_3 hcz5_4 hcz5_5 hcz7_0 hcz7_1 hcz7_2 hcz7_3 hcz7_4 hcz7_5 hfz10_0 hfz10_1 hfz10_2 hfz10_3 hfz10_4 hfz10_5 hfz12_0 hfz12_1 hfz12_2 hfz12_3 hfz12_4 hfz12_5 hfz16_0 hfz16_1 hfz16_2 hfz16_3 hfz16_4 hfz16_5 hfz17_0 hfz17_1 hfz17_2 hfz17_3 hfz17_4 hfz17_5 hfz19_0 hfz19_1 hfz19_2 hfz19_3 hfz19_4 hfz19_5 hfz5_0 hfz5_1 hfz5_2 hfz5_3 hfz5_4 hfz5_5 hfz7_0 hfz7_1 hfz7_2 hfz7_3 hfz7_4 hfz7_5); (try clear p2); (obtain ⟨x49_3, rfl, HA, HK3, BK117, HB⟩ := hrel)
      cases gk with
      | zero => exact absurd HA.out (by simp [Zp.l0])
      | succ k3 =>
       (have H := HA.out); (clear HA); (simp only [Zp.l0] at H)
       by_cases c20 : x49_3 < a0_0
       rotate_left
       ·rw [if_neg c20] at H
        (have c20b0 : decide (x49_3 < a0_0) = false := decide_eq_false c20); (clear c20); (replace H := Option.bind_eq_some_iff.mp H); (obtain ⟨t120, A290, H⟩ := H); (replace H : ((turner_Check_1_any.f t120).bind fun t123 => (if t123 = true then (some 1) else ((Zz.f k3 l0_3).bind fun t124 => ((some (([a0_5] : List Int) : List Int)).bind fun y127 => (if t124.length + y127.length < 17592186044416 then ((some (t124 ++ y127 : List Int)).bind fun y130 => (Zp.l1 k3 t120 y130 (y130.length : Int) 0 a0_0 a0_1 a0_2 l0_3 l0_4 a0_5)) else (none)))))) = some r := H); (have A29 := Za.mk A290); (clear A290); (replace H := Option.bind_eq_some_iff.mp H); (obtain ⟨t123, A300, H⟩ := H); (replace H : (if t123 = true then (some 1) else ((Zz.f k3 l0_3).bind fun t124 => ((some (([a0_5] : List Int) : List Int)).bind fun y127 => (if t124.length + y127.length < 17592186044416 then ((some (t124 ++ y127 : List Int)).bind fun y130 => (Zp.l1 k3 t120 y130 (y130.length : Int) 0 a0_0 a0_1 a0_2 l0_3 l0_4 a0_5)) else (none))))) = some r := H); (have A30 := Za.mk A300); (clear A300)
        by_cases c31 : t123 = true
        ·subst c31
         (have H1 : (some 1) = some r := by rw [if_pos rfl] at H; exact H); (clear H); (have H := H1); (clear H1); (obtain rfl := Option.some.inj H); (have hcz32_0 : wr.cell? ⟨gb117, 0, none⟩ = some (.int .i64 a0_0) := (Zb BK117.out 0).trans rfl); (have hcz32_1 : wr.cell? ⟨gb117, 1, none⟩ = some (.int .i64 a0_1) := (Zb BK117.out 1).trans rfl); (have hcz32_2 : wr.cell? ⟨gb117, 2, none⟩ = some (.int .i64 a0_2) := (Zb BK117.out 2).trans rfl); (have hcz32_3 : wr.cell? ⟨gb117, 3, none⟩ = some (.slice A0_3 l0_3.length c0_3) := (Zb BK117.out 3).trans rfl); (have hcz32_4 : wr.cell? ⟨gb117, 4, none⟩ = some (.slice A0_4 l0_4.length c0_4) := (Zb BK117.out 4).trans rfl); (have hcz32_5 : wr.cell? ⟨gb117, 5, none⟩ = some (.int .i64 a0_5) := (Zb BK117.out 5).trans rfl); (have hfz32_0 := Zc BK117.out 0); (have hfz32_1 := Zc BK117.out 1); (have hfz32_2 := Zc BK117.out 2); (have hfz32_3 := Zc BK117.out 3); (have hfz32_4 := Zc BK117.out 4); (have hfz32_5 := Zc BK117.out 5)
         go_wp2_with (first | ((with_reducible refine gate_callee (f := 12) rfl ?_); refine goesL_ (some 75) rfl rfl Try.func12 (by kernel_rfl) rfl #[.slice A0_4 l0_4.length c0_4] rfl (by (try simp only [List.map_toArray, List.map_cons, List.map_nil]); first | done | rfl | (simp only [List.length_drop, List.length_take]; rfl)) ?_; (with_reducible refine (Za1.calls k3 (fun k_ => k_ < w.heap.size) _ _ l0_4 t120 _ ?side1 A29.out).mono ?_); (case side1 => exact Kd.V_mk HC0_4.out (Kd.F_below (Kd.C_F (Kd.heap_slice 33 (Kd.heap_slice 3 (Kd.heap_int .i64))) HR0_4.out) (by repeat (first | (with_reducible first | exact HB.out | apply zc1 | apply zc2 | apply zc3 | refine zc4 ?_ (by assumption)) | exact HB.out)))); rintro e w33 ⟨v121, rfl, ho0, hb⟩; refine ⟨_, rfl, ?_⟩; have HO122 := Za.mk (Kd.N_lower (Kd.N_mono (ok' := fun k_ => k_ ≠ gb117) ho0 (fun k_ hk_ => Or.elim hk_ (fun hs_ => fun e_ => Nat.not_le.2 hs_ (by rw [e_]; exact GW117.out)) (fun hn_ => (Kd.freshB (g := gb117) (o := .cells #[.int .i64 a0_0, .int .i64 a0_1, .int .i64 a0_2, .slice A0_3 l0_3.length c0_3, .slice A0_4 l0_4.length c0_4, .int .i64 a0_5] 25 (0, 0)) (by (with_reducible repeat (first | apply zb3 | apply zb2 | apply zb1)); exact BK117.out) k_ hn_)))) (Zo (by repeat (first | (with_reducible first | exact HB.out | apply zc1 | apply zc2 | apply zc3 | refine zc4 ?_ (by assumption)) | exact HB.out)))); replace BK117 := Za.mk (Zk (g := gb117) (by (with_reducible repeat (first | apply zb3 | apply zb2 | apply zb1)); exact BK117.out) hb); replace HB := Za.mk (Zu (by repeat (first | (with_reducible first | exact HB.out | apply zc1 | apply zc2 | apply zc3 | refine zc4 ?_ (by assumption)) | exact HB.out)) hb); (try clear hb); (try clear hb2); (try clear hk); (try clear hi); (try clear ho0); obtain ⟨Ao34, co34, eo34⟩ := Kd.N_slice HO122.out; subst eo34) | ((with_reducible refine gate_callee (f := 13) rfl ?_); refine goesL_ (some 77) rfl rfl Try.func13 (by kernel_rfl) rfl #[.slice Ao34 t120.length co34, .func (.func 14) #[] #[]] rfl (by (try simp only [List.map_toArray, List.map_cons, List.map_nil]); first | done | rfl | (simp only [List.length_drop, List.length_take]; rfl)) ?_; (with_reducible refine (turner_Check_1_any.calls _ _ t120 true _ ?side1 ?side2 A30.out).mono ?_); (case side1 => repeat (first | exact (Kd.N_reads' HO122.out).2.2 | (with_reducible refine Kd.C_alloc ?_ _) | (with_reducible refine Kd.C_drewN ?_ _) | (with_reducible refine Kd.C_drew ?_))); (case side2 => exact (Kd.N_reads' HO122.out).2.1); rintro e w35 ⟨rfl, hb⟩; refine ⟨_, rfl, ?_⟩; replace HO122 := Za.mk (Kd.N_below (by (with_reducible repeat (first | apply zn1 | apply zn2 | apply zn3)); exact HO122.out) hb); replace BK117 := Za.mk (Zk (g := gb117) (by (with_reducible repeat (first | apply zb3 | apply zb2 | apply zb1)); exact BK117.out) hb); replace HB := Za.mk (Zu (by repeat (first | (with_reducible first | exact HB.out | apply zc1 | apply zc2 | apply zc3 | refine zc4 ?_ (by assumption)) | exact HB.out)) hb); (try clear hb); (try clear hb2); (try clear hk); (try clear hi)))
         go_ret
         exact ⟨by first | rfl | (simp [Zx, Zw] <;> rfl) | (simp [*, Zx, Zw] <;> rfl), by repeat (first | (with_reducible first | exact HB.out | apply zc1 | apply zc2 | apply zc3 | refine zc4 ?_ (by assumption)) | exact HB.out)⟩
        (replace c31 := Bool.eq_false_iff.mpr c31); (subst c31); (have H1 : ((Zz.f k3 l0_3).bind fun t124 => ((some (([a0_5] : List Int) : List Int)).bind fun y127 => (if t124.length + y127.length < 17592186044416 then ((some (t124 ++ y127 : List Int)).bind fun y130 => (Zp.l1 k3 t120 y130 (y130.length : Int) 0 a0_0 a0_1 a0_2 l0_3 l0_4 a0_5)) else (none)))) = some r := by rw [if_neg (show ¬ (false = true) by decide)] at H; exact H); (clear H); (have H := H1); (clear H1); (replace H := Option.bind_eq_some_iff.mp H); (obtain ⟨t124, A360, H⟩ := H); (replace H : ((some (([a0_5] : List Int) : List Int)).bind fun y127 => (if t124.length + y127.length < 17592186044416 then ((some (t124 ++ y127 : List Int)).bind fun y130 => (Zp.l1 k3 t120 y130 (y130.length : Int) 0 a0_0 a0_1 a0_2 l0_3 l0_4 a0_5)) else (none))) = some r := H); (have A36 := Za.mk A360); (clear A360); (obtain ⟨y127, hy127⟩ : ∃ y_ : List Int, y_ = (([a0_5] : List Int)) := ⟨_, rfl⟩); (replace H : (if t124.length + y127.length < 17592186044416 then ((some (t124 ++ y127 : List Int)).bind fun y130 => (Zp.l1 k3 t120 y130 (y130.length : Int) 0 a0_0 a0_1 a0_2 l0_3 l0_4 a0_5)) else (none)) = some r := by first | (rw [hy127]; with_reducible exact H) | (have H2_ := (Option.bind_some _ _).symm.trans H; rw [hy127]; with_reducible exact H2_) | (have H2_ := (Option.bind_some _ _).symm.trans H; with_reducible exact H2_) | with_reducible exact H | (rw [hy127]; exact H) | exact H); (have Ny127 := Za.mk hy127); (clear hy127)
        by_cases c37 : t124.length + y127.length < 17592186044416
        rotate_left
        ·rw [if_neg c37] at H
         exact absurd H (by simp)
        (rw [if_pos c37] at H); (have LMc37 := Za.mk c37); (clear c37); (obtain ⟨y130, hy130⟩ : ∃ y_ : List Int, y_ = (t124 ++ y127) := ⟨_, rfl⟩); (replace H : (Zp.l1 k3 t120 y130 (y130.length : Int) 0 a0_0 a0_1 a0_2 l0_3 l0_4 a0_5) = some r := by first | (rw [hy130]; with_reducible exact H) | (have H2_ := (Option.bind_some _ _).symm.trans H; rw [hy130]; with_reducible exact H2_) | (have H2_ := (Option.bind_some _ _).symm.trans H; with_reducible exact H2_) | with_reducible exact H | (rw [hy130]; exact H) | exact H); (have Ny130 := Za.mk hy130); (clear hy130); (have H' := Za.mk H); (clear H); (have hcz38_0 : wr.cell? ⟨gb117, 0, none⟩ = some (.int .i64 a0_0) := (Zb BK117.out 0).trans rfl); (have hcz38_1 : wr.cell? ⟨gb117, 1, none⟩ = some (.int .i64 a0_1) := (Zb BK117.out 1).trans rfl); (have hcz38_2 : wr.cell? ⟨gb117, 2, none⟩ = some (.int .i64 a0_2) := (Zb BK117.out 2).trans rfl); (have hcz38_3 : wr.cell? ⟨gb117, 3, none⟩ = some (.slice A0_3 l0_3.length c0_3) := (Zb BK117.out 3).trans rfl); (have hcz38_4 : wr.cell? ⟨gb117, 4, none⟩ = some (.slice A0_4 l0_4.length c0_4) := (Zb BK117.out 4).trans rfl); (have hcz38_5 : wr.cell? ⟨gb117, 5, none⟩ = some (.int .i64 a0_5) := (Zb BK117.out 5).trans rfl); (have hfz38_0 := Zc BK117.out 0); (have hfz38_1 := Zc BK117.out 1); (have hfz38_2 := Zc BK117.out 2); (have hfz38_3 := Zc BK117.out 3); (have hfz38_4 := Zc BK117.out 4); (have hfz38_5 := Zc BK117.out 5)
        try go_wp2_with (first | ((with_reducible refine gate_callee (f := 12) rfl ?_); refine goesL_ (some 75) rfl rfl Try.func12 (by kernel_rfl) rfl #[.slice A0_4 l0_4.length c0_4] rfl (by (try simp only [List.map_toArray, List.map_cons, List.map_nil]); first | done | rfl | (simp only [List.length_drop, List.length_take]; rfl)) ?_; (with_reducible refine (Za1.calls k3 (fun k_ => k_ < w.heap.size) _ _ l0_4 t120 _ ?side1 A29.out).mono ?_); (case side1 => exact Kd.V_mk HC0_4.out (Kd.F_below (Kd.C_F (Kd.heap_slice 33 (Kd.heap_slice 3 (Kd.heap_int .i64))) HR0_4.out) (by repeat (first | (with_reducible first | exact HB.out | apply zc1 | apply zc2 | apply zc3 | refine zc4 ?_ (by assumption)) | exact HB.out)))); rintro e w39 ⟨v121, rfl, ho0, hb⟩; refine ⟨_, rfl, ?_⟩; have HO122 := Za.mk (Kd.N_lower (Kd.N_mono (ok' := fun k_ => k_ ≠ gb117) ho0 (fun k_ hk_ => Or.elim hk_ (fun hs_ => fun e_ => Nat.not_le.2 hs_ (by rw [e_]; exact GW117.out)) (fun hn_ => (Kd.freshB (g := gb117) (o := .cells #[.int .i64 a0_0, .int .i64 a0_1, .int .i64 a0_2, .slice A0_3 l0_3.length c0_3, .slice A0_4 l0_4.length c0_4, .int .i64 a0_5] 25 (0, 0)) (by (with_reducible repeat (first | apply zb3 | apply zb2 | apply zb1)); exact BK117.out) k_ hn_)))) (Zo (by repeat (first | (with_reducible first | exact HB.out | apply zc1 | apply zc2 | apply zc3 | refine zc4 ?_ (by assumption)) | exact HB.out)))); replace BK117 := Za.mk (Zk (g := gb117) (by (with_reducible repeat (first | apply zb3 | apply zb2 | apply zb1)); exact BK117.out) hb); replace HB := Za.mk (Zu (by repeat (first | (with_reducible first | exact HB.out | apply zc1 | apply zc2 | apply zc3 | refine zc4 ?_ (by assumption)) | exact HB.out)) hb); (try clear hb); (try clear hb2); (try clear hk); (try clear hi); (try clear ho0); obtain ⟨Ao40, co40, eo40⟩ := Kd.N_slice HO122.out; subst eo40) | ((with_reducible refine gate_callee (f := 13) rfl ?_); refine goesL_ (some 77) rfl rfl Try.func13 (by kernel_rfl) rfl #[.slice Ao40 t120.length co40, .func (.func 14) #[] #[]] rfl (by (try simp only [List.map_toArray, List.map_cons, List.map_nil]); first | done | rfl | (simp only [List.length_drop, List.length_take]; rfl)) ?_; (with_reducible refine (turner_Check_1_any.calls _ _ t120 false _ ?side1 ?side2 A30.out).mono ?_); (case side1 => repeat (first | exact (Kd.N_reads' HO122.out).2.2 | (with_reducible refine Kd.C_alloc ?_ _) | (with_reducible refine Kd.C_drewN ?_ _) | (with_reducible refine Kd.C_drew ?_))); (case side2 => exact (Kd.N_reads' HO122.out).2.1); rintro e w41 ⟨rfl, hb⟩; refine ⟨_, rfl, ?_⟩; replace HO122 := Za.mk (Kd.N_below (by (with_reducible repeat (first | apply zn1 | apply zn2 | apply zn3)); exact HO122.out) hb); replace BK117 := Za.mk (Zk (g := gb117) (by (with_reducible repeat (first | apply zb3 | apply zb2 | apply zb1)); exact BK117.out) hb); replace HB := Za.mk (Zu (by repeat (first | (with_reducible first | exact HB.out | apply zc1 | apply zc2 | apply zc3 | refine zc4 ?_ (by assumption)) | exact HB.out)) hb); (try clear hb); (try clear hb2); (try clear hk); (try clear hi)))
        (replace HO122 := Za.mk (Kd.N_drew HO122.out)); (replace BK117 := Za.mk (Zd BK117.out)); (replace HB := Za.mk (below_drew1 HB.out))
        refine start_ (n := 9) (S := fun w' => w'.cell? ⟨gb117, 0, none⟩ = some (.int .i64 a0_0) ∧ w'.cell? ⟨gb117, 1, none⟩ = some (.int .i64 a0_1) ∧ w'.cell? ⟨gb117, 2, none⟩ = some (.int .i64 a0_2) ∧ w'.cell? ⟨gb117, 3, none⟩ = some (.slice A0_3 l0_3.length c0_3) ∧ w'.cell? ⟨gb117, 4, none⟩ = some (.slice A0_4 l0_4.length c0_4) ∧ w'.cell? ⟨gb117, 5, none⟩ = some (.int .i64 a0_5)) (ds := []) #[false, false, false, false, false, false, false, false, false] (by kernel_rfl) rfl rfl ⟨(Zb BK117.out 0).trans rfl, (Zb BK117.out 1).trans rfl, (Zb BK117.out 2).trans rfl, (Zb BK117.out 3).trans rfl, (Zb BK117.out 4).trans rfl, (Zb BK117.out 5).trans rfl⟩ (fun hHeld => ?_); refine with_tabW Zp.tab14 Zp.bits14 (fun HT_ HW_ => ?_)
        generalize w41.drew = w42 at HO122 BK117 HB hHeld ⊢
        refine pure_ (i := 0) (N := some 78) (v := ?_) (a' := ?_) #[true, false, false, false, false, false, false, false, false] rfl rfl (Zq HT_.out (by kernel_rfl)) (fun _ _ _ h => h) (Or.inl ⟨by rfl, ?_⟩) ?_ ?_
        rotate_left
        ·intro w'
         go_simp
         with_reducible rfl
        rotate_left
        ·simp only [Act.put, List.setIfInBounds_toArray, List.set_cons_zero, List.set_cons_succ, Zh, Zi]
         rfl
        refine pure_ (i := 3) (N := some 81) (v := ?_) (a' := ?_) #[true, false, false, true, false, false, false, false, false] rfl rfl (Zq HT_.out (by kernel_rfl)) (fun _ _ _ h => h) (Or.inl ⟨by rfl, ?_⟩) ?_ ?_
        rotate_left
        ·intro w'
         go_simp
         with_reducible rfl
        rotate_left
        ·simp only [Act.put, List.setIfInBounds_toArray, List.set_cons_zero, List.set_cons_succ, Zh, Zi]
         rfl
        refine pure_ (i := 8) (N := some 86) (v := ?_) (a' := ?_) #[true, false, false, true, false, false, false, false, true] rfl rfl (Zq HT_.out (by kernel_rfl)) (fun _ _ _ h => h) (Or.inl ⟨by rfl, ?_⟩) ?_ ?_
        rotate_left
        ·intro w'
         go_simp
         with_reducible rfl
        rotate_left
        ·simp only [Act.put, List.setIfInBounds_toArray, List.set_cons_zero, List.set_cons_succ, Zh, Zi]
         rfl
        refine take_ (i := 1) (N := some 79) (v := ?_) (a' := ?_) #[true, true, false, true, false, false, false, false, true] rfl rfl (Zc1 HT_.out HW_.out (by kernel_rfl)) (fun _ _ _ h => h) (Or.inl ⟨by rfl, ?_⟩) hHeld ?_ ?_
        rotate_left
        ·rintro w' ⟨s0, s1, s2, s3, s4, s5⟩
         go_simp
         with_reducible rfl
        rotate_left
        ·simp only [Act.put, List.setIfInBounds_toArray, List.set_cons_zero, List.set_cons_succ, Zh, Zi]
         rfl
        refine take_ (i := 4) (N := some 82) (v := ?_) (a' := ?_) #[true, true, false, true, true, false, false, false, true] rfl rfl (Zc1 HT_.out HW_.out (by kernel_rfl)) (fun _ _ _ h => h) (Or.inl ⟨by rfl, ?_⟩) hHeld ?_ ?_
        rotate_left
        ·rintro w' ⟨s0, s1, s2, s3, s4, s5⟩
         go_simp
         with_reducible rfl
        rotate_left
        ·simp only [Act.put, List.setIfInBounds_toArray, List.set_cons_zero, List.set_cons_succ, Zh, Zi]
         rfl
        refine join_ (σ := Value × Value) 2 #[true, true, true, true, true, true, false, false, true] (fun s_ => [(80, s_.1), (83, s_.2)]) (fun s_ w' => (w'.cell? ⟨gb117, 0, none⟩ = some (.int .i64 a0_0) ∧ w'.cell? ⟨gb117, 1, none⟩ = some (.int .i64 a0_1) ∧ w'.cell? ⟨gb117, 2, none⟩ = some (.int .i64 a0_2) ∧ w'.cell? ⟨gb117, 3, none⟩ = some (.slice A0_3 l0_3.length c0_3) ∧ w'.cell? ⟨gb117, 4, none⟩ = some (.slice A0_4 l0_4.length c0_4) ∧ w'.cell? ⟨gb117, 5, none⟩ = some (.int .i64 a0_5)) ∧ (Kd.N (Kd.slice 3 (Kd.int .i64)) 33 w' w.heap.size (fun k_ => some k_ ≠ (s_.1 : Value).ownBlock ∧ some k_ ≠ (s_.2 : Value).ownBlock ∧ k_ ≠ gb117) (.slice Ao40 t120.length co40) t120) ∧ (Kd.R (Kd.int .i64) 3 w' w.heap.size (fun k_ => some k_ ≠ (s_.2 : Value).ownBlock) s_.1 t124) ∧ (Kd.R (Kd.int .i64) 3 w' w.heap.size (fun k_ => some k_ ≠ (s_.1 : Value).ownBlock) s_.2 y127) ∧ (w'.heap[gb117]? = some (.cells #[.int .i64 a0_0, .int .i64 a0_1, .int .i64 a0_2, .slice A0_3 l0_3.length c0_3, .slice A0_4 l0_4.length c0_4, .int .i64 a0_5] 25 (0, 0))) ∧ (Below w.heap.size w w')) ?_ ?_
        rotate_left
        ·intro hCont
         refine two_ (i := 2) (j := 5) (Ni := some 80) (Nj := some 83) #[true, true, true, true, true, false, false, false, true] #[true, true, false, true, true, true, false, false, true] rfl rfl rfl rfl (two_of HT_.out (by kernel_rfl)) (by decide) (by decide) (fun K hK => ?_) (fun K hK => ?_)
         ·skip
          refine goes_ Try.func15 (by kernel_rfl) rfl #[.slice A0_3 l0_3.length c0_3] (by rfl) rfl rfl (by (try simp only [List.map_toArray, List.map_cons, List.map_nil]); first | done | rfl | (simp only [List.length_drop, List.length_take]; rfl)) ?_
          with_reducible refine (Zz.calls k3 _ _ l0_3 t124 _ ?side1 ?side2 A36.out).mono ?_
          (case side1 => repeat (first | exact (Kd.C_below HR0_3.out HB.out) | (with_reducible refine Kd.C_alloc ?_ _) | (with_reducible refine Kd.C_drewN ?_ _) | (with_reducible refine Kd.C_drew ?_)))
          (case side2 => exact HC0_3.out)
          rintro e w43 ⟨v125, rfl, ho0, hb⟩
          refine ⟨_, rfl, ?_⟩
          (replace HO122 := Za.mk (Kd.N_elder' (by (with_reducible repeat (first | apply zn1 | apply zn2 | apply zn3)); exact HO122.out) (Kd.R_base ho0) hb)); (have HO126 := Za.mk (Kd.R_lower ho0 (Zo (by repeat (first | (with_reducible first | exact HB.out | apply zc1 | apply zc2 | apply zc3 | refine zc4 ?_ (by assumption)) | exact HB.out))))); (replace BK117 := Za.mk (Zk (g := gb117) (by (with_reducible repeat (first | apply zb3 | apply zb2 | apply zb1)); exact BK117.out) hb)); (replace HB := Za.mk (Zu (by repeat (first | (with_reducible first | exact HB.out | apply zc1 | apply zc2 | apply zc3 | refine zc4 ?_ (by assumption)) | exact HB.out)) hb)); ((try clear hb)); ((try clear hb2)); ((try clear hk)); ((try clear hi)); ((try clear ho0))
          refine hK.out _ _ ⟨(Zb BK117.out 0).trans rfl, (Zb BK117.out 1).trans rfl, (Zb BK117.out 2).trans rfl, (Zb BK117.out 3).trans rfl, (Zb BK117.out 4).trans rfl, (Zb BK117.out 5).trans rfl⟩ (fun hHeld => ?_)
          clear hK K
          refine norm_ (a' := ?_) ?_ ?_
          rotate_left
          ·show Act.put _ (some 80) _ = _
           simp only [Act.put, List.setIfInBounds_toArray, List.set_cons_zero, List.set_cons_succ, Zh, Zi]
           rfl
          refine one_ (i := 5) (N := some 83) #[true, true, true, true, true, true, false, false, true] rfl rfl (one_of HT_.out (by kernel_rfl)) (by decide) (fun K hK => ?_)
          refine Kd.R_lit_step (Kd.int .i64) _ 3 ?hg (N := 83) ?hd (xs := ([a0_5] : List Int)) (inner := [.int .i64 a0_5]) (ok := fun _ => True) (okp := fun _ => True) ?hr ?hp (fun _ hk => hk) trivial (Below.refl _ _) (Nat.le_refl _) (by simp) ?_; (case hd => rfl); (case hg => rfl); (case hr => first | (go_simp; done) | (go_simp; rfl)); (case hp => exact (Reps.one (show Kd.M (Kd.int .i64) _ _ _ a0_5 [.int .i64 a0_5] from rfl) (Reps.none _ _)))
          intro v128 w44 ho45 hb hg_ hnew_
          clear hg_ hnew_
          (first | rw [← Ny127.out] at ho45 | (simp only [Int.reduceToNat] at ho45; rw [← Ny127.out] at ho45))
          (replace HO122 := Za.mk (Kd.N_elder' (by (with_reducible repeat (first | apply zn1 | apply zn2 | apply zn3)); exact HO122.out) (Kd.R_base ho45) hb)); (have HO129 := Za.mk (Kd.R_lower (Kd.R_new' ho45 (Kd.R_lt (by (with_reducible repeat (first | apply Kd.R_alloc | apply Kd.R_drewN | apply Kd.R_drew)); exact HO126.out))) (Zo (by repeat (first | (with_reducible first | exact HB.out | apply zc1 | apply zc2 | apply zc3 | refine zc4 ?_ (by assumption)) | exact HB.out))))); (replace HO126 := Za.mk (Kd.R_elder' (by (with_reducible repeat (first | apply Kd.R_alloc | apply Kd.R_drewN | apply Kd.R_drew)); exact HO126.out) (Kd.R_base ho45) hb)); (replace BK117 := Za.mk (Zk (g := gb117) (by (with_reducible repeat (first | apply zb3 | apply zb2 | apply zb1)); exact BK117.out) hb)); (replace HB := Za.mk (Zu (by repeat (first | (with_reducible first | exact HB.out | apply zc1 | apply zc2 | apply zc3 | refine zc4 ?_ (by assumption)) | exact HB.out)) hb)); (clear hb ho45)
          refine hK.out _ _ ⟨(Zb BK117.out 0).trans rfl, (Zb BK117.out 1).trans rfl, (Zb BK117.out 2).trans rfl, (Zb BK117.out 3).trans rfl, (Zb BK117.out 4).trans rfl, (Zb BK117.out 5).trans rfl⟩ (fun hHeld => ?_)
          clear hK K
          refine norm_ (a' := ?_) ?_ ?_
          rotate_left
          ·show Act.put _ (some 83) _ = _
           simp only [Act.put, List.setIfInBounds_toArray, List.set_cons_zero, List.set_cons_succ, Zh, Zi]
           rfl
          exact norm_ (by simp only [putAll, Act.put, List.setIfInBounds_toArray, List.set_cons_zero, List.set_cons_succ]) (hCont (v125, v128) _ ⟨hHeld, (by (with_reducible repeat (first | apply Kd.N_alloc | apply Kd.N_drewN | apply Kd.N_drew)); exact Kd.N_mono HO122.out (fun _ hk => ⟨hk.1.2, ⟨hk.2, hk.1.1⟩⟩)), (by (with_reducible repeat (first | apply Kd.R_alloc | apply Kd.R_drewN | apply Kd.R_drew)); exact Kd.R_mono HO126.out (fun _ hk => hk.2)), (by (with_reducible repeat (first | apply Kd.R_alloc | apply Kd.R_drewN | apply Kd.R_drew)); exact Kd.R_mono HO129.out (fun _ hk => hk.2)), (by (with_reducible repeat (first | apply zb3 | apply zb2 | apply zb1)); exact BK117.out), (by repeat (first | (with_reducible first | exact HB.out | apply zc1 | apply zc2 | apply zc3 | refine zc4 ?_ (by assumption)) | exact HB.out))⟩)
         skip
         refine Kd.R_lit_step (Kd.int .i64) _ 3 ?hg (N := 83) ?hd (xs := ([a0_5] : List Int)) (inner := [.int .i64 a0_5]) (ok := fun _ => True) (okp := fun _ => True) ?hr ?hp (fun _ hk => hk) trivial (Below.refl _ _) (Nat.le_refl _) (by simp) ?_; (case hd => rfl); (case hg => rfl); (case hr => first | (go_simp; done) | (go_simp; rfl)); (case hp => exact (Reps.one (show Kd.M (Kd.int .i64) _ _ _ a0_5 [.int .i64 a0_5] from rfl) (Reps.none _ _)))
         intro v128 w43 ho44 hb hg_ hnew_
         clear hg_ hnew_
         (first | rw [← Ny127.out] at ho44 | (simp only [Int.reduceToNat] at ho44; rw [← Ny127.out] at ho44))
         (replace HO122 := Za.mk (Kd.N_elder' (by (with_reducible repeat (first | apply zn1 | apply zn2 | apply zn3)); exact HO122.out) (Kd.R_base ho44) hb)); (have HO129 := Za.mk (Kd.R_lower ho44 (Zo (by repeat (first | (with_reducible first | exact HB.out | apply zc1 | apply zc2 | apply zc3 | refine zc4 ?_ (by assumption)) | exact HB.out))))); (replace BK117 := Za.mk (Zk (g := gb117) (by (with_reducible repeat (first | apply zb3 | apply zb2 | apply zb1)); exact BK117.out) hb)); (replace HB := Za.mk (Zu (by repeat (first | (with_reducible first | exact HB.out | apply zc1 | apply zc2 | apply zc3 | refine zc4 ?_ (by assumption)) | exact HB.out)) hb)); (clear hb ho44)
         refine hK.out _ _ ⟨(Zb BK117.out 0).trans rfl, (Zb BK117.out 1).trans rfl, (Zb BK117.out 2).trans rfl, (Zb BK117.out 3).trans rfl, (Zb BK117.out 4).trans rfl, (Zb BK117.out 5).trans rfl⟩ (fun hHeld => ?_)
         clear hK K
         refine norm_ (a' := ?_) ?_ ?_
         rotate_left
         ·show Act.put _ (some 83) _ = _
          simp only [Act.put, List.setIfInBounds_toArray, List.set_cons_zero, List.set_cons_succ, Zh, Zi]
          rfl
         refine one_ (i := 2) (N := some 80) #[true, true, true, true, true, true, false, false, true] rfl rfl (one_of HT_.out (by kernel_rfl)) (by decide) (fun K hK => ?_)
         refine goes_ Try.func15 (by kernel_rfl) rfl #[.slice A0_3 l0_3.length c0_3] (by rfl) rfl rfl (by (try simp only [List.map_toArray, List.map_cons, List.map_nil]); first | done | rfl | (simp only [List.length_drop, List.length_take]; rfl)) ?_
         with_reducible refine (Zz.calls k3 _ _ l0_3 t124 _ ?side1 ?side2 A36.out).mono ?_
         (case side1 => repeat (first | exact (Kd.C_below HR0_3.out HB.out) | (with_reducible refine Kd.C_alloc ?_ _) | (with_reducible refine Kd.C_drewN ?_ _) | (with_reducible refine Kd.C_drew ?_)))
         (case side2 => exact HC0_3.out)
         rintro e w45 ⟨v125, rfl, ho0, hb⟩
         refine ⟨_, rfl, ?_⟩
         (replace HO122 := Za.mk (Kd.N_elder' (by (with_reducible repeat (first | apply zn1 | apply zn2 | apply zn3)); exact HO122.out) (Kd.R_base ho0) hb)); (have HO126 := Za.mk (Kd.R_lower (Kd.R_new' ho0 (Kd.R_lt (by (with_reducible repeat (first | apply Kd.R_alloc | apply Kd.R_drewN | apply Kd.R_drew)); exact HO129.out))) (Zo (by repeat (first | (with_reducible first | exact HB.out | apply zc1 | apply zc2 | apply zc3 | refine zc4 ?_ (by assumption)) | exact HB.out))))); (replace HO129 := Za.mk (Kd.R_elder' (by (with_reducible repeat (first | apply Kd.R_alloc | apply Kd.R_drewN | apply Kd.R_drew)); exact HO129.out) (Kd.R_base ho0) hb)); (replace BK117 := Za.mk (Zk (g := gb117) (by (with_reducible repeat (first | apply zb3 | apply zb2 | apply zb1)); exact BK117.out) hb)); (replace HB := Za.mk (Zu (by repeat (first | (with_reducible first | exact HB.out | apply zc1 | apply zc2 | apply zc3 | refine zc4 ?_ (by assumption)) | exact HB.out)) hb)); ((try clear hb)); ((try clear hb2)); ((try clear hk)); ((try clear hi)); ((try clear ho0))
         refine hK.out _ _ ⟨(Zb BK117.out 0).trans rfl, (Zb BK117.out 1).trans rfl, (Zb BK117.out 2).trans rfl, (Zb BK117.out 3).trans rfl, (Zb BK117.out 4).trans rfl, (Zb BK117.out 5).trans rfl⟩ (fun hHeld => ?_)
         clear hK K
         refine norm_ (a' := ?_) ?_ ?_
         rotate_left
         ·show Act.put _ (some 80) _ = _
          simp only [Act.put, List.setIfInBounds_toArray, List.set_cons_zero, List.set_cons_succ, Zh, Zi]
          rfl
         exact norm_ (by simp only [putAll, Act.put, List.setIfInBounds_toArray, List.set_cons_zero, List.set_cons_succ]) (hCont (v125, v128) _ ⟨hHeld, (by (with_reducible repeat (first | apply Kd.N_alloc | apply Kd.N_drewN | apply Kd.N_drew)); exact Kd.N_mono HO122.out (fun _ hk => ⟨hk.2, ⟨hk.1.2, hk.1.1⟩⟩)), (by (with_reducible repeat (first | apply Kd.R_alloc | apply Kd.R_drewN | apply Kd.R_drew)); exact Kd.R_mono HO126.out (fun _ hk => hk.2)), (by (with_reducible repeat (first | apply Kd.R_alloc | apply Kd.R_drewN | apply Kd.R_drew)); exact Kd.R_mono HO129.out (fun _ hk => hk.2)), (by (with_reducible repeat (first | apply zb3 | apply zb2 | apply zb1)); exact BK117.out), (by repeat (first | (with_reducible first | exact HB.out | apply zc1 | apply zc2 | apply zc3 | refine zc4 ?_ (by assumption)) | exact HB.out))⟩)
        rintro ⟨v125, v128⟩ w46 ⟨hS_, h0_, h1_, h2_, h3_, h4_⟩
        (have n0_ : Za (Kd.N (Kd.slice 3 (Kd.int .i64)) 33 w46 w.heap.size (fun k_ => some k_ ≠ (v125 : Value).ownBlock ∧ some k_ ≠ (v128 : Value).ownBlock ∧ k_ ≠ gb117) (.slice Ao40 t120.length co40) t120) := ⟨h0_⟩); (have n1_ : Za (Kd.R (Kd.int .i64) 3 w46 w.heap.size (fun k_ => some k_ ≠ (v128 : Value).ownBlock) v125 t124) := ⟨h1_⟩); (have n2_ : Za (Kd.R (Kd.int .i64) 3 w46 w.heap.size (fun k_ => some k_ ≠ (v125 : Value).ownBlock) v128 y127) := ⟨h2_⟩); (have n3_ : Za (w46.heap[gb117]? = some (.cells #[.int .i64 a0_0, .int .i64 a0_1, .int .i64 a0_2, .slice A0_3 l0_3.length c0_3, .slice A0_4 l0_4.length c0_4, .int .i64 a0_5] 25 (0, 0))) := ⟨h3_⟩); (have n4_ : Za (Below w.heap.size w w46) := ⟨h4_⟩); (clear HO122); (clear BK117); (clear HB); (clear h0_ h1_ h2_ h3_ h4_); (have HO122 := n0_); (have HO126 := n1_); (have HO129 := n2_); (have BK117 := n3_); (have HB := n4_); (clear n0_ n1_ n2_ n3_ n4_); (have hHeld : w46.cell? ⟨gb117, 0, none⟩ = some (.int .i64 a0_0) ∧ w46.cell? ⟨gb117, 1, none⟩ = some (.int .i64 a0_1) ∧ w46.cell? ⟨gb117, 2, none⟩ = some (.int .i64 a0_2) ∧ w46.cell? ⟨gb117, 3, none⟩ = some (.slice A0_3 l0_3.length c0_3) ∧ w46.cell? ⟨gb117, 4, none⟩ = some (.slice A0_4 l0_4.length c0_4) ∧ w46.cell? ⟨gb117, 5, none⟩ = some (.int .i64 a0_5) := hS_); (obtain ⟨Ao48, co48, eo48⟩ := Kd.R_slice HO129.out)
        (first | subst eo48 | (injection eo48 with f1_ f2_ f3_; have f4_ := f1_.symm; have f5_ := f3_.symm; clear f1_ f2_ f3_; subst f4_; subst f5_))
        refine norm_ (a' := ?_) ?_ ?_
        rotate_left
        ·simp only [putAll, Act.put, List.setIfInBounds_toArray, List.set_cons_zero, List.set_cons_succ]
         rfl
        refine one_ (i := 6) (N := some 84) #[true, true, true, true, true, true, true, false, true] rfl rfl (one_of HT_.out (by kernel_rfl)) (by decide) (fun K hK => ?_)
        refine Kd.R_append_rows_step (Kd.int .i64) (w0 := w) w.heap.size (by rfl) (.tmp 80) (.tmp 83) 33 3 (.int .i64 0) 8 rfl Try.underlying33 info3 rfl (by decide) (by omega) v125 t124 y127 _ _ _ (fun k_ => some k_ ≠ (.slice Ao48 y127.length co48 : Value).ownBlock) (fun _ => False) rfl rfl ?aO ?aR (fun _ _ h => h) (fun _ h => h.elim) ?aF ?aB ?aS ?aL ?_
        (case aR => repeat (first | exact (Kd.R_reads' HO129.out).2.2 | (with_reducible refine Kd.C_alloc ?_ _) | (with_reducible refine Kd.C_drewN ?_ _) | (with_reducible refine Kd.C_drew ?_)))
        (case aB => exact (by repeat (first | (with_reducible first | exact HB.out | apply zc1 | apply zc2 | apply zc3 | refine zc4 ?_ (by assumption)) | exact HB.out)))
        (case aF => exact (fun k_ hk => Kd.fresh' (Kd.R_lt (by (with_reducible repeat (first | apply Kd.R_alloc | apply Kd.R_drewN | apply Kd.R_drew)); exact HO129.out)) k_ hk))
        (case aO => exact (by (with_reducible repeat (first | apply Kd.R_alloc | apply Kd.R_drewN | apply Kd.R_drew)); exact HO126.out))
        (case aS => exact (Zo (by repeat (first | (with_reducible first | exact HB.out | apply zc1 | apply zc2 | apply zc3 | refine zc4 ?_ (by assumption)) | exact HB.out))))
        (case aL => have := LMc37.out; omega)
        intro v131 w47 ho hb hg hat
        (rw [← Ny130.out] at ho); (replace BK117 := Za.mk (Zb1 (g := gb117) (by (with_reducible repeat (first | apply zb3 | apply zb2 | apply zb1)); exact BK117.out) hg (Kd.R_ne HO126.out BK117.out (by decide)))); (replace HO122 := Za.mk (Kd.N_afterv (ok := (fun k_ => some k_ ≠ (.slice Ao48 y127.length co48 : Value).ownBlock ∧ k_ ≠ gb117)) (by (with_reducible repeat (first | apply Kd.N_alloc | apply Kd.N_drewN | apply Kd.N_drew)); exact Kd.N_mono HO122.out (fun _ hk => ⟨⟨hk.2.1, hk.2.2⟩, hk.1⟩)) hg hat)); (replace HO129 := Za.mk (Kd.R_after (ok := (fun _ => True)) (by (with_reducible repeat (first | apply Kd.R_alloc | apply Kd.R_drewN | apply Kd.R_drew)); exact Kd.R_mono HO129.out (fun _ hk => ⟨trivial, hk⟩)) hg hat)); (replace HB := Za.mk (hb)); (have HO132 := Za.mk (ho)); (clear HO126); (clear ho hb hg hat); (obtain ⟨Ao49, co49, eo49⟩ := Kd.R_slice HO132.out)
        (first | subst eo49 | (injection eo49 with f1_ f2_ f3_; have f4_ := f1_.symm; have f5_ := f3_.symm; clear f1_ f2_ f3_; subst f4_; subst f5_))
        refine hK.out _ _ ⟨(Zb BK117.out 0).trans rfl, (Zb BK117.out 1).trans rfl, (Zb BK117.out 2).trans rfl, (Zb BK117.out 3).trans rfl, (Zb BK117.out 4).trans rfl, (Zb BK117.out 5).trans rfl⟩ (fun hHeld => ?_)
        clear hK K
        refine norm_ (a' := ?_) ?_ ?_
        rotate_left
        ·show Act.put _ (some 84) _ = _
         simp only [Act.put, List.setIfInBounds_toArray, List.set_cons_zero, List.set_cons_succ, Zh, Zi]
         rfl
        refine pure_ (i := 7) (N := some 85) (v := ?_) (a' := ?_) #[true, true, true, true, true, true, true, true, true] rfl rfl (Zq HT_.out (by kernel_rfl)) (fun _ _ _ h => h) (Or.inl ⟨by rfl, ?_⟩) ?_ ?_
        rotate_left
        ·intro w'
         go_simp
         with_reducible rfl
        rotate_left
        ·simp only [Act.put, List.setIfInBounds_toArray, List.set_cons_zero, List.set_cons_succ, Zh, Zi]
         rfl
        refine done_ (done_of HT_.out (by kernel_rfl)) ?_
        try go_wp2
        go_loopg [86] k3 (fun kq v86 w' => ∃ (x86_4 : Int), v86 = .int .i64 x86_4 ∧ Za (Zp.l1 kq t120 y130 (y130.length : Int) x86_4 a0_0 a0_1 a0_2 l0_3 l0_4 a0_5 = some r) ∧ Za (kq ≤ k3) ∧ Za (Kd.N (Kd.slice 3 (Kd.int .i64)) 33 w' w.heap.size (fun k_ => some k_ ≠ ((.slice Ao49 y130.length co49) : Value).ownBlock ∧ k_ ≠ gb117) (.slice Ao40 t120.length co40) t120) ∧ Za (Kd.R (Kd.int .i64) 3 w' w.heap.size (fun _ => True) (.slice Ao49 y130.length co49) y130) ∧ Za (w'.heap[gb117]? = some (.cells #[.int .i64 a0_0, .int .i64 a0_1, .int .i64 a0_2, (.slice A0_3 l0_3.length c0_3), (.slice A0_4 l0_4.length c0_4), .int .i64 a0_5] 25 (0, 0))) ∧ Za (Below w.heap.size w w'))
        case atStart => exact ⟨(0), (by first | rfl | (simp; done) | (simp [*]; done)), H', ⟨Nat.le_refl _⟩, ⟨by (with_reducible repeat (first | apply Kd.N_alloc | apply Kd.N_drewN | apply Kd.N_drew)); exact Kd.N_mono HO122.out (fun _ hk => ⟨hk.2, hk.1.2⟩)⟩, ⟨by (with_reducible repeat (first | apply Kd.R_alloc | apply Kd.R_drewN | apply Kd.R_drew)); exact Kd.R_mono HO132.out (fun _ hk => trivial)⟩, ⟨by (with_reducible repeat (first | apply zb3 | apply zb2 | apply zb1)); exact BK117.out⟩, ⟨by repeat (first | (with_reducible first | exact HB.out | apply zc1 | apply zc2 | apply zc3 | refine zc4 ?_ (by assumption)) | exact HB.out)⟩⟩
        case round =>
         (clear H'); (try clear c1); (try clear p1); (try clear q1); (try clear hx1); (try clear c2); (try clear p2); (try clear c3); (try clear c11); (try clear p11); (try clear q11); (try clear hx11); (try clear c12); (try clear c13); (try clear c15); (try clear c20); (try clear c20b0); (try clear c21); (try clear c22); (try clear c23); (try clear c23b0); (try clear c23b1); (try clear c24); (try clear c31); (try clear c37); (try clear hcz32_0 hcz32_1 hcz32_2 hcz32_3 hcz32_4 hcz32_5 hcz38_0 hcz38_1 hcz38_2 hcz38_3 hcz38_4 hcz38_5 hfz32_0 hfz32_1 hfz32_2 hfz32_3 hfz32_4 hfz32_5 hfz38_0 hfz38_1 hfz38_2 hfz38_3 hfz38_4 hfz38_5); (try clear hx118_0); (try clear p118); (try clear q118); (obtain ⟨x86_4, rfl, HA, HK4, HO_4, HO_84, BK117, HB⟩ := hrel)
         cases gk with
         | zero => exact absurd HA.out (by simp [Zp.l1])
         | succ k4 =>
          (have H := HA.out); (clear HA); (simp only [Zp.l1] at H)
          by_cases c50 : x86_4 < (y130.length : Int)
          ·rw [if_pos c50] at H
           (have c50b0 : decide (x86_4 < (y130.length : Int)) = true := decide_eq_true c50); (clear c50)
           by_cases c51 : 0 ≤ x86_4
           rotate_left
           ·rw [if_neg c51] at H
            exact absurd H (by simp)
           (rw [if_pos c51] at H); (have c51b0 : decide (0 ≤ x86_4) = true := decide_eq_true c51); (clear c51)
           by_cases c52 : x86_4 < (y130.length : Int)
           rotate_left
           ·rw [if_neg c52] at H
            exact absurd H (by simp)
           (rw [if_pos c52] at H); (have c52b0 : decide (x86_4 < (y130.length : Int)) = true := decide_eq_true c52); (clear c52)
           by_cases c53 : (rd y130 x86_4) < 0
           ·rw [if_pos c53] at H
            (have c53b0 : decide ((rd y130 x86_4) < 0) = true := decide_eq_true c53); (clear c53); (obtain rfl := Option.some.inj H); (have p133 : 0 ≤ (x86_4 : Int) := of_decide_eq_true (by assumption)); (have q133 : x86_4 < (y130.length : Int) := of_decide_eq_true (by assumption)); (obtain ⟨ad133, e133, hx133_0⟩ := Kd.at_int (Kd.R_reads' HO_84.out).2.2 x86_4 p133 q133); (cases e133); (replace p133 := eq_true p133); (replace q133 := eq_true q133)
            go_wp2
            go_ret
            exact ⟨by first | rfl | (simp [Zx, Zw] <;> rfl) | (simp [*, Zx, Zw] <;> rfl), by repeat (first | (with_reducible first | exact HB.out | apply zc1 | apply zc2 | apply zc3 | refine zc4 ?_ (by assumption)) | exact HB.out)⟩
           (rw [if_neg c53] at H); (have c53b0 : decide ((rd y130 x86_4) < 0) = false := decide_eq_false c53); (clear c53)
           by_cases c54 : (rd y130 x86_4) ≥ a0_0
           ·rw [if_pos c54] at H
            (have c54b0 : decide (a0_0 ≤ (rd y130 x86_4)) = true := decide_eq_true c54); (clear c54); (obtain rfl := Option.some.inj H); (have p133 : 0 ≤ (x86_4 : Int) := of_decide_eq_true (by assumption)); (have q133 : x86_4 < (y130.length : Int) := of_decide_eq_true (by assumption)); (obtain ⟨ad133, e133, hx133_0⟩ := Kd.at_int (Kd.R_reads' HO_84.out).2.2 x86_4 p133 q133); (cases e133); (replace p133 := eq_true p133); (replace q133 := eq_true q133); (have hcz55_0 : wr.cell? ⟨gb117, 0, none⟩ = some (.int .i64 a0_0) := (Zb BK117.out 0).trans rfl); (have hcz55_1 : wr.cell? ⟨gb117, 1, none⟩ = some (.int .i64 a0_1) := (Zb BK117.out 1).trans rfl); (have hcz55_2 : wr.cell? ⟨gb117, 2, none⟩ = some (.int .i64 a0_2) := (Zb BK117.out 2).trans rfl); (have hcz55_3 : wr.cell? ⟨gb117, 3, none⟩ = some (.slice A0_3 l0_3.length c0_3) := (Zb BK117.out 3).trans rfl); (have hcz55_4 : wr.cell? ⟨gb117, 4, none⟩ = some (.slice A0_4 l0_4.length c0_4) := (Zb BK117.out 4).trans rfl); (have hcz55_5 : wr.cell? ⟨gb117, 5, none⟩ = some (.int .i64 a0_5) := (Zb BK117.out 5).trans rfl); (have hfz55_0 := Zc BK117.out 0); (have hfz55_1 := Zc BK117.out 1); (have hfz55_2 := Zc BK117.out 2); (have hfz55_3 := Zc BK117.out 3); (have hfz55_4 := Zc BK117.out 4); (have hfz55_5 := Zc BK117.out 5)
            go_wp2
            go_ret
            exact ⟨by first | rfl | (simp [Zx, Zw] <;> rfl) | (simp [*, Zx, Zw] <;> rfl), by repeat (first | (with_reducible first | exact HB.out | apply zc1 | apply zc2 | apply zc3 | refine zc4 ?_ (by assumption)) | exact HB.out)⟩
           (rw [if_neg c54] at H); (have c54b0 : decide (a0_0 ≤ (rd y130 x86_4)) = false := decide_eq_false c54); (clear c54); (have H' := Za.mk H); (clear H); (have p133 : 0 ≤ (x86_4 : Int) := of_decide_eq_true (by assumption)); (have q133 : x86_4 < (y130.length : Int) := of_decide_eq_true (by assumption)); (obtain ⟨ad133, e133, hx133_0⟩ := Kd.at_int (Kd.R_reads' HO_84.out).2.2 x86_4 p133 q133); (cases e133); (replace p133 := eq_true p133); (replace q133 := eq_true q133); (have hcz56_0 : wr.cell? ⟨gb117, 0, none⟩ = some (.int .i64 a0_0) := (Zb BK117.out 0).trans rfl); (have hcz56_1 : wr.cell? ⟨gb117, 1, none⟩ = some (.int .i64 a0_1) := (Zb BK117.out 1).trans rfl); (have hcz56_2 : wr.cell? ⟨gb117, 2, none⟩ = some (.int .i64 a0_2) := (Zb BK117.out 2).trans rfl); (have hcz56_3 : wr.cell? ⟨gb117, 3, none⟩ = some (.slice A0_3 l0_3.length c0_3) := (Zb BK117.out 3).trans rfl); (have hcz56_4 : wr.cell? ⟨gb117, 4, none⟩ = some (.slice A0_4 l0_4.length c0_4) := (Zb BK117.out 4).trans rfl); (have hcz56_5 : wr.cell? ⟨gb117, 5, none⟩ = some (.int .i64 a0_5) := (Zb BK117.out 5).trans rfl); (have hfz56_0 := Zc BK117.out 0); (have hfz56_1 := Zc BK117.out 1); (have hfz56_2 := Zc BK117.out 2); (have hfz56_3 := Zc BK117.out 3); (have hfz56_4 := Zc BK117.out 4); (have hfz56_5 := Zc BK117.out 5)
           go_wp2
           go_roundg k4
           case measure => have := HJ1.out; have := HJ13.out; have := HK3.out; have := HK4.out; omega
           case rel => exact ⟨(wrap64 (x86_4 + 1)), (by first | rfl | (simp; done) | (simp [*]; done)), H', ⟨by have := HJ1.out; have := HJ13.out; have := HK3.out; have := HK4.out; omega⟩, ⟨by (with_reducible repeat (first | apply Kd.N_alloc | apply Kd.N_drewN | apply Kd.N_drew)); exact HO_4.out⟩, ⟨by (with_reducible repeat (first | apply Kd.R_alloc | apply Kd.R_drewN | apply Kd.R_drew)); exact HO_84.out⟩, ⟨by (with_reducible repeat (first | apply zb3 | apply zb2 | apply zb1)); exact BK117.out⟩, ⟨by repeat (first | (with_reducible first | exact HB.out | apply zc1 | apply zc2 | apply zc3 | refine zc4 ?_ (by assumption)) | exact HB.out)⟩⟩
          (rw [if_neg c50] at H); (have c50b0 : decide (x86_4 < (y130.length : Int)) = false := decide_eq_false c50); (clear c50); (replace H := Option.bind_eq_some_iff.mp H); (obtain ⟨t134, A570, H⟩ := H); (replace H : (Zp.l2 k4 t134 (t134.length : Int) 0 a0_0 a0_1 a0_2 l0_3 l0_4 a0_5) = some r := H); (have A57 := Za.mk A570); (clear A570); (have H' := Za.mk H); (clear H)
          go_wp2_with (first | ((with_reducible refine gate_callee (f := 15) rfl ?_); refine goesL_ (some 100) rfl rfl Try.func15 (by kernel_rfl) rfl #[.slice Ao40 t120.length co40] rfl (by (try simp only [List.map_toArray, List.map_cons, List.map_nil]); first | done | rfl | (simp only [List.length_drop, List.length_take]; rfl)) ?_; (with_reducible refine (Zz.calls k4 _ _ t120 t134 _ ?side1 ?side2 A57.out).mono ?_); (case side1 => repeat (first | exact (Kd.N_reads' HO_4.out).2.2 | (with_reducible refine Kd.C_alloc ?_ _) | (with_reducible refine Kd.C_drewN ?_ _) | (with_reducible refine Kd.C_drew ?_))); (case side2 => exact (Kd.N_reads' HO_4.out).2.1); rintro e w58 ⟨v135, rfl, ho0, hb⟩; refine ⟨_, rfl, ?_⟩; replace HO_4 := Za.mk (Kd.N_elder' (by (with_reducible repeat (first | apply zn1 | apply zn2 | apply zn3)); exact HO_4.out) (Kd.R_base ho0) hb); have HO136 := Za.mk (Kd.R_lower (Kd.R_new' ho0 (Kd.R_lt (by (with_reducible repeat (first | apply Kd.R_alloc | apply Kd.R_drewN | apply Kd.R_drew)); exact HO_84.out))) (Zo (by repeat (first | (with_reducible first | exact HB.out | apply zc1 | apply zc2 | apply zc3 | refine zc4 ?_ (by assumption)) | exact HB.out)))); replace HO_84 := Za.mk (Kd.R_elder' (by (with_reducible repeat (first | apply Kd.R_alloc | apply Kd.R_drewN | apply Kd.R_drew)); exact HO_84.out) (Kd.R_base ho0) hb); replace BK117 := Za.mk (Zk (g := gb117) (by (with_reducible repeat (first | apply zb3 | apply zb2 | apply zb1)); exact BK117.out) hb); replace HB := Za.mk (Zu (by repeat (first | (with_reducible first | exact HB.out | apply zc1 | apply zc2 | apply zc3 | refine zc4 ?_ (by assumption)) | exact HB.out)) hb); (try clear hb); (try clear hb2); (try clear hk); (try clear hi); (try clear ho0); obtain ⟨Ao59, co59, eo59⟩ := Kd.R_slice HO136.out; subst eo59))
          go_loopg [102] k4 (fun kq v102 w' => ∃ (x102_5 : Int), v102 = .int .i64 x102_5 ∧ Za (Zp.l2 kq t134 (t134.length : Int) x102_5 a0_0 a0_1 a0_2 l0_3 l0_4 a0_5 = some r) ∧ Za (kq ≤ k4) ∧ Za (Kd.R (Kd.int .i64) 3 w' w.heap.size (fun _ => True) (.slice Ao59 t134.length co59) t134) ∧ Za (w'.heap[gb117]? = some (.cells #[.int .i64 a0_0, .int .i64 a0_1, .int .i64 a0_2, (.slice A0_3 l0_3.length c0_3), (.slice A0_4 l0_4.length c0_4), .int .i64 a0_5] 25 (0, 0))) ∧ Za (Below w.heap.size w w'))
          case atStart => exact ⟨(0), (by first | rfl | (simp; done) | (simp [*]; done)), H', ⟨Nat.le_refl _⟩, ⟨by (with_reducible repeat (first | apply Kd.R_alloc | apply Kd.R_drewN | apply Kd.R_drew)); exact Kd.R_mono HO136.out (fun _ hk => trivial)⟩, ⟨by (with_reducible repeat (first | apply zb3 | apply zb2 | apply zb1)); exact BK117.out⟩, ⟨by repeat (first | (with_reducible first | exact HB.out | apply zc1 | apply zc2 | apply zc3 | refine zc4 ?_ (by assumption)) | exact HB.out)⟩⟩
          case round =>
           (clear H'); (try clear c1); (try clear p1); (try clear q1); (try clear hx1); (try clear c2); (try clear p2); (try clear c3); (try clear c5); (try clear p6); (try clear c11); (try clear p11); (try clear q11); (try clear hx11); (try clear c12); (try clear c13); (try clear p13); (try clear q13); (try clear hx13); (try clear c15); (try clear c20); (try clear c20b0); (try clear c21); (try clear c22); (try clear c23); (try clear c23b0); (try clear c23b1); (try clear c24); (try clear c31); (try clear c37); (try clear c50); (try clear c50b0); (try clear c51); (try clear c51b0); (try clear c52); (try clear c52b0); (try clear c53); (try clear c53b0); (try clear c54); (try clear c54b0); (try clear hcz32_0 hcz32_1 hcz32_2 hcz32_3 hcz32_4 hcz32_5 hcz38_0 hcz38_1 hcz38_2 hcz38_3 hcz38_4 hcz38_5 hcz55_0 hcz55_1 hcz55_2 hcz55_3 hcz55_4 hcz55_5 hcz56_0 hcz56_1 hcz56_2 hcz56_3 hcz56_4 hcz56_5 hfz32_0 hfz32_1 hfz32_2 hfz32_3 hfz32_4 hfz32_5 hfz38_0 hfz38_1 hfz38_2 hfz38_3 hfz38_4 hfz38_5 hfz55_0 hfz55_1 hfz55_2 hfz55_3 hfz55_4 hfz55_5 hfz56_0 hfz56_1 hfz56_2 hfz56_3 hfz56_4 hfz56_5); (try clear hx118_0); (try clear hx133_0); (try clear p1); (try clear p11); (try clear p118); (try clear p133); (try clear p2); (try clear q1); (try clear q11); (try clear q118); (try clear q133); (obtain ⟨x102_5, rfl, HA, HK5, HO_100, BK117, HB⟩ := hrel)
           cases gk with
           | zero => exact absurd HA.out (by simp [Zp.l2])
           | succ k5 =>
            (have H := HA.out); (clear HA); (simp only [Zp.l2] at H)
            by_cases c60 : x102_5 < (t134.length : Int)
            rotate_left
            ·rw [if_neg c60] at H
             (have c60b0 : decide (x102_5 < (t134.length : Int)) = false := decide_eq_false c60); (clear c60); (obtain rfl := Option.some.inj H)
             go_wp2
             go_ret
             exact ⟨by first | rfl | (simp [Zx, Zw] <;> rfl) | (simp [*, Zx, Zw] <;> rfl), by repeat (first | (with_reducible first | exact HB.out | apply zc1 | apply zc2 | apply zc3 | refine zc4 ?_ (by assumption)) | exact HB.out)⟩
            (rw [if_pos c60] at H); (have c60b0 : decide (x102_5 < (t134.length : Int)) = true := decide_eq_true c60); (clear c60)
            by_cases c61 : 0 ≤ x102_5
            rotate_left
            ·rw [if_neg c61] at H
             exact absurd H (by simp)
            (rw [if_pos c61] at H); (have c61b0 : decide (0 ≤ x102_5) = true := decide_eq_true c61); (clear c61)
            by_cases c62 : x102_5 < (t134.length : Int)
            rotate_left
            ·rw [if_neg c62] at H
             exact absurd H (by simp)
            (rw [if_pos c62] at H); (have c62b0 : decide (x102_5 < (t134.length : Int)) = true := decide_eq_true c62); (clear c62)
            by_cases c63 : (rd t134 x102_5) < 0
            ·rw [if_pos c63] at H
             (have c63b0 : decide ((rd t134 x102_5) < 0) = true := decide_eq_true c63); (clear c63); (obtain rfl := Option.some.inj H); (have p137 : 0 ≤ (x102_5 : Int) := of_decide_eq_true (by assumption)); (have q137 : x102_5 < (t134.length : Int) := of_decide_eq_true (by assumption)); (obtain ⟨ad137, e137, hx137_0⟩ := Kd.at_int (Kd.R_reads' HO_100.out).2.2 x102_5 p137 q137); (cases e137); (replace p137 := eq_true p137); (replace q137 := eq_true q137)
             go_wp2
             go_ret
             exact ⟨by first | rfl | (simp [Zx, Zw] <;> rfl) | (simp [*, Zx, Zw] <;> rfl), by repeat (first | (with_reducible first | exact HB.out | apply zc1 | apply zc2 | apply zc3 | refine zc4 ?_ (by assumption)) | exact HB.out)⟩
            (rw [if_neg c63] at H); (have c63b0 : decide ((rd t134 x102_5) < 0) = false := decide_eq_false c63); (clear c63)
            by_cases c64 : (rd t134 x102_5) ≥ a0_2
            ·rw [if_pos c64] at H
             (have c64b0 : decide (a0_2 ≤ (rd t134 x102_5)) = true := decide_eq_true c64); (clear c64); (obtain rfl := Option.some.inj H); (have p137 : 0 ≤ (x102_5 : Int) := of_decide_eq_true (by assumption)); (have q137 : x102_5 < (t134.length : Int) := of_decide_eq_true (by assumption)); (obtain ⟨ad137, e137, hx137_0⟩ := Kd.at_int (Kd.R_reads' HO_100.out).2.2 x102_5 p137 q137); (cases e137); (replace p137 := eq_true p137); (replace q137 := eq_true q137); (have hcz65_0 : wr.cell? ⟨gb117, 0, none⟩ = some (.int .i64 a0_0) := (Zb BK117.out 0).trans rfl); (have hcz65_1 : wr.cell? ⟨gb117, 1, none⟩ = some (.int .i64 a0_1) := (Zb BK117.out 1).trans rfl); (have hcz65_2 : wr.cell? ⟨gb117, 2, none⟩ = some (.int .i64 a0_2) := (Zb BK117.out 2).trans rfl); (have hcz65_3 : wr.cell? ⟨gb117, 3, none⟩ = some (.slice A0_3 l0_3.length c0_3) := (Zb BK117.out 3).trans rfl); (have hcz65_4 : wr.cell? ⟨gb117, 4, none⟩ = some (.slice A0_4 l0_4.length c0_4) := (Zb BK117.out 4).trans rfl); (have hcz65_5 : wr.cell? ⟨gb117, 5, none⟩ = some (.int .i64 a0_5) := (Zb BK117.out 5).trans rfl); (have hfz65_0 := Zc BK117.out 0); (have hfz65_1 := Zc BK117.out 1); (have hfz65_2 := Zc BK117.out 2); (have hfz65_3 := Zc BK117.out 3); (have hfz65_4 := Zc BK117.out 4); (have hfz65_5 := Zc BK117.out 5)
             go_wp2
             go_ret
             exact ⟨by first | rfl | (simp [Zx, Zw] <;> rfl) | (simp [*, Zx, Zw] <;> rfl), by repeat (first | (with_reducible first | exact HB.out | apply zc1 | apply zc2 | apply zc3 | refine zc4 ?_ (by assumption)) | exact HB.out)⟩
            (rw [if_neg c64] at H); (have c64b0 : decide (a0_2 ≤ (rd t134 x102_5)) = false := decide_eq_false c64); (clear c64); (have H' := Za.mk H); (clear H); (have p137 : 0 ≤ (x102_5 : Int) := of_decide_eq_true (by assumption)); (have q137 : x102_5 < (t134.length : Int) := of_decide_eq_true (by assumption)); (obtain ⟨ad137, e137, hx137_0⟩ := Kd.at_int (Kd.R_reads' HO_100.out).2.2 x102_5 p137 q137); (cases e137); (replace p137 := eq_true p137); (replace q137 := eq_true q137); (have hcz66_0 : wr.cell? ⟨gb117, 0, none⟩ = some (.int .i64 a0_0) := (Zb BK117.out 0).trans rfl); (have hcz66_1 : wr.cell? ⟨gb117, 1, none⟩ = some (.int .i64 a0_1) := (Zb BK117.out 1).trans rfl); (have hcz66_2 : wr.cell? ⟨gb117, 2, none⟩ = some (.int .i64 a0_2) := (Zb BK117.out 2).trans rfl); (have hcz66_3 : wr.cell? ⟨gb117, 3, none⟩ = some (.slice A0_3 l0_3.length c0_3) := (Zb BK117.out 3).trans rfl); (have hcz66_4 : wr.cell? ⟨gb117, 4, none⟩ = some (.slice A0_4 l0_4.length c0_4) := (Zb BK117.out 4).trans rfl); (have hcz66_5 : wr.cell? ⟨gb117, 5, none⟩ = some (.int .i64 a0_5) := (Zb BK117.out 5).trans rfl); (have hfz66_0 := Zc BK117.out 0); (have hfz66_1 := Zc BK117.out 1); (have hfz66_2 := Zc BK117.out 2); (have hfz66_3 := Zc BK117.out 3); (have hfz66_4 := Zc BK117.out 4); (have hfz66_5 := Zc BK117.out 5)
            go_wp2
            go_roundg k5
            case measure => have := HJ1.out; have := HJ13.out; have := HK3.out; have := HK4.out; have := HK5.out; omega
            case rel => exact ⟨(wrap64 (x102_5 + 1)), (by first | rfl | (simp; done) | (simp [*]; done)), H', ⟨by have := HJ1.out; have := HJ13.out; have := HK3.out; have := HK4.out; have := HK5.out; omega⟩, ⟨by (with_reducible repeat (first | apply Kd.R_alloc | apply Kd.R_drewN | apply Kd.R_drew)); exact HO_100.out⟩, ⟨by (with_reducible repeat (first | apply zb3 | apply zb2 | apply zb1)); exact BK117.out⟩, ⟨by repeat (first | (with_reducible first | exact HB.out | apply zc1 | apply zc2 | apply zc3 | refine zc4 ?_ (by assumption)) | exact HB.out)⟩⟩
       (rw [if_pos c20] at H); (have c20b0 : decide (x49_3 < a0_0) = true := decide_eq_true c20); (clear c20)
       by_cases c21 : 0 ≤ x49_3
       rotate_left
       ·rw [if_neg c21] at H
        exact absurd H (by simp)
       (rw [if_pos c21] at H); (have c21b0 : decide (0 ≤ x49_3) = true := decide_eq_true c21); (clear c21)
       by_cases c22 : x49_3 < (l0_3.length : Int)
       rotate_left
       ·rw [if_neg c22] at H
        exact absurd H (by simp)
       (rw [if_pos c22] at H); (have c22b0 : decide (x49_3 < (l0_3.length : Int)) = true := decide_eq_true c22); (clear c22)
       by_cases c23 : ((Zj l0_3 x49_3).length : Int) = a0_1
       rotate_left
       ·rw [if_neg c23] at H
        (have c23b0 : (((Zj l0_3 x49_3).length : Int) == a0_1) = false := beq_eq_false_iff_ne.mpr c23); (have c23b1 : (((Zj l0_3 x49_3).length : Int) != a0_1) = true := bne_iff_ne.mpr c23); (obtain rfl := Option.some.inj H)
        try go_wp2
        (replace BK117 := Za.mk (Zd BK117.out)); (replace HB := Za.mk (below_drew1 HB.out)); (have p118 : 0 ≤ (x49_3 : Int) := of_decide_eq_true (by assumption)); (have q118 : x49_3 < (l0_3.length : Int) := of_decide_eq_true (by assumption)); (obtain ⟨ad118, A118_0, c118_0, e118, hx118_0, hl118_0, hi118_0⟩ := at_L1 HR0_3.out x49_3 p118 q118); (have hw118_0 := hx118_0); (cases e118); (replace hx118_0 := (HB.out.cell (World.block_lt_of_cell? w _ hx118_0)).trans hx118_0); (have HR118_0 := Za.mk hi118_0); (have HC118_0 := Za.mk hl118_0); (clear hi118_0 hl118_0); (replace p118 := eq_true p118); (replace q118 := eq_true q118)
        refine start_ (n := 20) (S := fun w' => w'.cell? ⟨gb117, 0, none⟩ = some (.int .i64 a0_0) ∧ w'.cell? ⟨gb117, 1, none⟩ = some (.int .i64 a0_1) ∧ w'.cell? ⟨gb117, 2, none⟩ = some (.int .i64 a0_2) ∧ w'.cell? ⟨gb117, 3, none⟩ = some (.slice (some ad118) l0_3.length c0_3) ∧ w'.cell? ⟨gb117, 4, none⟩ = some (.slice A0_4 l0_4.length c0_4) ∧ w'.cell? ⟨gb117, 5, none⟩ = some (.int .i64 a0_5) ∧ w'.cell? (ad118.add (x49_3).toNat) = some (.slice A118_0 (Zj l0_3 x49_3).length c118_0)) (ds := []) #[false, false, false, false, false, false, false, false, false, false, false, false, false, false, false, false, false, false, false, false] (by kernel_rfl) rfl rfl ⟨(Zb BK117.out 0).trans rfl, (Zb BK117.out 1).trans rfl, (Zb BK117.out 2).trans rfl, (Zb BK117.out 3).trans rfl, (Zb BK117.out 4).trans rfl, (Zb BK117.out 5).trans rfl, ((HB.out.cell (World.block_lt_of_cell? w _ hw118_0)).trans hw118_0)⟩ (fun hHeld => ?_); refine with_tabW Zp.tab8 Zp.bits8 (fun HT_ HW_ => ?_)
        generalize wr.drew = w28 at BK117 HB HR118_0 hx118_0 hHeld ⊢
        refine pure_ (i := 0) (N := some 52) (v := ?_) (a' := ?_) #[true, false, false, false, false, false, false, false, false, false, false, false, false, false, false, false, false, false, false, false] rfl rfl (Zq HT_.out (by kernel_rfl)) (fun _ _ _ h => h) (Or.inl ⟨by rfl, ?_⟩) ?_ ?_
        rotate_left
        ·intro w'
         go_simp
         with_reducible rfl
        rotate_left
        ·simp only [Act.put, List.setIfInBounds_toArray, List.set_cons_zero, List.set_cons_succ, Zh, Zi]
         rfl
        refine pure_ (i := 2) (N := some 54) (v := ?_) (a' := ?_) #[true, false, true, false, false, false, false, false, false, false, false, false, false, false, false, false, false, false, false, false] rfl rfl (Zq HT_.out (by kernel_rfl)) (fun _ _ _ h => h) (Or.inl ⟨by rfl, ?_⟩) ?_ ?_
        rotate_left
        ·intro w'
         go_simp
         with_reducible rfl
        rotate_left
        ·simp only [Act.put, List.setIfInBounds_toArray, List.set_cons_zero, List.set_cons_succ, Zh, Zi]
         rfl
        refine pure_ (i := 6) (N := some 58) (v := ?_) (a' := ?_) #[true, false, true, false, false, false, true, false, false, false, false, false, false, false, false, false, false, false, false, false] rfl rfl (Zq HT_.out (by kernel_rfl)) (fun _ _ _ h => h) (Or.inl ⟨by rfl, ?_⟩) ?_ ?_
        rotate_left
        ·intro w'
         go_simp
         with_reducible rfl
        rotate_left
        ·simp only [Act.put, List.setIfInBounds_toArray, List.set_cons_zero, List.set_cons_succ, Zh, Zi]
         rfl
        refine take_ (i := 1) (N := some 53) (v := ?_) (a' := ?_) #[true, true, true, false, false, false, true, false, false, false, false, false, false, false, false, false, false, false, false, false] rfl rfl (Zc1 HT_.out HW_.out (by kernel_rfl)) (fun _ _ _ h => h) (Or.inl ⟨by rfl, ?_⟩) hHeld ?_ ?_
        rotate_left
        ·rintro w' ⟨s0, s1, s2, s3, s4, s5, s6⟩
         go_simp
         with_reducible rfl
        rotate_left
        ·simp only [Act.put, List.setIfInBounds_toArray, List.set_cons_zero, List.set_cons_succ, Zh, Zi]
         rfl
        refine pure_ (i := 3) (N := some 55) (v := ?_) (a' := ?_) #[true, true, true, true, false, false, true, false, false, false, false, false, false, false, false, false, false, false, false, false] rfl rfl (Zq HT_.out (by kernel_rfl)) (fun _ _ _ h => h) (Or.inl ⟨by rfl, ?_⟩) ?_ ?_
        rotate_left
        ·intro w'
         go_simp
         with_reducible rfl
        rotate_left
        ·simp only [Act.put, List.setIfInBounds_toArray, List.set_cons_zero, List.set_cons_succ, Zh, Zi]
         rfl
        refine take_ (i := 4) (N := some 56) (v := ?_) (a' := ?_) #[true, true, true, true, true, false, true, false, false, false, false, false, false, false, false, false, false, false, false, false] rfl rfl (Zc1 HT_.out HW_.out (by kernel_rfl)) (fun _ _ _ h => h) (Or.inl ⟨by rfl, ?_⟩) hHeld ?_ ?_
        rotate_left
        ·rintro w' ⟨s0, s1, s2, s3, s4, s5, s6⟩
         go_simp
         with_reducible rfl
        rotate_left
        ·simp only [Act.put, List.setIfInBounds_toArray, List.set_cons_zero, List.set_cons_succ, Zh, Zi]
         rfl
        refine pure_ (i := 5) (N := some 57) (v := ?_) (a' := ?_) #[true, true, true, true, true, true, true, false, false, false, false, false, false, false, false, false, false, false, false, false] rfl rfl (Zq HT_.out (by kernel_rfl)) (fun _ _ _ h => h) (Or.inl ⟨by rfl, ?_⟩) ?_ ?_
        rotate_left
        ·intro w'
         go_simp
         with_reducible rfl
        rotate_left
        ·simp only [Act.put, List.setIfInBounds_toArray, List.set_cons_zero, List.set_cons_succ, Zh, Zi]
         rfl
        refine take_ (i := 7) (N := some 59) (v := ?_) (a' := ?_) #[true, true, true, true, true, true, true, true, false, false, false, false, false, false, false, false, false, false, false, false] rfl rfl (Zc1 HT_.out HW_.out (by kernel_rfl)) (fun _ _ _ h => h) (Or.inl ⟨by rfl, ?_⟩) hHeld ?_ ?_
        rotate_left
        ·rintro w' ⟨s0, s1, s2, s3, s4, s5, s6⟩
         go_simp
         with_reducible rfl
        rotate_left
        ·simp only [Act.put, List.setIfInBounds_toArray, List.set_cons_zero, List.set_cons_succ, Zh, Zi]
         rfl
        refine pure_ (i := 8) (N := some 60) (v := ?_) (a' := ?_) #[true, true, true, true, true, true, true, true, true, false, false, false, false, false, false, false, false, false, false, false] rfl rfl (Zq HT_.out (by kernel_rfl)) (fun _ _ _ h => h) (Or.inl ⟨by rfl, ?_⟩) ?_ ?_
        rotate_left
        ·intro w'
         go_simp
         with_reducible rfl
        rotate_left
        ·simp only [Act.put, List.setIfInBounds_toArray, List.set_cons_zero, List.set_cons_succ, Zh, Zi]
         rfl
        refine pure_ (i := 9) (N := some 61) (v := ?_) (a' := ?_) #[true, true, true, true, true, true, true, true, true, true, false, false, false, false, false, false, false, false, false, false] rfl rfl (Zq HT_.out (by kernel_rfl)) (fun _ _ _ h => h) (Or.inl ⟨by rfl, ?_⟩) ?_ ?_
        rotate_left
        ·intro w'
         go_simp
         with_reducible rfl
        rotate_left
        ·simp only [Act.put, List.setIfInBounds_toArray, List.set_cons_zero, List.set_cons_succ, Zh, Zi]
         rfl
        refine pure_ (i := 10) (N := some 62) (v := undef) (a' := ?_) #[true, true, true, true, true, true, true, true, true, true, true, false, false, false, false, false, false, false, false, false] rfl rfl (Zq HT_.out (by kernel_rfl)) (fun _ _ _ h => h) (Or.inr ⟨by rfl, rfl⟩) ?_ ?_
        rotate_left
        ·simp only [Act.put, List.setIfInBounds_toArray, List.set_cons_zero, List.set_cons_succ, Zh, Zi]
         rfl
        refine pure_ (i := 11) (N := some 63) (v := undef) (a' := ?_) #[true, true, true, true, true, true, true, true, true, true, true, true, false, false, false, false, false, false, false, false] rfl rfl (Zq HT_.out (by kernel_rfl)) (fun _ _ _ h => h) (Or.inr ⟨by rfl, rfl⟩) ?_ ?_
        rotate_left
        ·simp only [Act.put, List.setIfInBounds_toArray, List.set_cons_zero, List.set_cons_succ, Zh, Zi]
         rfl
        refine pure_ (i := 12) (N := some 64) (v := undef) (a' := ?_) #[true, true, true, true, true, true, true, true, true, true, true, true, true, false, false, false, false, false, false, false] rfl rfl (Zq HT_.out (by kernel_rfl)) (fun _ _ _ h => h) (Or.inr ⟨by rfl, rfl⟩) ?_ ?_
        rotate_left
        ·simp only [Act.put, List.setIfInBounds_toArray, List.set_cons_zero, List.set_cons_succ, Zh, Zi]
         rfl
        refine pure_ (i := 13) (N := some 65) (v := undef) (a' := ?_) #[true, true, true, true, true, true, true, true, true, true, true, true, true, true, false, false, false, false, false, false] rfl rfl (Zq HT_.out (by kernel_rfl)) (fun _ _ _ h => h) (Or.inr ⟨by rfl, rfl⟩) ?_ ?_
        rotate_left
        ·simp only [Act.put, List.setIfInBounds_toArray, List.set_cons_zero, List.set_cons_succ, Zh, Zi]
         rfl
        refine pure_ (i := 14) (N := some 66) (v := undef) (a' := ?_) #[true, true, true, true, true, true, true, true, true, true, true, true, true, true, true, false, false, false, false, false] rfl rfl (Zq HT_.out (by kernel_rfl)) (fun _ _ _ h => h) (Or.inr ⟨by rfl, rfl⟩) ?_ ?_
        rotate_left
        ·simp only [Act.put, List.setIfInBounds_toArray, List.set_cons_zero, List.set_cons_succ, Zh, Zi]
         rfl
        refine pure_ (i := 15) (N := some 67) (v := undef) (a' := ?_) #[true, true, true, true, true, true, true, true, true, true, true, true, true, true, true, true, false, false, false, false] rfl rfl (Zq HT_.out (by kernel_rfl)) (fun _ _ _ h => h) (Or.inr ⟨by rfl, rfl⟩) ?_ ?_
        rotate_left
        ·simp only [Act.put, List.setIfInBounds_toArray, List.set_cons_zero, List.set_cons_succ, Zh, Zi]
         rfl
        refine pure_ (i := 16) (N := some 68) (v := undef) (a' := ?_) #[true, true, true, true, true, true, true, true, true, true, true, true, true, true, true, true, true, false, false, false] rfl rfl (Zq HT_.out (by kernel_rfl)) (fun _ _ _ h => h) (Or.inr ⟨by rfl, rfl⟩) ?_ ?_
        rotate_left
        ·simp only [Act.put, List.setIfInBounds_toArray, List.set_cons_zero, List.set_cons_succ, Zh, Zi]
         rfl
        refine pure_ (i := 17) (N := some 69) (v := undef) (a' := ?_) #[true, true, true, true, true, true, true, true, true, true, true, true, true, true, true, true, true, true, false, false] rfl rfl (Zq HT_.out (by kernel_rfl)) (fun _ _ _ h => h) (Or.inr ⟨by rfl, rfl⟩) ?_ ?_
        rotate_left
        ·simp only [Act.put, List.setIfInBounds_toArray, List.set_cons_zero, List.set_cons_succ, Zh, Zi]
         rfl
        refine pure_ (i := 18) (N := some 70) (v := undef) (a' := ?_) #[true, true, true, true, true, true, true, true, true, true, true, true, true, true, true, true, true, true, true, false] rfl rfl (Zq HT_.out (by kernel_rfl)) (fun _ _ _ h => h) (Or.inr ⟨by rfl, rfl⟩) ?_ ?_
        rotate_left
        ·simp only [Act.put, List.setIfInBounds_toArray, List.set_cons_zero, List.set_cons_succ, Zh, Zi]
         rfl
        refine pure_ (i := 19) (N := some 71) (v := ?_) (a' := ?_) #[true, true, true, true, true, true, true, true, true, true, true, true, true, true, true, true, true, true, true, true] rfl rfl (Zq HT_.out (by kernel_rfl)) (fun _ _ _ h => h) (Or.inl ⟨by rfl, ?_⟩) ?_ ?_
        rotate_left
        ·intro w'
         go_simp
         with_reducible rfl
        rotate_left
        ·simp only [Act.put, List.setIfInBounds_toArray, List.set_cons_zero, List.set_cons_succ, Zh, Zi]
         rfl
        refine done_ (done_of HT_.out (by kernel_rfl)) ?_
        try go_wp2
        go_ret
        exact ⟨by first | rfl | (simp [Zx, Zw] <;> rfl) | (simp [*, Zx, Zw] <;> rfl), by repeat (first | (with_reducible first | exact HB.out | apply zc1 | apply zc2 | apply zc3 | refine zc4 ?_ (by assumption)) | exact HB.out)⟩
       (rw [if_pos c23] at H); (have c23b0 : (((Zj l0_3 x49_3).length : Int) == a0_1) = true := beq_iff_eq.mpr c23); (have c23b1 : (((Zj l0_3 x49_3).length : Int) != a0_1) = false := bne_eq_false_iff_eq.mpr c23); (clear c23)
       by_cases c24 : x49_3 < (l0_4.length : Int)
       rotate_left
       ·rw [if_neg c24] at H
        exact absurd H (by simp)
       (rw [if_pos c24] at H); (have c24b0 : decide (x49_3 < (l0_4.length : Int)) = true := decide_eq_true c24); (clear c24)
       by_cases c25 : ((Zm l0_4 x49_3).length : Int) = a0_1
       rotate_left
       ·rw [if_neg c25] at H
        (have c25b0 : (((Zm l0_4 x49_3).length : Int) == a0_1) = false := beq_eq_false_iff_ne.mpr c25); (have c25b1 : (((Zm l0_4 x49_3).length : Int) != a0_1) = true := bne_iff_ne.mpr c25); (obtain rfl := Option.some.inj H)
        try go_wp2
        (replace BK117 := Za.mk (Zd BK117.out)); (replace HB := Za.mk (below_drew1 HB.out)); (have p118 : 0 ≤ (x49_3 : Int) := of_decide_eq_true (by assumption)); (have q118 : x49_3 < (l0_3.length : Int) := of_decide_eq_true (by assumption)); (obtain ⟨ad118, A118_0, c118_0, e118, hx118_0, hl118_0, hi118_0⟩ := at_L1 HR0_3.out x49_3 p118 q118); (have hw118_0 := hx118_0); (cases e118); (replace hx118_0 := (HB.out.cell (World.block_lt_of_cell? w _ hx118_0)).trans hx118_0); (have HR118_0 := Za.mk hi118_0); (have HC118_0 := Za.mk hl118_0); (clear hi118_0 hl118_0); (replace p118 := eq_true p118); (replace q118 := eq_true q118); (have p119 : 0 ≤ (x49_3 : Int) := of_decide_eq_true (by assumption)); (have q119 : x49_3 < (l0_4.length : Int) := of_decide_eq_true (by assumption)); (obtain ⟨ad119, A119_0, c119_0, e119, hx119_0, hl119_0, hi119_0⟩ := at_L2 HR0_4.out x49_3 p119 q119); (have hw119_0 := hx119_0); (cases e119); (replace hx119_0 := (HB.out.cell (World.block_lt_of_cell? w _ hx119_0)).trans hx119_0); (have HR119_0 := Za.mk hi119_0); (have HC119_0 := Za.mk hl119_0); (clear hi119_0 hl119_0); (replace p119 := eq_true p119); (replace q119 := eq_true q119)
        refine start_ (n := 20) (S := fun w' => w'.cell? ⟨gb117, 0, none⟩ = some (.int .i64 a0_0) ∧ w'.cell? ⟨gb117, 1, none⟩ = some (.int .i64 a0_1) ∧ w'.cell? ⟨gb117, 2, none⟩ = some (.int .i64 a0_2) ∧ w'.cell? ⟨gb117, 3, none⟩ = some (.slice (some ad118) l0_3.length c0_3) ∧ w'.cell? ⟨gb117, 4, none⟩ = some (.slice (some ad119) l0_4.length c0_4) ∧ w'.cell? ⟨gb117, 5, none⟩ = some (.int .i64 a0_5) ∧ w'.cell? (ad118.add (x49_3).toNat) = some (.slice A118_0 (Zj l0_3 x49_3).length c118_0) ∧ w'.cell? (ad119.add (x49_3).toNat) = some (.slice A119_0 (Zm l0_4 x49_3).length c119_0)) (ds := []) #[false, false, false, false, false, false, false, false, false, false, false, false, false, false, false, false, false, false, false, false] (by kernel_rfl) rfl rfl ⟨(Zb BK117.out 0).trans rfl, (Zb BK117.out 1).trans rfl, (Zb BK117.out 2).trans rfl, (Zb BK117.out 3).trans rfl, (Zb BK117.out 4).trans rfl, (Zb BK117.out 5).trans rfl, ((HB.out.cell (World.block_lt_of_cell? w _ hw118_0)).trans hw118_0), ((HB.out.cell (World.block_lt_of_cell? w _ hw119_0)).trans hw119_0)⟩ (fun hHeld => ?_); refine with_tabW Zp.tab8 Zp.bits8 (fun HT_ HW_ => ?_)
        generalize wr.drew = w27 at BK117 HB HR118_0 HR119_0 hx118_0 hx119_0 hHeld ⊢
        refine pure_ (i := 0) (N := some 52) (v := ?_) (a' := ?_) #[true, false, false, false, false, false, false, false, false, false, false, false, false, false, false, false, false, false, false, false] rfl rfl (Zq HT_.out (by kernel_rfl)) (fun _ _ _ h => h) (Or.inl ⟨by rfl, ?_⟩) ?_ ?_
        rotate_left
        ·intro w'
         go_simp
         with_reducible rfl
        rotate_left
        ·simp only [Act.put, List.setIfInBounds_toArray, List.set_cons_zero, List.set_cons_succ, Zh, Zi]
         rfl
        refine pure_ (i := 2) (N := some 54) (v := ?_) (a' := ?_) #[true, false, true, false, false, false, false, false, false, false, false, false, false, false, false, false, false, false, false, false] rfl rfl (Zq HT_.out (by kernel_rfl)) (fun _ _ _ h => h) (Or.inl ⟨by rfl, ?_⟩) ?_ ?_
        rotate_left
        ·intro w'
         go_simp
         with_reducible rfl
        rotate_left
        ·simp only [Act.put, List.setIfInBounds_toArray, List.set_cons_zero, List.set_cons_succ, Zh, Zi]
         rfl
        refine pure_ (i := 6) (N := some 58) (v := ?_) (a' := ?_) #[true, false, true, false, false, false, true, false, false, false, false, false, false, false, false, false, false, false, false, false] rfl rfl (Zq HT_.out (by kernel_rfl)) (fun _ _ _ h => h) (Or.inl ⟨by rfl, ?_⟩) ?_ ?_
        rotate_left
        ·intro w'
         go_simp
         with_reducible rfl
        rotate_left
        ·simp only [Act.put, List.setIfInBounds_toArray, List.set_cons_zero, List.set_cons_succ, Zh, Zi]
         rfl
        refine take_ (i := 1) (N := some 53) (v := ?_) (a' := ?_) #[true, true, true, false, false, false, true, false, false, false, false, false, false, false, false, false, false, false, false, false] rfl rfl (Zc1 HT_.out HW_.out (by kernel_rfl)) (fun _ _ _ h => h) (Or.inl ⟨by rfl, ?_⟩) hHeld ?_ ?_
        rotate_left
        ·rintro w' ⟨s0, s1, s2, s3, s4, s5, s6, s7⟩
         go_simp
         with_reducible rfl
        rotate_left
        ·simp only [Act.put, List.setIfInBounds_toArray, List.set_cons_zero, List.set_cons_succ, Zh, Zi]
         rfl
        refine pure_ (i := 3) (N := some 55) (v := ?_) (a' := ?_) #[true, true, true, true, false, false, true, false, false, false, false, false, false, false, false, false, false, false, false, false] rfl rfl (Zq HT_.out (by kernel_rfl)) (fun _ _ _ h => h) (Or.inl ⟨by rfl, ?_⟩) ?_ ?_
        rotate_left
        ·intro w'
         go_simp
         with_reducible rfl
        rotate_left
        ·simp only [Act.put, List.setIfInBounds_toArray, List.set_cons_zero, List.set_cons_succ, Zh, Zi]
         rfl
        refine take_ (i := 4) (N := some 56) (v := ?_) (a' := ?_) #[true, true, true, true, true, false, true, false, false, false, false, false, false, false, false, false, false, false, false, false] rfl rfl (Zc1 HT_.out HW_.out (by kernel_rfl)) (fun _ _ _ h => h) (Or.inl ⟨by rfl, ?_⟩) hHeld ?_ ?_
        rotate_left
        ·rintro w' ⟨s0, s1, s2, s3, s4, s5, s6, s7⟩
         go_simp
         with_reducible rfl
        rotate_left
        ·simp only [Act.put, List.setIfInBounds_toArray, List.set_cons_zero, List.set_cons_succ, Zh, Zi]
         rfl
        refine pure_ (i := 5) (N := some 57) (v := ?_) (a' := ?_) #[true, true, true, true, true, true, true, false, false, false, false, false, false, false, false, false, false, false, false, false] rfl rfl (Zq HT_.out (by kernel_rfl)) (fun _ _ _ h => h) (Or.inl ⟨by rfl, ?_⟩) ?_ ?_
        rotate_left
        ·intro w'
         go_simp
         with_reducible rfl
        rotate_left
        ·simp only [Act.put, List.setIfInBounds_toArray, List.set_cons_zero, List.set_cons_succ, Zh, Zi]
         rfl
        refine take_ (i := 7) (N := some 59) (v := ?_) (a' := ?_) #[true, true, true, true, true, true, true, true, false, false, false, false, false, false, false, false, false, false, false, false] rfl rfl (Zc1 HT_.out HW_.out (by kernel_rfl)) (fun _ _ _ h => h) (Or.inl ⟨by rfl, ?_⟩) hHeld ?_ ?_
        rotate_left
        ·rintro w' ⟨s0, s1, s2, s3, s4, s5, s6, s7⟩
         go_simp
         with_reducible rfl
        rotate_left
        ·simp only [Act.put, List.setIfInBounds_toArray, List.set_cons_zero, List.set_cons_succ, Zh, Zi]
         rfl
        refine pure_ (i := 8) (N := some 60) (v := ?_) (a' := ?_) #[true, true, true, true, true, true, true, true, true, false, false, false, false, false, false, false, false, false, false, false] rfl rfl (Zq HT_.out (by kernel_rfl)) (fun _ _ _ h => h) (Or.inl ⟨by rfl, ?_⟩) ?_ ?_
        rotate_left
        ·intro w'
         go_simp
         with_reducible rfl
        rotate_left
        ·simp only [Act.put, List.setIfInBounds_toArray, List.set_cons_zero, List.set_cons_succ, Zh, Zi]
         rfl
        refine pure_ (i := 9) (N := some 61) (v := ?_) (a' := ?_) #[true, true, true, true, true, true, true, true, true, true, false, false, false, false, false, false, false, false, false, false] rfl rfl (Zq HT_.out (by kernel_rfl)) (fun _ _ _ h => h) (Or.inl ⟨by rfl, ?_⟩) ?_ ?_
        rotate_left
        ·intro w'
         go_simp
         with_reducible rfl
        rotate_left
        ·simp only [Act.put, List.setIfInBounds_toArray, List.set_cons_zero, List.set_cons_succ, Zh, Zi]
         rfl
        refine pure_ (i := 10) (N := some 62) (v := ?_) (a' := ?_) #[true, true, true, true, true, true, true, true, true, true, true, false, false, false, false, false, false, false, false, false] rfl rfl (Zq HT_.out (by kernel_rfl)) (fun _ _ _ h => h) (Or.inl ⟨by rfl, ?_⟩) ?_ ?_
        rotate_left
        ·intro w'
         go_simp
         with_reducible rfl
        rotate_left
        ·simp only [Act.put, List.setIfInBounds_toArray, List.set_cons_zero, List.set_cons_succ, Zh, Zi]
         rfl
        refine pure_ (i := 12) (N := some 64) (v := ?_) (a' := ?_) #[true, true, true, true, true, true, true, true, true, true, true, false, true, false, false, false, false, false, false, false] rfl rfl (Zq HT_.out (by kernel_rfl)) (fun _ _ _ h => h) (Or.inl ⟨by rfl, ?_⟩) ?_ ?_
        rotate_left
        ·intro w'
         go_simp
         with_reducible rfl
        rotate_left
        ·simp only [Act.put, List.setIfInBounds_toArray, List.set_cons_zero, List.set_cons_succ, Zh, Zi]
         rfl
        refine pure_ (i := 16) (N := some 68) (v := ?_) (a' := ?_) #[true, true, true, true, true, true, true, true, true, true, true, false, true, false, false, false, true, false, false, false] rfl rfl (Zq HT_.out (by kernel_rfl)) (fun _ _ _ h => h) (Or.inl ⟨by rfl, ?_⟩) ?_ ?_
        rotate_left
        ·intro w'
         go_simp
         with_reducible rfl
        rotate_left
        ·simp only [Act.put, List.setIfInBounds_toArray, List.set_cons_zero, List.set_cons_succ, Zh, Zi]
         rfl
        refine take_ (i := 11) (N := some 63) (v := ?_) (a' := ?_) #[true, true, true, true, true, true, true, true, true, true, true, true, true, false, false, false, true, false, false, false] rfl rfl (Zc1 HT_.out HW_.out (by kernel_rfl)) (fun _ _ _ h => h) (Or.inl ⟨by rfl, ?_⟩) hHeld ?_ ?_
        rotate_left
        ·rintro w' ⟨s0, s1, s2, s3, s4, s5, s6, s7⟩
         go_simp
         with_reducible rfl
        rotate_left
        ·simp only [Act.put, List.setIfInBounds_toArray, List.set_cons_zero, List.set_cons_succ, Zh, Zi]
         rfl
        refine pure_ (i := 13) (N := some 65) (v := ?_) (a' := ?_) #[true, true, true, true, true, true, true, true, true, true, true, true, true, true, false, false, true, false, false, false] rfl rfl (Zq HT_.out (by kernel_rfl)) (fun _ _ _ h => h) (Or.inl ⟨by rfl, ?_⟩) ?_ ?_
        rotate_left
        ·intro w'
         go_simp
         with_reducible rfl
        rotate_left
        ·simp only [Act.put, List.setIfInBounds_toArray, List.set_cons_zero, List.set_cons_succ, Zh, Zi]
         rfl
        refine take_ (i := 14) (N := some 66) (v := ?_) (a' := ?_) #[true, true, true, true, true, true, true, true, true, true, true, true, true, true, true, false, true, false, false, false] rfl rfl (Zc1 HT_.out HW_.out (by kernel_rfl)) (fun _ _ _ h => h) (Or.inl ⟨by rfl, ?_⟩) hHeld ?_ ?_
        rotate_left
        ·rintro w' ⟨s0, s1, s2, s3, s4, s5, s6, s7⟩
         go_simp
         with_reducible rfl
        rotate_left
        ·simp only [Act.put, List.setIfInBounds_toArray, List.set_cons_zero, List.set_cons_succ, Zh, Zi]
         rfl
        refine pure_ (i := 15) (N := some 67) (v := ?_) (a' := ?_) #[true, true, true, true, true, true, true, true, true, true, true, true, true, true, true, true, true, false, false, false] rfl rfl (Zq HT_.out (by kernel_rfl)) (fun _ _ _ h => h) (Or.inl ⟨by rfl, ?_⟩) ?_ ?_
        rotate_left
        ·intro w'
         go_simp
         with_reducible rfl
        rotate_left
        ·simp only [Act.put, List.setIfInBounds_toArray, List.set_cons_zero, List.set_cons_succ, Zh, Zi]
         rfl
        refine take_ (i := 17) (N := some 69) (v := ?_) (a' := ?_) #[true, true, true, true, true, true, true, true, true, true, true, true, true, true, true, true, true, true, false, false] rfl rfl (Zc1 HT_.out HW_.out (by kernel_rfl)) (fun _ _ _ h => h) (Or.inl ⟨by rfl, ?_⟩) hHeld ?_ ?_
        rotate_left
        ·rintro w' ⟨s0, s1, s2, s3, s4, s5, s6, s7⟩
         go_simp
         with_reducible rfl
        rotate_left
        ·simp only [Act.put, List.setIfInBounds_toArray, List.set_cons_zero, List.set_cons_succ, Zh, Zi]
         rfl
        refine pure_ (i := 18) (N := some 70) (v := ?_) (a' := ?_) #[true, true, true, true, true, true, true, true, true, true, true, true, true, true, true, true, true, true, true, false] rfl rfl (Zq HT_.out (by kernel_rfl)) (fun _ _ _ h => h) (Or.inl ⟨by rfl, ?_⟩) ?_ ?_
        rotate_left
        ·intro w'
         go_simp
         with_reducible rfl
        rotate_left
        ·simp only [Act.put, List.setIfInBounds_toArray, List.set_cons_zero, List.set_cons_succ, Zh, Zi]
         rfl
        refine pure_ (i := 19) (N := some 71) (v := ?_) (a' := ?_) #[true, true, true, true, true, true, true, true, true, true, true, true, true, true, true, true, true, true, true, true] rfl rfl (Zq HT_.out (by kernel_rfl)) (fun _ _ _ h => h) (Or.inl ⟨by rfl, ?_⟩) ?_ ?_
        rotate_left
        ·intro w'
         go_simp
         with_reducible rfl
        rotate_left
        ·simp only [Act.put, List.setIfInBounds_toArray, List.set_cons_zero, List.set_cons_succ, Zh, Zi]
         rfl
        refine done_ (done_of HT_.out (by kernel_rfl)) ?_
        try go_wp2
        go_ret
        exact ⟨by first | rfl | (simp [Zx, Zw] <;> rfl) | (simp [*, Zx, Zw] <;> rfl), by repeat (first | (with_reducible first | exact HB.out | apply zc1 | apply zc2 | apply zc3 | refine zc4 ?_ (by assumption)) | exact HB.out)⟩
       (rw [if_pos c25] at H); (have c25b0 : (((Zm l0_4 x49_3).length : Int) == a0_1) = true := beq_iff_eq.mpr c25); (have c25b1 : (((Zm l0_4 x49_3).length : Int) != a0_1) = false := bne_eq_false_iff_eq.mpr c25); (clear c25); (have H' := Za.mk H); (clear H)
       try go_wp2
       (replace BK117 := Za.mk (Zd BK117.out)); (replace HB := Za.mk (below_drew1 HB.out)); (have p118 : 0 ≤ (x49_3 : Int) := of_decide_eq_true (by assumption)); (have q118 : x49_3 < (l0_3.length : Int) := of_decide_eq_true (by assumption)); (obtain ⟨ad118, A118_0, c118_0, e118, hx118_0, hl118_0, hi118_0⟩ := at_L1 HR0_3.out x49_3 p118 q118); (have hw118_0 := hx118_0); (cases e118); (replace hx118_0 := (HB.out.cell (World.block_lt_of_cell? w _ hx118_0)).trans hx118_0); (have HR118_0 := Za.mk hi118_0); (have HC118_0 := Za.mk hl118_0); (clear hi118_0 hl118_0); (replace p118 := eq_true p118); (replace q118 := eq_true q118); (have p119 : 0 ≤ (x49_3 : Int) := of_decide_eq_true (by assumption)); (have q119 : x49_3 < (l0_4.length : Int) := of_decide_eq_true (by assumption)); (obtain ⟨ad119, A119_0, c119_0, e119, hx119_0, hl119_0, hi119_0⟩ := at_L2 HR0_4.out x49_3 p119 q119); (have hw119_0 := hx119_0); (cases e119); (replace hx119_0 := (HB.out.cell (World.block_lt_of_cell? w _ hx119_0)).trans hx119_0); (have HR119_0 := Za.mk hi119_0); (have HC119_0 := Za.mk hl119_0); (clear hi119_0 hl119_0); (replace p119 := eq_true p119); (replace q119 := eq_true q119)
       refine start_ (n := 20) (S := fun w' => w'.cell? ⟨gb117, 0, none⟩ = some (.int .i64 a0_0) ∧ w'.cell? ⟨gb117, 1, none⟩ = some (.int .i64 a0_1) ∧ w'.cell? ⟨gb117, 2, none⟩ = some (.int .i64 a0_2) ∧ w'.cell? ⟨gb117, 3, none⟩ = some (.slice (some ad118) l0_3.length c0_3) ∧ w'.cell? ⟨gb117, 4, none⟩ = some (.slice (some ad119) l0_4.length c0_4) ∧ w'.cell? ⟨gb117, 5, none⟩ = some (.int .i64 a0_5) ∧ w'.cell? (ad118.add (x49_3).toNat) = some (.slice A118_0 (Zj l0_3 x49_3).length c118_0) ∧ w'.cell? (ad119.add (x49_3).toNat) = some (.slice A119_0 (Zm l0_4 x49_3).length c119_0)) (ds := []) #[false, false, false, false, false, false, false, false, false, false, false, false, false, false, false, false, false, false, false, false] (by kernel_rfl) rfl rfl ⟨(Zb BK117.out 0).trans rfl, (Zb BK117.out 1).trans rfl, (Zb BK117.out 2).trans rfl, (Zb BK117.out 3).trans rfl, (Zb BK117.out 4).trans rfl, (Zb BK117.out 5).trans rfl, ((HB.out.cell (World.block_lt_of_cell? w _ hw118_0)).trans hw118_0), ((HB.out.cell (World.block_lt_of_cell? w _ hw119_0)).trans hw119_0)⟩ (fun hHeld => ?_); refine with_tabW Zp.tab8 Zp.bits8 (fun HT_ HW_ => ?_)
       generalize wr.drew = w26 at BK117 HB HR118_0 HR119_0 hx118_0 hx119_0 hHeld ⊢
       refine pure_ (i := 0) (N := some 52) (v := ?_) (a' := ?_) #[true, false, false, false, false, false, false, false, false, false, false, false, false, false, false, false, false, false, false, false] rfl rfl (Zq HT_.out (by kernel_rfl)) (fun _ _ _ h => h) (Or.inl ⟨by rfl, ?_⟩) ?_ ?_
       rotate_left
       ·intro w'
        go_simp
        with_reducible rfl
       rotate_left
       ·simp only [Act.put, List.setIfInBounds_toArray, List.set_cons_zero, List.set_cons_succ, Zh, Zi]
        rfl
       refine pure_ (i := 2) (N := some 54) (v := ?_) (a' := ?_) #[true, false, true, false, false, false, false, false, false, false, false, false, false, false, false, false, false, false, false, false] rfl rfl (Zq HT_.out (by kernel_rfl)) (fun _ _ _ h => h) (Or.inl ⟨by rfl, ?_⟩) ?_ ?_
       rotate_left
       ·intro w'
        go_simp
        with_reducible rfl
       rotate_left
       ·simp only [Act.put, List.setIfInBounds_toArray, List.set_cons_zero, List.set_cons_succ, Zh, Zi]
        rfl
       refine pure_ (i := 6) (N := some 58) (v := ?_) (a' := ?_) #[true, false, true, false, false, false, true, false, false, false, false, false, false, false, false, false, false, false, false, false] rfl rfl (Zq HT_.out (by kernel_rfl)) (fun _ _ _ h => h) (Or.inl ⟨by rfl, ?_⟩) ?_ ?_
       rotate_left
       ·intro w'
        go_simp
        with_reducible rfl
       rotate_left
       ·simp only [Act.put, List.setIfInBounds_toArray, List.set_cons_zero, List.set_cons_succ, Zh, Zi]
        rfl
       refine take_ (i := 1) (N := some 53) (v := ?_) (a' := ?_) #[true, true, true, false, false, false, true, false, false, false, false, false, false, false, false, false, false, false, false, false] rfl rfl (Zc1 HT_.out HW_.out (by kernel_rfl)) (fun _ _ _ h => h) (Or.inl ⟨by rfl, ?_⟩) hHeld ?_ ?_
       rotate_left
       ·rintro w' ⟨s0, s1, s2, s3, s4, s5, s6, s7⟩
        go_simp
        with_reducible rfl
       rotate_left
       ·simp only [Act.put, List.setIfInBounds_toArray, List.set_cons_zero, List.set_cons_succ, Zh, Zi]
        rfl
       refine pure_ (i := 3) (N := some 55) (v := ?_) (a' := ?_) #[true, true, true, true, false, false, true, false, false, false, false, false, false, false, false, false, false, false, false, false] rfl rfl (Zq HT_.out (by kernel_rfl)) (fun _ _ _ h => h) (Or.inl ⟨by rfl, ?_⟩) ?_ ?_
       rotate_left
       ·intro w'
        go_simp
        with_reducible rfl
       rotate_left
       ·simp only [Act.put, List.setIfInBounds_toArray, List.set_cons_zero, List.set_cons_succ, Zh, Zi]
        rfl
       refine take_ (i := 4) (N := some 56) (v := ?_) (a' := ?_) #[true, true, true, true, true, false, true, false, false, false, false, false, false, false, false, false, false, false, false, false] rfl rfl (Zc1 HT_.out HW_.out (by kernel_rfl)) (fun _ _ _ h => h) (Or.inl ⟨by rfl, ?_⟩) hHeld ?_ ?_
       rotate_left
       ·rintro w' ⟨s0, s1, s2, s3, s4, s5, s6, s7⟩
        go_simp
        with_reducible rfl
       rotate_left
       ·simp only [Act.put, List.setIfInBounds_toArray, List.set_cons_zero, List.set_cons_succ, Zh, Zi]
        rfl
       refine pure_ (i := 5) (N := some 57) (v := ?_) (a' := ?_) #[true, true, true, true, true, true, true, false, false, false, false, false, false, false, false, false, false, false, false, false] rfl rfl (Zq HT_.out (by kernel_rfl)) (fun _ _ _ h => h) (Or.inl ⟨by rfl, ?_⟩) ?_ ?_
       rotate_left
       ·intro w'
        go_simp
        with_reducible rfl
       rotate_left
       ·simp only [Act.put, List.setIfInBounds_toArray, List.set_cons_zero, List.set_cons_succ, Zh, Zi]
        rfl
       refine take_ (i := 7) (N := some 59) (v := ?_) (a' := ?_) #[true, true, true, true, true, true, true, true, false, false, false, false, false, false, false, false, false, false, false, false] rfl rfl (Zc1 HT_.out HW_.out (by kernel_rfl)) (fun _ _ _ h => h) (Or.inl ⟨by rfl, ?_⟩) hHeld ?_ ?_
       rotate_left
       ·rintro w' ⟨s0, s1, s2, s3, s4, s5, s6, s7⟩
        go_simp
        with_reducible rfl
       rotate_left
       ·simp only [Act.put, List.setIfInBounds_toArray, List.set_cons_zero, List.set_cons_succ, Zh, Zi]
        rfl
       refine pure_ (i := 8) (N := some 60) (v := ?_) (a' := ?_) #[true, true, true, true, true, true, true, true, true, false, false, false, false, false, false, false, false, false, false, false] rfl rfl (Zq HT_.out (by kernel_rfl)) (fun _ _ _ h => h) (Or.inl ⟨by rfl, ?_⟩) ?_ ?_
       rotate_left
       ·intro w'
        go_simp
        with_reducible rfl
       rotate_left
       ·simp only [Act.put, List.setIfInBounds_toArray, List.set_cons_zero, List.set_cons_succ, Zh, Zi]
        rfl
       refine pure_ (i := 9) (N := some 61) (v := ?_) (a' := ?_) #[true, true, true, true, true, true, true, true, true, true, false, false, false, false, false, false, false, false, false, false] rfl rfl (Zq HT_.out (by kernel_rfl)) (fun _ _ _ h => h) (Or.inl ⟨by rfl, ?_⟩) ?_ ?_
       rotate_left
       ·intro w'
        go_simp
        with_reducible rfl
       rotate_left
       ·simp only [Act.put, List.setIfInBounds_toArray, List.set_cons_zero, List.set_cons_succ, Zh, Zi]
        rfl
       refine pure_ (i := 10) (N := some 62) (v := ?_) (a' := ?_) #[true, true, true, true, true, true, true, true, true, true, true, false, false, false, false, false, false, false, false, false] rfl rfl (Zq HT_.out (by kernel_rfl)) (fun _ _ _ h => h) (Or.inl ⟨by rfl, ?_⟩) ?_ ?_
       rotate_left
       ·intro w'
        go_simp
        with_reducible rfl
       rotate_left
       ·simp only [Act.put, List.setIfInBounds_toArray, List.set_cons_zero, List.set_cons_succ, Zh, Zi]
        rfl
       refine pure_ (i := 12) (N := some 64) (v := ?_) (a' := ?_) #[true, true, true, true, true, true, true, true, true, true, true, false, true, false, false, false, false, false, false, false] rfl rfl (Zq HT_.out (by kernel_rfl)) (fun _ _ _ h => h) (Or.inl ⟨by rfl, ?_⟩) ?_ ?_
       rotate_left
       ·intro w'
        go_simp
        with_reducible rfl
       rotate_left
       ·simp only [Act.put, List.setIfInBounds_toArray, List.set_cons_zero, List.set_cons_succ, Zh, Zi]
        rfl
       refine pure_ (i := 16) (N := some 68) (v := ?_) (a' := ?_) #[true, true, true, true, true, true, true, true, true, true, true, false, true, false, false, false, true, false, false, false] rfl rfl (Zq HT_.out (by kernel_rfl)) (fun _ _ _ h => h) (Or.inl ⟨by rfl, ?_⟩) ?_ ?_
       rotate_left
       ·intro w'
        go_simp
        with_reducible rfl
       rotate_left
       ·simp only [Act.put, List.setIfInBounds_toArray, List.set_cons_zero, List.set_cons_succ, Zh, Zi]
        rfl
       refine take_ (i := 11) (N := some 63) (v := ?_) (a' := ?_) #[true, true, true, true, true, true, true, true, true, true, true, true, true, false, false, false, true, false, false, false] rfl rfl (Zc1 HT_.out HW_.out (by kernel_rfl)) (fun _ _ _ h => h) (Or.inl ⟨by rfl, ?_⟩) hHeld ?_ ?_
       rotate_left
       ·rintro w' ⟨s0, s1, s2, s3, s4, s5, s6, s7⟩
        go_simp
        with_reducible rfl
       rotate_left
       ·simp only [Act.put, List.setIfInBounds_toArray, List.set_cons_zero, List.set_cons_succ, Zh, Zi]
        rfl
       refine pure_ (i := 13) (N := some 65) (v := ?_) (a' := ?_) #[true, true, true, true, true, true, true, true, true, true, true, true, true, true, false, false, true, false, false, false] rfl rfl (Zq HT_.out (by kernel_rfl)) (fun _ _ _ h => h) (Or.inl ⟨by rfl, ?_⟩) ?_ ?_
       rotate_left
       ·intro w'
        go_simp
        with_reducible rfl
       rotate_left
       ·simp only [Act.put, List.setIfInBounds_toArray, List.set_cons_zero, List.set_cons_succ, Zh, Zi]
        rfl
       refine take_ (i := 14) (N := some 66) (v := ?_) (a' := ?_) #[true, true, true, true, true, true, true, true, true, true, true, true, true, true, true, false, true, false, false, false] rfl rfl (Zc1 HT_.out HW_.out (by kernel_rfl)) (fun _ _ _ h => h) (Or.inl ⟨by rfl, ?_⟩) hHeld ?_ ?_
       rotate_left
       ·rintro w' ⟨s0, s1, s2, s3, s4, s5, s6, s7⟩
        go_simp
        with_reducible rfl
       rotate_left
       ·simp only [Act.put, List.setIfInBounds_toArray, List.set_cons_zero, List.set_cons_succ, Zh, Zi]
        rfl
       refine pure_ (i := 15) (N := some 67) (v := ?_) (a' := ?_) #[true, true, true, true, true, true, true, true, true, true, true, true, true, true, true, true, true, false, false, false] rfl rfl (Zq HT_.out (by kernel_rfl)) (fun _ _ _ h => h) (Or.inl ⟨by rfl, ?_⟩) ?_ ?_
       rotate_left
       ·intro w'
        go_simp
        with_reducible rfl
       rotate_left
       ·simp only [Act.put, List.setIfInBounds_toArray, List.set_cons_zero, List.set_cons_succ, Zh, Zi]
        rfl
       refine take_ (i := 17) (N := some 69) (v := ?_) (a' := ?_) #[true, true, true, true, true, true, true, true, true, true, true, true, true, true, true, true, true, true, false, false] rfl rfl (Zc1 HT_.out HW_.out (by kernel_rfl)) (fun _ _ _ h => h) (Or.inl ⟨by rfl, ?_⟩) hHeld ?_ ?_
       rotate_left
       ·rintro w' ⟨s0, s1, s2, s3, s4, s5, s6, s7⟩
        go_simp
        with_reducible rfl
       rotate_left
       ·simp only [Act.put, List.setIfInBounds_toArray, List.set_cons_zero, List.set_cons_succ, Zh, Zi]
        rfl
       refine pure_ (i := 18) (N := some 70) (v := ?_) (a' := ?_) #[true, true, true, true, true, true, true, true, true, true, true, true, true, true, true, true, true, true, true, false] rfl rfl (Zq HT_.out (by kernel_rfl)) (fun _ _ _ h => h) (Or.inl ⟨by rfl, ?_⟩) ?_ ?_
       rotate_left
       ·intro w'
        go_simp
        with_reducible rfl
       rotate_left
       ·simp only [Act.put, List.setIfInBounds_toArray, List.set_cons_zero, List.set_cons_succ, Zh, Zi]
        rfl
       refine pure_ (i := 19) (N := some 71) (v := ?_) (a' := ?_) #[true, true, true, true, true, true, true, true, true, true, true, true, true, true, true, true, true, true, true, true] rfl rfl (Zq HT_.out (by kernel_rfl)) (fun _ _ _ h => h) (Or.inl ⟨by rfl, ?_⟩) ?_ ?_
       rotate_left
       ·intro w'
        go_simp
        with_reducible rfl
       rotate_left
       ·simp only [Act.put, List.setIfInBounds_toArray, List.set_cons_zero, List.set_cons_succ, Zh, Zi]
        rfl
       refine done_ (done_of HT_.out (by kernel_rfl)) ?_
       try go_wp2
       go_roundg k3
       case measure => have := HJ1.out; have := HJ13.out; have := HK3.out; omega
       case rel => exact ⟨(wrap64 (x49_3 + 1)), (by first | rfl | (simp; done) | (simp [*]; done)), H', ⟨by have := HJ1.out; have := HJ13.out; have := HK3.out; omega⟩, ⟨by (with_reducible repeat (first | apply zb3 | apply zb2 | apply zb1)); exact BK117.out⟩, ⟨by repeat (first | (with_reducible first | exact HB.out | apply zc1 | apply zc2 | apply zc3 | refine zc4 ?_ (by assumption)) | exact HB.out)⟩⟩
end Go.Proofs.Ytlljiegdhelmiaa.PTurnerThens
