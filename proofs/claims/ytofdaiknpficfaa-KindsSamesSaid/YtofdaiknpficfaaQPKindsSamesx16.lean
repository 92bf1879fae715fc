-- Printed by a turn of a template of the kit, and shortened: remarks and what nothing here uses are left out.
import Derived.Test.YtofdaiknpficfaaQPKindsSamesx0
import Derived.Test.YtofdaiknpficfaaQPKindsSamesx10
import Derived.Test.YtofdaiknpficfaaQPKindsSamesx12
import Derived.Test.YtofdaiknpficfaaQPKindsSamesx15
namespace Go.Proofs.Ytofdaiknpficfaa.PKindsSames
open Go.RowKit Go.Proofs.YtofdaiknpficfaaW.PrintWords Go.Proofs.YtofdaiknpficfaaW.PrintLast Go.Proofs.YtofdaiknpficfaaW.PrintMore
attribute [local go_sem] max2_int min2_int max_two min_two max_three min_three max_four min_four
set_option linter.unusedVariables false
set_option linter.unusedSimpArgs false
def Zd1.j0 : Nat → List Int → List Int → Bool → Int → Int → Int → Int → List (List Int) → Int → Int → Option (Bool)
  | 0, _, _, _, _, _, _, _, _, _, _ => none
  | k + 1, x1, x2, x7, x8, x9, x334000, x334001, x334002, x334003, x334004 => if x9 = 0 then (if x8 = 0 then ((Zm.f k x334000 x334001 x334002 x334003 x334004 x1).bind fun t338 => ((Zm.f k x334000 x334001 x334002 x334003 x334004 x2).bind fun t341 => ((Zn1.f k t338 t341).bind fun t344 => (some (x7 == t344))))) else (some false)) else (if x8 = x9 then (some (!x7)) else (some false))
def Zd1.f (k : Nat) (a0_0 : Int) (a0_1 : Int) (l0_2 : List (List Int)) (a0_3 : Int) (a0_4 : Int) (l1 : List Int) (l2 : List Int) : Option (Bool) := (Zw.f k a0_0 a0_1 l0_2 a0_3 a0_4 l1 l2).bind fun bt334 => ((Zp1.f k a0_0 a0_1 l0_2 a0_3 a0_4 l1).bind fun t336 => (if t336 = 0 then ((Zp1.f k a0_0 a0_1 l0_2 a0_3 a0_4 l2).bind fun t337 => (Zd1.j0 k l1 l2 bt334.1 bt334.2 t337 a0_0 a0_1 l0_2 a0_3 a0_4)) else (Zd1.j0 k l1 l2 bt334.1 bt334.2 t336 a0_0 a0_1 l0_2 a0_3 a0_4)))
theorem Zd1.mono_l : ∀ k, (∀ y0 y1 y2 y3 y4 y5 y6 y7 y8 y9, LeO (Zd1.j0 k y0 y1 y2 y3 y4 y5 y6 y7 y8 y9) (Zd1.j0 (k + 1) y0 y1 y2 y3 y4 y5 y6 y7 y8 y9))
  | 0 => fun _ _ _ _ _ _ _ _ _ _ r h => by simp [Zd1.j0] at h
  | k + 1 => by
    have ih0 := Zd1.mono_l k
    · intro y0 y1 y2 y3 y4 y5 y6 y7 y8 y9
      unfold Zd1.j0
      repeat' first
      | (with_reducible exact ih0 _ _ _ _ _ _ _ _ _ _)
      | (with_reducible exact Zp1.mono _ _ _ _ _ _ _)
      | (with_reducible exact Zm.mono _ _ _ _ _ _ _)
      | (with_reducible exact Zn1.mono _ _ _)
      | (with_reducible exact Zw.mono _ _ _ _ _ _ _ _)
      | (with_reducible exact LeO.refl _)
      | (with_reducible exact LeO.none _)
      | (with_reducible refine LeO.ite ?_ ?_)
      | (with_reducible refine LeO.bind ?_ (fun _ => ?_))
      | exact ih0 _ _ _ _ _ _ _ _ _ _
      | exact Zp1.mono _ _ _ _ _ _ _
      | exact Zm.mono _ _ _ _ _ _ _
      | exact Zn1.mono _ _ _
      | exact Zw.mono _ _ _ _ _ _ _ _
      | exact LeO.none _
      | refine LeO.ite ?_ ?_
      | refine LeO.bind ?_ (fun _ => ?_)
theorem Zd1.mono : ∀ a0 a1 a2 a3 a4 a5 a6 k, LeO (Zd1.f k a0 a1 a2 a3 a4 a5 a6) (Zd1.f (k + 1) a0 a1 a2 a3 a4 a5 a6) := by
  intro a0 a1 a2 a3 a4 a5 a6 k
  have ih0 := Zd1.mono_l k
  unfold Zd1.f
  repeat' first
      | (with_reducible exact ih0 _ _ _ _ _ _ _ _ _ _)
      | (with_reducible exact Zp1.mono _ _ _ _ _ _ _)
      | (with_reducible exact Zm.mono _ _ _ _ _ _ _)
      | (with_reducible exact Zn1.mono _ _ _)
      | (with_reducible exact Zw.mono _ _ _ _ _ _ _ _)
      | (with_reducible exact LeO.refl _)
      | (with_reducible exact LeO.none _)
      | (with_reducible refine LeO.ite ?_ ?_)
      | (with_reducible refine LeO.bind ?_ (fun _ => ?_))
      | exact ih0 _ _ _ _ _ _ _ _ _ _
      | exact Zp1.mono _ _ _ _ _ _ _
      | exact Zm.mono _ _ _ _ _ _ _
      | exact Zn1.mono _ _ _
      | exact Zw.mono _ _ _ _ _ _ _ _
      | exact LeO.none _
      | refine LeO.ite ?_ ?_
      | refine LeO.bind ?_ (fun _ => ?_)
def Zd1.T7 : Bool × List (List Nat × List Nat) := (true, [([], []), ([0], [0]), ([1], [1]), ([2], [2]), ([2], [2]), ([2], [2]), ([4, 5, 2, 2], [2, 4, 5]), ([2], [2]), ([2], [2]), ([7, 8, 6, 2], [2, 7, 8]), ([6, 9, 9, 2], [2, 6, 9]), ([3, 10, 2], [2, 3, 10]), ([2, 11], [2, 11]), ([12, 10, 0, 1, 2, 3, 4, 5, 6, 7, 8, 9, 10, 11, 12], [12])])
def Zd1.B7 : List Nat := [0, 1, 3, 7, 7, 7, 55, 7, 7, 503, 1015, 2047, 4095, 8191]
theorem Zd1.tab7 : rtab .any (opsOf Try.f4 7) = Zd1.T7 := by kernel_rfl
theorem Zd1.bits7 : waitsOk Zd1.T7.2 Zd1.B7 = true := by kernel_rfl
set_option maxHeartbeats 8000000 in
set_option maxRecDepth 100000 in
theorem Zd1.calls (k : Nat) (a0_0 : Int) (a0_1 : Int) (A0_2 : Option Addr) (c0_2 : Nat) (l0_2 : List (List Int)) (a0_3 : Int) (a0_4 : Int) (A1 : Option Addr) (c1 : Nat) (l1 : List Int) (A2 : Option Addr) (c2 : Nat) (l2 : List Int) (r : Bool) (w : World) (hr0_2 : Kd.C (Kd.slice 3 (Kd.int .i64)) w A0_2 l0_2.length l0_2) (hc0_2 : l0_2.length ≤ c0_2) (hr1 : Kd.C (Kd.int .i64) w A1 l1.length l1) (hc1 : l1.length ≤ c1) (hr2 : Kd.C (Kd.int .i64) w A2 l2.length l2) (hc2 : l2.length ≤ c2) (h : Zd1.f k a0_0 a0_1 l0_2 a0_3 a0_4 l1 l2 = some r) :
    Calls Try.prog 4 #[.agg #[.int .i64 a0_0, .int .i64 a0_1, .slice A0_2 l0_2.length c0_2, .int .i64 a0_3, .int .u32 a0_4], .slice A1 l1.length c1, .slice A2 l2.length c2] w fun e w' => e = .returned (.bool r) ∧ Below w.heap.size w w' := by
 (have hu25 := Try.underlying25); (have HR0_2 := Za.mk hr0_2); (have HC0_2 := Za.mk hc0_2); (clear hr0_2 hc0_2); (have HR1 := Za.mk hr1); (have HC1 := Za.mk hc1); (clear hr1 hc1); (have HR2 := Za.mk hr2); (have HC2 := Za.mk hc2); (clear hr2 hc2); (have HB := Za.mk (Below.refl w.heap.size w)); (have H : ((Zw.f k a0_0 a0_1 l0_2 a0_3 a0_4 l1 l2).bind fun bt334 => ((Zp1.f k a0_0 a0_1 l0_2 a0_3 a0_4 l1).bind fun t336 => (if t336 = 0 then ((Zp1.f k a0_0 a0_1 l0_2 a0_3 a0_4 l2).bind fun t337 => (Zd1.j0 k l1 l2 bt334.1 bt334.2 t337 a0_0 a0_1 l0_2 a0_3 a0_4)) else (Zd1.j0 k l1 l2 bt334.1 bt334.2 t336 a0_0 a0_1 l0_2 a0_3 a0_4)))) = some r := h); (clear h); (replace H := Option.bind_eq_some_iff.mp H); (obtain ⟨⟨t334, t335⟩, A40, H⟩ := H); (replace H : ((Zp1.f k a0_0 a0_1 l0_2 a0_3 a0_4 l1).bind fun t336 => (if t336 = 0 then ((Zp1.f k a0_0 a0_1 l0_2 a0_3 a0_4 l2).bind fun t337 => (Zd1.j0 k l1 l2 t334 t335 t337 a0_0 a0_1 l0_2 a0_3 a0_4)) else (Zd1.j0 k l1 l2 t334 t335 t336 a0_0 a0_1 l0_2 a0_3 a0_4))) = some r := H); (have A4 := Za.mk A40); (clear A40); (replace H := Option.bind_eq_some_iff.mp H); (obtain ⟨t336, A50, H⟩ := H); (replace H : (if t336 = 0 then ((Zp1.f k a0_0 a0_1 l0_2 a0_3 a0_4 l2).bind fun t337 => (Zd1.j0 k l1 l2 t334 t335 t337 a0_0 a0_1 l0_2 a0_3 a0_4)) else (Zd1.j0 k l1 l2 t334 t335 t336 a0_0 a0_1 l0_2 a0_3 a0_4)) = some r := H)
 (have A5 := Za.mk A50); (clear A50); (have HC6 := Za.mk H); (clear H)
 go_enter Try.func4, Try.ntmps4
 go_upto_if 21 with (first | ((with_reducible refine Zb1 (N := 3) rfl ?_); refine Zi1 ?hg (N := 3) ?hd (cs := #[.int .i64 a0_0, .int .i64 a0_1, .slice A0_2 l0_2.length c0_2, .int .i64 a0_3, .int .u32 a0_4]) (t := 25) ?hr ?_; (case hd => rfl); (case hg => rfl); (case hr => first | (go_simp; done) | (go_simp; rfl)); intro gb333 hg w7 hbox hb; have n0_ := Za.mk (Zo (by repeat (first | (with_reducible first | exact HB.out | apply zc1 | apply zc2 | apply zc3) | exact HB.out)) hb); have n1_ := Za.mk (hbox); have n2_ := Za.mk ((by rw [hg]; exact (Zl (by repeat (first | (with_reducible first | exact HB.out | apply zc1 | apply zc2 | apply zc3) | exact HB.out))) : w.heap.size ≤ gb333)); have n3_ := Za.mk ((by rw [hg]; exact (Zl (by repeat (first | (with_reducible first | exact HB.out | apply zc1 | apply zc2 | apply zc3) | exact HB.out))) : w.heap.size ≤ gb333)); clear HB; have HB := n0_; have BK333 := n1_; have GW333 := n2_; have GE333 := n3_; clear n0_ n1_ n2_ n3_; clear hb hbox hg; have hcz8_0 : w7.cell? ⟨gb333, 0, none⟩ = some (.int .i64 a0_0) := (Zb BK333.out 0).trans rfl; have hcz8_1 : w7.cell? ⟨gb333, 1, none⟩ = some (.int .i64 a0_1) := (Zb BK333.out 1).trans rfl; have hcz8_2 : w7.cell? ⟨gb333, 2, none⟩ = some (.slice A0_2 l0_2.length c0_2) := (Zb BK333.out 2).trans rfl; have hcz8_3 : w7.cell? ⟨gb333, 3, none⟩ = some (.int .i64 a0_3) := (Zb BK333.out 3).trans rfl; have hcz8_4 : w7.cell? ⟨gb333, 4, none⟩ = some (.int .u32 a0_4) := (Zb BK333.out 4).trans rfl; have hfz8_0 := Zc BK333.out 0; have hfz8_1 := Zc BK333.out 1; have hfz8_2 := Zc BK333.out 2; have hfz8_3 := Zc BK333.out 3; have hfz8_4 := Zc BK333.out 4) | ((with_reducible refine gate_callee (f := 9) rfl ?_); refine goesL_ (some 14) rfl rfl Try.func9 (by kernel_rfl) rfl #[.agg #[.int .i64 a0_0, .int .i64 a0_1, .slice A0_2 l0_2.length c0_2, .int .i64 a0_3, .int .u32 a0_4], .slice A1 l1.length c1, .slice A2 l2.length c2] rfl (by (try simp only [List.map_toArray, List.map_cons, List.map_nil]); first | done | rfl | (simp only [List.length_drop, List.length_take]; rfl)) ?_; (with_reducible refine (Zw.calls k a0_0 a0_1 _ _ l0_2 a0_3 a0_4 (fun k_ => k_ < w.heap.size) _ _ l1 (fun k_ => k_ < w.heap.size) _ _ l2 t334 t335 _ ?side1 ?side2 ?side3 ?side4 A4.out).mono ?_); (case side1 => repeat (first | exact (Kd.C_below HR0_2.out HB.out) | (with_reducible refine Kd.C_alloc ?_ _) | (with_reducible refine Kd.C_drewN ?_ _) | (with_reducible refine Kd.C_drew ?_))); (case side2 => exact HC0_2.out); (case side3 => exact Kd.V_mk HC1.out (Kd.F_below (Kd.C_F (Kd.heap_int .i64) HR1.out) (by repeat (first | (with_reducible first | exact HB.out | apply zc1 | apply zc2 | apply zc3 | refine zc4 ?_ (by assumption)) | exact HB.out)))); (case side4 => exact Kd.V_mk HC2.out (Kd.F_below (Kd.C_F (Kd.heap_int .i64) HR2.out) (by repeat (first | (with_reducible first | exact HB.out | apply zc1 | apply zc2 | apply zc3 | refine zc4 ?_ (by assumption)) | exact HB.out)))); rintro e w9 ⟨rfl, hb⟩; refine ⟨_, rfl, ?_⟩; have n0_ := Za.mk (Zn (g := gb333) (by (with_reducible repeat (first | apply zb3 | apply zb2 | apply zb1)); exact BK333.out) hb); have n1_ := Za.mk (Zo (by repeat (first | (with_reducible first | exact HB.out | apply zc1 | apply zc2 | apply zc3 | refine zc4 ?_ (by assumption)) | exact HB.out)) hb); clear BK333; clear HB; have BK333 := n0_; have HB := n1_; clear n0_ n1_; (try clear hb); (try clear hb2); (try clear hk); (try clear hi); have hcz10_0 : w9.cell? ⟨gb333, 0, none⟩ = some (.int .i64 a0_0) := (Zb BK333.out 0).trans rfl; have hcz10_1 : w9.cell? ⟨gb333, 1, none⟩ = some (.int .i64 a0_1) := (Zb BK333.out 1).trans rfl; have hcz10_2 : w9.cell? ⟨gb333, 2, none⟩ = some (.slice A0_2 l0_2.length c0_2) := (Zb BK333.out 2).trans rfl; have hcz10_3 : w9.cell? ⟨gb333, 3, none⟩ = some (.int .i64 a0_3) := (Zb BK333.out 3).trans rfl; have hcz10_4 : w9.cell? ⟨gb333, 4, none⟩ = some (.int .u32 a0_4) := (Zb BK333.out 4).trans rfl; have hfz10_0 := Zc BK333.out 0; have hfz10_1 := Zc BK333.out 1; have hfz10_2 := Zc BK333.out 2; have hfz10_3 := Zc BK333.out 3; have hfz10_4 := Zc BK333.out 4) | ((with_reducible refine gate_callee (f := 10) rfl ?_); refine goesL_ (some 19) rfl rfl Try.func10 (by kernel_rfl) rfl #[.agg #[.int .i64 a0_0, .int .i64 a0_1, .slice A0_2 l0_2.length c0_2, .int .i64 a0_3, .int .u32 a0_4], .slice A1 l1.length c1] rfl (by (try simp only [List.map_toArray, List.map_cons, List.map_nil]); first | done | rfl | (simp only [List.length_drop, List.length_take]; rfl)) ?_; (with_reducible refine (Zp1.calls k a0_0 a0_1 _ _ l0_2 a0_3 a0_4 _ _ l1 t336 _ ?side1 ?side2 ?side3 ?side4 A5.out).mono ?_); (case side1 => repeat (first | exact (Kd.C_below HR0_2.out HB.out) | (with_reducible refine Kd.C_alloc ?_ _) | (with_reducible refine Kd.C_drewN ?_ _) | (with_reducible refine Kd.C_drew ?_))); (case side2 => exact HC0_2.out); (case side3 => repeat (first | exact (Kd.C_below HR1.out HB.out) | (with_reducible refine Kd.C_alloc ?_ _) | (with_reducible refine Kd.C_drewN ?_ _) | (with_reducible refine Kd.C_drew ?_))); (case side4 => exact HC1.out); rintro e w11 ⟨rfl, hb⟩; refine ⟨_, rfl, ?_⟩; have n0_ := Za.mk (Zn (g := gb333) (by (with_reducible repeat (first | apply zb3 | apply zb2 | apply zb1)); exact BK333.out) hb); have n1_ := Za.mk (Zo (by repeat (first | (with_reducible first | exact HB.out | apply zc1 | apply zc2 | apply zc3 | refine zc4 ?_ (by assumption)) | exact HB.out)) hb); clear BK333; clear HB; have BK333 := n0_; have HB := n1_; clear n0_ n1_; (try clear hb); (try clear hb2); (try clear hk); (try clear hi)))
 (try simp only [Act.put, List.setIfInBounds_toArray, List.set_cons_zero, List.set_cons_succ])
 go_cut [9] (fun v9 wc => ∃ (kq : Nat) (x9_5 : Int), v9 = .int .i64 x9_5 ∧ Za (Zd1.j0 kq l1 l2 t334 t335 x9_5 a0_0 a0_1 l0_2 a0_3 a0_4 = some r) ∧ Za (kq ≤ k) ∧ Za (wc.heap[gb333]? = some (.cells #[.int .i64 a0_0, .int .i64 a0_1, (.slice A0_2 l0_2.length c0_2), .int .i64 a0_3, .int .u32 a0_4] 25 (0, 0))) ∧ Za (Below w.heap.size w wc))
 case first =>
  (have H := HC6.out); (clear HC6)
  by_cases c12 : t336 = 0
  rotate_left
  ·rw [if_neg c12] at H
   (have c12b0 : (t336 == 0) = false := beq_eq_false_iff_ne.mpr c12); (have c12b1 : (t336 != 0) = true := bne_iff_ne.mpr c12)
   (first | rw [c12b0] | (simp only [Zf, Ze]; rw [c12b0]) | skip)
   (have H' := Za.mk H); (clear H)
   go_wp2
   go_meet
   case rel => exact ⟨_, (t336), (by first | rfl | (simp; done) | (simp [*]; done)), H', ⟨by first | omega | exact Nat.le_refl _⟩, ⟨by (with_reducible repeat (first | apply zb3 | apply zb2 | apply zb1)); exact BK333.out⟩, ⟨by repeat (first | (with_reducible first | exact HB.out | apply zc1 | apply zc2 | apply zc3 | refine zc4 ?_ (by assumption)) | exact HB.out)⟩⟩
  (rw [if_pos c12] at H); (have c12b0 : (t336 == 0) = true := beq_iff_eq.mpr c12); (have c12b1 : (t336 != 0) = false := bne_eq_false_iff_eq.mpr c12); (clear c12)
  (first | rw [c12b0] | (simp only [Zf, Ze]; rw [c12b0]) | skip)
  (replace H := Option.bind_eq_some_iff.mp H); (obtain ⟨t337, A130, H⟩ := H); (replace H : (Zd1.j0 k l1 l2 t334 t335 t337 a0_0 a0_1 l0_2 a0_3 a0_4) = some r := H); (have A13 := Za.mk A130); (clear A130); (have H' := Za.mk H); (clear H); (have hcz14_0 : w11.cell? ⟨gb333, 0, none⟩ = some (.int .i64 a0_0) := (Zb BK333.out 0).trans rfl); (have hcz14_1 : w11.cell? ⟨gb333, 1, none⟩ = some (.int .i64 a0_1) := (Zb BK333.out 1).trans rfl); (have hcz14_2 : w11.cell? ⟨gb333, 2, none⟩ = some (.slice A0_2 l0_2.length c0_2) := (Zb BK333.out 2).trans rfl); (have hcz14_3 : w11.cell? ⟨gb333, 3, none⟩ = some (.int .i64 a0_3) := (Zb BK333.out 3).trans rfl); (have hcz14_4 : w11.cell? ⟨gb333, 4, none⟩ = some (.int .u32 a0_4) := (Zb BK333.out 4).trans rfl); (have hfz14_0 := Zc BK333.out 0); (have hfz14_1 := Zc BK333.out 1); (have hfz14_2 := Zc BK333.out 2); (have hfz14_3 := Zc BK333.out 3); (have hfz14_4 := Zc BK333.out 4)
  go_wp2_with (first | ((with_reducible refine gate_callee (f := 10) rfl ?_); refine goesL_ (some 24) rfl rfl Try.func10 (by kernel_rfl) rfl #[.agg #[.int .i64 a0_0, .int .i64 a0_1, .slice A0_2 l0_2.length c0_2, .int .i64 a0_3, .int .u32 a0_4], .slice A2 l2.length c2] rfl (by (try simp only [List.map_toArray, List.map_cons, List.map_nil]); first | done | rfl | (simp only [List.length_drop, List.length_take]; rfl)) ?_; (with_reducible refine (Zp1.calls k a0_0 a0_1 _ _ l0_2 a0_3 a0_4 _ _ l2 t337 _ ?side1 ?side2 ?side3 ?side4 A13.out).mono ?_); (case side1 => repeat (first | exact (Kd.C_below HR0_2.out HB.out) | (with_reducible refine Kd.C_alloc ?_ _) | (with_reducible refine Kd.C_drewN ?_ _) | (with_reducible refine Kd.C_drew ?_))); (case side2 => exact HC0_2.out); (case side3 => repeat (first | exact (Kd.C_below HR2.out HB.out) | (with_reducible refine Kd.C_alloc ?_ _) | (with_reducible refine Kd.C_drewN ?_ _) | (with_reducible refine Kd.C_drew ?_))); (case side4 => exact HC2.out); rintro e w15 ⟨rfl, hb⟩; refine ⟨_, rfl, ?_⟩; replace BK333 := Za.mk (Zn (g := gb333) (by (with_reducible repeat (first | apply zb3 | apply zb2 | apply zb1)); exact BK333.out) hb); replace HB := Za.mk (Zo (by repeat (first | (with_reducible first | exact HB.out | apply zc1 | apply zc2 | apply zc3 | refine zc4 ?_ (by assumption)) | exact HB.out)) hb); (try clear hb); (try clear hb2); (try clear hk); (try clear hi)))
  go_meet
  case rel => exact ⟨_, (t337), (by first | rfl | (simp; done) | (simp [*]; done)), H', ⟨by first | omega | exact Nat.le_refl _⟩, ⟨by (with_reducible repeat (first | apply zb3 | apply zb2 | apply zb1)); exact BK333.out⟩, ⟨by repeat (first | (with_reducible first | exact HB.out | apply zc1 | apply zc2 | apply zc3 | refine zc4 ?_ (by assumption)) | exact HB.out)⟩⟩
 case rest =>
  (clear HC6); (try clear c1); (try clear c2); (try clear p2); (try clear c4); (try clear c9); (try clear c10); (try clear c12); (try clear c12b0); (try clear c12b1); (try clear hcz10_0 hcz10_1 hcz10_2 hcz10_3 hcz10_4 hcz14_0 hcz14_1 hcz14_2 hcz14_3 hcz14_4 hcz8_0 hcz8_1 hcz8_2 hcz8_3 hcz8_4 hfz10_0 hfz10_1 hfz10_2 hfz10_3 hfz10_4 hfz14_0 hfz14_1 hfz14_2 hfz14_3 hfz14_4 hfz8_0 hfz8_1 hfz8_2 hfz8_3 hfz8_4); (obtain ⟨kq, x9_5, rfl, HA, HJ5, BK333, HB⟩ := hcut)
  cases kq with
  | zero => exact absurd HA.out (by simp [Zd1.j0])
  | succ kj5 =>
   (have H := HA.out); (clear HA); (simp only [Zd1.j0] at H)
   by_cases c16 : x9_5 = 0
   rotate_left
   ·rw [if_neg c16] at H
    (have c16b0 : (x9_5 == 0) = false := beq_eq_false_iff_ne.mpr c16); (have c16b1 : (x9_5 != 0) = true := bne_iff_ne.mpr c16)
    by_cases c27 : t335 = x9_5
    rotate_left
    ·rw [if_neg c27] at H
     (have c27b0 : (t335 == x9_5) = false := beq_eq_false_iff_ne.mpr c27); (have c27b1 : (t335 != x9_5) = true := bne_iff_ne.mpr c27); (obtain rfl := Option.some.inj H)
     go_wp2
     go_ret
     exact ⟨by first | rfl | (simp [Zu, Zv] <;> rfl) | (simp [*, Zu, Zv] <;> rfl), by repeat (first | (with_reducible first | exact HB.out | apply zc1 | apply zc2 | apply zc3 | refine zc4 ?_ (by assumption)) | exact HB.out)⟩
    (rw [if_pos c27] at H); (have c27b0 : (t335 == x9_5) = true := beq_iff_eq.mpr c27); (have c27b1 : (t335 != x9_5) = false := bne_eq_false_iff_eq.mpr c27); (clear c27); (obtain rfl := Option.some.inj H)
    go_wp2
    go_ret
    exact ⟨by first | rfl | (simp [Zu, Zv] <;> rfl) | (simp [*, Zu, Zv] <;> rfl), by repeat (first | (with_reducible first | exact HB.out | apply zc1 | apply zc2 | apply zc3 | refine zc4 ?_ (by assumption)) | exact HB.out)⟩
   (rw [if_pos c16] at H); (have c16b0 : (x9_5 == 0) = true := beq_iff_eq.mpr c16); (have c16b1 : (x9_5 != 0) = false := bne_eq_false_iff_eq.mpr c16); (clear c16)
   by_cases c17 : t335 = 0
   rotate_left
   ·rw [if_neg c17] at H
    (have c17b0 : (t335 == 0) = false := beq_eq_false_iff_ne.mpr c17); (have c17b1 : (t335 != 0) = true := bne_iff_ne.mpr c17); (obtain rfl := Option.some.inj H)
    try go_wp2
    (replace BK333 := Za.mk (Zh BK333.out)); (replace HB := Za.mk (below_drew1 HB.out))
    refine start_ (n := 14) (S := fun w' => True) (ds := []) #[false, false, false, false, false, false, false, false, false, false, false, false, false, false] (by kernel_rfl) rfl rfl trivial (fun hHeld => ?_); refine with_tabW Zd1.tab7 Zd1.bits7 (fun HT_ HW_ => ?_)
    generalize wc.drew = w26 at BK333 HB hHeld ⊢
    refine pure_ (i := 0) (N := some 34) (v := ?_) (a' := ?_) #[true, false, false, false, false, false, false, false, false, false, false, false, false, false] rfl rfl (Zi HT_.out (by kernel_rfl)) (fun _ _ _ h => h) (Or.inl ⟨by rfl, ?_⟩) ?_ ?_
    rotate_left
    ·intro w'
     go_simp
     with_reducible rfl
    rotate_left
    ·simp only [Act.put, List.setIfInBounds_toArray, List.set_cons_zero, List.set_cons_succ, Zf, Ze]
     rfl
    refine pure_ (i := 1) (N := some 35) (v := ?_) (a' := ?_) #[true, true, false, false, false, false, false, false, false, false, false, false, false, false] rfl rfl (Zi HT_.out (by kernel_rfl)) (fun _ _ _ h => h) (Or.inl ⟨by rfl, ?_⟩) ?_ ?_
    rotate_left
    ·intro w'
     go_simp
     with_reducible rfl
    rotate_left
    ·simp only [Act.put, List.setIfInBounds_toArray, List.set_cons_zero, List.set_cons_succ, Zf, Ze]
     rfl
    refine pure_ (i := 2) (N := some 36) (v := ?_) (a' := ?_) #[true, true, true, false, false, false, false, false, false, false, false, false, false, false] rfl rfl (Zi HT_.out (by kernel_rfl)) (fun _ _ _ h => h) (Or.inl ⟨by rfl, ?_⟩) ?_ ?_
    rotate_left
    ·intro w'
     go_simp
     with_reducible rfl
    rotate_left
    ·simp only [Act.put, List.setIfInBounds_toArray, List.set_cons_zero, List.set_cons_succ, Zf, Ze]
     rfl
    refine pure_ (i := 3) (N := some 37) (v := undef) (a' := ?_) #[true, true, true, true, false, false, false, false, false, false, false, false, false, false] rfl rfl (Zi HT_.out (by kernel_rfl)) (fun _ _ _ h => h) (Or.inr ⟨by rfl, rfl⟩) ?_ ?_
    rotate_left
    ·simp only [Act.put, List.setIfInBounds_toArray, List.set_cons_zero, List.set_cons_succ, Zf, Ze]
     rfl
    refine pure_ (i := 4) (N := some 38) (v := undef) (a' := ?_) #[true, true, true, true, true, false, false, false, false, false, false, false, false, false] rfl rfl (Zi HT_.out (by kernel_rfl)) (fun _ _ _ h => h) (Or.inr ⟨by rfl, rfl⟩) ?_ ?_
    rotate_left
    ·simp only [Act.put, List.setIfInBounds_toArray, List.set_cons_zero, List.set_cons_succ, Zf, Ze]
     rfl
    refine pure_ (i := 5) (N := some 39) (v := undef) (a' := ?_) #[true, true, true, true, true, true, false, false, false, false, false, false, false, false] rfl rfl (Zi HT_.out (by kernel_rfl)) (fun _ _ _ h => h) (Or.inr ⟨by rfl, rfl⟩) ?_ ?_
    rotate_left
    ·simp only [Act.put, List.setIfInBounds_toArray, List.set_cons_zero, List.set_cons_succ, Zf, Ze]
     rfl
    refine pure_ (i := 6) (N := some 40) (v := undef) (a' := ?_) #[true, true, true, true, true, true, true, false, false, false, false, false, false, false] rfl rfl (Zi HT_.out (by kernel_rfl)) (fun _ _ _ h => h) (Or.inr ⟨by rfl, rfl⟩) ?_ ?_
    rotate_left
    ·simp only [Act.put, List.setIfInBounds_toArray, List.set_cons_zero, List.set_cons_succ, Zf, Ze]
     rfl
    refine pure_ (i := 7) (N := some 41) (v := undef) (a' := ?_) #[true, true, true, true, true, true, true, true, false, false, false, false, false, false] rfl rfl (Zi HT_.out (by kernel_rfl)) (fun _ _ _ h => h) (Or.inr ⟨by rfl, rfl⟩) ?_ ?_
    rotate_left
    ·simp only [Act.put, List.setIfInBounds_toArray, List.set_cons_zero, List.set_cons_succ, Zf, Ze]
     rfl
    refine pure_ (i := 8) (N := some 42) (v := undef) (a' := ?_) #[true, true, true, true, true, true, true, true, true, false, false, false, false, false] rfl rfl (Zi HT_.out (by kernel_rfl)) (fun _ _ _ h => h) (Or.inr ⟨by rfl, rfl⟩) ?_ ?_
    rotate_left
    ·simp only [Act.put, List.setIfInBounds_toArray, List.set_cons_zero, List.set_cons_succ, Zf, Ze]
     rfl
    refine pure_ (i := 9) (N := some 43) (v := undef) (a' := ?_) #[true, true, true, true, true, true, true, true, true, true, false, false, false, false] rfl rfl (Zi HT_.out (by kernel_rfl)) (fun _ _ _ h => h) (Or.inr ⟨by rfl, rfl⟩) ?_ ?_
    rotate_left
    ·simp only [Act.put, List.setIfInBounds_toArray, List.set_cons_zero, List.set_cons_succ, Zf, Ze]
     rfl
    refine pure_ (i := 10) (N := some 44) (v := undef) (a' := ?_) #[true, true, true, true, true, true, true, true, true, true, true, false, false, false] rfl rfl (Zi HT_.out (by kernel_rfl)) (fun _ _ _ h => h) (Or.inr ⟨by rfl, rfl⟩) ?_ ?_
    rotate_left
    ·simp only [Act.put, List.setIfInBounds_toArray, List.set_cons_zero, List.set_cons_succ, Zf, Ze]
     rfl
    refine pure_ (i := 11) (N := some 45) (v := undef) (a' := ?_) #[true, true, true, true, true, true, true, true, true, true, true, true, false, false] rfl rfl (Zi HT_.out (by kernel_rfl)) (fun _ _ _ h => h) (Or.inr ⟨by rfl, rfl⟩) ?_ ?_
    rotate_left
    ·simp only [Act.put, List.setIfInBounds_toArray, List.set_cons_zero, List.set_cons_succ, Zf, Ze]
     rfl
    refine pure_ (i := 12) (N := some 46) (v := ?_) (a' := ?_) #[true, true, true, true, true, true, true, true, true, true, true, true, true, false] rfl rfl (Zi HT_.out (by kernel_rfl)) (fun _ _ _ h => h) (Or.inl ⟨by rfl, ?_⟩) ?_ ?_
    rotate_left
    ·intro w'
     go_simp
     with_reducible rfl
    rotate_left
    ·simp only [Act.put, List.setIfInBounds_toArray, List.set_cons_zero, List.set_cons_succ, Zf, Ze]
     rfl
    refine pure_ (i := 13) (N := some 6) (v := ?_) (a' := ?_) #[true, true, true, true, true, true, true, true, true, true, true, true, true, true] rfl rfl (Zi HT_.out (by kernel_rfl)) (fun _ _ _ h => h) (Or.inl ⟨by rfl, ?_⟩) ?_ ?_
    rotate_left
    ·intro w'
     go_simp
     with_reducible rfl
    rotate_left
    ·simp only [Act.put, List.setIfInBounds_toArray, List.set_cons_zero, List.set_cons_succ, Zf, Ze]
     rfl
    refine done_ (done_of HT_.out (by kernel_rfl)) ?_
    try go_wp2
    go_ret
    exact ⟨by first | rfl | (simp [Zu, Zv] <;> rfl) | (simp [*, Zu, Zv] <;> rfl), by repeat (first | (with_reducible first | exact HB.out | apply zc1 | apply zc2 | apply zc3 | refine zc4 ?_ (by assumption)) | exact HB.out)⟩
   (rw [if_pos c17] at H); (have c17b0 : (t335 == 0) = true := beq_iff_eq.mpr c17); (have c17b1 : (t335 != 0) = false := bne_eq_false_iff_eq.mpr c17); (clear c17); (replace H := Option.bind_eq_some_iff.mp H); (obtain ⟨t338, A180, H⟩ := H); (replace H : ((Zm.f kj5 a0_0 a0_1 l0_2 a0_3 a0_4 l2).bind fun t341 => ((Zn1.f kj5 t338 t341).bind fun t344 => (some (t334 == t344)))) = some r := H); (have A18 := Za.mk A180); (clear A180); (replace H := Option.bind_eq_some_iff.mp H); (obtain ⟨t341, A190, H⟩ := H); (replace H : ((Zn1.f kj5 t338 t341).bind fun t344 => (some (t334 == t344))) = some r := H); (have A19 := Za.mk A190); (clear A190); (replace H := Option.bind_eq_some_iff.mp H); (obtain ⟨t344, A200, H⟩ := H); (replace H : (some (t334 == t344)) = some r := H); (have A20 := Za.mk A200); (clear A200); (obtain rfl := Option.some.inj H)
   try go_wp2
   (replace BK333 := Za.mk (Zh BK333.out)); (replace HB := Za.mk (below_drew1 HB.out))
   refine start_ (n := 14) (S := fun w' => w'.cell? ⟨gb333, 0, none⟩ = some (.int .i64 a0_0) ∧ w'.cell? ⟨gb333, 1, none⟩ = some (.int .i64 a0_1) ∧ w'.cell? ⟨gb333, 2, none⟩ = some (.slice A0_2 l0_2.length c0_2) ∧ w'.cell? ⟨gb333, 3, none⟩ = some (.int .i64 a0_3) ∧ w'.cell? ⟨gb333, 4, none⟩ = some (.int .u32 a0_4)) (ds := []) #[false, false, false, false, false, false, false, false, false, false, false, false, false, false] (by kernel_rfl) rfl rfl ⟨(Zb BK333.out 0).trans rfl, (Zb BK333.out 1).trans rfl, (Zb BK333.out 2).trans rfl, (Zb BK333.out 3).trans rfl, (Zb BK333.out 4).trans rfl⟩ (fun hHeld => ?_); refine with_tabW Zd1.tab7 Zd1.bits7 (fun HT_ HW_ => ?_)
   generalize wc.drew = w21 at BK333 HB hHeld ⊢
   refine pure_ (i := 0) (N := some 34) (v := ?_) (a' := ?_) #[true, false, false, false, false, false, false, false, false, false, false, false, false, false] rfl rfl (Zi HT_.out (by kernel_rfl)) (fun _ _ _ h => h) (Or.inl ⟨by rfl, ?_⟩) ?_ ?_
   rotate_left
   ·intro w'
    go_simp
    with_reducible rfl
   rotate_left
   ·simp only [Act.put, List.setIfInBounds_toArray, List.set_cons_zero, List.set_cons_succ, Zf, Ze]
    rfl
   refine pure_ (i := 1) (N := some 35) (v := ?_) (a' := ?_) #[true, true, false, false, false, false, false, false, false, false, false, false, false, false] rfl rfl (Zi HT_.out (by kernel_rfl)) (fun _ _ _ h => h) (Or.inl ⟨by rfl, ?_⟩) ?_ ?_
   rotate_left
   ·intro w'
    go_simp
    with_reducible rfl
   rotate_left
   ·simp only [Act.put, List.setIfInBounds_toArray, List.set_cons_zero, List.set_cons_succ, Zf, Ze]
    rfl
   refine pure_ (i := 2) (N := some 36) (v := ?_) (a' := ?_) #[true, true, true, false, false, false, false, false, false, false, false, false, false, false] rfl rfl (Zi HT_.out (by kernel_rfl)) (fun _ _ _ h => h) (Or.inl ⟨by rfl, ?_⟩) ?_ ?_
   rotate_left
   ·intro w'
    go_simp
    with_reducible rfl
   rotate_left
   ·simp only [Act.put, List.setIfInBounds_toArray, List.set_cons_zero, List.set_cons_succ, Zf, Ze]
    rfl
   refine pure_ (i := 3) (N := some 37) (v := ?_) (a' := ?_) #[true, true, true, true, false, false, false, false, false, false, false, false, false, false] rfl rfl (Zi HT_.out (by kernel_rfl)) (fun _ _ _ h => h) (Or.inl ⟨by rfl, ?_⟩) ?_ ?_
   rotate_left
   ·intro w'
    go_simp
    with_reducible rfl
   rotate_left
   ·simp only [Act.put, List.setIfInBounds_toArray, List.set_cons_zero, List.set_cons_succ, Zf, Ze]
    rfl
   refine pure_ (i := 5) (N := some 39) (v := ?_) (a' := ?_) #[true, true, true, true, false, true, false, false, false, false, false, false, false, false] rfl rfl (Zi HT_.out (by kernel_rfl)) (fun _ _ _ h => h) (Or.inl ⟨by rfl, ?_⟩) ?_ ?_
   rotate_left
   ·intro w'
    go_simp
    with_reducible rfl
   rotate_left
   ·simp only [Act.put, List.setIfInBounds_toArray, List.set_cons_zero, List.set_cons_succ, Zf, Ze]
    rfl
   refine pure_ (i := 8) (N := some 42) (v := ?_) (a' := ?_) #[true, true, true, true, false, true, false, false, true, false, false, false, false, false] rfl rfl (Zi HT_.out (by kernel_rfl)) (fun _ _ _ h => h) (Or.inl ⟨by rfl, ?_⟩) ?_ ?_
   rotate_left
   ·intro w'
    go_simp
    with_reducible rfl
   rotate_left
   ·simp only [Act.put, List.setIfInBounds_toArray, List.set_cons_zero, List.set_cons_succ, Zf, Ze]
    rfl
   refine take_ (i := 4) (N := some 38) (v := ?_) (a' := ?_) #[true, true, true, true, true, true, false, false, true, false, false, false, false, false] rfl rfl (Zg1 HT_.out HW_.out (by kernel_rfl)) (fun _ _ _ h => h) (Or.inl ⟨by rfl, ?_⟩) hHeld ?_ ?_
   rotate_left
   ·rintro w' ⟨s0, s1, s2, s3, s4⟩
    go_simp
    with_reducible rfl
   rotate_left
   ·simp only [Act.put, List.setIfInBounds_toArray, List.set_cons_zero, List.set_cons_succ, Zf, Ze]
    rfl
   refine take_ (i := 7) (N := some 41) (v := ?_) (a' := ?_) #[true, true, true, true, true, true, false, true, true, false, false, false, false, false] rfl rfl (Zg1 HT_.out HW_.out (by kernel_rfl)) (fun _ _ _ h => h) (Or.inl ⟨by rfl, ?_⟩) hHeld ?_ ?_
   rotate_left
   ·rintro w' ⟨s0, s1, s2, s3, s4⟩
    go_simp
    with_reducible rfl
   rotate_left
   ·simp only [Act.put, List.setIfInBounds_toArray, List.set_cons_zero, List.set_cons_succ, Zf, Ze]
    rfl
   refine one_ (i := 6) (N := some 40) #[true, true, true, true, true, true, true, true, true, false, false, false, false, false] rfl rfl (one_of HT_.out (by kernel_rfl)) (by decide) (fun K hK => ?_)
   refine goes_ Try.func12 (by kernel_rfl) rfl #[.agg #[.int .i64 a0_0, .int .i64 a0_1, .slice A0_2 l0_2.length c0_2, .int .i64 a0_3, .int .u32 a0_4], .slice A1 l1.length c1] (by rfl) rfl rfl (by (try simp only [List.map_toArray, List.map_cons, List.map_nil]); first | done | rfl | (simp only [List.length_drop, List.length_take]; rfl)) ?_
   with_reducible refine (Zm.calls kj5 a0_0 a0_1 _ _ l0_2 a0_3 a0_4 _ _ l1 t338 _ ?side1 ?side2 ?side3 ?side4 A18.out).mono ?_
   (case side1 => repeat (first | exact (Kd.C_below HR0_2.out HB.out) | (with_reducible refine Kd.C_alloc ?_ _) | (with_reducible refine Kd.C_drewN ?_ _) | (with_reducible refine Kd.C_drew ?_)))
   (case side2 => exact HC0_2.out)
   (case side3 => repeat (first | exact (Kd.C_below HR1.out HB.out) | (with_reducible refine Kd.C_alloc ?_ _) | (with_reducible refine Kd.C_drewN ?_ _) | (with_reducible refine Kd.C_drew ?_)))
   (case side4 => exact HC1.out)
   rintro e w22 ⟨v339, rfl, ho0, hb⟩
   refine ⟨_, rfl, ?_⟩
   (have HO340 := Za.mk (Kd.R_lower ho0 (Zl (by repeat (first | (with_reducible first | exact HB.out | apply zc1 | apply zc2 | apply zc3 | refine zc4 ?_ (by assumption)) | exact HB.out))))); (replace BK333 := Za.mk (Zn (g := gb333) (by (with_reducible repeat (first | apply zb3 | apply zb2 | apply zb1)); exact BK333.out) hb)); (replace HB := Za.mk (Zo (by repeat (first | (with_reducible first | exact HB.out | apply zc1 | apply zc2 | apply zc3 | refine zc4 ?_ (by assumption)) | exact HB.out)) hb)); ((try clear hb)); ((try clear hb2)); ((try clear hk)); ((try clear hi)); ((try clear ho0))
   refine hK.out _ _ ⟨(Zb BK333.out 0).trans rfl, (Zb BK333.out 1).trans rfl, (Zb BK333.out 2).trans rfl, (Zb BK333.out 3).trans rfl, (Zb BK333.out 4).trans rfl⟩ (fun hHeld => ?_)
   clear hK K
   refine norm_ (a' := ?_) ?_ ?_
   rotate_left
   ·show Act.put _ (some 40) _ = _
    simp only [Act.put, List.setIfInBounds_toArray, List.set_cons_zero, List.set_cons_succ, Zf, Ze]
    rfl
   refine one_ (i := 9) (N := some 43) #[true, true, true, true, true, true, true, true, true, true, false, false, false, false] rfl rfl (one_of HT_.out (by kernel_rfl)) (by decide) (fun K hK => ?_)
   refine goes_ Try.func12 (by kernel_rfl) rfl #[.agg #[.int .i64 a0_0, .int .i64 a0_1, .slice A0_2 l0_2.length c0_2, .int .i64 a0_3, .int .u32 a0_4], .slice A2 l2.length c2] (by rfl) rfl rfl (by (try simp only [List.map_toArray, List.map_cons, List.map_nil]); first | done | rfl | (simp only [List.length_drop, List.length_take]; rfl)) ?_
   with_reducible refine (Zm.calls kj5 a0_0 a0_1 _ _ l0_2 a0_3 a0_4 _ _ l2 t341 _ ?side1 ?side2 ?side3 ?side4 A19.out).mono ?_
   (case side1 => repeat (first | exact (Kd.C_below HR0_2.out HB.out) | (with_reducible refine Kd.C_alloc ?_ _) | (with_reducible refine Kd.C_drewN ?_ _) | (with_reducible refine Kd.C_drew ?_)))
   (case side2 => exact HC0_2.out)
   (case side3 => repeat (first | exact (Kd.C_below HR2.out HB.out) | (with_reducible refine Kd.C_alloc ?_ _) | (with_reducible refine Kd.C_drewN ?_ _) | (with_reducible refine Kd.C_drew ?_)))
   (case side4 => exact HC2.out)
   rintro e w23 ⟨v342, rfl, ho0, hb⟩
   refine ⟨_, rfl, ?_⟩
   (have HO343 := Za.mk (Kd.R_lower (Kd.R_new' ho0 (Kd.R_lt (by (with_reducible repeat (first | apply Kd.R_alloc | apply Kd.R_drewN | apply Kd.R_drew)); exact HO340.out))) (Zl (by repeat (first | (with_reducible first | exact HB.out | apply zc1 | apply zc2 | apply zc3 | refine zc4 ?_ (by assumption)) | exact HB.out))))); (replace HO340 := Za.mk (Kd.R_elder' (by (with_reducible repeat (first | apply Kd.R_alloc | apply Kd.R_drewN | apply Kd.R_drew)); exact HO340.out) (Kd.R_base ho0) hb)); (replace BK333 := Za.mk (Zn (g := gb333) (by (with_reducible repeat (first | apply zb3 | apply zb2 | apply zb1)); exact BK333.out) hb)); (replace HB := Za.mk (Zo (by repeat (first | (with_reducible first | exact HB.out | apply zc1 | apply zc2 | apply zc3 | refine zc4 ?_ (by assumption)) | exact HB.out)) hb)); ((try clear hb)); ((try clear hb2)); ((try clear hk)); ((try clear hi)); ((try clear ho0)); (obtain ⟨Ao24, co24, eo24⟩ := Kd.R_slice HO340.out)
   (first | subst eo24 | (injection eo24 with f1_ f2_ f3_; have f4_ := f1_.symm; have f5_ := f3_.symm; clear f1_ f2_ f3_; subst f4_; subst f5_))
   obtain ⟨Ao25, co25, eo25⟩ := Kd.R_slice HO343.out
   (first | subst eo25 | (injection eo25 with f1_ f2_ f3_; have f4_ := f1_.symm; have f5_ := f3_.symm; clear f1_ f2_ f3_; subst f4_; subst f5_))
   refine hK.out _ _ ⟨(Zb BK333.out 0).trans rfl, (Zb BK333.out 1).trans rfl, (Zb BK333.out 2).trans rfl, (Zb BK333.out 3).trans rfl, (Zb BK333.out 4).trans rfl⟩ (fun hHeld => ?_)
   clear hK K
   refine norm_ (a' := ?_) ?_ ?_
   rotate_left
   ·show Act.put _ (some 43) _ = _
    simp only [Act.put, List.setIfInBounds_toArray, List.set_cons_zero, List.set_cons_succ, Zf, Ze]
    rfl
   refine one_ (i := 10) (N := some 44) #[true, true, true, true, true, true, true, true, true, true, true, false, false, false] rfl rfl (one_of HT_.out (by kernel_rfl)) (by decide) (fun K hK => ?_)
   refine goes_ Try.func11 (by kernel_rfl) rfl #[.slice Ao24 t338.length co24, .slice Ao25 t341.length co25] (by rfl) rfl rfl (by (try simp only [List.map_toArray, List.map_cons, List.map_nil]); first | done | rfl | (simp only [List.length_drop, List.length_take]; rfl)) ?_
   with_reducible refine (Zn1.calls kj5 _ _ t338 _ _ t341 t344 _ ?side1 ?side2 ?side3 ?side4 A20.out).mono ?_
   (case side1 => repeat (first | exact (Kd.R_reads' HO340.out).2.2 | (with_reducible refine Kd.C_alloc ?_ _) | (with_reducible refine Kd.C_drewN ?_ _) | (with_reducible refine Kd.C_drew ?_)))
   (case side2 => exact (Kd.R_reads' HO340.out).2.1)
   (case side3 => repeat (first | exact (Kd.R_reads' HO343.out).2.2 | (with_reducible refine Kd.C_alloc ?_ _) | (with_reducible refine Kd.C_drewN ?_ _) | (with_reducible refine Kd.C_drew ?_)))
   (case side4 => exact (Kd.R_reads' HO343.out).2.1)
   rintro e w' ⟨rfl, ⟨nd, rfl⟩⟩
   refine ⟨_, rfl, ?_⟩
   refine hK.out _ _ ⟨(Zb BK333.out 0).trans rfl, (Zb BK333.out 1).trans rfl, (Zb BK333.out 2).trans rfl, (Zb BK333.out 3).trans rfl, (Zb BK333.out 4).trans rfl⟩ (fun hHeld => ?_)
   clear hK K
   refine norm_ (a' := ?_) ?_ ?_
   rotate_left
   ·show Act.put _ (some 44) _ = _
    simp only [Act.put, List.setIfInBounds_toArray, List.set_cons_zero, List.set_cons_succ, Zf, Ze]
    rfl
   refine pure_ (i := 11) (N := some 45) (v := ?_) (a' := ?_) #[true, true, true, true, true, true, true, true, true, true, true, true, false, false] rfl rfl (Zi HT_.out (by kernel_rfl)) (fun _ _ _ h => h) (Or.inl ⟨by rfl, ?_⟩) ?_ ?_
   rotate_left
   ·intro w'
    go_simp
    with_reducible rfl
   rotate_left
   ·simp only [Act.put, List.setIfInBounds_toArray, List.set_cons_zero, List.set_cons_succ, Zf, Ze]
    rfl
   refine pure_ (i := 12) (N := some 46) (v := ?_) (a' := ?_) #[true, true, true, true, true, true, true, true, true, true, true, true, true, false] rfl rfl (Zi HT_.out (by kernel_rfl)) (fun _ _ _ h => h) (Or.inl ⟨by rfl, ?_⟩) ?_ ?_
   rotate_left
   ·intro w'
    go_simp
    with_reducible rfl
   rotate_left
   ·simp only [Act.put, List.setIfInBounds_toArray, List.set_cons_zero, List.set_cons_succ, Zf, Ze]
    rfl
   refine pure_ (i := 13) (N := some 6) (v := ?_) (a' := ?_) #[true, true, true, true, true, true, true, true, true, true, true, true, true, true] rfl rfl (Zi HT_.out (by kernel_rfl)) (fun _ _ _ h => h) (Or.inl ⟨by rfl, ?_⟩) ?_ ?_
   rotate_left
   ·intro w'
    go_simp
    with_reducible rfl
   rotate_left
   ·simp only [Act.put, List.setIfInBounds_toArray, List.set_cons_zero, List.set_cons_succ, Zf, Ze]
    rfl
   refine done_ (done_of HT_.out (by kernel_rfl)) ?_
   try go_wp2
   go_ret
   exact ⟨by first | rfl | (simp [Zu, Zv] <;> rfl) | (simp [*, Zu, Zv] <;> rfl), by repeat (first | (with_reducible first | exact HB.out | apply zc1 | apply zc2 | apply zc3 | refine zc4 ?_ (by assumption)) | exact HB.out)⟩
end Go.Proofs.Ytofdaiknpficfaa.PKindsSames
