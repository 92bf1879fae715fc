-- Printed by a turn of a template of the kit.
import Derived.Test.YtofdaiknpficfaaQPKindsStillsx0
import Derived.Test.YtofdaiknpficfaaQPKindsStillsx2
import Derived.Test.YtofdaiknpficfaaQPKindsStillsx7
import Derived.Test.YtofdaiknpficfaaQPKindsStillsx17
import Derived.Test.YtofdaiknpficfaaQPKindsStillsx18
namespace Go.Proofs.Ytofdaiknpficfaa.PKindsStills
open Go.RowKit Go.Proofs.YtofdaiknpficfaaW.PrintWords Go.Proofs.YtofdaiknpficfaaW.PrintLast Go.Proofs.YtofdaiknpficfaaW.PrintMore
attribute [local go_sem] max2_int min2_int max_two min_two max_three min_three max_four min_four
set_option linter.unusedVariables false
set_option linter.unusedSimpArgs false
mutual
def Zd1.j0 : Nat → Bool → Int → Int → Bool → Int → Int → List (List Int) → Int → Int → Option (Bool)
  | 0, _, _, _, _, _, _, _, _, _ => none
  | k + 1, x3, x4, x5, x20, x386000, x386001, x386002, x386003, x386004 => if x20 = true then (Zd1.j1 k x3 x4 1 x386000 x386001 x386002 x386003 x386004) else (Zd1.j1 k x3 x4 x5 x386000 x386001 x386002 x386003 x386004)
def Zd1.j1 : Nat → Bool → Int → Int → Int → Int → List (List Int) → Int → Int → Option (Bool)
  | 0, _, _, _, _, _, _, _, _ => none
  | k + 1, x3, x4, x5, x386000, x386001, x386002, x386003, x386004 => if x5 = 0 then (if x4 = 0 then ((Zt.f k x386000 x386001 x386002 x386003 x386004 100).bind fun t392 => ((Zh1.f k x386000 x386001 x386002 x386003 x386004 t392).bind fun t395 => (some (x3 == t395)))) else (some false)) else (if x4 = x5 then (some (!x3)) else (some false))
end
def Zd1.f (k : Nat) (a0_0 : Int) (a0_1 : Int) (l0_2 : List (List Int)) (a0_3 : Int) (a0_4 : Int) : Option (Bool) := (Zj1.f k a0_0 a0_1 l0_2 a0_3 a0_4).bind fun bt386 => ((Zv.f k a0_0 a0_1 l0_2 a0_3 a0_4).bind fun t388 => (if t388 = 0 then ((Zt.f k a0_0 a0_1 l0_2 a0_3 a0_4 100).bind fun t389 => (Zd1.j0 k bt386.1 bt386.2 t388 (decide ((t389.length : Int) > 100)) a0_0 a0_1 l0_2 a0_3 a0_4)) else (Zd1.j0 k bt386.1 bt386.2 t388 false a0_0 a0_1 l0_2 a0_3 a0_4)))
theorem Zd1.mono_l : ∀ k, (∀ y0 y1 y2 y3 y4 y5 y6 y7 y8, LeO (Zd1.j0 k y0 y1 y2 y3 y4 y5 y6 y7 y8) (Zd1.j0 (k + 1) y0 y1 y2 y3 y4 y5 y6 y7 y8)) ∧ (∀ y0 y1 y2 y3 y4 y5 y6 y7, LeO (Zd1.j1 k y0 y1 y2 y3 y4 y5 y6 y7) (Zd1.j1 (k + 1) y0 y1 y2 y3 y4 y5 y6 y7))
  | 0 => ⟨fun _ _ _ _ _ _ _ _ _ r h => by simp [Zd1.j0] at h, fun _ _ _ _ _ _ _ _ r h => by simp [Zd1.j1] at h⟩
  | k + 1 => by
    obtain ⟨ih0, ih1⟩ := Zd1.mono_l k
    refine ⟨?_, ?_⟩
    · intro y0 y1 y2 y3 y4 y5 y6 y7 y8
      unfold Zd1.j0
      repeat' first | (with_reducible exact ih0 _ _ _ _ _ _ _ _ _) | (with_reducible exact ih1 _ _ _ _ _ _ _ _) | (with_reducible exact Zt.mono _ _ _ _ _ _ _) | (with_reducible exact Zv.mono _ _ _ _ _ _) | (with_reducible exact Zh1.mono _ _ _ _ _ _ _) | (with_reducible exact Zj1.mono _ _ _ _ _ _) | (with_reducible exact LeO.refl _) | (with_reducible exact LeO.none _) | (with_reducible refine LeO.ite ?_ ?_) | (with_reducible refine LeO.bind ?_ (fun _ => ?_))
    · intro y0 y1 y2 y3 y4 y5 y6 y7
      unfold Zd1.j1
      repeat' first | (with_reducible exact ih0 _ _ _ _ _ _ _ _ _) | (with_reducible exact ih1 _ _ _ _ _ _ _ _) | (with_reducible exact Zt.mono _ _ _ _ _ _ _) | (with_reducible exact Zv.mono _ _ _ _ _ _) | (with_reducible exact Zh1.mono _ _ _ _ _ _ _) | (with_reducible exact Zj1.mono _ _ _ _ _ _) | (with_reducible exact LeO.refl _) | (with_reducible exact LeO.none _) | (with_reducible refine LeO.ite ?_ ?_) | (with_reducible refine LeO.bind ?_ (fun _ => ?_))
theorem Zd1.mono : ∀ a0 a1 a2 a3 a4 k, LeO (Zd1.f k a0 a1 a2 a3 a4) (Zd1.f (k + 1) a0 a1 a2 a3 a4) := by
  intro a0 a1 a2 a3 a4 k
  obtain ⟨ih0, ih1⟩ := Zd1.mono_l k
  unfold Zd1.f
  repeat' first | (with_reducible exact ih0 _ _ _ _ _ _ _ _ _) | (with_reducible exact ih1 _ _ _ _ _ _ _ _) | (with_reducible exact Zt.mono _ _ _ _ _ _ _) | (with_reducible exact Zv.mono _ _ _ _ _ _) | (with_reducible exact Zh1.mono _ _ _ _ _ _ _) | (with_reducible exact Zj1.mono _ _ _ _ _ _) | (with_reducible exact LeO.refl _) | (with_reducible exact LeO.none _) | (with_reducible refine LeO.ite ?_ ?_) | (with_reducible refine LeO.bind ?_ (fun _ => ?_))
def Zd1.T7 : Bool × List (List Nat × List Nat) := (true, [([], []), ([0], [0]), ([1], [1]), ([2], [2]), ([2], [2]), ([2], [2]), ([5, 2, 2], [2, 5]), ([4, 6, 6, 2], [2, 4, 6]), ([3, 7, 2], [2, 3, 7]), ([2, 8], [2, 8]), ([9, 7, 0, 1, 2, 3, 4, 5, 6, 7, 8, 9], [9])])
def Zd1.B7 : List Nat := [0, 1, 3, 7, 7, 7, 39, 119, 255, 511, 1023]
theorem Zd1.tab7 : rtab .any (opsOf Try.f5 7) = Zd1.T7 := by kernel_rfl
theorem Zd1.bits7 : waitsOk Zd1.T7.2 Zd1.B7 = true := by kernel_rfl
set_option maxHeartbeats 8000000 in
set_option maxRecDepth 100000 in
theorem Zd1.calls (k : Nat) (a0_0 : Int) (a0_1 : Int) (A0_2 : Option Addr) (c0_2 : Nat) (l0_2 : List (List Int)) (a0_3 : Int) (a0_4 : Int) (r : Bool) (w : World) (hr0_2 : Kd.C (Kd.slice 3 (Kd.int .i64)) w A0_2 l0_2.length l0_2) (hc0_2 : l0_2.length ≤ c0_2) (h : Zd1.f k a0_0 a0_1 l0_2 a0_3 a0_4 = some r) :
    Calls Try.prog 5 #[.agg #[.int .i64 a0_0, .int .i64 a0_1, .slice A0_2 l0_2.length c0_2, .int .i64 a0_3, .int .u32 a0_4]] w fun e w' => e = .returned (.bool r) ∧ Below w.heap.size w w' := by
 (have hu25 := Try.underlying25); (have HR0_2 := Za.mk hr0_2); (have HC0_2 := Za.mk hc0_2); (clear hr0_2 hc0_2); (have HB := Za.mk (Below.refl w.heap.size w)); (have H : ((Zj1.f k a0_0 a0_1 l0_2 a0_3 a0_4).bind fun bt386 => ((Zv.f k a0_0 a0_1 l0_2 a0_3 a0_4).bind fun t388 => (if t388 = 0 then ((Zt.f k a0_0 a0_1 l0_2 a0_3 a0_4 100).bind fun t389 => (Zd1.j0 k bt386.1 bt386.2 t388 (decide ((t389.length : Int) > 100)) a0_0 a0_1 l0_2 a0_3 a0_4)) else (Zd1.j0 k bt386.1 bt386.2 t388 false a0_0 a0_1 l0_2 a0_3 a0_4)))) = some r := h); (clear h); (replace H := Option.bind_eq_some_iff.mp H); (obtain ⟨⟨t386, t387⟩, A20, H⟩ := H); (replace H : ((Zv.f k a0_0 a0_1 l0_2 a0_3 a0_4).bind fun t388 => (if t388 = 0 then ((Zt.f k a0_0 a0_1 l0_2 a0_3 a0_4 100).bind fun t389 => (Zd1.j0 k t386 t387 t388 (decide ((t389.length : Int) > 100)) a0_0 a0_1 l0_2 a0_3 a0_4)) else (Zd1.j0 k t386 t387 t388 false a0_0 a0_1 l0_2 a0_3 a0_4))) = some r := H); (have A2 := Za.mk A20); (clear A20); (replace H := Option.bind_eq_some_iff.mp H); (obtain ⟨t388, A30, H⟩ := H); (replace H : (if t388 = 0 then ((Zt.f k a0_0 a0_1 l0_2 a0_3 a0_4 100).bind fun t389 => (Zd1.j0 k t386 t387 t388 (decide ((t389.length : Int) > 100)) a0_0 a0_1 l0_2 a0_3 a0_4)) else (Zd1.j0 k t386 t387 t388 false a0_0 a0_1 l0_2 a0_3 a0_4)) = some r := H); (have A3 := Za.mk A30); (clear A30)
 (have HC4 := Za.mk H); (clear H)
 go_enter Try.func5, Try.ntmps5
 go_upto_region 3 with (first | ((with_reducible refine Zb1 (N := 1) rfl ?_); (try (refine gate_guard (by rfl) ?_; dsimp only)); refine Zl1 ?hg (N := 1) ?hd (cs := #[.int .i64 a0_0, .int .i64 a0_1, .slice A0_2 l0_2.length c0_2, .int .i64 a0_3, .int .u32 a0_4]) (t := 25) ?hr ?_; (case hd => rfl); (case hg => rfl); (case hr => first | (go_simp; done) | (go_simp; rfl)); intro gb385 hg w5 hbox hb; have n0_ := Za.mk (Zr (by repeat (first | (with_reducible first | exact HB.out | apply zc1 | apply zc2 | apply zc3) | exact HB.out)) hb); have n1_ := Za.mk (hbox); have n2_ := Za.mk ((by rw [hg]; exact (Zl (by repeat (first | (with_reducible first | exact HB.out | apply zc1 | apply zc2 | apply zc3) | exact HB.out))) : w.heap.size ≤ gb385)); have n3_ := Za.mk ((by rw [hg]; exact (Zl (by repeat (first | (with_reducible first | exact HB.out | apply zc1 | apply zc2 | apply zc3) | exact HB.out))) : w.heap.size ≤ gb385)); clear HB; have HB := n0_; have BK385 := n1_; have GW385 := n2_; have GE385 := n3_; clear n0_ n1_ n2_ n3_; clear hb hbox hg; have hcz6_0 : w5.cell? ⟨gb385, 0, none⟩ = some (.int .i64 a0_0) := (Zb BK385.out 0).trans rfl; have hcz6_1 : w5.cell? ⟨gb385, 1, none⟩ = some (.int .i64 a0_1) := (Zb BK385.out 1).trans rfl; have hcz6_2 : w5.cell? ⟨gb385, 2, none⟩ = some (.slice A0_2 l0_2.length c0_2) := (Zb BK385.out 2).trans rfl; have hcz6_3 : w5.cell? ⟨gb385, 3, none⟩ = some (.int .i64 a0_3) := (Zb BK385.out 3).trans rfl; have hcz6_4 : w5.cell? ⟨gb385, 4, none⟩ = some (.int .u32 a0_4) := (Zb BK385.out 4).trans rfl; have hfz6_0 := Zc BK385.out 0; have hfz6_1 := Zc BK385.out 1; have hfz6_2 := Zc BK385.out 2; have hfz6_3 := Zc BK385.out 3; have hfz6_4 := Zc BK385.out 4) | ((with_reducible refine gate_callee (f := 13) rfl ?_); refine goesL_ (some 8) rfl rfl Try.func13 (by kernel_rfl) rfl #[.agg #[.int .i64 a0_0, .int .i64 a0_1, .slice A0_2 l0_2.length c0_2, .int .i64 a0_3, .int .u32 a0_4]] rfl (by (try simp only [List.map_toArray, List.map_cons, List.map_nil]); first | done | rfl | (simp only [List.length_drop, List.length_take]; rfl)) ?_; (with_reducible refine (Zj1.calls k a0_0 a0_1 _ _ l0_2 a0_3 a0_4 t386 t387 _ ?side1 ?side2 A2.out).mono ?_); (case side1 => repeat (first | exact (Kd.C_below HR0_2.out HB.out) | (with_reducible refine Kd.C_alloc ?_ _) | (with_reducible refine Kd.C_drewN ?_ _) | (with_reducible refine Kd.C_drew ?_))); (case side2 => exact HC0_2.out); rintro e w7 ⟨rfl, hb⟩; refine ⟨_, rfl, ?_⟩; have n0_ := Za.mk (Zp (g := gb385) (by (with_reducible repeat (first | apply zb3 | apply zb2 | apply zb1)); exact BK385.out) hb); have n1_ := Za.mk (Zr (by repeat (first | (with_reducible first | exact HB.out | apply zc1 | apply zc2 | apply zc3 | refine zc4 ?_ (by assumption)) | exact HB.out)) hb); clear BK385; clear HB; have BK385 := n0_; have HB := n1_; clear n0_ n1_; (try clear hb); (try clear hb2); (try clear hk); (try clear hi); have hcz8_0 : w7.cell? ⟨gb385, 0, none⟩ = some (.int .i64 a0_0) := (Zb BK385.out 0).trans rfl; have hcz8_1 : w7.cell? ⟨gb385, 1, none⟩ = some (.int .i64 a0_1) := (Zb BK385.out 1).trans rfl; have hcz8_2 : w7.cell? ⟨gb385, 2, none⟩ = some (.slice A0_2 l0_2.length c0_2) := (Zb BK385.out 2).trans rfl; have hcz8_3 : w7.cell? ⟨gb385, 3, none⟩ = some (.int .i64 a0_3) := (Zb BK385.out 3).trans rfl; have hcz8_4 : w7.cell? ⟨gb385, 4, none⟩ = some (.int .u32 a0_4) := (Zb BK385.out 4).trans rfl; have hfz8_0 := Zc BK385.out 0; have hfz8_1 := Zc BK385.out 1; have hfz8_2 := Zc BK385.out 2; have hfz8_3 := Zc BK385.out 3; have hfz8_4 := Zc BK385.out 4) | ((with_reducible refine gate_callee (f := 7) rfl ?_); refine goesL_ (some 12) rfl rfl Try.func7 (by kernel_rfl) rfl #[.agg #[.int .i64 a0_0, .int .i64 a0_1, .slice A0_2 l0_2.length c0_2, .int .i64 a0_3, .int .u32 a0_4]] rfl (by (try simp only [List.map_toArray, List.map_cons, List.map_nil]); first | done | rfl | (simp only [List.length_drop, List.length_take]; rfl)) ?_; (with_reducible refine (Zv.calls k a0_0 a0_1 _ _ l0_2 a0_3 a0_4 t388 _ ?side1 ?side2 A3.out).mono ?_); (case side1 => repeat (first | exact (Kd.C_below HR0_2.out HB.out) | (with_reducible refine Kd.C_alloc ?_ _) | (with_reducible refine Kd.C_drewN ?_ _) | (with_reducible refine Kd.C_drew ?_))); (case side2 => exact HC0_2.out); rintro e w9 ⟨rfl, hb⟩; refine ⟨_, rfl, ?_⟩; have n0_ := Za.mk (Zp (g := gb385) (by (with_reducible repeat (first | apply zb3 | apply zb2 | apply zb1)); exact BK385.out) hb); have n1_ := Za.mk (Zr (by repeat (first | (with_reducible first | exact HB.out | apply zc1 | apply zc2 | apply zc3 | refine zc4 ?_ (by assumption)) | exact HB.out)) hb); clear BK385; clear HB; have BK385 := n0_; have HB := n1_; clear n0_ n1_; (try clear hb); (try clear hb2); (try clear hk); (try clear hi)))
 (try simp only [Act.put, zp1, zp2, zp3])
 go_cut [20] (fun v20 wc => ∃ (kq : Nat) (x20_3 : Bool), v20 = .bool x20_3 ∧ Za (Zd1.j0 kq t386 t387 t388 x20_3 a0_0 a0_1 l0_2 a0_3 a0_4 = some r) ∧ Za (kq ≤ k) ∧ Za (wc.heap[gb385]? = some (.cells #[.int .i64 a0_0, .int .i64 a0_1, (.slice A0_2 l0_2.length c0_2), .int .i64 a0_3, .int .u32 a0_4] 25 (0, 0))) ∧ Za (Below w.heap.size w wc))
 case first =>
  (have H := HC4.out); (clear HC4)
  by_cases c10 : t388 = 0
  rotate_left
  ·rw [if_neg c10] at H
   (have c10b0 : (t388 == 0) = false := beq_eq_false_iff_ne.mpr c10); (have c10b1 : (t388 != 0) = true := bne_iff_ne.mpr c10)
   (first | rw [c10b0] | (simp only [Zg, Zf]; rw [c10b0]) | skip)
   (have H' := Za.mk H); (clear H)
   go_wp2
   go_meet
   case rel => exact ⟨_, (false), (by first | rfl | (simp; done) | (simp [*]; done)), H', ⟨by first | omega | exact Nat.le_refl _⟩, ⟨by (with_reducible repeat (first | apply zb3 | apply zb2 | apply zb1)); exact BK385.out⟩, ⟨by repeat (first | (with_reducible first | exact HB.out | apply zc1 | apply zc2 | apply zc3 | refine zc4 ?_ (by assumption)) | exact HB.out)⟩⟩
  (rw [if_pos c10] at H); (have c10b0 : (t388 == 0) = true := beq_iff_eq.mpr c10); (have c10b1 : (t388 != 0) = false := bne_eq_false_iff_eq.mpr c10); (clear c10)
  (first | rw [c10b0] | (simp only [Zg, Zf]; rw [c10b0]) | skip)
  (replace H := Option.bind_eq_some_iff.mp H); (obtain ⟨t389, A110, H⟩ := H); (replace H : (Zd1.j0 k t386 t387 t388 (decide ((t389.length : Int) > 100)) a0_0 a0_1 l0_2 a0_3 a0_4) = some r := H); (have A11 := Za.mk A110); (clear A110); (have H' := Za.mk H); (clear H); (have hcz12_0 : w9.cell? ⟨gb385, 0, none⟩ = some (.int .i64 a0_0) := (Zb BK385.out 0).trans rfl); (have hcz12_1 : w9.cell? ⟨gb385, 1, none⟩ = some (.int .i64 a0_1) := (Zb BK385.out 1).trans rfl); (have hcz12_2 : w9.cell? ⟨gb385, 2, none⟩ = some (.slice A0_2 l0_2.length c0_2) := (Zb BK385.out 2).trans rfl); (have hcz12_3 : w9.cell? ⟨gb385, 3, none⟩ = some (.int .i64 a0_3) := (Zb BK385.out 3).trans rfl); (have hcz12_4 : w9.cell? ⟨gb385, 4, none⟩ = some (.int .u32 a0_4) := (Zb BK385.out 4).trans rfl); (have hfz12_0 := Zc BK385.out 0); (have hfz12_1 := Zc BK385.out 1); (have hfz12_2 := Zc BK385.out 2); (have hfz12_3 := Zc BK385.out 3); (have hfz12_4 := Zc BK385.out 4)
  go_wp2_with (first | (go_at_call 8; (with_reducible refine (Zt.calls k a0_0 a0_1 _ _ l0_2 a0_3 a0_4 100 t389 _ ?side1 ?side2 A11.out).mono ?_); (case side1 => repeat (first | exact (Kd.C_below HR0_2.out HB.out) | (with_reducible refine Kd.C_alloc ?_ _) | (with_reducible refine Kd.C_drewN ?_ _) | (with_reducible refine Kd.C_drew ?_))); (case side2 => exact HC0_2.out); rintro e w13 ⟨v390, rfl, ho0, hb⟩; have HO391 := Za.mk (Kd.N_lower (Kd.N_mono (ok' := fun k_ => k_ ≠ gb385) ho0 (fun k_ hk_ => (Kd.freshB (g := gb385) (o := .cells #[.int .i64 a0_0, .int .i64 a0_1, .slice A0_2 l0_2.length c0_2, .int .i64 a0_3, .int .u32 a0_4] 25 (0, 0)) (by (with_reducible repeat (first | apply zb3 | apply zb2 | apply zb1)); exact BK385.out) k_ hk_))) (Zl (by repeat (first | (with_reducible first | exact HB.out | apply zc1 | apply zc2 | apply zc3 | refine zc4 ?_ (by assumption)) | exact HB.out)))); replace BK385 := Za.mk (Zp (g := gb385) (by (with_reducible repeat (first | apply zb3 | apply zb2 | apply zb1)); exact BK385.out) hb); replace HB := Za.mk (Zr (by repeat (first | (with_reducible first | exact HB.out | apply zc1 | apply zc2 | apply zc3 | refine zc4 ?_ (by assumption)) | exact HB.out)) hb); (try clear hb); (try clear hb2); (try clear hk); (try clear hi); (try clear ho0); obtain ⟨Ao14, co14, eo14⟩ := Kd.N_slice HO391.out; subst eo14))
  go_meet
  case rel => exact ⟨_, (decide ((t389.length : Int) > 100)), (by first | rfl | (simp; done) | (simp [*]; done)), H', ⟨by first | omega | exact Nat.le_refl _⟩, ⟨by (with_reducible repeat (first | apply zb3 | apply zb2 | apply zb1)); exact BK385.out⟩, ⟨by repeat (first | (with_reducible first | exact HB.out | apply zc1 | apply zc2 | apply zc3 | refine zc4 ?_ (by assumption)) | exact HB.out)⟩⟩
 case rest =>
  (clear HC4); (try clear c1); (try clear p2); (try clear c5); (try clear c7); (try clear c10); (try clear c10b0); (try clear c10b1); (try clear c13); (try clear hcz12_0 hcz12_1 hcz12_2 hcz12_3 hcz12_4 hcz6_0 hcz6_1 hcz6_2 hcz6_3 hcz6_4 hcz8_0 hcz8_1 hcz8_2 hcz8_3 hcz8_4 hfz12_0 hfz12_1 hfz12_2 hfz12_3 hfz12_4 hfz6_0 hfz6_1 hfz6_2 hfz6_3 hfz6_4 hfz8_0 hfz8_1 hfz8_2 hfz8_3 hfz8_4); (obtain ⟨kq, x20_3, rfl, HA, HJ3, BK385, HB⟩ := hcut)
  cases kq with
  | zero => exact absurd HA.out (by simp [Zd1.j0])
  | succ kj3 =>
   (have H := HA.out); (clear HA); (simp only [Zd1.j0] at H); (have HC15 := Za.mk H); (clear H)
   go_upto_if 20 with (fail)
   go_cut [5] (fun v5 wc => ∃ (kq : Nat) (x5_14 : Int), v5 = .int .i64 x5_14 ∧ Za (Zd1.j1 kq t386 t387 x5_14 a0_0 a0_1 l0_2 a0_3 a0_4 = some r) ∧ Za (kq ≤ kj3) ∧ Za (wc.heap[gb385]? = some (.cells #[.int .i64 a0_0, .int .i64 a0_1, (.slice A0_2 l0_2.length c0_2), .int .i64 a0_3, .int .u32 a0_4] 25 (0, 0))) ∧ Za (Below w.heap.size w wc))
   case first =>
    (have H := HC15.out); (clear HC15)
    by_cases c16 : x20_3 = true
    ·subst c16
     (have H1 : (Zd1.j1 kj3 t386 t387 1 a0_0 a0_1 l0_2 a0_3 a0_4) = some r := by rw [if_pos rfl] at H; exact H); (clear H); (have H := H1); (clear H1); (have H' := Za.mk H); (clear H)
     go_wp2
     go_meet
     case rel => exact ⟨_, (1), (by first | rfl | (simp; done) | (simp [*]; done)), H', ⟨by have := HJ3.out; first | omega | exact Nat.le_refl _⟩, ⟨by (with_reducible repeat (first | apply zb3 | apply zb2 | apply zb1)); exact BK385.out⟩, ⟨by repeat (first | (with_reducible first | exact HB.out | apply zc1 | apply zc2 | apply zc3 | refine zc4 ?_ (by assumption)) | exact HB.out)⟩⟩
    (replace c16 := Bool.eq_false_iff.mpr c16); (subst c16); (have H1 : (Zd1.j1 kj3 t386 t387 t388 a0_0 a0_1 l0_2 a0_3 a0_4) = some r := by rw [if_neg (show ¬ (false = true) by decide)] at H; exact H); (clear H); (have H := H1); (clear H1); (have H' := Za.mk H); (clear H)
    go_wp2
    go_meet
    case rel => exact ⟨_, (t388), (by first | rfl | (simp; done) | (simp [*]; done)), H', ⟨by have := HJ3.out; first | omega | exact Nat.le_refl _⟩, ⟨by (with_reducible repeat (first | apply zb3 | apply zb2 | apply zb1)); exact BK385.out⟩, ⟨by repeat (first | (with_reducible first | exact HB.out | apply zc1 | apply zc2 | apply zc3 | refine zc4 ?_ (by assumption)) | exact HB.out)⟩⟩
   case rest =>
    (clear HC15); (try clear c1); (try clear p2); (try clear c5); (try clear c7); (try clear c10); (try clear c10b0); (try clear c10b1); (try clear c13); (try clear c16); (try clear hcz12_0 hcz12_1 hcz12_2 hcz12_3 hcz12_4 hcz6_0 hcz6_1 hcz6_2 hcz6_3 hcz6_4 hcz8_0 hcz8_1 hcz8_2 hcz8_3 hcz8_4 hfz12_0 hfz12_1 hfz12_2 hfz12_3 hfz12_4 hfz6_0 hfz6_1 hfz6_2 hfz6_3 hfz6_4 hfz8_0 hfz8_1 hfz8_2 hfz8_3 hfz8_4); (try clear p2); (obtain ⟨kq, x5_14, rfl, HA, HJ14, BK385, HB⟩ := hcut)
    cases kq with
    | zero => exact absurd HA.out (by simp [Zd1.j1])
    | succ kj14 =>
     (have H := HA.out); (clear HA); (simp only [Zd1.j1] at H)
     by_cases c17 : x5_14 = 0
     rotate_left
     ·rw [if_neg c17] at H
      (have c17b0 : (x5_14 == 0) = false := beq_eq_false_iff_ne.mpr c17); (have c17b1 : (x5_14 != 0) = true := bne_iff_ne.mpr c17)
      by_cases c26 : t387 = x5_14
      rotate_left
      ·rw [if_neg c26] at H
       (have c26b0 : (t387 == x5_14) = false := beq_eq_false_iff_ne.mpr c26); (have c26b1 : (t387 != x5_14) = true := bne_iff_ne.mpr c26); (obtain rfl := Option.some.inj H)
       go_wp2
       go_ret
       exact ⟨by first | rfl | (simp [Zw, Zx] <;> rfl) | (simp [*, Zw, Zx] <;> rfl), by repeat (first | (with_reducible first | exact HB.out | apply zc1 | apply zc2 | apply zc3 | refine zc4 ?_ (by assumption)) | exact HB.out)⟩
      (rw [if_pos c26] at H); (have c26b0 : (t387 == x5_14) = true := beq_iff_eq.mpr c26); (have c26b1 : (t387 != x5_14) = false := bne_eq_false_iff_eq.mpr c26); (clear c26); (obtain rfl := Option.some.inj H)
      go_wp2
      go_ret
      exact ⟨by first | rfl | (simp [Zw, Zx] <;> rfl) | (simp [*, Zw, Zx] <;> rfl), by repeat (first | (with_reducible first | exact HB.out | apply zc1 | apply zc2 | apply zc3 | refine zc4 ?_ (by assumption)) | exact HB.out)⟩
     (rw [if_pos c17] at H); (have c17b0 : (x5_14 == 0) = true := beq_iff_eq.mpr c17); (have c17b1 : (x5_14 != 0) = false := bne_eq_false_iff_eq.mpr c17); (clear c17)
     by_cases c18 : t387 = 0
     rotate_left
     ·rw [if_neg c18] at H
      (have c18b0 : (t387 == 0) = false := beq_eq_false_iff_ne.mpr c18); (have c18b1 : (t387 != 0) = true := bne_iff_ne.mpr c18); (obtain rfl := Option.some.inj H)
      try go_wp2
      (replace BK385 := Za.mk (Zj BK385.out)); (replace HB := Za.mk (below_drew1 HB.out))
      refine start_ (n := 11) (S := fun w' => True) (ds := []) #[false, false, false, false, false, false, false, false, false, false, false] (by kernel_rfl) rfl rfl trivial (fun hHeld => ?_); refine with_tabW Zd1.tab7 Zd1.bits7 (fun HT_ HW_ => ?_)
      generalize wc.drew = w25 at BK385 HB hHeld ⊢
      refine pure_ (i := 0) (N := some 30) (v := ?_) (a' := ?_) #[true, false, false, false, false, false, false, false, false, false, false] rfl rfl (Zm HT_.out (by kernel_rfl)) (fun _ _ _ h => h) (Or.inl ⟨by rfl, ?_⟩) ?_ ?_
      rotate_left;·(intro w';go_simp;with_reducible rfl)
      rotate_left;·(simp only [Act.put, zp1, zp2, zp3, Zg, Zf];rfl)
      refine pure_ (i := 1) (N := some 31) (v := ?_) (a' := ?_) #[true, true, false, false, false, false, false, false, false, false, false] rfl rfl (Zm HT_.out (by kernel_rfl)) (fun _ _ _ h => h) (Or.inl ⟨by rfl, ?_⟩) ?_ ?_
      rotate_left;·(intro w';go_simp;with_reducible rfl)
      rotate_left;·(simp only [Act.put, zp1, zp2, zp3, Zg, Zf];rfl)
      refine pure_ (i := 2) (N := some 32) (v := ?_) (a' := ?_) #[true, true, true, false, false, false, false, false, false, false, false] rfl rfl (Zm HT_.out (by kernel_rfl)) (fun _ _ _ h => h) (Or.inl ⟨by rfl, ?_⟩) ?_ ?_
      rotate_left;·(intro w';go_simp;with_reducible rfl)
      rotate_left;·(simp only [Act.put, zp1, zp2, zp3, Zg, Zf];rfl)
      refine pure_ (i := 3) (N := some 33) (v := undef) (a' := ?_) #[true, true, true, true, false, false, false, false, false, false, false] rfl rfl (Zm HT_.out (by kernel_rfl)) (fun _ _ _ h => h) (Or.inr ⟨by rfl, rfl⟩) ?_ ?_
      rotate_left
      ·simp only [Act.put, zp1, zp2, zp3, Zg, Zf]
       rfl
      refine pure_ (i := 4) (N := some 34) (v := undef) (a' := ?_) #[true, true, true, true, true, false, false, false, false, false, false] rfl rfl (Zm HT_.out (by kernel_rfl)) (fun _ _ _ h => h) (Or.inr ⟨by rfl, rfl⟩) ?_ ?_
      rotate_left
      ·simp only [Act.put, zp1, zp2, zp3, Zg, Zf]
       rfl
      refine pure_ (i := 5) (N := some 35) (v := undef) (a' := ?_) #[true, true, true, true, true, true, false, false, false, false, false] rfl rfl (Zm HT_.out (by kernel_rfl)) (fun _ _ _ h => h) (Or.inr ⟨by rfl, rfl⟩) ?_ ?_
      rotate_left
      ·simp only [Act.put, zp1, zp2, zp3, Zg, Zf]
       rfl
      refine pure_ (i := 6) (N := some 36) (v := undef) (a' := ?_) #[true, true, true, true, true, true, true, false, false, false, false] rfl rfl (Zm HT_.out (by kernel_rfl)) (fun _ _ _ h => h) (Or.inr ⟨by rfl, rfl⟩) ?_ ?_
      rotate_left
      ·simp only [Act.put, zp1, zp2, zp3, Zg, Zf]
       rfl
      refine pure_ (i := 7) (N := some 37) (v := undef) (a' := ?_) #[true, true, true, true, true, true, true, true, false, false, false] rfl rfl (Zm HT_.out (by kernel_rfl)) (fun _ _ _ h => h) (Or.inr ⟨by rfl, rfl⟩) ?_ ?_
      rotate_left
      ·simp only [Act.put, zp1, zp2, zp3, Zg, Zf]
       rfl
      refine pure_ (i := 8) (N := some 38) (v := undef) (a' := ?_) #[true, true, true, true, true, true, true, true, true, false, false] rfl rfl (Zm HT_.out (by kernel_rfl)) (fun _ _ _ h => h) (Or.inr ⟨by rfl, rfl⟩) ?_ ?_
      rotate_left
      ·simp only [Act.put, zp1, zp2, zp3, Zg, Zf]
       rfl
      refine pure_ (i := 9) (N := some 39) (v := ?_) (a' := ?_) #[true, true, true, true, true, true, true, true, true, true, false] rfl rfl (Zm HT_.out (by kernel_rfl)) (fun _ _ _ h => h) (Or.inl ⟨by rfl, ?_⟩) ?_ ?_
      rotate_left;·(intro w';go_simp;with_reducible rfl)
      rotate_left;·(simp only [Act.put, zp1, zp2, zp3, Zg, Zf];rfl)
      refine pure_ (i := 10) (N := some 2) (v := ?_) (a' := ?_) #[true, true, true, true, true, true, true, true, true, true, true] rfl rfl (Zm HT_.out (by kernel_rfl)) (fun _ _ _ h => h) (Or.inl ⟨by rfl, ?_⟩) ?_ ?_
      rotate_left;·(intro w';go_simp;with_reducible rfl)
      rotate_left;·(simp only [Act.put, zp1, zp2, zp3, Zg, Zf];rfl)
      refine done_ (done_of HT_.out (by kernel_rfl)) ?_
      try go_wp2
      go_ret
      exact ⟨by first | rfl | (simp [Zw, Zx] <;> rfl) | (simp [*, Zw, Zx] <;> rfl), by repeat (first | (with_reducible first | exact HB.out | apply zc1 | apply zc2 | apply zc3 | refine zc4 ?_ (by assumption)) | exact HB.out)⟩
     (rw [if_pos c18] at H); (have c18b0 : (t387 == 0) = true := beq_iff_eq.mpr c18); (have c18b1 : (t387 != 0) = false := bne_eq_false_iff_eq.mpr c18); (clear c18); (replace H := Option.bind_eq_some_iff.mp H); (obtain ⟨t392, A190, H⟩ := H); (replace H : ((Zh1.f kj14 a0_0 a0_1 l0_2 a0_3 a0_4 t392).bind fun t395 => (some (t386 == t395))) = some r := H); (have A19 := Za.mk A190); (clear A190); (replace H := Option.bind_eq_some_iff.mp H); (obtain ⟨t395, A200, H⟩ := H); (replace H : (some (t386 == t395)) = some r := H); (have A20 := Za.mk A200); (clear A200); (obtain rfl := Option.some.inj H)
     try go_wp2
     (replace BK385 := Za.mk (Zj BK385.out)); (replace HB := Za.mk (below_drew1 HB.out))
     refine start_ (n := 11) (S := fun w' => w'.cell? ⟨gb385, 0, none⟩ = some (.int .i64 a0_0) ∧ w'.cell? ⟨gb385, 1, none⟩ = some (.int .i64 a0_1) ∧ w'.cell? ⟨gb385, 2, none⟩ = some (.slice A0_2 l0_2.length c0_2) ∧ w'.cell? ⟨gb385, 3, none⟩ = some (.int .i64 a0_3) ∧ w'.cell? ⟨gb385, 4, none⟩ = some (.int .u32 a0_4)) (ds := []) #[false, false, false, false, false, false, false, false, false, false, false] (by kernel_rfl) rfl rfl ⟨(Zb BK385.out 0).trans rfl, (Zb BK385.out 1).trans rfl, (Zb BK385.out 2).trans rfl, (Zb BK385.out 3).trans rfl, (Zb BK385.out 4).trans rfl⟩ (fun hHeld => ?_); refine with_tabW Zd1.tab7 Zd1.bits7 (fun HT_ HW_ => ?_)
     generalize wc.drew = w21 at BK385 HB hHeld ⊢
     refine pure_ (i := 0) (N := some 30) (v := ?_) (a' := ?_) #[true, false, false, false, false, false, false, false, false, false, false] rfl rfl (Zm HT_.out (by kernel_rfl)) (fun _ _ _ h => h) (Or.inl ⟨by rfl, ?_⟩) ?_ ?_
     rotate_left;·(intro w';go_simp;with_reducible rfl)
     rotate_left;·(simp only [Act.put, zp1, zp2, zp3, Zg, Zf];rfl)
     refine pure_ (i := 1) (N := some 31) (v := ?_) (a' := ?_) #[true, true, false, false, false, false, false, false, false, false, false] rfl rfl (Zm HT_.out (by kernel_rfl)) (fun _ _ _ h => h) (Or.inl ⟨by rfl, ?_⟩) ?_ ?_
     rotate_left;·(intro w';go_simp;with_reducible rfl)
     rotate_left;·(simp only [Act.put, zp1, zp2, zp3, Zg, Zf];rfl)
     refine pure_ (i := 2) (N := some 32) (v := ?_) (a' := ?_) #[true, true, true, false, false, false, false, false, false, false, false] rfl rfl (Zm HT_.out (by kernel_rfl)) (fun _ _ _ h => h) (Or.inl ⟨by rfl, ?_⟩) ?_ ?_
     rotate_left;·(intro w';go_simp;with_reducible rfl)
     rotate_left;·(simp only [Act.put, zp1, zp2, zp3, Zg, Zf];rfl)
     refine pure_ (i := 3) (N := some 33) (v := ?_) (a' := ?_) #[true, true, true, true, false, false, false, false, false, false, false] rfl rfl (Zm HT_.out (by kernel_rfl)) (fun _ _ _ h => h) (Or.inl ⟨by rfl, ?_⟩) ?_ ?_
     rotate_left;·(intro w';go_simp;with_reducible rfl)
     rotate_left;·(simp only [Act.put, zp1, zp2, zp3, Zg, Zf];rfl)
     refine take_ (i := 4) (N := some 34) (v := ?_) (a' := ?_) #[true, true, true, true, true, false, false, false, false, false, false] rfl rfl (Zi1 HT_.out HW_.out (by kernel_rfl)) (fun _ _ _ h => h) (Or.inl ⟨by rfl, ?_⟩) hHeld ?_ ?_
     rotate_left
     ·rintro w' ⟨s0, s1, s2, s3, s4⟩
      go_simp
      with_reducible rfl
     rotate_left
     ·simp only [Act.put, zp1, zp2, zp3, Zg, Zf]
      rfl
     refine take_ (i := 5) (N := some 35) (v := ?_) (a' := ?_) #[true, true, true, true, true, true, false, false, false, false, false] rfl rfl (Zi1 HT_.out HW_.out (by kernel_rfl)) (fun _ _ _ h => h) (Or.inl ⟨by rfl, ?_⟩) hHeld ?_ ?_
     rotate_left
     ·rintro w' ⟨s0, s1, s2, s3, s4⟩
      go_simp
      with_reducible rfl
     rotate_left
     ·simp only [Act.put, zp1, zp2, zp3, Zg, Zf]
      rfl
     refine one_ (i := 6) (N := some 36) #[true, true, true, true, true, true, true, false, false, false, false] rfl rfl (one_of HT_.out (by kernel_rfl)) (by decide) (fun K hK => ?_)
     refine goes_ Try.func8 (by kernel_rfl) rfl #[.agg #[.int .i64 a0_0, .int .i64 a0_1, .slice A0_2 l0_2.length c0_2, .int .i64 a0_3, .int .u32 a0_4], .int .i64 100] (by rfl) rfl rfl (by (try simp only [List.map_toArray, List.map_cons, List.map_nil]); first | done | rfl | (simp only [List.length_drop, List.length_take]; rfl)) ?_
     with_reducible refine (Zt.calls kj14 a0_0 a0_1 _ _ l0_2 a0_3 a0_4 100 t392 _ ?side1 ?side2 A19.out).mono ?_
     (case side1 => repeat (first | exact (Kd.C_below HR0_2.out HB.out) | (with_reducible refine Kd.C_alloc ?_ _) | (with_reducible refine Kd.C_drewN ?_ _) | (with_reducible refine Kd.C_drew ?_)))
     (case side2 => exact HC0_2.out)
     rintro e w22 ⟨v393, rfl, ho0, hb⟩
     refine ⟨_, rfl, ?_⟩
     (have HO394 := Za.mk (Kd.N_lower (Kd.N_mono (ok' := fun k_ => k_ ≠ gb385) ho0 (fun k_ hk_ => (Kd.freshB (g := gb385) (o := .cells #[.int .i64 a0_0, .int .i64 a0_1, .slice A0_2 l0_2.length c0_2, .int .i64 a0_3, .int .u32 a0_4] 25 (0, 0)) (by (with_reducible repeat (first | apply zb3 | apply zb2 | apply zb1)); exact BK385.out) k_ hk_))) (Zl (by repeat (first | (with_reducible first | exact HB.out | apply zc1 | apply zc2 | apply zc3 | refine zc4 ?_ (by assumption)) | exact HB.out))))); (replace BK385 := Za.mk (Zp (g := gb385) (by (with_reducible repeat (first | apply zb3 | apply zb2 | apply zb1)); exact BK385.out) hb)); (replace HB := Za.mk (Zr (by repeat (first | (with_reducible first | exact HB.out | apply zc1 | apply zc2 | apply zc3 | refine zc4 ?_ (by assumption)) | exact HB.out)) hb)); ((try clear hb)); ((try clear hb2)); ((try clear hk)); ((try clear hi)); ((try clear ho0)); (obtain ⟨Ao23, co23, eo23⟩ := Kd.N_slice HO394.out)
     (first | subst eo23 | (injection eo23 with f1_ f2_ f3_; have f4_ := f1_.symm; have f5_ := f3_.symm; clear f1_ f2_ f3_; subst f4_; subst f5_))
     refine hK.out _ _ ⟨(Zb BK385.out 0).trans rfl, (Zb BK385.out 1).trans rfl, (Zb BK385.out 2).trans rfl, (Zb BK385.out 3).trans rfl, (Zb BK385.out 4).trans rfl⟩ (fun hHeld => ?_)
     clear hK K
     refine norm_ (a' := ?_) ?_ ?_
     rotate_left
     ·show Act.put _ (some 36) _ = _
      simp only [Act.put, zp1, zp2, zp3, Zg, Zf]
      rfl
     refine one_ (i := 7) (N := some 37) #[true, true, true, true, true, true, true, true, false, false, false] rfl rfl (one_of HT_.out (by kernel_rfl)) (by decide) (fun K hK => ?_)
     refine goes_ Try.func14 (by kernel_rfl) rfl #[.agg #[.int .i64 a0_0, .int .i64 a0_1, .slice A0_2 l0_2.length c0_2, .int .i64 a0_3, .int .u32 a0_4], .slice Ao23 t392.length co23] (by rfl) rfl rfl (by (try simp only [List.map_toArray, List.map_cons, List.map_nil]); first | done | rfl | (simp only [List.length_drop, List.length_take]; rfl)) ?_
     with_reducible refine (Zh1.calls kj14 a0_0 a0_1 _ _ l0_2 a0_3 a0_4 _ _ t392 t395 _ ?side1 ?side2 ?side3 ?side4 A20.out).mono ?_
     (case side1 => repeat (first | exact (Kd.C_below HR0_2.out HB.out) | (with_reducible refine Kd.C_alloc ?_ _) | (with_reducible refine Kd.C_drewN ?_ _) | (with_reducible refine Kd.C_drew ?_)))
     (case side2 => exact HC0_2.out)
     (case side3 => repeat (first | exact (Kd.N_reads' HO394.out).2.2 | (with_reducible refine Kd.C_alloc ?_ _) | (with_reducible refine Kd.C_drewN ?_ _) | (with_reducible refine Kd.C_drew ?_)))
     (case side4 => exact (Kd.N_reads' HO394.out).2.1)
     rintro e w24 ⟨rfl, hb⟩
     refine ⟨_, rfl, ?_⟩
     (replace HO394 := Za.mk (Kd.N_below (by (with_reducible repeat (first | apply zn1 | apply zn2 | apply zn3)); exact HO394.out) hb)); (replace BK385 := Za.mk (Zp (g := gb385) (by (with_reducible repeat (first | apply zb3 | apply zb2 | apply zb1)); exact BK385.out) hb)); (replace HB := Za.mk (Zr (by repeat (first | (with_reducible first | exact HB.out | apply zc1 | apply zc2 | apply zc3 | refine zc4 ?_ (by assumption)) | exact HB.out)) hb)); ((try clear hb)); ((try clear hb2)); ((try clear hk)); ((try clear hi))
     refine hK.out _ _ ⟨(Zb BK385.out 0).trans rfl, (Zb BK385.out 1).trans rfl, (Zb BK385.out 2).trans rfl, (Zb BK385.out 3).trans rfl, (Zb BK385.out 4).trans rfl⟩ (fun hHeld => ?_)
     clear hK K
     refine norm_ (a' := ?_) ?_ ?_
     rotate_left
     ·show Act.put _ (some 37) _ = _
      simp only [Act.put, zp1, zp2, zp3, Zg, Zf]
      rfl
     refine pure_ (i := 8) (N := some 38) (v := ?_) (a' := ?_) #[true, true, true, true, true, true, true, true, true, false, false] rfl rfl (Zm HT_.out (by kernel_rfl)) (fun _ _ _ h => h) (Or.inl ⟨by rfl, ?_⟩) ?_ ?_
     rotate_left;·(intro w';go_simp;with_reducible rfl)
     rotate_left;·(simp only [Act.put, zp1, zp2, zp3, Zg, Zf];rfl)
     refine pure_ (i := 9) (N := some 39) (v := ?_) (a' := ?_) #[true, true, true, true, true, true, true, true, true, true, false] rfl rfl (Zm HT_.out (by kernel_rfl)) (fun _ _ _ h => h) (Or.inl ⟨by rfl, ?_⟩) ?_ ?_
     rotate_left;·(intro w';go_simp;with_reducible rfl)
     rotate_left;·(simp only [Act.put, zp1, zp2, zp3, Zg, Zf];rfl)
     refine pure_ (i := 10) (N := some 2) (v := ?_) (a' := ?_) #[true, true, true, true, true, true, true, true, true, true, true] rfl rfl (Zm HT_.out (by kernel_rfl)) (fun _ _ _ h => h) (Or.inl ⟨by rfl, ?_⟩) ?_ ?_
     rotate_left;·(intro w';go_simp;with_reducible rfl)
     rotate_left;·(simp only [Act.put, zp1, zp2, zp3, Zg, Zf];rfl)
     refine done_ (done_of HT_.out (by kernel_rfl)) ?_
     try go_wp2
     go_ret
     exact ⟨by first | rfl | (simp [Zw, Zx] <;> rfl) | (simp [*, Zw, Zx] <;> rfl), by repeat (first | (with_reducible first | exact HB.out | apply zc1 | apply zc2 | apply zc3 | refine zc4 ?_ (by assumption)) | exact HB.out)⟩
end Go.Proofs.Ytofdaiknpficfaa.PKindsStills
