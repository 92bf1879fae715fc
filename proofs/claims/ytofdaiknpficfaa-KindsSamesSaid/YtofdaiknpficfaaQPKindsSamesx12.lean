-- Printed by a turn of a template of the kit, and shortened: remarks and what nothing here uses are left out.
import Derived.Test.YtofdaiknpficfaaQPKindsSamesx0
import Derived.Test.YtofdaiknpficfaaQPKindsSamesx11
namespace Go.Proofs.Ytofdaiknpficfaa.PKindsSames
open Go.RowKit Go.Proofs.YtofdaiknpficfaaW.PrintWords Go.Proofs.YtofdaiknpficfaaW.PrintLast Go.Proofs.YtofdaiknpficfaaW.PrintMore
attribute [local go_sem] max2_int min2_int max_two min_two max_three min_three max_four min_four
set_option linter.unusedVariables false
set_option linter.unusedSimpArgs false
def Zo1.l0 : Nat → Int → List Int → Int → Int → Option (Int)
  | 0, _, _, _, _ => none
  | k + 1, x0, x10, x11, x12 => if x12 < x11 then (if 0 ≤ x12 then (if x12 < (x10.length : Int) then (if (rd x10 x12) < 0 then (some 2) else (if (rd x10 x12) ≥ x0 then (some 2) else (Zo1.l0 k x0 x10 x11 (wrap64 (x12 + 1))))) else (none)) else (none)) else (some 0)
def Zo1.f (k : Nat) (a0 : Int) (l1 : List Int) : Option (Int) := if (l1.length : Int) > 12 then (some 1) else (Zo1.l0 k a0 l1 (l1.length : Int) 0)
theorem Zo1.mono_l : ∀ k, (∀ y0 y1 y2 y3, LeO (Zo1.l0 k y0 y1 y2 y3) (Zo1.l0 (k + 1) y0 y1 y2 y3))
  | 0 => fun _ _ _ _ r h => by simp [Zo1.l0] at h
  | k + 1 => by
    have ih0 := Zo1.mono_l k
    · intro y0 y1 y2 y3
      unfold Zo1.l0
      repeat' first
      | (with_reducible exact ih0 _ _ _ _)
      | (with_reducible exact LeO.refl _)
      | (with_reducible exact LeO.none _)
      | (with_reducible refine LeO.ite ?_ ?_)
      | (with_reducible refine LeO.bind ?_ (fun _ => ?_))
      | exact ih0 _ _ _ _
      | exact LeO.none _
      | refine LeO.ite ?_ ?_
      | refine LeO.bind ?_ (fun _ => ?_)
theorem Zo1.mono : ∀ a0 a1 k, LeO (Zo1.f k a0 a1) (Zo1.f (k + 1) a0 a1) := by
  intro a0 a1 k
  have ih0 := Zo1.mono_l k
  unfold Zo1.f
  repeat' first
      | (with_reducible exact ih0 _ _ _ _)
      | (with_reducible exact LeO.refl _)
      | (with_reducible exact LeO.none _)
      | (with_reducible refine LeO.ite ?_ ?_)
      | (with_reducible refine LeO.bind ?_ (fun _ => ?_))
      | exact ih0 _ _ _ _
      | exact LeO.none _
      | refine LeO.ite ?_ ?_
      | refine LeO.bind ?_ (fun _ => ?_)
set_option maxHeartbeats 8000000 in
set_option maxRecDepth 100000 in
theorem Zo1.calls (k : Nat) (a0 : Int) (A1 : Option Addr) (c1 : Nat) (l1 : List Int) (r : Int) (w : World) (hr1 : Kd.C (Kd.int .i64) w A1 l1.length l1) (hc1 : l1.length ≤ c1) (h : Zo1.f k a0 l1 = some r) :
    Calls Try.prog 22 #[.int .i64 a0, .slice A1 l1.length c1] w fun e w' => e = .returned (.int .i64 r) ∧ Zt w w' := by
 (have hu3 := Try.underlying3); (have HR1 := Za.mk hr1); (have HC1 := Za.mk hc1); (clear hr1 hc1); (have H : (if (l1.length : Int) > 12 then (some 1) else (Zo1.l0 k a0 l1 (l1.length : Int) 0)) = some r := h); (clear h)
 by_cases c3 : (l1.length : Int) > 12
 ·rw [if_pos c3] at H
  (have c3b0 : decide (12 < (l1.length : Int)) = true := decide_eq_true c3); (have c3b1 : decide (12 < l1.length) = true := decide_eq_true (by omega)); (clear c3); (obtain rfl := Option.some.inj H)
  go_enter Try.func22, Try.ntmps22
  go_wp2
  go_ret
  exact ⟨by first | rfl | (simp; done) | (simp [*]; done), by repeat (first | exact Zt.refl _ | apply Zt.step)⟩
 (rw [if_neg c3] at H); (have c3b0 : decide (12 < (l1.length : Int)) = false := decide_eq_false c3); (have c3b1 : decide (12 < l1.length) = false := decide_eq_false (by omega)); (clear c3); (have H' := Za.mk H); (clear H)
 go_enter Try.func22, Try.ntmps22
 go_wp2
 go_loopg [12] k (fun kq v12 w' => ∃ (x12_1 : Int), v12 = .int .i64 x12_1 ∧ Za (Zo1.l0 kq a0 l1 (l1.length : Int) x12_1 = some r) ∧ Za (kq ≤ k) ∧ Zt w w')
 case atStart => exact ⟨(0), (by first | rfl | (simp; done) | (simp [*]; done)), H', ⟨Nat.le_refl _⟩, by repeat (first | exact Zt.refl _ | apply Zt.step)⟩
 case round =>
  (clear H'); (try clear c1); (try clear c2); (try clear p2); (try clear c3); (try clear c3b0); (try clear c3b1); (obtain ⟨x12_1, rfl, HA, HK1, ⟨m1, rfl⟩⟩ := hrel)
  cases gk with
  | zero => exact absurd HA.out (by simp [Zo1.l0])
  | succ k1 =>
   (have H := HA.out); (clear HA); (simp only [Zo1.l0] at H)
   by_cases c4 : x12_1 < (l1.length : Int)
   rotate_left
   ·rw [if_neg c4] at H
    (have c4b0 : decide (x12_1 < (l1.length : Int)) = false := decide_eq_false c4); (clear c4); (obtain rfl := Option.some.inj H)
    go_wp2
    go_ret
    exact ⟨by first | rfl | (simp; done) | (simp [*]; done), by repeat (first | exact Zt.refl _ | apply Zt.step)⟩
   (rw [if_pos c4] at H); (have c4b0 : decide (x12_1 < (l1.length : Int)) = true := decide_eq_true c4); (clear c4)
   by_cases c5 : 0 ≤ x12_1
   rotate_left
   ·rw [if_neg c5] at H
    exact absurd H (by simp)
   (rw [if_pos c5] at H); (have c5b0 : decide (0 ≤ x12_1) = true := decide_eq_true c5); (clear c5)
   by_cases c6 : x12_1 < (l1.length : Int)
   rotate_left
   ·rw [if_neg c6] at H
    exact absurd H (by simp)
   (rw [if_pos c6] at H); (have c6b0 : decide (x12_1 < (l1.length : Int)) = true := decide_eq_true c6); (clear c6)
   by_cases c7 : (rd l1 x12_1) < 0
   ·rw [if_pos c7] at H
    (have c7b0 : decide ((rd l1 x12_1) < 0) = true := decide_eq_true c7); (clear c7); (obtain rfl := Option.some.inj H); (have p259 : 0 ≤ (x12_1 : Int) := of_decide_eq_true (by assumption)); (have q259 : x12_1 < (l1.length : Int) := of_decide_eq_true (by assumption)); (obtain ⟨ad259, e259, hx259_0⟩ := Kd.at_int HR1.out x12_1 p259 q259); (cases e259); (replace p259 := eq_true p259); (replace q259 := eq_true q259)
    go_wp2
    go_ret
    exact ⟨by first | rfl | (simp; done) | (simp [*]; done), by repeat (first | exact Zt.refl _ | apply Zt.step)⟩
   (rw [if_neg c7] at H); (have c7b0 : decide ((rd l1 x12_1) < 0) = false := decide_eq_false c7); (clear c7)
   by_cases c8 : (rd l1 x12_1) ≥ a0
   ·rw [if_pos c8] at H
    (have c8b0 : decide (a0 ≤ (rd l1 x12_1)) = true := decide_eq_true c8); (clear c8); (obtain rfl := Option.some.inj H); (have p259 : 0 ≤ (x12_1 : Int) := of_decide_eq_true (by assumption)); (have q259 : x12_1 < (l1.length : Int) := of_decide_eq_true (by assumption)); (obtain ⟨ad259, e259, hx259_0⟩ := Kd.at_int HR1.out x12_1 p259 q259); (cases e259); (replace p259 := eq_true p259); (replace q259 := eq_true q259)
    go_wp2
    go_ret
    exact ⟨by first | rfl | (simp; done) | (simp [*]; done), by repeat (first | exact Zt.refl _ | apply Zt.step)⟩
   (rw [if_neg c8] at H); (have c8b0 : decide (a0 ≤ (rd l1 x12_1)) = false := decide_eq_false c8); (clear c8); (have H' := Za.mk H); (clear H); (have p259 : 0 ≤ (x12_1 : Int) := of_decide_eq_true (by assumption)); (have q259 : x12_1 < (l1.length : Int) := of_decide_eq_true (by assumption)); (obtain ⟨ad259, e259, hx259_0⟩ := Kd.at_int HR1.out x12_1 p259 q259); (cases e259); (replace p259 := eq_true p259); (replace q259 := eq_true q259)
   go_wp2
   go_roundg k1
   case measure => have := HK1.out; omega
   case rel => exact ⟨(wrap64 (x12_1 + 1)), (by first | rfl | (simp; done) | (simp [*]; done)), H', ⟨by have := HK1.out; omega⟩, by repeat (first | exact Zt.refl _ | apply Zt.step)⟩
def Zp1.f (k : Nat) (a0_0 : Int) (a0_1 : Int) (l0_2 : List (List Int)) (a0_3 : Int) (a0_4 : Int) (l1 : List Int) : Option (Int) := (Zq.f k a0_0 a0_1 l0_2 a0_3 a0_4).bind fun t261 => (if t261 = 0 then ((Zo1.f k a0_1 l1).bind fun t262 => (some t262)) else (some t261))
theorem Zp1.mono : ∀ a0 a1 a2 a3 a4 a5 k, LeO (Zp1.f k a0 a1 a2 a3 a4 a5) (Zp1.f (k + 1) a0 a1 a2 a3 a4 a5) := by
  intro a0 a1 a2 a3 a4 a5 k
  unfold Zp1.f
  repeat' first
      | (with_reducible exact Zq.mono _ _ _ _ _ _)
      | (with_reducible exact Zo1.mono _ _ _)
      | (with_reducible exact LeO.refl _)
      | (with_reducible exact LeO.none _)
      | (with_reducible refine LeO.ite ?_ ?_)
      | (with_reducible refine LeO.bind ?_ (fun _ => ?_))
      | exact Zq.mono _ _ _ _ _ _
      | exact Zo1.mono _ _ _
      | exact LeO.none _
      | refine LeO.ite ?_ ?_
      | refine LeO.bind ?_ (fun _ => ?_)
set_option maxHeartbeats 8000000 in
set_option maxRecDepth 100000 in
theorem Zp1.calls (k : Nat) (a0_0 : Int) (a0_1 : Int) (A0_2 : Option Addr) (c0_2 : Nat) (l0_2 : List (List Int)) (a0_3 : Int) (a0_4 : Int) (A1 : Option Addr) (c1 : Nat) (l1 : List Int) (r : Int) (w : World) (hr0_2 : Kd.C (Kd.slice 3 (Kd.int .i64)) w A0_2 l0_2.length l0_2) (hc0_2 : l0_2.length ≤ c0_2) (hr1 : Kd.C (Kd.int .i64) w A1 l1.length l1) (hc1 : l1.length ≤ c1) (h : Zp1.f k a0_0 a0_1 l0_2 a0_3 a0_4 l1 = some r) :
    Calls Try.prog 10 #[.agg #[.int .i64 a0_0, .int .i64 a0_1, .slice A0_2 l0_2.length c0_2, .int .i64 a0_3, .int .u32 a0_4], .slice A1 l1.length c1] w fun e w' => e = .returned (.int .i64 r) ∧ Below w.heap.size w w' := by
 (have hu25 := Try.underlying25); (have hu3 := Try.underlying3); (have HR0_2 := Za.mk hr0_2); (have HC0_2 := Za.mk hc0_2); (clear hr0_2 hc0_2); (have HR1 := Za.mk hr1); (have HC1 := Za.mk hc1); (clear hr1 hc1); (have HB := Za.mk (Below.refl w.heap.size w)); (have H : ((Zq.f k a0_0 a0_1 l0_2 a0_3 a0_4).bind fun t261 => (if t261 = 0 then ((Zo1.f k a0_1 l1).bind fun t262 => (some t262)) else (some t261))) = some r := h); (clear h); (replace H := Option.bind_eq_some_iff.mp H); (obtain ⟨t261, A30, H⟩ := H); (replace H : (if t261 = 0 then ((Zo1.f k a0_1 l1).bind fun t262 => (some t262)) else (some t261)) = some r := H); (have A3 := Za.mk A30); (clear A30)
 by_cases c4 : t261 = 0
 rotate_left
 ·rw [if_neg c4] at H
  (have c4b0 : (t261 == 0) = false := beq_eq_false_iff_ne.mpr c4); (have c4b1 : (t261 != 0) = true := bne_iff_ne.mpr c4); (obtain rfl := Option.some.inj H)
  go_enter Try.func10, Try.ntmps10
  go_wp2_with (first | ((with_reducible refine Zb1 (N := 2) rfl ?_); refine Zi1 ?hg (N := 2) ?hd (cs := #[.int .i64 a0_0, .int .i64 a0_1, .slice A0_2 l0_2.length c0_2, .int .i64 a0_3, .int .u32 a0_4]) (t := 25) ?hr ?_; (case hd => rfl); (case hg => rfl); (case hr => first | (go_simp; done) | (go_simp; rfl)); intro gb260 hg w10 hbox hb; have BK260 := Za.mk (hbox); have GW260 := Za.mk ((by rw [hg]; exact (Zl (by repeat (first | (with_reducible first | exact HB.out | apply zc1 | apply zc2 | apply zc3) | exact HB.out))) : w.heap.size ≤ gb260)); have GE260 := Za.mk ((by rw [hg]; exact (Zl (by repeat (first | (with_reducible first | exact HB.out | apply zc1 | apply zc2 | apply zc3) | exact HB.out))) : w.heap.size ≤ gb260)); replace HB := Za.mk (Zo (by repeat (first | (with_reducible first | exact HB.out | apply zc1 | apply zc2 | apply zc3) | exact HB.out)) hb); clear hb hbox hg; have hcz11_0 : w10.cell? ⟨gb260, 0, none⟩ = some (.int .i64 a0_0) := (Zb BK260.out 0).trans rfl; have hcz11_1 : w10.cell? ⟨gb260, 1, none⟩ = some (.int .i64 a0_1) := (Zb BK260.out 1).trans rfl; have hcz11_2 : w10.cell? ⟨gb260, 2, none⟩ = some (.slice A0_2 l0_2.length c0_2) := (Zb BK260.out 2).trans rfl; have hcz11_3 : w10.cell? ⟨gb260, 3, none⟩ = some (.int .i64 a0_3) := (Zb BK260.out 3).trans rfl; have hcz11_4 : w10.cell? ⟨gb260, 4, none⟩ = some (.int .u32 a0_4) := (Zb BK260.out 4).trans rfl; have hfz11_0 := Zc BK260.out 0; have hfz11_1 := Zc BK260.out 1; have hfz11_2 := Zc BK260.out 2; have hfz11_3 := Zc BK260.out 3; have hfz11_4 := Zc BK260.out 4) | ((with_reducible refine gate_callee (f := 7) rfl ?_); refine goesL_ (some 7) rfl rfl Try.func7 (by kernel_rfl) rfl #[.agg #[.int .i64 a0_0, .int .i64 a0_1, .slice A0_2 l0_2.length c0_2, .int .i64 a0_3, .int .u32 a0_4]] rfl (by (try simp only [List.map_toArray, List.map_cons, List.map_nil]); first | done | rfl | (simp only [List.length_drop, List.length_take]; rfl)) ?_; (with_reducible refine (Zq.calls k a0_0 a0_1 _ _ l0_2 a0_3 a0_4 t261 _ ?side1 ?side2 A3.out).mono ?_); (case side1 => repeat (first | exact (Kd.C_below HR0_2.out HB.out) | (with_reducible refine Kd.C_alloc ?_ _) | (with_reducible refine Kd.C_drewN ?_ _) | (with_reducible refine Kd.C_drew ?_))); (case side2 => exact HC0_2.out); rintro e w12 ⟨rfl, hb⟩; refine ⟨_, rfl, ?_⟩; replace BK260 := Za.mk (Zn (g := gb260) (by (with_reducible repeat (first | apply zb3 | apply zb2 | apply zb1)); exact BK260.out) hb); replace HB := Za.mk (Zo (by repeat (first | (with_reducible first | exact HB.out | apply zc1 | apply zc2 | apply zc3 | refine zc4 ?_ (by assumption)) | exact HB.out)) hb); (try clear hb); (try clear hb2); (try clear hk); (try clear hi)))
  go_ret
  exact ⟨by first | rfl | (simp [Zu, Zv] <;> rfl) | (simp [*, Zu, Zv] <;> rfl), by repeat (first | (with_reducible first | exact HB.out | apply zc1 | apply zc2 | apply zc3 | refine zc4 ?_ (by assumption)) | exact HB.out)⟩
 (rw [if_pos c4] at H); (have c4b0 : (t261 == 0) = true := beq_iff_eq.mpr c4); (have c4b1 : (t261 != 0) = false := bne_eq_false_iff_eq.mpr c4); (clear c4); (replace H := Option.bind_eq_some_iff.mp H); (obtain ⟨t262, A50, H⟩ := H); (replace H : (some t262) = some r := H); (have A5 := Za.mk A50); (clear A50); (obtain rfl := Option.some.inj H)
 go_enter Try.func10, Try.ntmps10
 go_wp2_with (first | ((with_reducible refine Zb1 (N := 2) rfl ?_); refine Zi1 ?hg (N := 2) ?hd (cs := #[.int .i64 a0_0, .int .i64 a0_1, .slice A0_2 l0_2.length c0_2, .int .i64 a0_3, .int .u32 a0_4]) (t := 25) ?hr ?_; (case hd => rfl); (case hg => rfl); (case hr => first | (go_simp; done) | (go_simp; rfl)); intro gb260 hg w6 hbox hb; have BK260 := Za.mk (hbox); have GW260 := Za.mk ((by rw [hg]; exact (Zl (by repeat (first | (with_reducible first | exact HB.out | apply zc1 | apply zc2 | apply zc3) | exact HB.out))) : w.heap.size ≤ gb260)); have GE260 := Za.mk ((by rw [hg]; exact (Zl (by repeat (first | (with_reducible first | exact HB.out | apply zc1 | apply zc2 | apply zc3) | exact HB.out))) : w.heap.size ≤ gb260)); replace HB := Za.mk (Zo (by repeat (first | (with_reducible first | exact HB.out | apply zc1 | apply zc2 | apply zc3) | exact HB.out)) hb); clear hb hbox hg; have hcz7_0 : w6.cell? ⟨gb260, 0, none⟩ = some (.int .i64 a0_0) := (Zb BK260.out 0).trans rfl; have hcz7_1 : w6.cell? ⟨gb260, 1, none⟩ = some (.int .i64 a0_1) := (Zb BK260.out 1).trans rfl; have hcz7_2 : w6.cell? ⟨gb260, 2, none⟩ = some (.slice A0_2 l0_2.length c0_2) := (Zb BK260.out 2).trans rfl; have hcz7_3 : w6.cell? ⟨gb260, 3, none⟩ = some (.int .i64 a0_3) := (Zb BK260.out 3).trans rfl; have hcz7_4 : w6.cell? ⟨gb260, 4, none⟩ = some (.int .u32 a0_4) := (Zb BK260.out 4).trans rfl; have hfz7_0 := Zc BK260.out 0; have hfz7_1 := Zc BK260.out 1; have hfz7_2 := Zc BK260.out 2; have hfz7_3 := Zc BK260.out 3; have hfz7_4 := Zc BK260.out 4) | ((with_reducible refine gate_callee (f := 7) rfl ?_); refine goesL_ (some 7) rfl rfl Try.func7 (by kernel_rfl) rfl #[.agg #[.int .i64 a0_0, .int .i64 a0_1, .slice A0_2 l0_2.length c0_2, .int .i64 a0_3, .int .u32 a0_4]] rfl (by (try simp only [List.map_toArray, List.map_cons, List.map_nil]); first | done | rfl | (simp only [List.length_drop, List.length_take]; rfl)) ?_; (with_reducible refine (Zq.calls k a0_0 a0_1 _ _ l0_2 a0_3 a0_4 t261 _ ?side1 ?side2 A3.out).mono ?_); (case side1 => repeat (first | exact (Kd.C_below HR0_2.out HB.out) | (with_reducible refine Kd.C_alloc ?_ _) | (with_reducible refine Kd.C_drewN ?_ _) | (with_reducible refine Kd.C_drew ?_))); (case side2 => exact HC0_2.out); rintro e w8 ⟨rfl, hb⟩; refine ⟨_, rfl, ?_⟩; replace BK260 := Za.mk (Zn (g := gb260) (by (with_reducible repeat (first | apply zb3 | apply zb2 | apply zb1)); exact BK260.out) hb); replace HB := Za.mk (Zo (by repeat (first | (with_reducible first | exact HB.out | apply zc1 | apply zc2 | apply zc3 | refine zc4 ?_ (by assumption)) | exact HB.out)) hb); (try clear hb); (try clear hb2); (try clear hk); (try clear hi); have hcz9_0 : w8.cell? ⟨gb260, 0, none⟩ = some (.int .i64 a0_0) := (Zb BK260.out 0).trans rfl; have hcz9_1 : w8.cell? ⟨gb260, 1, none⟩ = some (.int .i64 a0_1) := (Zb BK260.out 1).trans rfl; have hcz9_2 : w8.cell? ⟨gb260, 2, none⟩ = some (.slice A0_2 l0_2.length c0_2) := (Zb BK260.out 2).trans rfl; have hcz9_3 : w8.cell? ⟨gb260, 3, none⟩ = some (.int .i64 a0_3) := (Zb BK260.out 3).trans rfl; have hcz9_4 : w8.cell? ⟨gb260, 4, none⟩ = some (.int .u32 a0_4) := (Zb BK260.out 4).trans rfl; have hfz9_0 := Zc BK260.out 0; have hfz9_1 := Zc BK260.out 1; have hfz9_2 := Zc BK260.out 2; have hfz9_3 := Zc BK260.out 3; have hfz9_4 := Zc BK260.out 4) | ((with_reducible refine gate_callee (f := 22) rfl ?_); refine goesL_ (some 13) rfl rfl Try.func22 (by kernel_rfl) rfl #[.int .i64 a0_1, .slice A1 l1.length c1] rfl (by (try simp only [List.map_toArray, List.map_cons, List.map_nil]); first | done | rfl | (simp only [List.length_drop, List.length_take]; rfl)) ?_; (with_reducible refine (Zo1.calls k a0_1 _ _ l1 t262 _ ?side1 ?side2 A5.out).mono ?_); (case side1 => repeat (first | exact (Kd.C_below HR1.out HB.out) | (with_reducible refine Kd.C_alloc ?_ _) | (with_reducible refine Kd.C_drewN ?_ _) | (with_reducible refine Kd.C_drew ?_))); (case side2 => exact HC1.out); rintro e w' ⟨rfl, ⟨nd, rfl⟩⟩; refine ⟨_, rfl, ?_⟩))
 go_ret
 exact ⟨by first | rfl | (simp [Zu, Zv] <;> rfl) | (simp [*, Zu, Zv] <;> rfl), by repeat (first | (with_reducible first | exact HB.out | apply zc1 | apply zc2 | apply zc3 | refine zc4 ?_ (by assumption)) | exact HB.out)⟩
def Zn1.l0 : Nat → List Int → List Int → Int → Option (Bool)
  | 0, _, _, _ => none
  | k + 1, x0, x1, x5 => if x5 < (x0.length : Int) then (if 0 ≤ x5 then (if x5 < (x1.length : Int) then (if (rd x0 x5) = (rd x1 x5) then (Zn1.l0 k x0 x1 (wrap64 (x5 + 1))) else (some false)) else (none)) else (none)) else (some true)
def Zn1.f (k : Nat) (l0 : List Int) (l1 : List Int) : Option (Bool) := if (l0.length : Int) = (l1.length : Int) then (Zn1.l0 k l0 l1 0) else (some false)
theorem Zn1.mono_l : ∀ k, (∀ y0 y1 y2, LeO (Zn1.l0 k y0 y1 y2) (Zn1.l0 (k + 1) y0 y1 y2))
  | 0 => fun _ _ _ r h => by simp [Zn1.l0] at h
  | k + 1 => by
    have ih0 := Zn1.mono_l k
    · intro y0 y1 y2
      unfold Zn1.l0
      repeat' first
      | (with_reducible exact ih0 _ _ _)
      | (with_reducible exact LeO.refl _)
      | (with_reducible exact LeO.none _)
      | (with_reducible refine LeO.ite ?_ ?_)
      | (with_reducible refine LeO.bind ?_ (fun _ => ?_))
      | exact ih0 _ _ _
      | exact LeO.none _
      | refine LeO.ite ?_ ?_
      | refine LeO.bind ?_ (fun _ => ?_)
theorem Zn1.mono : ∀ a0 a1 k, LeO (Zn1.f k a0 a1) (Zn1.f (k + 1) a0 a1) := by
  intro a0 a1 k
  have ih0 := Zn1.mono_l k
  unfold Zn1.f
  repeat' first
      | (with_reducible exact ih0 _ _ _)
      | (with_reducible exact LeO.refl _)
      | (with_reducible exact LeO.none _)
      | (with_reducible refine LeO.ite ?_ ?_)
      | (with_reducible refine LeO.bind ?_ (fun _ => ?_))
      | exact ih0 _ _ _
      | exact LeO.none _
      | refine LeO.ite ?_ ?_
      | refine LeO.bind ?_ (fun _ => ?_)
set_option maxHeartbeats 8000000 in
set_option maxRecDepth 100000 in
theorem Zn1.calls (k : Nat) (A0 : Option Addr) (c0 : Nat) (l0 : List Int) (A1 : Option Addr) (c1 : Nat) (l1 : List Int) (r : Bool) (w : World) (hr0 : Kd.C (Kd.int .i64) w A0 l0.length l0) (hc0 : l0.length ≤ c0) (hr1 : Kd.C (Kd.int .i64) w A1 l1.length l1) (hc1 : l1.length ≤ c1) (h : Zn1.f k l0 l1 = some r) :
    Calls Try.prog 11 #[.slice A0 l0.length c0, .slice A1 l1.length c1] w fun e w' => e = .returned (.bool r) ∧ Zt w w' := by
 (have hu3 := Try.underlying3); (have HR0 := Za.mk hr0); (have HC0 := Za.mk hc0); (clear hr0 hc0); (have HR1 := Za.mk hr1); (have HC1 := Za.mk hc1); (clear hr1 hc1); (have H : (if (l0.length : Int) = (l1.length : Int) then (Zn1.l0 k l0 l1 0) else (some false)) = some r := h); (clear h)
 by_cases c3 : (l0.length : Int) = (l1.length : Int)
 rotate_left
 ·rw [if_neg c3] at H
  (have c3b0 : ((l0.length : Int) == (l1.length : Int)) = false := beq_eq_false_iff_ne.mpr c3); (have c3b1 : ((l0.length : Int) != (l1.length : Int)) = true := bne_iff_ne.mpr c3); (have c3b2 : (l0.length == l1.length) = false := by first | simpa using c3 | (simp at c3 ⊢; omega)); (obtain rfl := Option.some.inj H)
  go_enter Try.func11, Try.ntmps11
  go_wp2
  repeat (go_quiet (fail); try go_wp2)
  go_ret
  exact ⟨by first | rfl | (simp; done) | (simp [*]; done), by repeat (first | exact Zt.refl _ | apply Zt.step)⟩
 (rw [if_pos c3] at H); (have c3b0 : ((l0.length : Int) == (l1.length : Int)) = true := beq_iff_eq.mpr c3); (have c3b1 : ((l0.length : Int) != (l1.length : Int)) = false := bne_eq_false_iff_eq.mpr c3); (have c3b2 : (l0.length == l1.length) = true := by first | simpa using c3 | (simp at c3 ⊢; omega)); (clear c3); (have H' := Za.mk H); (clear H)
 go_enter Try.func11, Try.ntmps11
 go_wp2
 repeat (go_quiet (fail); try go_wp2)
 go_loopg [5] k (fun kq v5 w' => ∃ (x5_1 : Int), v5 = .int .i64 x5_1 ∧ Za (Zn1.l0 kq l0 l1 x5_1 = some r) ∧ Za (kq ≤ k) ∧ Zt w w')
 case atStart => exact ⟨(0), (by first | rfl | (simp; done) | (simp [*]; done)), H', ⟨Nat.le_refl _⟩, by repeat (first | exact Zt.refl _ | apply Zt.step)⟩
 case round =>
  (clear H'); (try clear c1); (try clear p2); (try clear c3); (try clear c3b0); (try clear c3b1); (try clear c3b2); (obtain ⟨x5_1, rfl, HA, HK1, ⟨m1, rfl⟩⟩ := hrel)
  cases gk with
  | zero => exact absurd HA.out (by simp [Zn1.l0])
  | succ k1 =>
   (have H := HA.out); (clear HA); (simp only [Zn1.l0] at H)
   by_cases c4 : x5_1 < (l0.length : Int)
   rotate_left
   ·rw [if_neg c4] at H
    (have c4b0 : decide (x5_1 < (l0.length : Int)) = false := decide_eq_false c4); (clear c4); (obtain rfl := Option.some.inj H)
    go_wp2
    repeat (go_quiet (fail); try go_wp2)
    go_ret
    exact ⟨by first | rfl | (simp; done) | (simp [*]; done), by repeat (first | exact Zt.refl _ | apply Zt.step)⟩
   (rw [if_pos c4] at H); (have c4b0 : decide (x5_1 < (l0.length : Int)) = true := decide_eq_true c4); (clear c4)
   by_cases c5 : 0 ≤ x5_1
   rotate_left
   ·rw [if_neg c5] at H
    exact absurd H (by simp)
   (rw [if_pos c5] at H); (have c5b0 : decide (0 ≤ x5_1) = true := decide_eq_true c5); (clear c5)
   by_cases c6 : x5_1 < (l1.length : Int)
   rotate_left
   ·rw [if_neg c6] at H
    exact absurd H (by simp)
   (rw [if_pos c6] at H); (have c6b0 : decide (x5_1 < (l1.length : Int)) = true := decide_eq_true c6); (clear c6)
   by_cases c7 : (rd l0 x5_1) = (rd l1 x5_1)
   rotate_left
   ·rw [if_neg c7] at H
    (have c7b0 : ((rd l0 x5_1) == (rd l1 x5_1)) = false := beq_eq_false_iff_ne.mpr c7); (have c7b1 : ((rd l0 x5_1) != (rd l1 x5_1)) = true := bne_iff_ne.mpr c7); (obtain rfl := Option.some.inj H); (have p263 : 0 ≤ (x5_1 : Int) := of_decide_eq_true (by assumption)); (have q263 : x5_1 < (l0.length : Int) := of_decide_eq_true (by assumption)); (obtain ⟨ad263, e263, hx263_0⟩ := Kd.at_int HR0.out x5_1 p263 q263); (cases e263); (replace p263 := eq_true p263); (replace q263 := eq_true q263); (have p264 : 0 ≤ (x5_1 : Int) := of_decide_eq_true (by assumption)); (have q264 : x5_1 < (l1.length : Int) := of_decide_eq_true (by assumption)); (obtain ⟨ad264, e264, hx264_0⟩ := Kd.at_int HR1.out x5_1 p264 q264); (cases e264); (replace p264 := eq_true p264); (replace q264 := eq_true q264)
    go_wp2
    repeat (go_quiet (fail); try go_wp2)
    go_ret
    exact ⟨by first | rfl | (simp; done) | (simp [*]; done), by repeat (first | exact Zt.refl _ | apply Zt.step)⟩
   (rw [if_pos c7] at H); (have c7b0 : ((rd l0 x5_1) == (rd l1 x5_1)) = true := beq_iff_eq.mpr c7); (have c7b1 : ((rd l0 x5_1) != (rd l1 x5_1)) = false := bne_eq_false_iff_eq.mpr c7); (clear c7); (have H' := Za.mk H); (clear H); (have p263 : 0 ≤ (x5_1 : Int) := of_decide_eq_true (by assumption)); (have q263 : x5_1 < (l0.length : Int) := of_decide_eq_true (by assumption)); (obtain ⟨ad263, e263, hx263_0⟩ := Kd.at_int HR0.out x5_1 p263 q263); (cases e263); (replace p263 := eq_true p263); (replace q263 := eq_true q263); (have p264 : 0 ≤ (x5_1 : Int) := of_decide_eq_true (by assumption)); (have q264 : x5_1 < (l1.length : Int) := of_decide_eq_true (by assumption)); (obtain ⟨ad264, e264, hx264_0⟩ := Kd.at_int HR1.out x5_1 p264 q264); (cases e264); (replace p264 := eq_true p264); (replace q264 := eq_true q264)
   go_wp2
   repeat (go_quiet (fail); try go_wp2)
   go_roundg k1
   case measure => have := HK1.out; omega
   case rel => exact ⟨(wrap64 (x5_1 + 1)), (by first | rfl | (simp; done) | (simp [*]; done)), H', ⟨by have := HK1.out; omega⟩, by repeat (first | exact Zt.refl _ | apply Zt.step)⟩
def coppicerref_Bit.f (a0 : Int) (a1 : Int) : Option (Bool) := if a1 ≥ 0 then (if a1 < 32 then (if 0 ≤ (IntKind.u64.wrap (a1)) then (some ((Go.bits .and .u32 a0 (shl .u32 1 (IntKind.u64.wrap (a1)))) != 0)) else (none)) else (some false)) else (some false)
set_option maxHeartbeats 8000000 in
set_option maxRecDepth 100000 in
theorem coppicerref_Bit.calls (a0 : Int) (a1 : Int) (r : Bool) (w : World) (h : coppicerref_Bit.f a0 a1 = some r) :
    Calls Try.prog 45 #[.int .u32 a0, .int .i64 a1] w fun e w' => e = .returned (.bool r) ∧ Zt w w' := by
 (have H : (if a1 ≥ 0 then (if a1 < 32 then (if 0 ≤ (IntKind.u64.wrap (a1)) then (some ((Go.bits .and .u32 a0 (shl .u32 1 (IntKind.u64.wrap (a1)))) != 0)) else (none)) else (some false)) else (some false)) = some r := h); (clear h)
 by_cases c3 : a1 ≥ 0
 rotate_left
 ·rw [if_neg c3] at H
  (have c3b0 : decide (0 ≤ a1) = false := decide_eq_false c3); (clear c3); (obtain rfl := Option.some.inj H)
  go_enter Try.func45, Try.ntmps45
  go_wp2
  go_ret
  exact ⟨by first | rfl | (simp; done) | (simp [*]; done), by repeat (first | exact Zt.refl _ | apply Zt.step)⟩
 (rw [if_pos c3] at H); (have c3b0 : decide (0 ≤ a1) = true := decide_eq_true c3); (clear c3)
 by_cases c4 : a1 < 32
 rotate_left
 ·rw [if_neg c4] at H
  (have c4b0 : decide (a1 < 32) = false := decide_eq_false c4); (clear c4); (obtain rfl := Option.some.inj H)
  go_enter Try.func45, Try.ntmps45
  go_wp2
  go_ret
  exact ⟨by first | rfl | (simp; done) | (simp [*]; done), by repeat (first | exact Zt.refl _ | apply Zt.step)⟩
 (rw [if_pos c4] at H); (have c4b0 : decide (a1 < 32) = true := decide_eq_true c4); (clear c4); (obtain ⟨ji5, hji5⟩ : ∃ j_ : Int, (IntKind.u64.wrap (a1)) = j_ := ⟨_, rfl⟩); (replace H : (if 0 ≤ (ji5) then (some ((Go.bits .and .u32 a0 (shl .u32 1 (ji5))) != 0)) else (none)) = some r := by first | (rw [hji5] at H; exact H) | (simp only [hji5] at H ⊢; exact H))
 by_cases c6 : 0 ≤ (ji5)
 rotate_left
 ·rw [if_neg c6] at H
  exact absurd H (by simp)
 (rw [if_pos c6] at H); (have c6b0 := eq_true c6); (have c6b1 : decide (0 ≤ (ji5)) = true := decide_eq_true c6); (clear c6); (obtain ⟨ji7, hji7⟩ : ∃ j_ : Int, (shl .u32 1 (ji5)) = j_ := ⟨_, rfl⟩); (replace H : (some ((Go.bits .and .u32 a0 (ji7)) != 0)) = some r := by first | (rw [hji7] at H; exact H) | (simp only [hji7] at H ⊢; exact H)); (have hji7_ : (IntKind.u32.wrap (1 * 2 ^ min (ji5).toNat 32)) = ji7 := hji7); (have hji7z : (ji5) ≤ 32 → (IntKind.u32.wrap (1 * 2 ^ (ji5).toNat)) = ji7 := shl_small hji7); (have hji7u : (IntKind.u32.wrap (2 ^ min (ji5).toNat 32)) = ji7 := by have h_ := hji7_; rw [Int.one_mul] at h_; exact h_); (have hji7v : (ji5) ≤ 32 → (IntKind.u32.wrap (2 ^ (ji5).toNat)) = ji7 := fun hle_ => by have h_ := hji7z hle_; rw [Int.one_mul] at h_; exact h_); (obtain rfl := Option.some.inj H)
 go_enter Try.func45, Try.ntmps45
 go_wp2
 go_ret
 exact ⟨by first | rfl | (simp; done) | (simp only [← hji5, ← hji7] <;> (first | rfl | simp)) | (simp [*]; done), by repeat (first | exact Zt.refl _ | apply Zt.step)⟩
end Go.Proofs.Ytofdaiknpficfaa.PKindsSames
