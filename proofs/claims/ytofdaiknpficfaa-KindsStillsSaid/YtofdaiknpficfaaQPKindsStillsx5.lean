-- Printed by a turn of a template of the kit.
import Derived.Test.YtofdaiknpficfaaQPKindsStillsx0
import Derived.Test.YtofdaiknpficfaaQPKindsStillsx4
namespace Go.Proofs.Ytofdaiknpficfaa.PKindsStills
open Go.RowKit Go.Proofs.YtofdaiknpficfaaW.PrintWords Go.Proofs.YtofdaiknpficfaaW.PrintLast Go.Proofs.YtofdaiknpficfaaW.PrintMore
attribute [local go_sem] max2_int min2_int max_two min_two max_three min_three max_four min_four
set_option linter.unusedVariables false
set_option linter.unusedSimpArgs false
def Zt1.l0 : Nat → Int → Int → Int → Int → Int → List (List Int) → Int → Int → Option (Bool)
  | 0, _, _, _, _, _, _, _, _ => none
  | k + 1, x1, x2, x7, x146000, x146001, x146002, x146003, x146004 => if x7 < x146000 then ((Zk.f k x146000 x146001 x146002 x146003 x146004 x7 x1 x2).bind fun t146 => (if t146 = true then (some false) else (Zt1.l0 k x1 x2 (wrap64 (x7 + 1)) x146000 x146001 x146002 x146003 x146004))) else (some true)
def Zt1.f (k : Nat) (a0_0 : Int) (a0_1 : Int) (l0_2 : List (List Int)) (a0_3 : Int) (a0_4 : Int) (a1 : Int) (a2 : Int) : Option (Bool) := Zt1.l0 k a1 a2 0 a0_0 a0_1 l0_2 a0_3 a0_4
theorem Zt1.mono_l : ∀ k, (∀ y0 y1 y2 y3 y4 y5 y6 y7, LeO (Zt1.l0 k y0 y1 y2 y3 y4 y5 y6 y7) (Zt1.l0 (k + 1) y0 y1 y2 y3 y4 y5 y6 y7))
  | 0 => fun _ _ _ _ _ _ _ _ r h => by simp [Zt1.l0] at h
  | k + 1 => by
    have ih0 := Zt1.mono_l k
    · intro y0 y1 y2 y3 y4 y5 y6 y7
      unfold Zt1.l0
      repeat' first | (with_reducible exact ih0 _ _ _ _ _ _ _ _) | (with_reducible exact Zk.mono _ _ _ _ _ _ _ _ _) | (with_reducible exact LeO.refl _) | (with_reducible exact LeO.none _) | (with_reducible refine LeO.ite ?_ ?_) | (with_reducible refine LeO.bind ?_ (fun _ => ?_))
theorem Zt1.mono : ∀ a0 a1 a2 a3 a4 a5 a6 k, LeO (Zt1.f k a0 a1 a2 a3 a4 a5 a6) (Zt1.f (k + 1) a0 a1 a2 a3 a4 a5 a6) := by
  intro a0 a1 a2 a3 a4 a5 a6 k
  have ih0 := Zt1.mono_l k
  unfold Zt1.f
  repeat' first | (with_reducible exact ih0 _ _ _ _ _ _ _ _) | (with_reducible exact Zk.mono _ _ _ _ _ _ _ _ _) | (with_reducible exact LeO.refl _) | (with_reducible exact LeO.none _) | (with_reducible refine LeO.ite ?_ ?_) | (with_reducible refine LeO.bind ?_ (fun _ => ?_))
set_option maxHeartbeats 8000000 in
set_option maxRecDepth 100000 in
theorem Zt1.calls (k : Nat) (a0_0 : Int) (a0_1 : Int) (A0_2 : Option Addr) (c0_2 : Nat) (l0_2 : List (List Int)) (a0_3 : Int) (a0_4 : Int) (a1 : Int) (a2 : Int) (r : Bool) (w : World) (hr0_2 : Kd.C (Kd.slice 3 (Kd.int .i64)) w A0_2 l0_2.length l0_2) (hc0_2 : l0_2.length ≤ c0_2) (h : Zt1.f k a0_0 a0_1 l0_2 a0_3 a0_4 a1 a2 = some r) :
    Calls Try.prog 34 #[.agg #[.int .i64 a0_0, .int .i64 a0_1, .slice A0_2 l0_2.length c0_2, .int .i64 a0_3, .int .u32 a0_4], .int .i64 a1, .int .i64 a2] w fun e w' => e = .returned (.bool r) ∧ Below w.heap.size w w' := by
 (have hu25 := Try.underlying25); (have HR0_2 := Za.mk hr0_2); (have HC0_2 := Za.mk hc0_2); (clear hr0_2 hc0_2); (have HB := Za.mk (Below.refl w.heap.size w)); (have H : (Zt1.l0 k a1 a2 0 a0_0 a0_1 l0_2 a0_3 a0_4) = some r := h); (clear h); (have H' := Za.mk H); (clear H)
 go_enter Try.func34, Try.ntmps34
 go_wp2_with (first | ((with_reducible refine Zb1 (N := 3) rfl ?_); refine Zl1 ?hg (N := 3) ?hd (cs := #[.int .i64 a0_0, .int .i64 a0_1, .slice A0_2 l0_2.length c0_2, .int .i64 a0_3, .int .u32 a0_4]) (t := 25) ?hr ?_; (case hd => rfl); (case hg => rfl); (case hr => first | (go_simp; done) | (go_simp; rfl)); intro gb145 hg w4 hbox hb; have BK145 := Za.mk (hbox); have GW145 := Za.mk ((by rw [hg]; exact (Zl (by repeat (first | (with_reducible first | exact HB.out | apply zc1 | apply zc2 | apply zc3) | exact HB.out))) : w.heap.size ≤ gb145)); have GE145 := Za.mk ((by rw [hg]; exact (Zl (by repeat (first | (with_reducible first | exact HB.out | apply zc1 | apply zc2 | apply zc3) | exact HB.out))) : w.heap.size ≤ gb145)); replace HB := Za.mk (Zr (by repeat (first | (with_reducible first | exact HB.out | apply zc1 | apply zc2 | apply zc3) | exact HB.out)) hb); clear hb hbox hg))
 go_loopg [7] k (fun kq v7 w' => ∃ (x7_1 : Int), v7 = .int .i64 x7_1 ∧ Za (Zt1.l0 kq a1 a2 x7_1 a0_0 a0_1 l0_2 a0_3 a0_4 = some r) ∧ Za (kq ≤ k) ∧ Za (w'.heap[gb145]? = some (.cells #[.int .i64 a0_0, .int .i64 a0_1, (.slice A0_2 l0_2.length c0_2), .int .i64 a0_3, .int .u32 a0_4] 25 (0, 0))) ∧ Za (Below w.heap.size w w'))
 case atStart => exact ⟨(0), (by first | rfl | (simp; done) | (simp [*]; done)), H', ⟨Nat.le_refl _⟩, ⟨by (with_reducible repeat (first | apply zb3 | apply zb2 | apply zb1)); exact BK145.out⟩, ⟨by repeat (first | (with_reducible first | exact HB.out | apply zc1 | apply zc2 | apply zc3 | refine zc4 ?_ (by assumption)) | exact HB.out)⟩⟩
 case round =>
  (clear H'); (try clear p2); (try clear c3); (obtain ⟨x7_1, rfl, HA, HK1, BK145, HB⟩ := hrel)
  cases gk with
  | zero => exact absurd HA.out (by simp [Zt1.l0])
  | succ k1 =>
   (have H := HA.out); (clear HA); (simp only [Zt1.l0] at H)
   by_cases c5 : x7_1 < a0_0
   rotate_left
   ·rw [if_neg c5] at H
    (have c5b0 : decide (x7_1 < a0_0) = false := decide_eq_false c5); (clear c5); (obtain rfl := Option.some.inj H); (have hcz12_0 : wr.cell? ⟨gb145, 0, none⟩ = some (.int .i64 a0_0) := (Zb BK145.out 0).trans rfl); (have hcz12_1 : wr.cell? ⟨gb145, 1, none⟩ = some (.int .i64 a0_1) := (Zb BK145.out 1).trans rfl); (have hcz12_2 : wr.cell? ⟨gb145, 2, none⟩ = some (.slice A0_2 l0_2.length c0_2) := (Zb BK145.out 2).trans rfl); (have hcz12_3 : wr.cell? ⟨gb145, 3, none⟩ = some (.int .i64 a0_3) := (Zb BK145.out 3).trans rfl); (have hcz12_4 : wr.cell? ⟨gb145, 4, none⟩ = some (.int .u32 a0_4) := (Zb BK145.out 4).trans rfl); (have hfz12_0 := Zc BK145.out 0); (have hfz12_1 := Zc BK145.out 1); (have hfz12_2 := Zc BK145.out 2); (have hfz12_3 := Zc BK145.out 3); (have hfz12_4 := Zc BK145.out 4)
    go_wp2
    go_ret
    exact ⟨by first | rfl | (simp [Zw, Zx] <;> rfl) | (simp [*, Zw, Zx] <;> rfl), by repeat (first | (with_reducible first | exact HB.out | apply zc1 | apply zc2 | apply zc3 | refine zc4 ?_ (by assumption)) | exact HB.out)⟩
   (rw [if_pos c5] at H); (have c5b0 : decide (x7_1 < a0_0) = true := decide_eq_true c5); (clear c5); (replace H := Option.bind_eq_some_iff.mp H); (obtain ⟨t146, A60, H⟩ := H); (replace H : (if t146 = true then (some false) else (Zt1.l0 k1 a1 a2 (wrap64 (x7_1 + 1)) a0_0 a0_1 l0_2 a0_3 a0_4)) = some r := H); (have A6 := Za.mk A60); (clear A60)
   by_cases c7 : t146 = true
   ·subst c7
    (have H1 : (some false) = some r := by rw [if_pos rfl] at H; exact H); (clear H); (have H := H1); (clear H1); (obtain rfl := Option.some.inj H); (have hcz8_0 : wr.cell? ⟨gb145, 0, none⟩ = some (.int .i64 a0_0) := (Zb BK145.out 0).trans rfl); (have hcz8_1 : wr.cell? ⟨gb145, 1, none⟩ = some (.int .i64 a0_1) := (Zb BK145.out 1).trans rfl); (have hcz8_2 : wr.cell? ⟨gb145, 2, none⟩ = some (.slice A0_2 l0_2.length c0_2) := (Zb BK145.out 2).trans rfl); (have hcz8_3 : wr.cell? ⟨gb145, 3, none⟩ = some (.int .i64 a0_3) := (Zb BK145.out 3).trans rfl); (have hcz8_4 : wr.cell? ⟨gb145, 4, none⟩ = some (.int .u32 a0_4) := (Zb BK145.out 4).trans rfl); (have hfz8_0 := Zc BK145.out 0); (have hfz8_1 := Zc BK145.out 1); (have hfz8_2 := Zc BK145.out 2); (have hfz8_3 := Zc BK145.out 3); (have hfz8_4 := Zc BK145.out 4)
    go_wp2_with (first | ((with_reducible refine gate_callee (f := 41) rfl ?_); refine goesL_ (some 18) rfl rfl Try.func41 (by kernel_rfl) rfl #[.agg #[.int .i64 a0_0, .int .i64 a0_1, .slice A0_2 l0_2.length c0_2, .int .i64 a0_3, .int .u32 a0_4], .int .i64 x7_1, .int .i64 a1, .int .i64 a2] rfl (by (try simp only [List.map_toArray, List.map_cons, List.map_nil]); first | done | rfl | (simp only [List.length_drop, List.length_take]; rfl)) ?_; (with_reducible refine (Zk.calls k1 a0_0 a0_1 _ _ l0_2 a0_3 a0_4 x7_1 a1 a2 true _ ?side1 ?side2 A6.out).mono ?_); (case side1 => repeat (first | exact (Kd.C_below HR0_2.out HB.out) | (with_reducible refine Kd.C_alloc ?_ _) | (with_reducible refine Kd.C_drewN ?_ _) | (with_reducible refine Kd.C_drew ?_))); (case side2 => exact HC0_2.out); rintro e w9 ⟨rfl, hb⟩; refine ⟨_, rfl, ?_⟩; replace BK145 := Za.mk (Zp (g := gb145) (by (with_reducible repeat (first | apply zb3 | apply zb2 | apply zb1)); exact BK145.out) hb); replace HB := Za.mk (Zr (by repeat (first | (with_reducible first | exact HB.out | apply zc1 | apply zc2 | apply zc3 | refine zc4 ?_ (by assumption)) | exact HB.out)) hb); (try clear hb); (try clear hb2); (try clear hk); (try clear hi)))
    go_ret
    exact ⟨by first | rfl | (simp [Zw, Zx] <;> rfl) | (simp [*, Zw, Zx] <;> rfl), by repeat (first | (with_reducible first | exact HB.out | apply zc1 | apply zc2 | apply zc3 | refine zc4 ?_ (by assumption)) | exact HB.out)⟩
   (replace c7 := Bool.eq_false_iff.mpr c7); (subst c7); (have H1 : (Zt1.l0 k1 a1 a2 (wrap64 (x7_1 + 1)) a0_0 a0_1 l0_2 a0_3 a0_4) = some r := by rw [if_neg (show ¬ (false = true) by decide)] at H; exact H); (clear H); (have H := H1); (clear H1); (have H' := Za.mk H); (clear H); (have hcz10_0 : wr.cell? ⟨gb145, 0, none⟩ = some (.int .i64 a0_0) := (Zb BK145.out 0).trans rfl); (have hcz10_1 : wr.cell? ⟨gb145, 1, none⟩ = some (.int .i64 a0_1) := (Zb BK145.out 1).trans rfl); (have hcz10_2 : wr.cell? ⟨gb145, 2, none⟩ = some (.slice A0_2 l0_2.length c0_2) := (Zb BK145.out 2).trans rfl); (have hcz10_3 : wr.cell? ⟨gb145, 3, none⟩ = some (.int .i64 a0_3) := (Zb BK145.out 3).trans rfl); (have hcz10_4 : wr.cell? ⟨gb145, 4, none⟩ = some (.int .u32 a0_4) := (Zb BK145.out 4).trans rfl); (have hfz10_0 := Zc BK145.out 0); (have hfz10_1 := Zc BK145.out 1); (have hfz10_2 := Zc BK145.out 2); (have hfz10_3 := Zc BK145.out 3); (have hfz10_4 := Zc BK145.out 4)
   go_wp2_with (first | ((with_reducible refine gate_callee (f := 41) rfl ?_); refine goesL_ (some 18) rfl rfl Try.func41 (by kernel_rfl) rfl #[.agg #[.int .i64 a0_0, .int .i64 a0_1, .slice A0_2 l0_2.length c0_2, .int .i64 a0_3, .int .u32 a0_4], .int .i64 x7_1, .int .i64 a1, .int .i64 a2] rfl (by (try simp only [List.map_toArray, List.map_cons, List.map_nil]); first | done | rfl | (simp only [List.length_drop, List.length_take]; rfl)) ?_; (with_reducible refine (Zk.calls k1 a0_0 a0_1 _ _ l0_2 a0_3 a0_4 x7_1 a1 a2 false _ ?side1 ?side2 A6.out).mono ?_); (case side1 => repeat (first | exact (Kd.C_below HR0_2.out HB.out) | (with_reducible refine Kd.C_alloc ?_ _) | (with_reducible refine Kd.C_drewN ?_ _) | (with_reducible refine Kd.C_drew ?_))); (case side2 => exact HC0_2.out); rintro e w11 ⟨rfl, hb⟩; refine ⟨_, rfl, ?_⟩; replace BK145 := Za.mk (Zp (g := gb145) (by (with_reducible repeat (first | apply zb3 | apply zb2 | apply zb1)); exact BK145.out) hb); replace HB := Za.mk (Zr (by repeat (first | (with_reducible first | exact HB.out | apply zc1 | apply zc2 | apply zc3 | refine zc4 ?_ (by assumption)) | exact HB.out)) hb); (try clear hb); (try clear hb2); (try clear hk); (try clear hi)))
   go_roundg k1
   case measure => have := HK1.out; omega
   case rel => exact ⟨(wrap64 (x7_1 + 1)), (by first | rfl | (simp; done) | (simp [*]; done)), H', ⟨by have := HK1.out; omega⟩, ⟨by (with_reducible repeat (first | apply zb3 | apply zb2 | apply zb1)); exact BK145.out⟩, ⟨by repeat (first | (with_reducible first | exact HB.out | apply zc1 | apply zc2 | apply zc3 | refine zc4 ?_ (by assumption)) | exact HB.out)⟩⟩
def Zn1.l0 : Nat → Int → Int → Int → Int → List (List Int) → Int → Int → Option (Int)
  | 0, _, _, _, _, _, _, _ => none
  | k + 1, x1, x5, x148000, x148001, x148002, x148003, x148004 => (Zt1.f k x148000 x148001 x148002 x148003 x148004 x1 x5).bind fun t148 => (if t148 = true then (some x5) else (Zn1.l0 k x1 (wrap64 (x5 + 1)) x148000 x148001 x148002 x148003 x148004))
def Zn1.f (k : Nat) (a0_0 : Int) (a0_1 : Int) (l0_2 : List (List Int)) (a0_3 : Int) (a0_4 : Int) (a1 : Int) : Option (Int) := Zn1.l0 k a1 0 a0_0 a0_1 l0_2 a0_3 a0_4
theorem Zn1.mono_l : ∀ k, (∀ y0 y1 y2 y3 y4 y5 y6, LeO (Zn1.l0 k y0 y1 y2 y3 y4 y5 y6) (Zn1.l0 (k + 1) y0 y1 y2 y3 y4 y5 y6))
  | 0 => fun _ _ _ _ _ _ _ r h => by simp [Zn1.l0] at h
  | k + 1 => by
    have ih0 := Zn1.mono_l k
    · intro y0 y1 y2 y3 y4 y5 y6
      unfold Zn1.l0
      repeat' first | (with_reducible exact ih0 _ _ _ _ _ _ _) | (with_reducible exact Zt1.mono _ _ _ _ _ _ _ _) | (with_reducible exact LeO.refl _) | (with_reducible exact LeO.none _) | (with_reducible refine LeO.ite ?_ ?_) | (with_reducible refine LeO.bind ?_ (fun _ => ?_))
theorem Zn1.mono : ∀ a0 a1 a2 a3 a4 a5 k, LeO (Zn1.f k a0 a1 a2 a3 a4 a5) (Zn1.f (k + 1) a0 a1 a2 a3 a4 a5) := by
  intro a0 a1 a2 a3 a4 a5 k
  have ih0 := Zn1.mono_l k
  unfold Zn1.f
  repeat' first | (with_reducible exact ih0 _ _ _ _ _ _ _) | (with_reducible exact Zt1.mono _ _ _ _ _ _ _ _) | (with_reducible exact LeO.refl _) | (with_reducible exact LeO.none _) | (with_reducible refine LeO.ite ?_ ?_) | (with_reducible refine LeO.bind ?_ (fun _ => ?_))
set_option maxHeartbeats 8000000 in
set_option maxRecDepth 100000 in
theorem Zn1.calls (k : Nat) (a0_0 : Int) (a0_1 : Int) (A0_2 : Option Addr) (c0_2 : Nat) (l0_2 : List (List Int)) (a0_3 : Int) (a0_4 : Int) (a1 : Int) (r : Int) (w : World) (hr0_2 : Kd.C (Kd.slice 3 (Kd.int .i64)) w A0_2 l0_2.length l0_2) (hc0_2 : l0_2.length ≤ c0_2) (h : Zn1.f k a0_0 a0_1 l0_2 a0_3 a0_4 a1 = some r) :
    Calls Try.prog 23 #[.agg #[.int .i64 a0_0, .int .i64 a0_1, .slice A0_2 l0_2.length c0_2, .int .i64 a0_3, .int .u32 a0_4], .int .i64 a1] w fun e w' => e = .returned (.int .i64 r) ∧ Below w.heap.size w w' := by
 (have hu25 := Try.underlying25); (have HR0_2 := Za.mk hr0_2); (have HC0_2 := Za.mk hc0_2); (clear hr0_2 hc0_2); (have HB := Za.mk (Below.refl w.heap.size w)); (have H : (Zn1.l0 k a1 0 a0_0 a0_1 l0_2 a0_3 a0_4) = some r := h); (clear h); (have H' := Za.mk H); (clear H)
 go_enter Try.func23, Try.ntmps23
 go_wp2_with (first | ((with_reducible refine Zb1 (N := 2) rfl ?_); refine Zl1 ?hg (N := 2) ?hd (cs := #[.int .i64 a0_0, .int .i64 a0_1, .slice A0_2 l0_2.length c0_2, .int .i64 a0_3, .int .u32 a0_4]) (t := 25) ?hr ?_; (case hd => rfl); (case hg => rfl); (case hr => first | (go_simp; done) | (go_simp; rfl)); intro gb147 hg w3 hbox hb; have BK147 := Za.mk (hbox); have GW147 := Za.mk ((by rw [hg]; exact (Zl (by repeat (first | (with_reducible first | exact HB.out | apply zc1 | apply zc2 | apply zc3) | exact HB.out))) : w.heap.size ≤ gb147)); have GE147 := Za.mk ((by rw [hg]; exact (Zl (by repeat (first | (with_reducible first | exact HB.out | apply zc1 | apply zc2 | apply zc3) | exact HB.out))) : w.heap.size ≤ gb147)); replace HB := Za.mk (Zr (by repeat (first | (with_reducible first | exact HB.out | apply zc1 | apply zc2 | apply zc3) | exact HB.out)) hb); clear hb hbox hg))
 go_loopg [5] k (fun kq v5 w' => ∃ (x5_1 : Int), v5 = .int .i64 x5_1 ∧ Za (Zn1.l0 kq a1 x5_1 a0_0 a0_1 l0_2 a0_3 a0_4 = some r) ∧ Za (kq ≤ k) ∧ Za (w'.heap[gb147]? = some (.cells #[.int .i64 a0_0, .int .i64 a0_1, (.slice A0_2 l0_2.length c0_2), .int .i64 a0_3, .int .u32 a0_4] 25 (0, 0))) ∧ Za (Below w.heap.size w w'))
 case atStart => exact ⟨(0), (by first | rfl | (simp; done) | (simp [*]; done)), H', ⟨Nat.le_refl _⟩, ⟨by (with_reducible repeat (first | apply zb3 | apply zb2 | apply zb1)); exact BK147.out⟩, ⟨by repeat (first | (with_reducible first | exact HB.out | apply zc1 | apply zc2 | apply zc3 | refine zc4 ?_ (by assumption)) | exact HB.out)⟩⟩
 case round =>
  (clear H'); (try clear c2); (try clear p2); (obtain ⟨x5_1, rfl, HA, HK1, BK147, HB⟩ := hrel)
  cases gk with
  | zero => exact absurd HA.out (by simp [Zn1.l0])
  | succ k1 =>
   (have H := HA.out); (clear HA); (simp only [Zn1.l0] at H); (replace H := Option.bind_eq_some_iff.mp H); (obtain ⟨t148, A40, H⟩ := H); (replace H : (if t148 = true then (some x5_1) else (Zn1.l0 k1 a1 (wrap64 (x5_1 + 1)) a0_0 a0_1 l0_2 a0_3 a0_4)) = some r := H); (have A4 := Za.mk A40); (clear A40)
   by_cases c5 : t148 = true
   ·subst c5
    (have H1 : (some x5_1) = some r := by rw [if_pos rfl] at H; exact H); (clear H); (have H := H1); (clear H1); (obtain rfl := Option.some.inj H); (have hcz6_0 : wr.cell? ⟨gb147, 0, none⟩ = some (.int .i64 a0_0) := (Zb BK147.out 0).trans rfl); (have hcz6_1 : wr.cell? ⟨gb147, 1, none⟩ = some (.int .i64 a0_1) := (Zb BK147.out 1).trans rfl); (have hcz6_2 : wr.cell? ⟨gb147, 2, none⟩ = some (.slice A0_2 l0_2.length c0_2) := (Zb BK147.out 2).trans rfl); (have hcz6_3 : wr.cell? ⟨gb147, 3, none⟩ = some (.int .i64 a0_3) := (Zb BK147.out 3).trans rfl); (have hcz6_4 : wr.cell? ⟨gb147, 4, none⟩ = some (.int .u32 a0_4) := (Zb BK147.out 4).trans rfl); (have hfz6_0 := Zc BK147.out 0); (have hfz6_1 := Zc BK147.out 1); (have hfz6_2 := Zc BK147.out 2); (have hfz6_3 := Zc BK147.out 3); (have hfz6_4 := Zc BK147.out 4)
    go_wp2_with (first | ((with_reducible refine gate_callee (f := 34) rfl ?_); refine goesL_ (some 9) rfl rfl Try.func34 (by kernel_rfl) rfl #[.agg #[.int .i64 a0_0, .int .i64 a0_1, .slice A0_2 l0_2.length c0_2, .int .i64 a0_3, .int .u32 a0_4], .int .i64 a1, .int .i64 x5_1] rfl (by (try simp only [List.map_toArray, List.map_cons, List.map_nil]); first | done | rfl | (simp only [List.length_drop, List.length_take]; rfl)) ?_; (with_reducible refine (Zt1.calls k1 a0_0 a0_1 _ _ l0_2 a0_3 a0_4 a1 x5_1 true _ ?side1 ?side2 A4.out).mono ?_); (case side1 => repeat (first | exact (Kd.C_below HR0_2.out HB.out) | (with_reducible refine Kd.C_alloc ?_ _) | (with_reducible refine Kd.C_drewN ?_ _) | (with_reducible refine Kd.C_drew ?_))); (case side2 => exact HC0_2.out); rintro e w7 ⟨rfl, hb⟩; refine ⟨_, rfl, ?_⟩; replace BK147 := Za.mk (Zp (g := gb147) (by (with_reducible repeat (first | apply zb3 | apply zb2 | apply zb1)); exact BK147.out) hb); replace HB := Za.mk (Zr (by repeat (first | (with_reducible first | exact HB.out | apply zc1 | apply zc2 | apply zc3 | refine zc4 ?_ (by assumption)) | exact HB.out)) hb); (try clear hb); (try clear hb2); (try clear hk); (try clear hi)))
    go_ret
    exact ⟨by first | rfl | (simp [Zw, Zx] <;> rfl) | (simp [*, Zw, Zx] <;> rfl), by repeat (first | (with_reducible first | exact HB.out | apply zc1 | apply zc2 | apply zc3 | refine zc4 ?_ (by assumption)) | exact HB.out)⟩
   (replace c5 := Bool.eq_false_iff.mpr c5); (subst c5); (have H1 : (Zn1.l0 k1 a1 (wrap64 (x5_1 + 1)) a0_0 a0_1 l0_2 a0_3 a0_4) = some r := by rw [if_neg (show ¬ (false = true) by decide)] at H; exact H); (clear H); (have H := H1); (clear H1); (have H' := Za.mk H); (clear H); (have hcz8_0 : wr.cell? ⟨gb147, 0, none⟩ = some (.int .i64 a0_0) := (Zb BK147.out 0).trans rfl); (have hcz8_1 : wr.cell? ⟨gb147, 1, none⟩ = some (.int .i64 a0_1) := (Zb BK147.out 1).trans rfl); (have hcz8_2 : wr.cell? ⟨gb147, 2, none⟩ = some (.slice A0_2 l0_2.length c0_2) := (Zb BK147.out 2).trans rfl); (have hcz8_3 : wr.cell? ⟨gb147, 3, none⟩ = some (.int .i64 a0_3) := (Zb BK147.out 3).trans rfl); (have hcz8_4 : wr.cell? ⟨gb147, 4, none⟩ = some (.int .u32 a0_4) := (Zb BK147.out 4).trans rfl); (have hfz8_0 := Zc BK147.out 0); (have hfz8_1 := Zc BK147.out 1); (have hfz8_2 := Zc BK147.out 2); (have hfz8_3 := Zc BK147.out 3); (have hfz8_4 := Zc BK147.out 4)
   go_wp2_with (first | ((with_reducible refine gate_callee (f := 34) rfl ?_); refine goesL_ (some 9) rfl rfl Try.func34 (by kernel_rfl) rfl #[.agg #[.int .i64 a0_0, .int .i64 a0_1, .slice A0_2 l0_2.length c0_2, .int .i64 a0_3, .int .u32 a0_4], .int .i64 a1, .int .i64 x5_1] rfl (by (try simp only [List.map_toArray, List.map_cons, List.map_nil]); first | done | rfl | (simp only [List.length_drop, List.length_take]; rfl)) ?_; (with_reducible refine (Zt1.calls k1 a0_0 a0_1 _ _ l0_2 a0_3 a0_4 a1 x5_1 false _ ?side1 ?side2 A4.out).mono ?_); (case side1 => repeat (first | exact (Kd.C_below HR0_2.out HB.out) | (with_reducible refine Kd.C_alloc ?_ _) | (with_reducible refine Kd.C_drewN ?_ _) | (with_reducible refine Kd.C_drew ?_))); (case side2 => exact HC0_2.out); rintro e w9 ⟨rfl, hb⟩; refine ⟨_, rfl, ?_⟩; replace BK147 := Za.mk (Zp (g := gb147) (by (with_reducible repeat (first | apply zb3 | apply zb2 | apply zb1)); exact BK147.out) hb); replace HB := Za.mk (Zr (by repeat (first | (with_reducible first | exact HB.out | apply zc1 | apply zc2 | apply zc3 | refine zc4 ?_ (by assumption)) | exact HB.out)) hb); (try clear hb); (try clear hb2); (try clear hk); (try clear hi)))
   go_roundg k1
   case measure => have := HK1.out; omega
   case rel => exact ⟨(wrap64 (x5_1 + 1)), (by first | rfl | (simp; done) | (simp [*]; done)), H', ⟨by have := HK1.out; omega⟩, ⟨by (with_reducible repeat (first | apply zb3 | apply zb2 | apply zb1)); exact BK147.out⟩, ⟨by repeat (first | (with_reducible first | exact HB.out | apply zc1 | apply zc2 | apply zc3 | refine zc4 ?_ (by assumption)) | exact HB.out)⟩⟩
def Zp1.l0 : Nat → Int → List Int → Int → Int → Int → Int → List (List Int) → Int → Int → Option (Int)
  | 0, _, _, _, _, _, _, _, _, _ => none
  | k + 1, x1, x9, x10, x11, x150000, x150001, x150002, x150003, x150004 => if x11 < x10 then (if 0 ≤ x11 then (if x11 < (x9.length : Int) then (if 0 ≤ x1 then (if x1 < (x150002.length : Int) then (if 0 ≤ (rd x9 x11) then (if (rd x9 x11) < ((Ze x150002 x1).length : Int) then (Zp1.l0 k (rd (Ze x150002 x1) (rd x9 x11)) x9 x10 (wrap64 (x11 + 1)) x150000 x150001 x150002 x150003 x150004) else (none)) else (none)) else (none)) else (none)) else (none)) else (none)) else (some x1)
def Zp1.f (k : Nat) (a0_0 : Int) (a0_1 : Int) (l0_2 : List (List Int)) (a0_3 : Int) (a0_4 : Int) (a1 : Int) (l2 : List Int) : Option (Int) := Zp1.l0 k a1 l2 (l2.length : Int) 0 a0_0 a0_1 l0_2 a0_3 a0_4
theorem Zp1.mono_l : ∀ k, (∀ y0 y1 y2 y3 y4 y5 y6 y7 y8, LeO (Zp1.l0 k y0 y1 y2 y3 y4 y5 y6 y7 y8) (Zp1.l0 (k + 1) y0 y1 y2 y3 y4 y5 y6 y7 y8))
  | 0 => fun _ _ _ _ _ _ _ _ _ r h => by simp [Zp1.l0] at h
  | k + 1 => by
    have ih0 := Zp1.mono_l k
    · intro y0 y1 y2 y3 y4 y5 y6 y7 y8
      unfold Zp1.l0
      repeat' first | (with_reducible exact ih0 _ _ _ _ _ _ _ _ _) | (with_reducible exact LeO.refl _) | (with_reducible exact LeO.none _) | (with_reducible refine LeO.ite ?_ ?_) | (with_reducible refine LeO.bind ?_ (fun _ => ?_))
theorem Zp1.mono : ∀ a0 a1 a2 a3 a4 a5 a6 k, LeO (Zp1.f k a0 a1 a2 a3 a4 a5 a6) (Zp1.f (k + 1) a0 a1 a2 a3 a4 a5 a6) := by
  intro a0 a1 a2 a3 a4 a5 a6 k
  have ih0 := Zp1.mono_l k
  unfold Zp1.f
  repeat' first | (with_reducible exact ih0 _ _ _ _ _ _ _ _ _) | (with_reducible exact LeO.refl _) | (with_reducible exact LeO.none _) | (with_reducible refine LeO.ite ?_ ?_) | (with_reducible refine LeO.bind ?_ (fun _ => ?_))
set_option maxHeartbeats 8000000 in
set_option maxRecDepth 100000 in
theorem Zp1.calls (k : Nat) (a0_0 : Int) (a0_1 : Int) (A0_2 : Option Addr) (c0_2 : Nat) (l0_2 : List (List Int)) (a0_3 : Int) (a0_4 : Int) (a1 : Int) (A2 : Option Addr) (c2 : Nat) (l2 : List Int) (r : Int) (w : World) (hr0_2 : Kd.C (Kd.slice 3 (Kd.int .i64)) w A0_2 l0_2.length l0_2) (hc0_2 : l0_2.length ≤ c0_2) (hr2 : Kd.C (Kd.int .i64) w A2 l2.length l2) (hc2 : l2.length ≤ c2) (h : Zp1.f k a0_0 a0_1 l0_2 a0_3 a0_4 a1 l2 = some r) :
    Calls Try.prog 24 #[.agg #[.int .i64 a0_0, .int .i64 a0_1, .slice A0_2 l0_2.length c0_2, .int .i64 a0_3, .int .u32 a0_4], .int .i64 a1, .slice A2 l2.length c2] w fun e w' => e = .returned (.int .i64 r) ∧ Below w.heap.size w w' := by
 (have hu25 := Try.underlying25); (have HR0_2 := Za.mk hr0_2); (have HC0_2 := Za.mk hc0_2); (clear hr0_2 hc0_2); (have HR2 := Za.mk hr2); (have HC2 := Za.mk hc2); (clear hr2 hc2); (have HB := Za.mk (Below.refl w.heap.size w)); (have H : (Zp1.l0 k a1 l2 (l2.length : Int) 0 a0_0 a0_1 l0_2 a0_3 a0_4) = some r := h); (clear h); (have H' := Za.mk H); (clear H)
 go_enter Try.func24, Try.ntmps24
 go_wp2_with (first | ((with_reducible refine Zb1 (N := 3) rfl ?_); refine Zl1 ?hg (N := 3) ?hd (cs := #[.int .i64 a0_0, .int .i64 a0_1, .slice A0_2 l0_2.length c0_2, .int .i64 a0_3, .int .u32 a0_4]) (t := 25) ?hr ?_; (case hd => rfl); (case hg => rfl); (case hr => first | (go_simp; done) | (go_simp; rfl)); intro gb149 hg w4 hbox hb; have BK149 := Za.mk (hbox); have GW149 := Za.mk ((by rw [hg]; exact (Zl (by repeat (first | (with_reducible first | exact HB.out | apply zc1 | apply zc2 | apply zc3) | exact HB.out))) : w.heap.size ≤ gb149)); have GE149 := Za.mk ((by rw [hg]; exact (Zl (by repeat (first | (with_reducible first | exact HB.out | apply zc1 | apply zc2 | apply zc3) | exact HB.out))) : w.heap.size ≤ gb149)); replace HB := Za.mk (Zr (by repeat (first | (with_reducible first | exact HB.out | apply zc1 | apply zc2 | apply zc3) | exact HB.out)) hb); clear hb hbox hg))
 go_loopg [1, 11] k (fun kq v1 v11 w' => ∃ (x1_1 : Int) (x11_1 : Int), v1 = .int .i64 x1_1 ∧ v11 = .int .i64 x11_1 ∧ Za (Zp1.l0 kq x1_1 l2 (l2.length : Int) x11_1 a0_0 a0_1 l0_2 a0_3 a0_4 = some r) ∧ Za (kq ≤ k) ∧ Za (w'.heap[gb149]? = some (.cells #[.int .i64 a0_0, .int .i64 a0_1, (.slice A0_2 l0_2.length c0_2), .int .i64 a0_3, .int .u32 a0_4] 25 (0, 0))) ∧ Za (Below w.heap.size w w'))
 case atStart => exact ⟨(a1), (0), (by first | rfl | (simp; done) | (simp [*]; done)), (by first | rfl | (simp; done) | (simp [*]; done)), H', ⟨Nat.le_refl _⟩, ⟨by (with_reducible repeat (first | apply zb3 | apply zb2 | apply zb1)); exact BK149.out⟩, ⟨by repeat (first | (with_reducible first | exact HB.out | apply zc1 | apply zc2 | apply zc3 | refine zc4 ?_ (by assumption)) | exact HB.out)⟩⟩
 case round =>
  (clear H'); (try clear c2); (try clear p2); (obtain ⟨x1_1, x11_1, rfl, rfl, HA, HK1, BK149, HB⟩ := hrel)
  cases gk with
  | zero => exact absurd HA.out (by simp [Zp1.l0])
  | succ k1 =>
   (have H := HA.out); (clear HA); (simp only [Zp1.l0] at H)
   by_cases c5 : x11_1 < (l2.length : Int)
   rotate_left
   ·rw [if_neg c5] at H
    (have c5b0 : decide (x11_1 < (l2.length : Int)) = false := decide_eq_false c5); (clear c5); (obtain rfl := Option.some.inj H)
    go_wp2
    go_ret
    exact ⟨by first | rfl | (simp [Zw, Zx] <;> rfl) | (simp [*, Zw, Zx] <;> rfl), by repeat (first | (with_reducible first | exact HB.out | apply zc1 | apply zc2 | apply zc3 | refine zc4 ?_ (by assumption)) | exact HB.out)⟩
   (rw [if_pos c5] at H); (have c5b0 : decide (x11_1 < (l2.length : Int)) = true := decide_eq_true c5); (clear c5)
   by_cases c6 : 0 ≤ x11_1
   rotate_left
   ·rw [if_neg c6] at H
    exact absurd H (by simp)
   (rw [if_pos c6] at H); (have c6b0 : decide (0 ≤ x11_1) = true := decide_eq_true c6); (clear c6)
   by_cases c7 : x11_1 < (l2.length : Int)
   rotate_left
   ·rw [if_neg c7] at H
    exact absurd H (by simp)
   (rw [if_pos c7] at H); (have c7b0 : decide (x11_1 < (l2.length : Int)) = true := decide_eq_true c7); (clear c7)
   by_cases c8 : 0 ≤ x1_1
   rotate_left
   ·rw [if_neg c8] at H
    exact absurd H (by simp)
   (rw [if_pos c8] at H); (have c8b0 : decide (0 ≤ x1_1) = true := decide_eq_true c8); (clear c8)
   by_cases c9 : x1_1 < (l0_2.length : Int)
   rotate_left
   ·rw [if_neg c9] at H
    exact absurd H (by simp)
   (rw [if_pos c9] at H); (have c9b0 : decide (x1_1 < (l0_2.length : Int)) = true := decide_eq_true c9); (clear c9)
   by_cases c10 : 0 ≤ (rd l2 x11_1)
   rotate_left
   ·rw [if_neg c10] at H
    exact absurd H (by simp)
   (rw [if_pos c10] at H); (have c10b0 : decide (0 ≤ (rd l2 x11_1)) = true := decide_eq_true c10); (clear c10)
   by_cases c11 : (rd l2 x11_1) < ((Ze l0_2 x1_1).length : Int)
   rotate_left
   ·rw [if_neg c11] at H
    exact absurd H (by simp)
   (rw [if_pos c11] at H); (have c11b0 : decide ((rd l2 x11_1) < ((Ze l0_2 x1_1).length : Int)) = true := decide_eq_true c11); (clear c11); (have H' := Za.mk H); (clear H); (have p150 : 0 ≤ (x11_1 : Int) := of_decide_eq_true (by assumption)); (have q150 : x11_1 < (l2.length : Int) := of_decide_eq_true (by assumption)); (obtain ⟨ad150, e150, hx150_0⟩ := Kd.at_int HR2.out x11_1 p150 q150); (cases e150); (replace hx150_0 := (HB.out.cell (World.block_lt_of_cell? w _ hx150_0)).trans hx150_0); (replace p150 := eq_true p150); (replace q150 := eq_true q150); (have hcz12_0 : wr.cell? ⟨gb149, 0, none⟩ = some (.int .i64 a0_0) := (Zb BK149.out 0).trans rfl); (have hcz12_1 : wr.cell? ⟨gb149, 1, none⟩ = some (.int .i64 a0_1) := (Zb BK149.out 1).trans rfl); (have hcz12_2 : wr.cell? ⟨gb149, 2, none⟩ = some (.slice A0_2 l0_2.length c0_2) := (Zb BK149.out 2).trans rfl); (have hcz12_3 : wr.cell? ⟨gb149, 3, none⟩ = some (.int .i64 a0_3) := (Zb BK149.out 3).trans rfl); (have hcz12_4 : wr.cell? ⟨gb149, 4, none⟩ = some (.int .u32 a0_4) := (Zb BK149.out 4).trans rfl); (have hfz12_0 := Zc BK149.out 0); (have hfz12_1 := Zc BK149.out 1); (have hfz12_2 := Zc BK149.out 2); (have hfz12_3 := Zc BK149.out 3); (have hfz12_4 := Zc BK149.out 4); (have p151 : 0 ≤ (x1_1 : Int) := of_decide_eq_true (by assumption)); (have q151 : x1_1 < (l0_2.length : Int) := of_decide_eq_true (by assumption)); (obtain ⟨ad151, A151_0, c151_0, e151, hx151_0, hl151_0, hi151_0⟩ := at_L1 HR0_2.out x1_1 p151 q151); (cases e151); (replace hx151_0 := (HB.out.cell (World.block_lt_of_cell? w _ hx151_0)).trans hx151_0)
   (have HR151_0 := Za.mk hi151_0); (have HC151_0 := Za.mk hl151_0); (clear hi151_0 hl151_0); (replace p151 := eq_true p151); (replace q151 := eq_true q151); (have p152 : 0 ≤ ((rd l2 x11_1) : Int) := of_decide_eq_true (by assumption)); (have q152 : (rd l2 x11_1) < ((Ze l0_2 x1_1).length : Int) := of_decide_eq_true (by assumption)); (obtain ⟨ad152, e152, hx152_0⟩ := Kd.at_int HR151_0.out (rd l2 x11_1) p152 q152); (cases e152); (replace hx152_0 := (HB.out.cell (World.block_lt_of_cell? w _ hx152_0)).trans hx152_0); (replace p152 := eq_true p152); (replace q152 := eq_true q152)
   go_wp2
   go_roundg k1
   case measure => have := HK1.out; omega
   case rel => exact ⟨(rd (Ze l0_2 x1_1) (rd l2 x11_1)), (wrap64 (x11_1 + 1)), (by first | rfl | (simp; done) | (simp [*]; done)), (by first | rfl | (simp; done) | (simp [*]; done)), H', ⟨by have := HK1.out; omega⟩, ⟨by (with_reducible repeat (first | apply zb3 | apply zb2 | apply zb1)); exact BK149.out⟩, ⟨by repeat (first | (with_reducible first | exact HB.out | apply zc1 | apply zc2 | apply zc3 | refine zc4 ?_ (by assumption)) | exact HB.out)⟩⟩
end Go.Proofs.Ytofdaiknpficfaa.PKindsStills
