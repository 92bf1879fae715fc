-- Printed by a turn of a template of the kit, and shortened: remarks and what nothing here uses are left out.
import Derived.Test.YtnjfcbhbebokeaaQPAheadClearsx0
import Derived.Test.YtnjfcbhbebokeaaQPAheadClearsx9
namespace Go.Proofs.Ytnjfcbhbebokeaa.PAheadClears
open Go.RowKit Go.Proofs.YtnjfcbhbebokeaaW.PrintWords Go.Proofs.YtnjfcbhbebokeaaW.PrintLast Go.Proofs.YtnjfcbhbebokeaaW.PrintMore
attribute [local go_sem] max2_int min2_int max_two min_two max_three min_three max_four min_four
set_option linter.unusedVariables false
set_option linter.unusedSimpArgs false
mutual
def Zg1.l0 : Nat → Int → Int → Bool → List (S38) → Int → Int → Int → Int → Int → List (S38) → Option (Bool)
  | 0, _, _, _, _, _, _, _, _, _, _ => none
  | k + 1, x1, x2, x3, x23, x24, x25, x204000, x204001, x204002, x204003 => if x25 < x24 then (if 0 ≤ x25 then (if x25 < (x23.length : Int) then (if ((Zb x23 x25).f0) = (wrap64 (x1 - x204000)) then (Zg1.l1 k x1 x2 x3 true x23 x24 x25 ((Zb x23 x25).f1) (((Zb x23 x25).f1).length : Int) 0 x204000 x204001 x204002 x204003) else (Zg1.l0 k x1 x2 x3 x23 x24 (wrap64 (x25 + 1)) x204000 x204001 x204002 x204003)) else (none)) else (none)) else (some false)
def Zg1.l1 : Nat → Int → Int → Bool → Bool → List (S38) → Int → Int → List Int → Int → Int → Int → Int → Int → List (S38) → Option (Bool)
  | 0, _, _, _, _, _, _, _, _, _, _, _, _, _, _ => none
  | k + 1, x1, x2, x3, x11, x23, x24, x25, x37, x38, x39, x204000, x204001, x204002, x204003 => if x39 < x38 then (if 0 ≤ x39 then (if x39 < (x37.length : Int) then (if x11 = true then ((Zg1.f k x204000 x204001 x204002 x204003 (rd x37 x39) (wrap64 (x2 - 1)) x3).bind fun t207 => (Zg1.l1 k x1 x2 x3 t207 x23 x24 x25 x37 x38 (wrap64 (x39 + 1)) x204000 x204001 x204002 x204003)) else (Zg1.l1 k x1 x2 x3 false x23 x24 x25 x37 x38 (wrap64 (x39 + 1)) x204000 x204001 x204002 x204003)) else (none)) else (none)) else (if x11 = true then (some true) else (Zg1.l0 k x1 x2 x3 x23 x24 (wrap64 (x25 + 1)) x204000 x204001 x204002 x204003))
def Zg1.f : Nat → Int → Int → Int → List (S38) → Int → Int → Bool → Option (Bool)
  | 0, _, _, _, _, _, _, _ => none
  | k + 1, a0_0, a0_1, a0_2, l0_3, a1, a2, a3 => if a1 < a0_0 then (some (!a3)) else (if a2 = 0 then (some false) else (Zg1.l0 k a1 a2 a3 l0_3 (l0_3.length : Int) 0 a0_0 a0_1 a0_2 l0_3))
end
theorem Zg1.mono_l : ∀ k, (∀ y0 y1 y2 y3 y4 y5 y6, LeO (Zg1.f k y0 y1 y2 y3 y4 y5 y6) (Zg1.f (k + 1) y0 y1 y2 y3 y4 y5 y6)) ∧ (∀ y0 y1 y2 y3 y4 y5 y6 y7 y8 y9, LeO (Zg1.l0 k y0 y1 y2 y3 y4 y5 y6 y7 y8 y9) (Zg1.l0 (k + 1) y0 y1 y2 y3 y4 y5 y6 y7 y8 y9)) ∧ (∀ y0 y1 y2 y3 y4 y5 y6 y7 y8 y9 y10 y11 y12 y13, LeO (Zg1.l1 k y0 y1 y2 y3 y4 y5 y6 y7 y8 y9 y10 y11 y12 y13) (Zg1.l1 (k + 1) y0 y1 y2 y3 y4 y5 y6 y7 y8 y9 y10 y11 y12 y13))
  | 0 => ⟨fun _ _ _ _ _ _ _ r h => by simp [Zg1.f] at h, fun _ _ _ _ _ _ _ _ _ _ r h => by simp [Zg1.l0] at h, fun _ _ _ _ _ _ _ _ _ _ _ _ _ _ r h => by simp [Zg1.l1] at h⟩
  | k + 1 => by
    obtain ⟨ih0, ih1, ih2⟩ := Zg1.mono_l k
    refine ⟨?_, ?_, ?_⟩
    · intro y0 y1 y2 y3 y4 y5 y6
      unfold Zg1.f
      repeat' first
      | (with_reducible exact ih0 _ _ _ _ _ _ _)
      | (with_reducible exact ih1 _ _ _ _ _ _ _ _ _ _)
      | (with_reducible exact ih2 _ _ _ _ _ _ _ _ _ _ _ _ _ _)
      | (with_reducible exact LeO.refl _)
      | (with_reducible exact LeO.none _)
      | (with_reducible refine LeO.ite ?_ ?_)
      | (with_reducible refine LeO.bind ?_ (fun _ => ?_))
      | exact ih0 _ _ _ _ _ _ _
      | exact ih1 _ _ _ _ _ _ _ _ _ _
      | exact ih2 _ _ _ _ _ _ _ _ _ _ _ _ _ _
      | exact LeO.none _
      | refine LeO.ite ?_ ?_
      | refine LeO.bind ?_ (fun _ => ?_)
    · intro y0 y1 y2 y3 y4 y5 y6 y7 y8 y9
      unfold Zg1.l0
      repeat' first
      | (with_reducible exact ih0 _ _ _ _ _ _ _)
      | (with_reducible exact ih1 _ _ _ _ _ _ _ _ _ _)
      | (with_reducible exact ih2 _ _ _ _ _ _ _ _ _ _ _ _ _ _)
      | (with_reducible exact LeO.refl _)
      | (with_reducible exact LeO.none _)
      | (with_reducible refine LeO.ite ?_ ?_)
      | (with_reducible refine LeO.bind ?_ (fun _ => ?_))
      | exact ih0 _ _ _ _ _ _ _
      | exact ih1 _ _ _ _ _ _ _ _ _ _
      | exact ih2 _ _ _ _ _ _ _ _ _ _ _ _ _ _
      | exact LeO.none _
      | refine LeO.ite ?_ ?_
      | refine LeO.bind ?_ (fun _ => ?_)
    · intro y0 y1 y2 y3 y4 y5 y6 y7 y8 y9 y10 y11 y12 y13
      unfold Zg1.l1
      repeat' first
      | (with_reducible exact ih0 _ _ _ _ _ _ _)
      | (with_reducible exact ih1 _ _ _ _ _ _ _ _ _ _)
      | (with_reducible exact ih2 _ _ _ _ _ _ _ _ _ _ _ _ _ _)
      | (with_reducible exact LeO.refl _)
      | (with_reducible exact LeO.none _)
      | (with_reducible refine LeO.ite ?_ ?_)
      | (with_reducible refine LeO.bind ?_ (fun _ => ?_))
      | exact ih0 _ _ _ _ _ _ _
      | exact ih1 _ _ _ _ _ _ _ _ _ _
      | exact ih2 _ _ _ _ _ _ _ _ _ _ _ _ _ _
      | exact LeO.none _
      | refine LeO.ite ?_ ?_
      | refine LeO.bind ?_ (fun _ => ?_)
theorem Zg1.mono : ∀ a0 a1 a2 a3 a4 a5 a6 k, LeO (Zg1.f k a0 a1 a2 a3 a4 a5 a6) (Zg1.f (k + 1) a0 a1 a2 a3 a4 a5 a6) := by
  intro a0 a1 a2 a3 a4 a5 a6 k
  obtain ⟨ih0, ih1, ih2⟩ := Zg1.mono_l k
  exact ih0 a0 a1 a2 a3 a4 a5 a6
set_option maxHeartbeats 8000000 in
set_option maxRecDepth 100000 in
theorem Zg1.calls (k : Nat) : ∀ (a0_0 : Int) (a0_1 : Int) (a0_2 : Int) (A0_3 : Option Addr) (c0_3 : Nat) (l0_3 : List (S38)) (a1 : Int) (a2 : Int) (a3 : Bool) (r : Bool) (w : World) (hr0_3 : Kd.C k38 w A0_3 l0_3.length l0_3) (hc0_3 : l0_3.length ≤ c0_3) (h : Zg1.f k a0_0 a0_1 a0_2 l0_3 a1 a2 a3 = some r),
    Calls Try.prog 48 #[.agg #[.int .i64 a0_0, .int .i64 a0_1, .int .i64 a0_2, .slice A0_3 l0_3.length c0_3], .int .i64 a1, .int .i64 a2, .bool a3] w fun e w' => e = .returned (.bool r) ∧ Below w.heap.size w w' := by
 induction k using Nat.strongRecOn with
 | _ k ih =>
 intro a0_0 a0_1 a0_2 A0_3 c0_3 l0_3 a1 a2 a3 r w hr0_3 hc0_3 h
 cases k with
 | zero => exact absurd h (by simp [Zg1.f])
 | succ k =>
 (simp only [Zg1.f] at h); (have hu24 := Try.underlying24); (have hu38 := Try.underlying38); (have HR0_3 := Za.mk hr0_3); (have HC0_3 := Za.mk hc0_3); (clear hr0_3 hc0_3); (have HB := Za.mk (Below.refl w.heap.size w)); (have H : (if a1 < a0_0 then (some (!a3)) else (if a2 = 0 then (some false) else (Zg1.l0 k a1 a2 a3 l0_3 (l0_3.length : Int) 0 a0_0 a0_1 a0_2 l0_3))) = some r := h); (clear h)
 by_cases c5 : a1 < a0_0
 ·rw [if_pos c5] at H
  (have c5b0 : decide (a1 < a0_0) = true := decide_eq_true c5); (clear c5); (obtain rfl := Option.some.inj H)
  go_enter Try.func48, Try.ntmps48
  go_wp2_with (first | ((with_reducible refine Zb1 (N := 4) rfl ?_); refine Zc1 ?hg (N := 4) ?hd (cs := #[.int .i64 a0_0, .int .i64 a0_1, .int .i64 a0_2, .slice A0_3 l0_3.length c0_3]) (t := 24) ?hr ?_; (case hd => rfl); (case hg => rfl); (case hr => first | (go_simp; done) | (go_simp; rfl)); intro gb203 hg w6 hbox hb; have n0_ := Za.mk (Zr (by repeat (first | (with_reducible first | exact HB.out | apply Zh | apply Zk | apply Zg) | exact HB.out)) hb); have n1_ := Za.mk (hbox); have n2_ := Za.mk ((by rw [hg]; exact (Zo (by repeat (first | (with_reducible first | exact HB.out | apply Zh | apply Zk | apply Zg) | exact HB.out))) : w.heap.size ≤ gb203)); have n3_ := Za.mk ((by rw [hg]; exact (Zo (by repeat (first | (with_reducible first | exact HB.out | apply Zh | apply Zk | apply Zg) | exact HB.out))) : w.heap.size ≤ gb203)); clear HB; have HB := n0_; have BK203 := n1_; have GW203 := n2_; have GE203 := n3_; clear n0_ n1_ n2_ n3_; clear hb hbox hg; have hcz7_0 : w6.cell? ⟨gb203, 0, none⟩ = some (.int .i64 a0_0) := (Zc BK203.out 0).trans rfl; have hcz7_1 : w6.cell? ⟨gb203, 1, none⟩ = some (.int .i64 a0_1) := (Zc BK203.out 1).trans rfl; have hcz7_2 : w6.cell? ⟨gb203, 2, none⟩ = some (.int .i64 a0_2) := (Zc BK203.out 2).trans rfl; have hcz7_3 : w6.cell? ⟨gb203, 3, none⟩ = some (.slice A0_3 l0_3.length c0_3) := (Zc BK203.out 3).trans rfl; have hfz7_0 := Zd BK203.out 0; have hfz7_1 := Zd BK203.out 1; have hfz7_2 := Zd BK203.out 2; have hfz7_3 := Zd BK203.out 3))
  go_ret
  exact ⟨by first | rfl | (simp [Zu, Zt] <;> rfl) | (simp [*, Zu, Zt] <;> rfl), by repeat (first | (with_reducible first | exact HB.out | apply Zh | apply Zk | apply Zg | refine Ze ?_ GE203.out) | exact HB.out)⟩
 (rw [if_neg c5] at H); (have c5b0 : decide (a1 < a0_0) = false := decide_eq_false c5); (clear c5)
 by_cases c8 : a2 = 0
 ·rw [if_pos c8] at H
  (have c8b0 : (a2 == 0) = true := beq_iff_eq.mpr c8); (have c8b1 : (a2 != 0) = false := bne_eq_false_iff_eq.mpr c8); (clear c8); (obtain rfl := Option.some.inj H)
  go_enter Try.func48, Try.ntmps48
  go_wp2_with (first | ((with_reducible refine Zb1 (N := 4) rfl ?_); refine Zc1 ?hg (N := 4) ?hd (cs := #[.int .i64 a0_0, .int .i64 a0_1, .int .i64 a0_2, .slice A0_3 l0_3.length c0_3]) (t := 24) ?hr ?_; (case hd => rfl); (case hg => rfl); (case hr => first | (go_simp; done) | (go_simp; rfl)); intro gb203 hg w9 hbox hb; have n0_ := Za.mk (Zr (by repeat (first | (with_reducible first | exact HB.out | apply Zh | apply Zk | apply Zg) | exact HB.out)) hb); have n1_ := Za.mk (hbox); have n2_ := Za.mk ((by rw [hg]; exact (Zo (by repeat (first | (with_reducible first | exact HB.out | apply Zh | apply Zk | apply Zg) | exact HB.out))) : w.heap.size ≤ gb203)); have n3_ := Za.mk ((by rw [hg]; exact (Zo (by repeat (first | (with_reducible first | exact HB.out | apply Zh | apply Zk | apply Zg) | exact HB.out))) : w.heap.size ≤ gb203)); clear HB; have HB := n0_; have BK203 := n1_; have GW203 := n2_; have GE203 := n3_; clear n0_ n1_ n2_ n3_; clear hb hbox hg; have hcz10_0 : w9.cell? ⟨gb203, 0, none⟩ = some (.int .i64 a0_0) := (Zc BK203.out 0).trans rfl; have hcz10_1 : w9.cell? ⟨gb203, 1, none⟩ = some (.int .i64 a0_1) := (Zc BK203.out 1).trans rfl; have hcz10_2 : w9.cell? ⟨gb203, 2, none⟩ = some (.int .i64 a0_2) := (Zc BK203.out 2).trans rfl; have hcz10_3 : w9.cell? ⟨gb203, 3, none⟩ = some (.slice A0_3 l0_3.length c0_3) := (Zc BK203.out 3).trans rfl; have hfz10_0 := Zd BK203.out 0; have hfz10_1 := Zd BK203.out 1; have hfz10_2 := Zd BK203.out 2; have hfz10_3 := Zd BK203.out 3))
  go_ret
  exact ⟨by first | rfl | (simp [Zu, Zt] <;> rfl) | (simp [*, Zu, Zt] <;> rfl), by repeat (first | (with_reducible first | exact HB.out | apply Zh | apply Zk | apply Zg | refine Ze ?_ GE203.out) | exact HB.out)⟩
 (rw [if_neg c8] at H); (have c8b0 : (a2 == 0) = false := beq_eq_false_iff_ne.mpr c8); (have c8b1 : (a2 != 0) = true := bne_iff_ne.mpr c8); (have H' := Za.mk H); (clear H)
 go_enter Try.func48, Try.ntmps48
 go_wp2_with (first | ((with_reducible refine Zb1 (N := 4) rfl ?_); refine Zc1 ?hg (N := 4) ?hd (cs := #[.int .i64 a0_0, .int .i64 a0_1, .int .i64 a0_2, .slice A0_3 l0_3.length c0_3]) (t := 24) ?hr ?_; (case hd => rfl); (case hg => rfl); (case hr => first | (go_simp; done) | (go_simp; rfl)); intro gb203 hg w11 hbox hb; have n0_ := Za.mk (Zr (by repeat (first | (with_reducible first | exact HB.out | apply Zh | apply Zk | apply Zg) | exact HB.out)) hb); have n1_ := Za.mk (hbox); have n2_ := Za.mk ((by rw [hg]; exact (Zo (by repeat (first | (with_reducible first | exact HB.out | apply Zh | apply Zk | apply Zg) | exact HB.out))) : w.heap.size ≤ gb203)); have n3_ := Za.mk ((by rw [hg]; exact (Zo (by repeat (first | (with_reducible first | exact HB.out | apply Zh | apply Zk | apply Zg) | exact HB.out))) : w.heap.size ≤ gb203)); clear HB; have HB := n0_; have BK203 := n1_; have GW203 := n2_; have GE203 := n3_; clear n0_ n1_ n2_ n3_; clear hb hbox hg; have hcz12_0 : w11.cell? ⟨gb203, 0, none⟩ = some (.int .i64 a0_0) := (Zc BK203.out 0).trans rfl; have hcz12_1 : w11.cell? ⟨gb203, 1, none⟩ = some (.int .i64 a0_1) := (Zc BK203.out 1).trans rfl; have hcz12_2 : w11.cell? ⟨gb203, 2, none⟩ = some (.int .i64 a0_2) := (Zc BK203.out 2).trans rfl; have hcz12_3 : w11.cell? ⟨gb203, 3, none⟩ = some (.slice A0_3 l0_3.length c0_3) := (Zc BK203.out 3).trans rfl; have hfz12_0 := Zd BK203.out 0; have hfz12_1 := Zd BK203.out 1; have hfz12_2 := Zd BK203.out 2; have hfz12_3 := Zd BK203.out 3))
 go_loopg [25] k (fun kq v25 w' => ∃ (x25_1 : Int), v25 = .int .i64 x25_1 ∧ Za (Zg1.l0 kq a1 a2 a3 l0_3 (l0_3.length : Int) x25_1 a0_0 a0_1 a0_2 l0_3 = some r) ∧ Za (kq ≤ k) ∧ Za (w'.heap[gb203]? = some (.cells #[.int .i64 a0_0, .int .i64 a0_1, .int .i64 a0_2, (.slice A0_3 l0_3.length c0_3)] 24 (0, 0))) ∧ Za (Below w.heap.size w w'))
 case atStart => exact ⟨(0), (by first | rfl | (simp; done) | (simp [*]; done)), H', ⟨Nat.le_refl _⟩, ⟨by (with_reducible repeat (first | refine Zj ?_ _ | refine Zf ?_ | refine Zi ?_ _)); exact BK203.out⟩, ⟨by repeat (first | (with_reducible first | exact HB.out | apply Zh | apply Zk | apply Zg | refine Ze ?_ GE203.out) | exact HB.out)⟩⟩
 case round =>
  (clear H'); (try clear p2); (try clear c4); (try clear c5); (try clear c5b0); (try clear c8); (try clear c8b0); (try clear c8b1); (try clear hcz10_0); (try clear hcz10_1); (try clear hcz10_2); (try clear hcz10_3); (try clear hcz12_0); (try clear hcz12_1); (try clear hcz12_2); (try clear hcz12_3); (try clear hcz7_0); (try clear hcz7_1); (try clear hcz7_2); (try clear hcz7_3); (try clear hfz10_0); (try clear hfz10_1); (try clear hfz10_2); (try clear hfz10_3); (try clear hfz12_0); (try clear hfz12_1); (try clear hfz12_2); (try clear hfz12_3); (try clear hfz7_0); (try clear hfz7_1); (try clear hfz7_2); (try clear hfz7_3); (obtain ⟨x25_1, rfl, HA, HK1, BK203, HB⟩ := hrel)
  cases gk with
  | zero => exact absurd HA.out (by simp [Zg1.l0])
  | succ k1 =>
   (have H := HA.out); (clear HA); (simp only [Zg1.l0] at H)
   by_cases c13 : x25_1 < (l0_3.length : Int)
   rotate_left
   ·rw [if_neg c13] at H
    (have c13b0 : decide (x25_1 < (l0_3.length : Int)) = false := decide_eq_false c13); (clear c13); (obtain rfl := Option.some.inj H)
    go_wp2
    go_ret
    exact ⟨by first | rfl | (simp [Zu, Zt] <;> rfl) | (simp [*, Zu, Zt] <;> rfl), by repeat (first | (with_reducible first | exact HB.out | apply Zh | apply Zk | apply Zg | refine Ze ?_ GE203.out) | exact HB.out)⟩
   (rw [if_pos c13] at H); (have c13b0 : decide (x25_1 < (l0_3.length : Int)) = true := decide_eq_true c13); (clear c13)
   by_cases c14 : 0 ≤ x25_1
   rotate_left
   ·rw [if_neg c14] at H
    exact absurd H (by simp)
   (rw [if_pos c14] at H); (have c14b0 : decide (0 ≤ x25_1) = true := decide_eq_true c14); (clear c14)
   by_cases c15 : x25_1 < (l0_3.length : Int)
   rotate_left
   ·rw [if_neg c15] at H
    exact absurd H (by simp)
   (rw [if_pos c15] at H); (have c15b0 : decide (x25_1 < (l0_3.length : Int)) = true := decide_eq_true c15); (clear c15)
   by_cases c16 : ((Zb l0_3 x25_1).f0) = (wrap64 (a1 - a0_0))
   rotate_left
   ·rw [if_neg c16] at H
    (have c16b0 : (((Zb l0_3 x25_1).f0) == (wrap64 (a1 - a0_0))) = false := beq_eq_false_iff_ne.mpr c16); (have c16b1 : (((Zb l0_3 x25_1).f0) != (wrap64 (a1 - a0_0))) = true := bne_iff_ne.mpr c16); (have H' := Za.mk H); (clear H); (have p204 : 0 ≤ (x25_1 : Int) := of_decide_eq_true (by assumption)); (have q204 : x25_1 < (l0_3.length : Int) := of_decide_eq_true (by assumption)); (obtain ⟨ad204, A204_1, c204_1, e204, hx204_0, hx204_1, hl204_1, hi204_1⟩ := at_T38 HR0_3.out x25_1 p204 q204); (cases e204); (replace hx204_0 := (HB.out.cell (World.block_lt_of_cell? w _ hx204_0)).trans hx204_0); (replace hx204_1 := (HB.out.cell (World.block_lt_of_cell? w _ hx204_1)).trans hx204_1); (have HR204_1 := Za.mk hi204_1); (have HC204_1 := Za.mk hl204_1); (clear hi204_1 hl204_1); (replace p204 := eq_true p204); (replace q204 := eq_true q204)
    go_wp2_with (first | ((with_reducible refine Zb1 (N := 10) rfl ?_); refine Zc1 ?hg (N := 10) ?hd (cs := #[.int .i64 0, .slice none 0 0]) (t := 38) ?hr ?_; (case hd => rfl); (case hg => rfl); (case hr => first | (go_simp; done) | (go_simp; rfl)); intro gb205 hg w30 hbox hb; have n0_ := Za.mk (Zp (g := gb203) (o := .cells #[.int .i64 a0_0, .int .i64 a0_1, .int .i64 a0_2, .slice (some ad204) l0_3.length c0_3] 24 (0, 0)) (by (with_reducible repeat (first | refine Zj ?_ _ | refine Zf ?_ | refine Zi ?_ _)); exact BK203.out) hb); have n1_ := Za.mk (Zr (by repeat (first | (with_reducible first | exact HB.out | apply Zh | apply Zk | apply Zg | refine Ze ?_ GE203.out) | exact HB.out)) hb); have n2_ := Za.mk (hbox); have n3_ := Za.mk ((by rw [hg]; exact (Zo (by repeat (first | (with_reducible first | exact HB.out | apply Zh | apply Zk | apply Zg | refine Ze ?_ GE203.out) | exact HB.out))) : w.heap.size ≤ gb205)); have n4_ := Za.mk ((by rw [hg]; exact (Zo (by repeat (first | (with_reducible first | exact HB.out | apply Zh | apply Zk | apply Zg | refine Ze ?_ GE203.out) | exact HB.out))) : w.heap.size ≤ gb205)); have n5_ := Za.mk ((by rw [hg]; exact Nat.ne_of_lt (Zx (g := gb203) (o := .cells #[.int .i64 a0_0, .int .i64 a0_1, .int .i64 a0_2, .slice (some ad204) l0_3.length c0_3] 24 (0, 0)) (by (with_reducible repeat (first | refine Zj ?_ _ | refine Zf ?_ | refine Zi ?_ _)); exact BK203.out)) : gb203 ≠ gb205)); have n6_ := Za.mk ((by rw [hg]; exact Nat.ne_of_gt (Zx (g := gb203) (o := .cells #[.int .i64 a0_0, .int .i64 a0_1, .int .i64 a0_2, .slice (some ad204) l0_3.length c0_3] 24 (0, 0)) (by (with_reducible repeat (first | refine Zj ?_ _ | refine Zf ?_ | refine Zi ?_ _)); exact BK203.out)) : gb205 ≠ gb203)); clear BK203; clear HB; have BK203 := n0_; have HB := n1_; have BK205 := n2_; have GW205 := n3_; have GE205 := n4_; have NB203_205 := n5_; have NB205_203 := n6_; clear n0_ n1_ n2_ n3_ n4_ n5_ n6_; clear hb hbox hg; have hnb31 := NB205_203.out; have hnc31 := NB203_205.out; have hcz32_0 : w30.cell? ⟨gb205, 0, none⟩ = some (.int .i64 0) := (Zc BK205.out 0).trans rfl; have hcz32_1 : w30.cell? ⟨gb205, 1, none⟩ = some (.slice none 0 0) := (Zc BK205.out 1).trans rfl; have hfz32_0 := Zd BK205.out 0; have hfz32_1 := Zd BK205.out 1; have hcz33_0 : w30.cell? ⟨gb203, 0, none⟩ = some (.int .i64 a0_0) := (Zc BK203.out 0).trans rfl; have hcz33_1 : w30.cell? ⟨gb203, 1, none⟩ = some (.int .i64 a0_1) := (Zc BK203.out 1).trans rfl; have hcz33_2 : w30.cell? ⟨gb203, 2, none⟩ = some (.int .i64 a0_2) := (Zc BK203.out 2).trans rfl; have hcz33_3 : w30.cell? ⟨gb203, 3, none⟩ = some (.slice (some ad204) l0_3.length c0_3) := (Zc BK203.out 3).trans rfl; have hfz33_0 := Zd BK203.out 0; have hfz33_1 := Zd BK203.out 1; have hfz33_2 := Zd BK203.out 2; have hfz33_3 := Zd BK203.out 3))
    go_roundg k1
    case measure => have := HK1.out; omega
    case rel => exact ⟨(wrap64 (x25_1 + 1)), (by first | rfl | (simp; done) | (simp [*]; done)), H', ⟨by have := HK1.out; omega⟩, ⟨by (with_reducible repeat (first | refine Zj ?_ _ | refine Zf ?_ | refine Zi ?_ _)); refine Zd1 ?_ NB203_205.out _; (with_reducible repeat (first | refine Zj ?_ _ | refine Zf ?_ | refine Zi ?_ _)); refine Zd1 ?_ NB203_205.out _; (with_reducible repeat (first | refine Zj ?_ _ | refine Zf ?_ | refine Zi ?_ _)); exact BK203.out⟩, ⟨by repeat (first | (with_reducible first | exact HB.out | apply Zh | apply Zk | apply Zg | refine Ze ?_ GE203.out | refine Ze ?_ GE205.out) | exact HB.out)⟩⟩
   (rw [if_pos c16] at H); (have c16b0 : (((Zb l0_3 x25_1).f0) == (wrap64 (a1 - a0_0))) = true := beq_iff_eq.mpr c16); (have c16b1 : (((Zb l0_3 x25_1).f0) != (wrap64 (a1 - a0_0))) = false := bne_eq_false_iff_eq.mpr c16); (clear c16); (have H' := Za.mk H); (clear H); (have p204 : 0 ≤ (x25_1 : Int) := of_decide_eq_true (by assumption)); (have q204 : x25_1 < (l0_3.length : Int) := of_decide_eq_true (by assumption)); (obtain ⟨ad204, A204_1, c204_1, e204, hx204_0, hx204_1, hl204_1, hi204_1⟩ := at_T38 HR0_3.out x25_1 p204 q204); (cases e204); (replace hx204_0 := (HB.out.cell (World.block_lt_of_cell? w _ hx204_0)).trans hx204_0); (replace hx204_1 := (HB.out.cell (World.block_lt_of_cell? w _ hx204_1)).trans hx204_1); (have HR204_1 := Za.mk hi204_1); (have HC204_1 := Za.mk hl204_1); (clear hi204_1 hl204_1); (replace p204 := eq_true p204); (replace q204 := eq_true q204)
   go_wp2_with (first | ((with_reducible refine Zb1 (N := 10) rfl ?_); refine Zc1 ?hg (N := 10) ?hd (cs := #[.int .i64 0, .slice none 0 0]) (t := 38) ?hr ?_; (case hd => rfl); (case hg => rfl); (case hr => first | (go_simp; done) | (go_simp; rfl)); intro gb205 hg w17 hbox hb; have n0_ := Za.mk (Zp (g := gb203) (o := .cells #[.int .i64 a0_0, .int .i64 a0_1, .int .i64 a0_2, .slice (some ad204) l0_3.length c0_3] 24 (0, 0)) (by (with_reducible repeat (first | refine Zj ?_ _ | refine Zf ?_ | refine Zi ?_ _)); exact BK203.out) hb); have n1_ := Za.mk (Zr (by repeat (first | (with_reducible first | exact HB.out | apply Zh | apply Zk | apply Zg | refine Ze ?_ GE203.out) | exact HB.out)) hb); have n2_ := Za.mk (hbox); have n3_ := Za.mk ((by rw [hg]; exact (Zo (by repeat (first | (with_reducible first | exact HB.out | apply Zh | apply Zk | apply Zg | refine Ze ?_ GE203.out) | exact HB.out))) : w.heap.size ≤ gb205)); have n4_ := Za.mk ((by rw [hg]; exact (Zo (by repeat (first | (with_reducible first | exact HB.out | apply Zh | apply Zk | apply Zg | refine Ze ?_ GE203.out) | exact HB.out))) : w.heap.size ≤ gb205)); have n5_ := Za.mk ((by rw [hg]; exact Nat.ne_of_lt (Zx (g := gb203) (o := .cells #[.int .i64 a0_0, .int .i64 a0_1, .int .i64 a0_2, .slice (some ad204) l0_3.length c0_3] 24 (0, 0)) (by (with_reducible repeat (first | refine Zj ?_ _ | refine Zf ?_ | refine Zi ?_ _)); exact BK203.out)) : gb203 ≠ gb205)); have n6_ := Za.mk ((by rw [hg]; exact Nat.ne_of_gt (Zx (g := gb203) (o := .cells #[.int .i64 a0_0, .int .i64 a0_1, .int .i64 a0_2, .slice (some ad204) l0_3.length c0_3] 24 (0, 0)) (by (with_reducible repeat (first | refine Zj ?_ _ | refine Zf ?_ | refine Zi ?_ _)); exact BK203.out)) : gb205 ≠ gb203)); clear BK203; clear HB; have BK203 := n0_; have HB := n1_; have BK205 := n2_; have GW205 := n3_; have GE205 := n4_; have NB203_205 := n5_; have NB205_203 := n6_; clear n0_ n1_ n2_ n3_ n4_ n5_ n6_; clear hb hbox hg; have hnb18 := NB205_203.out; have hnc18 := NB203_205.out; have hcz19_0 : w17.cell? ⟨gb205, 0, none⟩ = some (.int .i64 0) := (Zc BK205.out 0).trans rfl; have hcz19_1 : w17.cell? ⟨gb205, 1, none⟩ = some (.slice none 0 0) := (Zc BK205.out 1).trans rfl; have hfz19_0 := Zd BK205.out 0; have hfz19_1 := Zd BK205.out 1; have hcz20_0 : w17.cell? ⟨gb203, 0, none⟩ = some (.int .i64 a0_0) := (Zc BK203.out 0).trans rfl; have hcz20_1 : w17.cell? ⟨gb203, 1, none⟩ = some (.int .i64 a0_1) := (Zc BK203.out 1).trans rfl; have hcz20_2 : w17.cell? ⟨gb203, 2, none⟩ = some (.int .i64 a0_2) := (Zc BK203.out 2).trans rfl; have hcz20_3 : w17.cell? ⟨gb203, 3, none⟩ = some (.slice (some ad204) l0_3.length c0_3) := (Zc BK203.out 3).trans rfl; have hfz20_0 := Zd BK203.out 0; have hfz20_1 := Zd BK203.out 1; have hfz20_2 := Zd BK203.out 2; have hfz20_3 := Zd BK203.out 3))
   go_loopg [11, 39] k1 (fun kq v11 v39 w' => ∃ (x11_2 : Bool) (x39_2 : Int), v11 = .bool x11_2 ∧ v39 = .int .i64 x39_2 ∧ Za (Zg1.l1 kq a1 a2 a3 x11_2 l0_3 (l0_3.length : Int) x25_1 ((Zb l0_3 x25_1).f1) (((Zb l0_3 x25_1).f1).length : Int) x39_2 a0_0 a0_1 a0_2 l0_3 = some r) ∧ Za (kq ≤ k1) ∧ Za (w'.heap[gb203]? = some (.cells #[.int .i64 a0_0, .int .i64 a0_1, .int .i64 a0_2, (.slice (some ad204) l0_3.length c0_3)] 24 (0, 0))) ∧ Za (w'.heap[gb205]? = some (.cells #[.int .i64 ((Zb l0_3 x25_1).f0), (.slice A204_1 ((Zb l0_3 x25_1).f1).length c204_1)] 38 (0, 0))) ∧ Za (Below w.heap.size w w'))
   case atStart => exact ⟨(true), (0), (by first | rfl | (simp; done) | (simp [*]; done)), (by first | rfl | (simp; done) | (simp [*]; done)), H', ⟨Nat.le_refl _⟩, ⟨by (with_reducible repeat (first | refine Zj ?_ _ | refine Zf ?_ | refine Zi ?_ _)); refine Zd1 ?_ NB203_205.out _; (with_reducible repeat (first | refine Zj ?_ _ | refine Zf ?_ | refine Zi ?_ _)); refine Zd1 ?_ NB203_205.out _; (with_reducible repeat (first | refine Zj ?_ _ | refine Zf ?_ | refine Zi ?_ _)); exact BK203.out⟩, ⟨by (with_reducible repeat (first | refine Zj ?_ _ | refine Zf ?_ | refine Zi ?_ _)); refine blk_put (cs := #[.int .i64 ((Zb l0_3 x25_1).f0), .slice none 0 0]) ?_ 1 _ rfl; (with_reducible repeat (first | refine Zj ?_ _ | refine Zf ?_ | refine Zi ?_ _)); refine blk_put (cs := #[.int .i64 0, .slice none 0 0]) ?_ 0 _ rfl; (with_reducible repeat (first | refine Zj ?_ _ | refine Zf ?_ | refine Zi ?_ _)); exact BK205.out⟩, ⟨by repeat (first | (with_reducible first | exact HB.out | apply Zh | apply Zk | apply Zg | refine Ze ?_ GE203.out | refine Ze ?_ GE205.out) | exact HB.out)⟩⟩
   case round =>
    (clear H'); (try clear c1); (try clear c2); (try clear p2); (try clear q2); (try clear hx2); (try clear c4); (try clear c5); (try clear c5b0); (try clear p6); (try clear c8); (try clear c8b0); (try clear c8b1); (try clear c13); (try clear c13b0); (try clear c14); (try clear c14b0); (try clear c15); (try clear c15b0); (try clear c16); (try clear c16b0); (try clear c16b1); (try clear c18); (try clear c20); (try clear p20); (try clear q20); (try clear hx20); (try clear hcz10_0); (try clear hcz10_1); (try clear hcz10_2); (try clear hcz10_3); (try clear hcz12_0); (try clear hcz12_1); (try clear hcz12_2); (try clear hcz12_3); (try clear hcz19_0); (try clear hcz19_1); (try clear hcz20_0); (try clear hcz20_1); (try clear hcz20_2); (try clear hcz20_3); (try clear hcz7_0); (try clear hcz7_1); (try clear hcz7_2); (try clear hcz7_3); (try clear hfz10_0); (try clear hfz10_1); (try clear hfz10_2); (try clear hfz10_3); (try clear hfz12_0); (try clear hfz12_1); (try clear hfz12_2); (try clear hfz12_3); (try clear hfz19_0); (try clear hfz19_1); (try clear hfz20_0); (try clear hfz20_1); (try clear hfz20_2); (try clear hfz20_3); (try clear hfz7_0); (try clear hfz7_1); (try clear hfz7_2); (try clear hfz7_3); (try clear hx204_0); (try clear hx204_1); (try clear p2); (try clear p204); (try clear q204); (obtain ⟨x11_2, x39_2, rfl, rfl, HA, HK2, BK203, BK205, HB⟩ := hrel)
    cases gk with
    | zero => exact absurd HA.out (by simp [Zg1.l1])
    | succ k2 =>
     (have H := HA.out); (clear HA); (simp only [Zg1.l1] at H)
     by_cases c21 : x39_2 < (((Zb l0_3 x25_1).f1).length : Int)
     rotate_left
     ·rw [if_neg c21] at H
      (have c21b0 : decide (x39_2 < (((Zb l0_3 x25_1).f1).length : Int)) = false := decide_eq_false c21); (clear c21)
      by_cases c29 : x11_2 = true
      ·subst c29
       (have H1 : (some true) = some r := by rw [if_pos rfl] at H; exact H); (clear H); (have H := H1); (clear H1); (obtain rfl := Option.some.inj H)
       go_wp2
       go_ret
       exact ⟨by first | rfl | (simp [Zu, Zt] <;> rfl) | (simp [*, Zu, Zt] <;> rfl), by repeat (first | (with_reducible first | exact HB.out | apply Zh | apply Zk | apply Zg | refine Ze ?_ GE203.out | refine Ze ?_ GE205.out) | exact HB.out)⟩
      (replace c29 := Bool.eq_false_iff.mpr c29); (subst c29); (have H1 : (Zg1.l0 k2 a1 a2 a3 l0_3 (l0_3.length : Int) (wrap64 (x25_1 + 1)) a0_0 a0_1 a0_2 l0_3) = some r := by rw [if_neg (show ¬ (false = true) by decide)] at H; exact H); (clear H); (have H := H1); (clear H1); (have H' := Za.mk H); (clear H)
      go_wp2
      go_roundg k2
      case measure => have := HK1.out; have := HK2.out; omega
      case rel => exact ⟨(wrap64 (x25_1 + 1)), (by first | rfl | (simp; done) | (simp [*]; done)), H', ⟨by have := HK1.out; have := HK2.out; omega⟩, ⟨by (with_reducible repeat (first | refine Zj ?_ _ | refine Zf ?_ | refine Zi ?_ _)); exact BK203.out⟩, ⟨by repeat (first | (with_reducible first | exact HB.out | apply Zh | apply Zk | apply Zg | refine Ze ?_ GE203.out | refine Ze ?_ GE205.out) | exact HB.out)⟩⟩
     (rw [if_pos c21] at H); (have c21b0 : decide (x39_2 < (((Zb l0_3 x25_1).f1).length : Int)) = true := decide_eq_true c21); (clear c21)
     by_cases c22 : 0 ≤ x39_2
     rotate_left
     ·rw [if_neg c22] at H
      exact absurd H (by simp)
     (rw [if_pos c22] at H); (have c22b0 : decide (0 ≤ x39_2) = true := decide_eq_true c22); (clear c22)
     by_cases c23 : x39_2 < (((Zb l0_3 x25_1).f1).length : Int)
     rotate_left
     ·rw [if_neg c23] at H
      exact absurd H (by simp)
     (rw [if_pos c23] at H); (have c23b0 : decide (x39_2 < (((Zb l0_3 x25_1).f1).length : Int)) = true := decide_eq_true c23); (clear c23)
     by_cases c24 : x11_2 = true
     rotate_left
     ·replace c24 := Bool.eq_false_iff.mpr c24
      (subst c24); (have H1 : (Zg1.l1 k2 a1 a2 a3 false l0_3 (l0_3.length : Int) x25_1 ((Zb l0_3 x25_1).f1) (((Zb l0_3 x25_1).f1).length : Int) (wrap64 (x39_2 + 1)) a0_0 a0_1 a0_2 l0_3) = some r := by rw [if_neg (show ¬ (false = true) by decide)] at H; exact H); (clear H); (have H := H1); (clear H1); (have H' := Za.mk H); (clear H); (have p206 : 0 ≤ (x39_2 : Int) := of_decide_eq_true (by assumption)); (have q206 : x39_2 < (((Zb l0_3 x25_1).f1).length : Int) := of_decide_eq_true (by assumption)); (obtain ⟨ad206, e206, hx206_0⟩ := Kd.at_int HR204_1.out x39_2 p206 q206); (cases e206); (replace hx206_0 := (HB.out.cell (World.block_lt_of_cell? w _ hx206_0)).trans hx206_0); (replace p206 := eq_true p206); (replace q206 := eq_true q206)
      go_wp2
      go_roundg k2
      case measure => have := HK1.out; have := HK2.out; omega
      case rel => exact ⟨(false), (wrap64 (x39_2 + 1)), (by first | rfl | (simp; done) | (simp [*]; done)), (by first | rfl | (simp; done) | (simp [*]; done)), H', ⟨by have := HK1.out; have := HK2.out; omega⟩, ⟨by (with_reducible repeat (first | refine Zj ?_ _ | refine Zf ?_ | refine Zi ?_ _)); exact BK203.out⟩, ⟨by (with_reducible repeat (first | refine Zj ?_ _ | refine Zf ?_ | refine Zi ?_ _)); exact BK205.out⟩, ⟨by repeat (first | (with_reducible first | exact HB.out | apply Zh | apply Zk | apply Zg | refine Ze ?_ GE203.out | refine Ze ?_ GE205.out) | exact HB.out)⟩⟩
     (subst c24); (have H1 : ((Zg1.f k2 a0_0 a0_1 a0_2 l0_3 (rd ((Zb l0_3 x25_1).f1) x39_2) (wrap64 (a2 - 1)) a3).bind fun t207 => (Zg1.l1 k2 a1 a2 a3 t207 l0_3 (l0_3.length : Int) x25_1 ((Zb l0_3 x25_1).f1) (((Zb l0_3 x25_1).f1).length : Int) (wrap64 (x39_2 + 1)) a0_0 a0_1 a0_2 l0_3)) = some r := by rw [if_pos rfl] at H; exact H); (clear H); (have H := H1); (clear H1); (replace H := Option.bind_eq_some_iff.mp H); (obtain ⟨t207, A250, H⟩ := H); (replace H : (Zg1.l1 k2 a1 a2 a3 t207 l0_3 (l0_3.length : Int) x25_1 ((Zb l0_3 x25_1).f1) (((Zb l0_3 x25_1).f1).length : Int) (wrap64 (x39_2 + 1)) a0_0 a0_1 a0_2 l0_3) = some r := H); (have A25 := Za.mk A250); (clear A250); (have H' := Za.mk H); (clear H); (have p206 : 0 ≤ (x39_2 : Int) := of_decide_eq_true (by assumption)); (have q206 : x39_2 < (((Zb l0_3 x25_1).f1).length : Int) := of_decide_eq_true (by assumption)); (obtain ⟨ad206, e206, hx206_0⟩ := Kd.at_int HR204_1.out x39_2 p206 q206); (cases e206); (replace hx206_0 := (HB.out.cell (World.block_lt_of_cell? w _ hx206_0)).trans hx206_0); (replace p206 := eq_true p206); (replace q206 := eq_true q206); (have hnb26 := NB203_205.out); (have hnc26 := NB205_203.out); (have hcz27_0 : wr.cell? ⟨gb203, 0, none⟩ = some (.int .i64 a0_0) := (Zc BK203.out 0).trans rfl); (have hcz27_1 : wr.cell? ⟨gb203, 1, none⟩ = some (.int .i64 a0_1) := (Zc BK203.out 1).trans rfl); (have hcz27_2 : wr.cell? ⟨gb203, 2, none⟩ = some (.int .i64 a0_2) := (Zc BK203.out 2).trans rfl); (have hcz27_3 : wr.cell? ⟨gb203, 3, none⟩ = some (.slice (some ad204) l0_3.length c0_3) := (Zc BK203.out 3).trans rfl)
     (have hfz27_0 := Zd BK203.out 0); (have hfz27_1 := Zd BK203.out 1); (have hfz27_2 := Zd BK203.out 2); (have hfz27_3 := Zd BK203.out 3)
     go_wp2_with (first | (go_at_call 48; (with_reducible refine (ih k2 (by have := HK1.out; have := HK2.out; omega) a0_0 a0_1 a0_2 _ _ l0_3 (rd ((Zb l0_3 x25_1).f1) x39_2) (wrap64 (a2 - 1)) a3 t207 _ ?side1 ?side2 A25.out).mono ?_); (case side1 => repeat (first | exact (Kd.C_below HR0_3.out HB.out) | (with_reducible refine Kd.C_alloc ?_ _) | (with_reducible refine Kd.C_drewN ?_ _) | (with_reducible refine Kd.C_drew ?_))); (case side2 => exact HC0_3.out); rintro e w28 ⟨rfl, hb⟩; have n0_ := Za.mk (Zp (g := gb203) (o := .cells #[.int .i64 a0_0, .int .i64 a0_1, .int .i64 a0_2, .slice (some ad204) l0_3.length c0_3] 24 (0, 0)) (by (with_reducible repeat (first | refine Zj ?_ _ | refine Zf ?_ | refine Zi ?_ _)); exact BK203.out) hb); have n1_ := Za.mk (Zp (g := gb205) (o := .cells #[.int .i64 ((Zb l0_3 x25_1).f0), .slice (some ad206) ((Zb l0_3 x25_1).f1).length c204_1] 38 (0, 0)) (by (with_reducible repeat (first | refine Zj ?_ _ | refine Zf ?_ | refine Zi ?_ _)); exact BK205.out) hb); have n2_ := Za.mk (Zr (by repeat (first | (with_reducible first | exact HB.out | apply Zh | apply Zk | apply Zg | refine Ze ?_ GE203.out | refine Ze ?_ GE205.out) | exact HB.out)) hb); clear BK203; clear BK205; clear HB; have BK203 := n0_; have BK205 := n1_; have HB := n2_; clear n0_ n1_ n2_; (try clear hb); (try clear hb2); (try clear hk); (try clear hi)))
     go_roundg k2
     case measure => have := HK1.out; have := HK2.out; omega
     case rel => exact ⟨(t207), (wrap64 (x39_2 + 1)), (by first | rfl | (simp; done) | (simp [*]; done)), (by first | rfl | (simp; done) | (simp [*]; done)), H', ⟨by have := HK1.out; have := HK2.out; omega⟩, ⟨by (with_reducible repeat (first | refine Zj ?_ _ | refine Zf ?_ | refine Zi ?_ _)); exact BK203.out⟩, ⟨by (with_reducible repeat (first | refine Zj ?_ _ | refine Zf ?_ | refine Zi ?_ _)); exact BK205.out⟩, ⟨by repeat (first | (with_reducible first | exact HB.out | apply Zh | apply Zk | apply Zg | refine Ze ?_ GE203.out | refine Ze ?_ GE205.out) | exact HB.out)⟩⟩
def Zo1.l0 : Nat → Bool → Int → Int → Int → Int → Int → List (S38) → Option (Int)
  | 0, _, _, _, _, _, _, _ => none
  | k + 1, x1, x5, x6, x209000, x209001, x209002, x209003 => if x6 < x209001 then ((Zg1.f k x209000 x209001 x209002 x209003 (wrap64 (x209000 + x6)) x209001 x1).bind fun t209 => (if t209 = true then (if 0 ≤ (IntKind.u64.wrap (x6)) then (Zo1.l0 k x1 ((x5 + (shl .u32 1 (IntKind.u64.wrap (x6)))) % 4294967296) (wrap64 (x6 + 1)) x209000 x209001 x209002 x209003) else (none)) else (Zo1.l0 k x1 x5 (wrap64 (x6 + 1)) x209000 x209001 x209002 x209003))) else (some x5)
def Zo1.f (k : Nat) (a0_0 : Int) (a0_1 : Int) (a0_2 : Int) (l0_3 : List (S38)) (a1 : Bool) : Option (Int) := Zo1.l0 k a1 0 0 a0_0 a0_1 a0_2 l0_3
theorem Zo1.mono_l : ∀ k, (∀ y0 y1 y2 y3 y4 y5 y6, LeO (Zo1.l0 k y0 y1 y2 y3 y4 y5 y6) (Zo1.l0 (k + 1) y0 y1 y2 y3 y4 y5 y6))
  | 0 => fun _ _ _ _ _ _ _ r h => by simp [Zo1.l0] at h
  | k + 1 => by
    have ih0 := Zo1.mono_l k
    · intro y0 y1 y2 y3 y4 y5 y6
      unfold Zo1.l0
      repeat' first
      | (with_reducible exact ih0 _ _ _ _ _ _ _)
      | (with_reducible exact Zg1.mono _ _ _ _ _ _ _ _)
      | (with_reducible exact LeO.refl _)
      | (with_reducible exact LeO.none _)
      | (with_reducible refine LeO.ite ?_ ?_)
      | (with_reducible refine LeO.bind ?_ (fun _ => ?_))
      | exact ih0 _ _ _ _ _ _ _
      | exact Zg1.mono _ _ _ _ _ _ _ _
      | exact LeO.none _
      | refine LeO.ite ?_ ?_
      | refine LeO.bind ?_ (fun _ => ?_)
theorem Zo1.mono : ∀ a0 a1 a2 a3 a4 k, LeO (Zo1.f k a0 a1 a2 a3 a4) (Zo1.f (k + 1) a0 a1 a2 a3 a4) := by
  intro a0 a1 a2 a3 a4 k
  have ih0 := Zo1.mono_l k
  unfold Zo1.f
  repeat' first
      | (with_reducible exact ih0 _ _ _ _ _ _ _)
      | (with_reducible exact Zg1.mono _ _ _ _ _ _ _ _)
      | (with_reducible exact LeO.refl _)
      | (with_reducible exact LeO.none _)
      | (with_reducible refine LeO.ite ?_ ?_)
      | (with_reducible refine LeO.bind ?_ (fun _ => ?_))
      | exact ih0 _ _ _ _ _ _ _
      | exact Zg1.mono _ _ _ _ _ _ _ _
      | exact LeO.none _
      | refine LeO.ite ?_ ?_
      | refine LeO.bind ?_ (fun _ => ?_)
set_option maxHeartbeats 8000000 in
set_option maxRecDepth 100000 in
theorem Zo1.calls (k : Nat) (a0_0 : Int) (a0_1 : Int) (a0_2 : Int) (A0_3 : Option Addr) (c0_3 : Nat) (l0_3 : List (S38)) (a1 : Bool) (r : Int) (w : World) (hr0_3 : Kd.C k38 w A0_3 l0_3.length l0_3) (hc0_3 : l0_3.length ≤ c0_3) (h : Zo1.f k a0_0 a0_1 a0_2 l0_3 a1 = some r) :
    Calls Try.prog 20 #[.agg #[.int .i64 a0_0, .int .i64 a0_1, .int .i64 a0_2, .slice A0_3 l0_3.length c0_3], .bool a1] w fun e w' => e = .returned (.int .u32 r) ∧ Below w.heap.size w w' := by
  have hu24 := Try.underlying24
  have HR0_3 := Za.mk hr0_3
  have HC0_3 := Za.mk hc0_3
  clear hr0_3 hc0_3
  have HB := Za.mk (Below.refl w.heap.size w)
  have H : (Zo1.l0 k a1 0 0 a0_0 a0_1 a0_2 l0_3) = some r := h
  clear h
  have H' := Za.mk H
  clear H
  go_enter Try.func20, Try.ntmps20
  go_wp2_with (first | ((with_reducible refine Zb1 (N := 2) rfl ?_); refine Zc1 ?hg (N := 2) ?hd (cs := #[.int .i64 a0_0, .int .i64 a0_1, .int .i64 a0_2, .slice A0_3 l0_3.length c0_3]) (t := 24) ?hr ?_; (case hd => rfl); (case hg => rfl); (case hr => first | (go_simp; done) | (go_simp; rfl)); intro gb208 hg w3 hbox hb; have n0_ := Za.mk (Zr (by repeat (first | (with_reducible first | exact HB.out | apply Zh | apply Zk | apply Zg) | exact HB.out)) hb); have n1_ := Za.mk (hbox); have n2_ := Za.mk ((by rw [hg]; exact (Zo (by repeat (first | (with_reducible first | exact HB.out | apply Zh | apply Zk | apply Zg) | exact HB.out))) : w.heap.size ≤ gb208)); have n3_ := Za.mk ((by rw [hg]; exact (Zo (by repeat (first | (with_reducible first | exact HB.out | apply Zh | apply Zk | apply Zg) | exact HB.out))) : w.heap.size ≤ gb208)); clear HB; have HB := n0_; have BK208 := n1_; have GW208 := n2_; have GE208 := n3_; clear n0_ n1_ n2_ n3_; clear hb hbox hg))
  go_loopg [5, 6] k (fun kq v5 v6 w' => ∃ (x5_1 : Int) (x6_1 : Int), v5 = .int .u32 x5_1 ∧ v6 = .int .i64 x6_1 ∧ Za (Zo1.l0 kq a1 x5_1 x6_1 a0_0 a0_1 a0_2 l0_3 = some r) ∧ Za (kq ≤ k) ∧ Za (w'.heap[gb208]? = some (.cells #[.int .i64 a0_0, .int .i64 a0_1, .int .i64 a0_2, (.slice A0_3 l0_3.length c0_3)] 24 (0, 0))) ∧ Za (Below w.heap.size w w'))
  case atStart => exact ⟨(0), (0), (by first | rfl | (simp; done) | (simp [*]; done)), (by first | rfl | (simp; done) | (simp [*]; done)), H', ⟨Nat.le_refl _⟩, ⟨by (with_reducible repeat (first | refine Zj ?_ _ | refine Zf ?_ | refine Zi ?_ _)); exact BK208.out⟩, ⟨by repeat (first | (with_reducible first | exact HB.out | apply Zh | apply Zk | apply Zg | refine Ze ?_ GE208.out) | exact HB.out)⟩⟩
  case round =>
    clear H'
    try clear c2
    try clear p2
    obtain ⟨x5_1, x6_1, rfl, rfl, HA, HK1, BK208, HB⟩ := hrel
    cases gk with
    | zero => exact absurd HA.out (by simp [Zo1.l0])
    | succ k1 =>
      have H := HA.out
      clear HA
      simp only [Zo1.l0] at H
      by_cases c4 : x6_1 < a0_1
      · rw [if_pos c4] at H
        have c4b0 : decide (x6_1 < a0_1) = true := decide_eq_true c4
        clear c4
        replace H := Option.bind_eq_some_iff.mp H
        obtain ⟨t209, A50, H⟩ := H
        replace H : (if t209 = true then (if 0 ≤ (IntKind.u64.wrap (x6_1)) then (Zo1.l0 k1 a1 ((x5_1 + (shl .u32 1 (IntKind.u64.wrap (x6_1)))) % 4294967296) (wrap64 (x6_1 + 1)) a0_0 a0_1 a0_2 l0_3) else (none)) else (Zo1.l0 k1 a1 x5_1 (wrap64 (x6_1 + 1)) a0_0 a0_1 a0_2 l0_3)) = some r := H
        have A5 := Za.mk A50
        clear A50
        by_cases c6 : t209 = true
        · subst c6
          have H1 : (if 0 ≤ (IntKind.u64.wrap (x6_1)) then (Zo1.l0 k1 a1 ((x5_1 + (shl .u32 1 (IntKind.u64.wrap (x6_1)))) % 4294967296) (wrap64 (x6_1 + 1)) a0_0 a0_1 a0_2 l0_3) else (none)) = some r := by rw [if_pos rfl] at H; exact H
          clear H
          have H := H1
          clear H1
          obtain ⟨ji7, hji7⟩ : ∃ j_ : Int, (IntKind.u64.wrap (x6_1)) = j_ := ⟨_, rfl⟩
          replace H : (if 0 ≤ (ji7) then (Zo1.l0 k1 a1 ((x5_1 + (shl .u32 1 (ji7))) % 4294967296) (wrap64 (x6_1 + 1)) a0_0 a0_1 a0_2 l0_3) else (none)) = some r := by first | (rw [hji7] at H; exact H) | (simp only [hji7] at H ⊢; exact H)
          (try rw [hji7] at A5)
          by_cases c8 : 0 ≤ (ji7)
          · rw [if_pos c8] at H
            have c8b0 := eq_true c8
            have c8b1 : decide (0 ≤ (ji7)) = true := decide_eq_true c8
            clear c8
            obtain ⟨ji9, hji9⟩ : ∃ j_ : Int, (shl .u32 1 (ji7)) = j_ := ⟨_, rfl⟩
            replace H : (Zo1.l0 k1 a1 ((x5_1 + (ji9)) % 4294967296) (wrap64 (x6_1 + 1)) a0_0 a0_1 a0_2 l0_3) = some r := by first | (rw [hji9] at H; exact H) | (simp only [hji9] at H ⊢; exact H)
            (try rw [hji9] at A5)
            have hji9_ : (IntKind.u32.wrap (1 * 2 ^ min (ji7).toNat 32)) = ji9 := hji9
            have hji9z : (ji7) ≤ 32 → (IntKind.u32.wrap (1 * 2 ^ (ji7).toNat)) = ji9 := shl_small hji9
            have hji9u : (IntKind.u32.wrap (2 ^ min (ji7).toNat 32)) = ji9 := by have h_ := hji9_; rw [Int.one_mul] at h_; exact h_
            have hji9v : (ji7) ≤ 32 → (IntKind.u32.wrap (2 ^ (ji7).toNat)) = ji9 := fun hle_ => by have h_ := hji9z hle_; rw [Int.one_mul] at h_; exact h_
            have H' := Za.mk H
            clear H
            have hcz10_0 : wr.cell? ⟨gb208, 0, none⟩ = some (.int .i64 a0_0) := (Zc BK208.out 0).trans rfl
            have hcz10_1 : wr.cell? ⟨gb208, 1, none⟩ = some (.int .i64 a0_1) := (Zc BK208.out 1).trans rfl
            have hcz10_2 : wr.cell? ⟨gb208, 2, none⟩ = some (.int .i64 a0_2) := (Zc BK208.out 2).trans rfl
            have hcz10_3 : wr.cell? ⟨gb208, 3, none⟩ = some (.slice A0_3 l0_3.length c0_3) := (Zc BK208.out 3).trans rfl
            have hfz10_0 := Zd BK208.out 0
            have hfz10_1 := Zd BK208.out 1
            have hfz10_2 := Zd BK208.out 2
            have hfz10_3 := Zd BK208.out 3
            go_wp2_with (first | ((with_reducible refine Zp1 (f := 48) rfl ?_); refine goesL_ (some 21) rfl rfl Try.func48 (by kernel_rfl) rfl #[.agg #[.int .i64 a0_0, .int .i64 a0_1, .int .i64 a0_2, .slice A0_3 l0_3.length c0_3], .int .i64 (wrap64 (a0_0 + x6_1)), .int .i64 a0_1, .bool a1] rfl (by (try simp only [List.map_toArray, List.map_cons, List.map_nil]); first | done | rfl | (simp only [List.length_drop, List.length_take]; rfl)) ?_; (with_reducible refine (Zg1.calls k1 a0_0 a0_1 a0_2 _ _ l0_3 (wrap64 (a0_0 + x6_1)) a0_1 a1 true _ ?side1 ?side2 A5.out).mono ?_); (case side1 => repeat (first | exact (Kd.C_below HR0_3.out HB.out) | (with_reducible refine Kd.C_alloc ?_ _) | (with_reducible refine Kd.C_drewN ?_ _) | (with_reducible refine Kd.C_drew ?_))); (case side2 => exact HC0_3.out); rintro e w11 ⟨rfl, hb⟩; refine ⟨_, rfl, ?_⟩; have n0_ := Za.mk (Zp (g := gb208) (o := .cells #[.int .i64 a0_0, .int .i64 a0_1, .int .i64 a0_2, .slice A0_3 l0_3.length c0_3] 24 (0, 0)) (by (with_reducible repeat (first | refine Zj ?_ _ | refine Zf ?_ | refine Zi ?_ _)); exact BK208.out) hb); have n1_ := Za.mk (Zr (by repeat (first | (with_reducible first | exact HB.out | apply Zh | apply Zk | apply Zg | refine Ze ?_ GE208.out) | exact HB.out)) hb); clear BK208; clear HB; have BK208 := n0_; have HB := n1_; clear n0_ n1_; (try clear hb); (try clear hb2); (try clear hk); (try clear hi)))
            (first | go_roundg k1 | (simp only [← hji9]; go_roundg k1) | (simp only [← hji7, ← hji9]; go_roundg k1))
            case measure => have := HK1.out; omega
            case rel => exact ⟨((x5_1 + (ji9)) % 4294967296), (wrap64 (x6_1 + 1)), (by first | rfl | (simp; done) | (simp only [← hji9] <;> (first | rfl | simp)) | (simp [*]; done)), (by first | rfl | (simp; done) | (simp [*]; done)), H', ⟨by have := HK1.out; omega⟩, ⟨by (with_reducible repeat (first | refine Zj ?_ _ | refine Zf ?_ | refine Zi ?_ _)); exact BK208.out⟩, ⟨by repeat (first | (with_reducible first | exact HB.out | apply Zh | apply Zk | apply Zg | refine Ze ?_ GE208.out) | exact HB.out)⟩⟩
          · rw [if_neg c8] at H
            exact absurd H (by simp)
        · replace c6 := Bool.eq_false_iff.mpr c6
          subst c6
          have H1 : (Zo1.l0 k1 a1 x5_1 (wrap64 (x6_1 + 1)) a0_0 a0_1 a0_2 l0_3) = some r := by rw [if_neg (show ¬ (false = true) by decide)] at H; exact H
          clear H
          have H := H1
          clear H1
          have H' := Za.mk H
          clear H
          have hcz12_0 : wr.cell? ⟨gb208, 0, none⟩ = some (.int .i64 a0_0) := (Zc BK208.out 0).trans rfl
          have hcz12_1 : wr.cell? ⟨gb208, 1, none⟩ = some (.int .i64 a0_1) := (Zc BK208.out 1).trans rfl
          have hcz12_2 : wr.cell? ⟨gb208, 2, none⟩ = some (.int .i64 a0_2) := (Zc BK208.out 2).trans rfl
          have hcz12_3 : wr.cell? ⟨gb208, 3, none⟩ = some (.slice A0_3 l0_3.length c0_3) := (Zc BK208.out 3).trans rfl
          have hfz12_0 := Zd BK208.out 0
          have hfz12_1 := Zd BK208.out 1
          have hfz12_2 := Zd BK208.out 2
          have hfz12_3 := Zd BK208.out 3
          go_wp2_with (first | ((with_reducible refine Zp1 (f := 48) rfl ?_); refine goesL_ (some 21) rfl rfl Try.func48 (by kernel_rfl) rfl #[.agg #[.int .i64 a0_0, .int .i64 a0_1, .int .i64 a0_2, .slice A0_3 l0_3.length c0_3], .int .i64 (wrap64 (a0_0 + x6_1)), .int .i64 a0_1, .bool a1] rfl (by (try simp only [List.map_toArray, List.map_cons, List.map_nil]); first | done | rfl | (simp only [List.length_drop, List.length_take]; rfl)) ?_; (with_reducible refine (Zg1.calls k1 a0_0 a0_1 a0_2 _ _ l0_3 (wrap64 (a0_0 + x6_1)) a0_1 a1 false _ ?side1 ?side2 A5.out).mono ?_); (case side1 => repeat (first | exact (Kd.C_below HR0_3.out HB.out) | (with_reducible refine Kd.C_alloc ?_ _) | (with_reducible refine Kd.C_drewN ?_ _) | (with_reducible refine Kd.C_drew ?_))); (case side2 => exact HC0_3.out); rintro e w13 ⟨rfl, hb⟩; refine ⟨_, rfl, ?_⟩; have n0_ := Za.mk (Zp (g := gb208) (o := .cells #[.int .i64 a0_0, .int .i64 a0_1, .int .i64 a0_2, .slice A0_3 l0_3.length c0_3] 24 (0, 0)) (by (with_reducible repeat (first | refine Zj ?_ _ | refine Zf ?_ | refine Zi ?_ _)); exact BK208.out) hb); have n1_ := Za.mk (Zr (by repeat (first | (with_reducible first | exact HB.out | apply Zh | apply Zk | apply Zg | refine Ze ?_ GE208.out) | exact HB.out)) hb); clear BK208; clear HB; have BK208 := n0_; have HB := n1_; clear n0_ n1_; (try clear hb); (try clear hb2); (try clear hk); (try clear hi)))
          go_roundg k1
          case measure => have := HK1.out; omega
          case rel => exact ⟨(x5_1), (wrap64 (x6_1 + 1)), (by first | rfl | (simp; done) | (simp [*]; done)), (by first | rfl | (simp; done) | (simp [*]; done)), H', ⟨by have := HK1.out; omega⟩, ⟨by (with_reducible repeat (first | refine Zj ?_ _ | refine Zf ?_ | refine Zi ?_ _)); exact BK208.out⟩, ⟨by repeat (first | (with_reducible first | exact HB.out | apply Zh | apply Zk | apply Zg | refine Ze ?_ GE208.out) | exact HB.out)⟩⟩
      · rw [if_neg c4] at H
        have c4b0 : decide (x6_1 < a0_1) = false := decide_eq_false c4
        clear c4
        obtain rfl := Option.some.inj H
        have hcz14_0 : wr.cell? ⟨gb208, 0, none⟩ = some (.int .i64 a0_0) := (Zc BK208.out 0).trans rfl
        have hcz14_1 : wr.cell? ⟨gb208, 1, none⟩ = some (.int .i64 a0_1) := (Zc BK208.out 1).trans rfl
        have hcz14_2 : wr.cell? ⟨gb208, 2, none⟩ = some (.int .i64 a0_2) := (Zc BK208.out 2).trans rfl
        have hcz14_3 : wr.cell? ⟨gb208, 3, none⟩ = some (.slice A0_3 l0_3.length c0_3) := (Zc BK208.out 3).trans rfl
        have hfz14_0 := Zd BK208.out 0
        have hfz14_1 := Zd BK208.out 1
        have hfz14_2 := Zd BK208.out 2
        have hfz14_3 := Zd BK208.out 3
        go_wp2
        go_ret
        exact ⟨by first | rfl | (simp [Zu, Zt] <;> rfl) | (simp [*, Zu, Zt] <;> rfl), by repeat (first | (with_reducible first | exact HB.out | apply Zh | apply Zk | apply Zg | refine Ze ?_ GE208.out) | exact HB.out)⟩
def Zt1.f (a0 : Int) (a1 : Int) : Option (Bool) := if a1 ≥ 0 then (if a1 < 32 then (if 0 ≤ (IntKind.u64.wrap (a1)) then (some ((Go.bits .and .u32 a0 (shl .u32 1 (IntKind.u64.wrap (a1)))) != 0)) else (none)) else (some false)) else (some false)
set_option maxHeartbeats 8000000 in
set_option maxRecDepth 100000 in
theorem Zt1.calls (a0 : Int) (a1 : Int) (r : Bool) (w : World) (h : Zt1.f a0 a1 = some r) :
    Calls Try.prog 62 #[.int .u32 a0, .int .i64 a1] w fun e w' => e = .returned (.bool r) ∧ Drawn0 w w' := by
  have H : (if a1 ≥ 0 then (if a1 < 32 then (if 0 ≤ (IntKind.u64.wrap (a1)) then (some ((Go.bits .and .u32 a0 (shl .u32 1 (IntKind.u64.wrap (a1)))) != 0)) else (none)) else (some false)) else (some false)) = some r := h
  clear h
  by_cases c3 : a1 ≥ 0
  · rw [if_pos c3] at H
    have c3b0 : decide (0 ≤ a1) = true := decide_eq_true c3
    clear c3
    by_cases c4 : a1 < 32
    · rw [if_pos c4] at H
      have c4b0 : decide (a1 < 32) = true := decide_eq_true c4
      clear c4
      obtain ⟨ji5, hji5⟩ : ∃ j_ : Int, (IntKind.u64.wrap (a1)) = j_ := ⟨_, rfl⟩
      replace H : (if 0 ≤ (ji5) then (some ((Go.bits .and .u32 a0 (shl .u32 1 (ji5))) != 0)) else (none)) = some r := by first | (rw [hji5] at H; exact H) | (simp only [hji5] at H ⊢; exact H)
      by_cases c6 : 0 ≤ (ji5)
      · rw [if_pos c6] at H
        have c6b0 := eq_true c6
        have c6b1 : decide (0 ≤ (ji5)) = true := decide_eq_true c6
        clear c6
        obtain ⟨ji7, hji7⟩ : ∃ j_ : Int, (shl .u32 1 (ji5)) = j_ := ⟨_, rfl⟩
        replace H : (some ((Go.bits .and .u32 a0 (ji7)) != 0)) = some r := by first | (rw [hji7] at H; exact H) | (simp only [hji7] at H ⊢; exact H)
        have hji7_ : (IntKind.u32.wrap (1 * 2 ^ min (ji5).toNat 32)) = ji7 := hji7
        have hji7z : (ji5) ≤ 32 → (IntKind.u32.wrap (1 * 2 ^ (ji5).toNat)) = ji7 := shl_small hji7
        have hji7u : (IntKind.u32.wrap (2 ^ min (ji5).toNat 32)) = ji7 := by have h_ := hji7_; rw [Int.one_mul] at h_; exact h_
        have hji7v : (ji5) ≤ 32 → (IntKind.u32.wrap (2 ^ (ji5).toNat)) = ji7 := fun hle_ => by have h_ := hji7z hle_; rw [Int.one_mul] at h_; exact h_
        obtain rfl := Option.some.inj H
        go_enter Try.func62, Try.ntmps62
        go_wp2
        go_ret
        exact ⟨by first | rfl | (simp; done) | (simp only [← hji5, ← hji7] <;> (first | rfl | simp)) | (simp [*]; done), by repeat (first | exact Drawn0.refl _ | apply Drawn0.step)⟩
      · rw [if_neg c6] at H
        exact absurd H (by simp)
    · rw [if_neg c4] at H
      have c4b0 : decide (a1 < 32) = false := decide_eq_false c4
      clear c4
      obtain rfl := Option.some.inj H
      go_enter Try.func62, Try.ntmps62
      go_wp2
      go_ret
      exact ⟨by first | rfl | (simp; done) | (simp [*]; done), by repeat (first | exact Drawn0.refl _ | apply Drawn0.step)⟩
  · rw [if_neg c3] at H
    have c3b0 : decide (0 ≤ a1) = false := decide_eq_false c3
    clear c3
    obtain rfl := Option.some.inj H
    go_enter Try.func62, Try.ntmps62
    go_wp2
    go_ret
    exact ⟨by first | rfl | (simp; done) | (simp [*]; done), by repeat (first | exact Drawn0.refl _ | apply Drawn0.step)⟩
def Zj1.l0 : Nat → Int → List Int → List Int → Int → Int → Int → Int → Int → List (S38) → Option (List Int)
  | 0, _, _, _, _, _, _, _, _, _ => none
  | k + 1, x5, x6, x11, x12, x13, x211000, x211001, x211002, x211003 => if x13 < x12 then (if 0 ≤ x13 then (if x13 < (x11.length : Int) then ((Zy.f k x6 (rd x11 x13)).bind fun t213 => (if t213 = true then (if (rd x11 x13) < x211000 then (some x6) else ((Zt1.f x5 (wrap64 ((rd x11 x13) - x211000))).bind fun t214 => (if t214 = true then (Zj1.l0 k x5 x6 x11 x12 (wrap64 (x13 + 1)) x211000 x211001 x211002 x211003) else (some x6)))) else (if x6.length < 17592186044416 then ((some (x6 ++ [rd x11 x13] : List Int)).bind fun y215 => (if (rd x11 x13) < x211000 then (some y215) else ((Zt1.f x5 (wrap64 ((rd x11 x13) - x211000))).bind fun t218 => (if t218 = true then (Zj1.l0 k x5 y215 x11 x12 (wrap64 (x13 + 1)) x211000 x211001 x211002 x211003) else (some y215))))) else (none)))) else (none)) else (none)) else (some x6)
def Zj1.f (k : Nat) (a0_0 : Int) (a0_1 : Int) (a0_2 : Int) (l0_3 : List (S38)) (l1 : List Int) : Option (List Int) := (Zo1.f k a0_0 a0_1 a0_2 l0_3 true).bind fun t211 => (Zj1.l0 k t211 ([] : List Int) l1 (l1.length : Int) 0 a0_0 a0_1 a0_2 l0_3)
theorem Zj1.mono_l : ∀ k, (∀ y0 y1 y2 y3 y4 y5 y6 y7 y8, LeO (Zj1.l0 k y0 y1 y2 y3 y4 y5 y6 y7 y8) (Zj1.l0 (k + 1) y0 y1 y2 y3 y4 y5 y6 y7 y8))
  | 0 => fun _ _ _ _ _ _ _ _ _ r h => by simp [Zj1.l0] at h
  | k + 1 => by
    have ih0 := Zj1.mono_l k
    · intro y0 y1 y2 y3 y4 y5 y6 y7 y8
      unfold Zj1.l0
      repeat' first
      | (with_reducible exact ih0 _ _ _ _ _ _ _ _ _)
      | (with_reducible exact Zy.mono _ _ _)
      | (with_reducible exact Zo1.mono _ _ _ _ _ _)
      | (with_reducible exact LeO.refl _)
      | (with_reducible exact LeO.none _)
      | (with_reducible refine LeO.ite ?_ ?_)
      | (with_reducible refine LeO.bind ?_ (fun _ => ?_))
      | exact ih0 _ _ _ _ _ _ _ _ _
      | exact Zy.mono _ _ _
      | exact Zo1.mono _ _ _ _ _ _
      | exact LeO.none _
      | refine LeO.ite ?_ ?_
      | refine LeO.bind ?_ (fun _ => ?_)
theorem Zj1.mono : ∀ a0 a1 a2 a3 a4 k, LeO (Zj1.f k a0 a1 a2 a3 a4) (Zj1.f (k + 1) a0 a1 a2 a3 a4) := by
  intro a0 a1 a2 a3 a4 k
  have ih0 := Zj1.mono_l k
  unfold Zj1.f
  repeat' first
      | (with_reducible exact ih0 _ _ _ _ _ _ _ _ _)
      | (with_reducible exact Zy.mono _ _ _)
      | (with_reducible exact Zo1.mono _ _ _ _ _ _)
      | (with_reducible exact LeO.refl _)
      | (with_reducible exact LeO.none _)
      | (with_reducible refine LeO.ite ?_ ?_)
      | (with_reducible refine LeO.bind ?_ (fun _ => ?_))
      | exact ih0 _ _ _ _ _ _ _ _ _
      | exact Zy.mono _ _ _
      | exact Zo1.mono _ _ _ _ _ _
      | exact LeO.none _
      | refine LeO.ite ?_ ?_
      | refine LeO.bind ?_ (fun _ => ?_)
set_option maxHeartbeats 8000000 in
set_option maxRecDepth 100000 in
theorem Zj1.calls (k : Nat) (a0_0 : Int) (a0_1 : Int) (a0_2 : Int) (A0_3 : Option Addr) (c0_3 : Nat) (l0_3 : List (S38)) (A1 : Option Addr) (c1 : Nat) (l1 : List Int) (r : List Int) (w : World) (hr0_3 : Kd.C k38 w A0_3 l0_3.length l0_3) (hc0_3 : l0_3.length ≤ c0_3) (hr1 : Kd.C (Kd.int .i64) w A1 l1.length l1) (hc1 : l1.length ≤ c1) (h : Zj1.f k a0_0 a0_1 a0_2 l0_3 l1 = some r) :
    Calls Try.prog 60 #[.agg #[.int .i64 a0_0, .int .i64 a0_1, .int .i64 a0_2, .slice A0_3 l0_3.length c0_3], .slice A1 l1.length c1] w fun e w' => ∃ v0_ : Value, e = .returned (v0_) ∧ Kd.R (Kd.int .i64) 3 w' w.heap.size (fun _ => True) v0_ r ∧ Below w.heap.size w w' := by
  have hu24 := Try.underlying24
  have HR0_3 := Za.mk hr0_3
  have HC0_3 := Za.mk hc0_3
  clear hr0_3 hc0_3
  have HR1 := Za.mk hr1
  have HC1 := Za.mk hc1
  clear hr1 hc1
  have HB := Za.mk (Below.refl w.heap.size w)
  have H : ((Zo1.f k a0_0 a0_1 a0_2 l0_3 true).bind fun t211 => (Zj1.l0 k t211 ([] : List Int) l1 (l1.length : Int) 0 a0_0 a0_1 a0_2 l0_3)) = some r := h
  clear h
  replace H := Option.bind_eq_some_iff.mp H
  obtain ⟨t211, A30, H⟩ := H
  replace H : (Zj1.l0 k t211 ([] : List Int) l1 (l1.length : Int) 0 a0_0 a0_1 a0_2 l0_3) = some r := H
  have A3 := Za.mk A30
  clear A30
  have H' := Za.mk H
  clear H
  go_enter Try.func60, Try.ntmps60
  go_wp2_with (first | ((with_reducible refine Zb1 (N := 2) rfl ?_); refine Zc1 ?hg (N := 2) ?hd (cs := #[.int .i64 a0_0, .int .i64 a0_1, .int .i64 a0_2, .slice A0_3 l0_3.length c0_3]) (t := 24) ?hr ?_; (case hd => rfl); (case hg => rfl); (case hr => first | (go_simp; done) | (go_simp; rfl)); intro gb210 hg w4 hbox hb; have n0_ := Za.mk (Zr (by repeat (first | (with_reducible first | exact HB.out | apply Zh | apply Zk | apply Zg) | exact HB.out)) hb); have n1_ := Za.mk (hbox); have n2_ := Za.mk ((by rw [hg]; exact (Zo (by repeat (first | (with_reducible first | exact HB.out | apply Zh | apply Zk | apply Zg) | exact HB.out))) : w.heap.size ≤ gb210)); have n3_ := Za.mk ((by rw [hg]; exact (Zo (by repeat (first | (with_reducible first | exact HB.out | apply Zh | apply Zk | apply Zg) | exact HB.out))) : w.heap.size ≤ gb210)); clear HB; have HB := n0_; have BK210 := n1_; have GW210 := n2_; have GE210 := n3_; clear n0_ n1_ n2_ n3_; clear hb hbox hg; have hcz5_0 : w4.cell? ⟨gb210, 0, none⟩ = some (.int .i64 a0_0) := (Zc BK210.out 0).trans rfl; have hcz5_1 : w4.cell? ⟨gb210, 1, none⟩ = some (.int .i64 a0_1) := (Zc BK210.out 1).trans rfl; have hcz5_2 : w4.cell? ⟨gb210, 2, none⟩ = some (.int .i64 a0_2) := (Zc BK210.out 2).trans rfl; have hcz5_3 : w4.cell? ⟨gb210, 3, none⟩ = some (.slice A0_3 l0_3.length c0_3) := (Zc BK210.out 3).trans rfl; have hfz5_0 := Zd BK210.out 0; have hfz5_1 := Zd BK210.out 1; have hfz5_2 := Zd BK210.out 2; have hfz5_3 := Zd BK210.out 3) | ((with_reducible refine Zp1 (f := 20) rfl ?_); refine goesL_ (some 10) rfl rfl Try.func20 (by kernel_rfl) rfl #[.agg #[.int .i64 a0_0, .int .i64 a0_1, .int .i64 a0_2, .slice A0_3 l0_3.length c0_3], .bool true] rfl (by (try simp only [List.map_toArray, List.map_cons, List.map_nil]); first | done | rfl | (simp only [List.length_drop, List.length_take]; rfl)) ?_; (with_reducible refine (Zo1.calls k a0_0 a0_1 a0_2 _ _ l0_3 true t211 _ ?side1 ?side2 A3.out).mono ?_); (case side1 => repeat (first | exact (Kd.C_below HR0_3.out HB.out) | (with_reducible refine Kd.C_alloc ?_ _) | (with_reducible refine Kd.C_drewN ?_ _) | (with_reducible refine Kd.C_drew ?_))); (case side2 => exact HC0_3.out); rintro e w6 ⟨rfl, hb⟩; refine ⟨_, rfl, ?_⟩; have n0_ := Za.mk (Zp (g := gb210) (o := .cells #[.int .i64 a0_0, .int .i64 a0_1, .int .i64 a0_2, .slice A0_3 l0_3.length c0_3] 24 (0, 0)) (by (with_reducible repeat (first | refine Zj ?_ _ | refine Zf ?_ | refine Zi ?_ _)); exact BK210.out) hb); have n1_ := Za.mk (Zr (by repeat (first | (with_reducible first | exact HB.out | apply Zh | apply Zk | apply Zg | refine Ze ?_ GE210.out) | exact HB.out)) hb); clear BK210; clear HB; have BK210 := n0_; have HB := n1_; clear n0_ n1_; (try clear hb); (try clear hb2); (try clear hk); (try clear hi)))
  go_loopg [6, 13] k (fun kq v6 v13 w' => ∃ (x6_1 : List Int) (x13_1 : Int), v13 = .int .i64 x13_1 ∧ Za (Zj1.l0 kq t211 x6_1 l1 (l1.length : Int) x13_1 a0_0 a0_1 a0_2 l0_3 = some r) ∧ Za (kq ≤ k) ∧ Za (Kd.R (Kd.int .i64) 3 w' w.heap.size (fun _ => True) v6 x6_1) ∧ Za (w'.heap[gb210]? = some (.cells #[.int .i64 a0_0, .int .i64 a0_1, .int .i64 a0_2, (.slice A0_3 l0_3.length c0_3)] 24 (0, 0))) ∧ Za (Below w.heap.size w w'))
  case atStart => exact ⟨(([] : List Int)), (0), (by first | rfl | (simp; done) | (simp [*]; done)), H', ⟨Nat.le_refl _⟩, ⟨by first | exact Kd.R_nil _ _ _ _ _ | exact Kd.N_nil _ _ _ _ _ | exact Kd.V_nil _ _ _ _ _ | exact Kd.Q_nil _ _ _ _ _ | exact Kd.S_nil _ _ _ _ _ | (go_simp; exact Kd.R_nil _ _ _ _ _)⟩, ⟨by (with_reducible repeat (first | refine Zj ?_ _ | refine Zf ?_ | refine Zi ?_ _)); exact BK210.out⟩, ⟨by repeat (first | (with_reducible first | exact HB.out | apply Zh | apply Zk | apply Zg | refine Ze ?_ GE210.out) | exact HB.out)⟩⟩
  case round =>
    clear H'
    try clear c1
    try clear c2
    try clear p2
    try clear c6
    try clear hcz5_0
    try clear hcz5_1
    try clear hcz5_2
    try clear hcz5_3
    try clear hfz5_0
    try clear hfz5_1
    try clear hfz5_2
    try clear hfz5_3
    obtain ⟨x6_1, x13_1, rfl, HA, HK1, HO_6, BK210, HB⟩ := hrel
    cases gk with
    | zero => exact absurd HA.out (by simp [Zj1.l0])
    | succ k1 =>
      have H := HA.out
      clear HA
      simp only [Zj1.l0] at H
      by_cases c7 : x13_1 < (l1.length : Int)
      · rw [if_pos c7] at H
        have c7b0 : decide (x13_1 < (l1.length : Int)) = true := decide_eq_true c7
        clear c7
        by_cases c8 : 0 ≤ x13_1
        · rw [if_pos c8] at H
          have c8b0 : decide (0 ≤ x13_1) = true := decide_eq_true c8
          clear c8
          by_cases c9 : x13_1 < (l1.length : Int)
          · rw [if_pos c9] at H
            have c9b0 : decide (x13_1 < (l1.length : Int)) = true := decide_eq_true c9
            clear c9
            replace H := Option.bind_eq_some_iff.mp H
            obtain ⟨t213, A100, H⟩ := H
            replace H : (if t213 = true then (if (rd l1 x13_1) < a0_0 then (some x6_1) else ((Zt1.f t211 (wrap64 ((rd l1 x13_1) - a0_0))).bind fun t214 => (if t214 = true then (Zj1.l0 k1 t211 x6_1 l1 (l1.length : Int) (wrap64 (x13_1 + 1)) a0_0 a0_1 a0_2 l0_3) else (some x6_1)))) else (if x6_1.length < 17592186044416 then ((some (x6_1 ++ [rd l1 x13_1] : List Int)).bind fun y215 => (if (rd l1 x13_1) < a0_0 then (some y215) else ((Zt1.f t211 (wrap64 ((rd l1 x13_1) - a0_0))).bind fun t218 => (if t218 = true then (Zj1.l0 k1 t211 y215 l1 (l1.length : Int) (wrap64 (x13_1 + 1)) a0_0 a0_1 a0_2 l0_3) else (some y215))))) else (none))) = some r := H
            have A10 := Za.mk A100
            clear A100
            by_cases c11 : t213 = true
            · subst c11
              have H1 : (if (rd l1 x13_1) < a0_0 then (some x6_1) else ((Zt1.f t211 (wrap64 ((rd l1 x13_1) - a0_0))).bind fun t214 => (if t214 = true then (Zj1.l0 k1 t211 x6_1 l1 (l1.length : Int) (wrap64 (x13_1 + 1)) a0_0 a0_1 a0_2 l0_3) else (some x6_1)))) = some r := by rw [if_pos rfl] at H; exact H
              clear H
              have H := H1
              clear H1
              by_cases c12 : (rd l1 x13_1) < a0_0
              · rw [if_pos c12] at H
                have c12b0 : decide ((rd l1 x13_1) < a0_0) = true := decide_eq_true c12
                clear c12
                obtain rfl := Option.some.inj H
                have p212 : 0 ≤ (x13_1 : Int) := of_decide_eq_true (by assumption)
                have q212 : x13_1 < (l1.length : Int) := of_decide_eq_true (by assumption)
                obtain ⟨ad212, e212, hx212_0⟩ := Kd.at_int HR1.out x13_1 p212 q212
                cases e212
                replace hx212_0 := (HB.out.cell (World.block_lt_of_cell? w _ hx212_0)).trans hx212_0
                replace p212 := eq_true p212
                replace q212 := eq_true q212
                obtain ⟨Ao13, co13, eo13⟩ := Kd.R_slice HO_6.out
                subst eo13
                go_wp2_with (first | ((with_reducible refine Zp1 (f := 46) rfl ?_); refine goesL_ (some 19) rfl rfl Try.func46 (by kernel_rfl) rfl #[.slice Ao13 x6_1.length co13, .int .i64 (rd l1 x13_1)] rfl (by (try simp only [List.map_toArray, List.map_cons, List.map_nil]); first | done | rfl | (simp only [List.length_drop, List.length_take]; rfl)) ?_; (with_reducible refine (Zy.calls k1 _ _ x6_1 (rd l1 x13_1) true _ ?side1 ?side2 A10.out).mono ?_); (case side1 => repeat (first | exact (Kd.R_reads' HO_6.out).2.2 | (with_reducible refine Kd.C_alloc ?_ _) | (with_reducible refine Kd.C_drewN ?_ _) | (with_reducible refine Kd.C_drew ?_))); (case side2 => exact (Kd.R_reads' HO_6.out).2.1); rintro e w' ⟨rfl, ⟨nd, rfl⟩⟩; refine ⟨_, rfl, ?_⟩; have hcz14_0 : wr.cell? ⟨gb210, 0, none⟩ = some (.int .i64 a0_0) := (Zc BK210.out 0).trans rfl; have hcz14_1 : wr.cell? ⟨gb210, 1, none⟩ = some (.int .i64 a0_1) := (Zc BK210.out 1).trans rfl; have hcz14_2 : wr.cell? ⟨gb210, 2, none⟩ = some (.int .i64 a0_2) := (Zc BK210.out 2).trans rfl; have hcz14_3 : wr.cell? ⟨gb210, 3, none⟩ = some (.slice A0_3 l0_3.length c0_3) := (Zc BK210.out 3).trans rfl; have hfz14_0 := Zd BK210.out 0; have hfz14_1 := Zd BK210.out 1; have hfz14_2 := Zd BK210.out 2; have hfz14_3 := Zd BK210.out 3))
                go_ret
                exact ⟨_, by first | rfl | (simp [Zu, Zt] <;> rfl) | (simp [*, Zu, Zt] <;> rfl), by (with_reducible repeat (first | apply Kd.R_alloc | apply Kd.R_drewN | apply Kd.R_drew)); exact HO_6.out, by repeat (first | (with_reducible first | exact HB.out | apply Zh | apply Zk | apply Zg | refine Ze ?_ GE210.out) | exact HB.out)⟩
              · rw [if_neg c12] at H
                have c12b0 : decide ((rd l1 x13_1) < a0_0) = false := decide_eq_false c12
                clear c12
                replace H := Option.bind_eq_some_iff.mp H
                obtain ⟨t214, A150, H⟩ := H
                replace H : (if t214 = true then (Zj1.l0 k1 t211 x6_1 l1 (l1.length : Int) (wrap64 (x13_1 + 1)) a0_0 a0_1 a0_2 l0_3) else (some x6_1)) = some r := H
                have A15 := Za.mk A150
                clear A150
                by_cases c16 : t214 = true
                · subst c16
                  have H1 : (Zj1.l0 k1 t211 x6_1 l1 (l1.length : Int) (wrap64 (x13_1 + 1)) a0_0 a0_1 a0_2 l0_3) = some r := by rw [if_pos rfl] at H; exact H
                  clear H
                  have H := H1
                  clear H1
                  have H' := Za.mk H
                  clear H
                  have p212 : 0 ≤ (x13_1 : Int) := of_decide_eq_true (by assumption)
                  have q212 : x13_1 < (l1.length : Int) := of_decide_eq_true (by assumption)
                  obtain ⟨ad212, e212, hx212_0⟩ := Kd.at_int HR1.out x13_1 p212 q212
                  cases e212
                  replace hx212_0 := (HB.out.cell (World.block_lt_of_cell? w _ hx212_0)).trans hx212_0
                  replace p212 := eq_true p212
                  replace q212 := eq_true q212
                  obtain ⟨Ao17, co17, eo17⟩ := Kd.R_slice HO_6.out
                  subst eo17
                  go_wp2_with (first | ((with_reducible refine Zp1 (f := 46) rfl ?_); refine goesL_ (some 19) rfl rfl Try.func46 (by kernel_rfl) rfl #[.slice Ao17 x6_1.length co17, .int .i64 (rd l1 x13_1)] rfl (by (try simp only [List.map_toArray, List.map_cons, List.map_nil]); first | done | rfl | (simp only [List.length_drop, List.length_take]; rfl)) ?_; (with_reducible refine (Zy.calls k1 _ _ x6_1 (rd l1 x13_1) true _ ?side1 ?side2 A10.out).mono ?_); (case side1 => repeat (first | exact (Kd.R_reads' HO_6.out).2.2 | (with_reducible refine Kd.C_alloc ?_ _) | (with_reducible refine Kd.C_drewN ?_ _) | (with_reducible refine Kd.C_drew ?_))); (case side2 => exact (Kd.R_reads' HO_6.out).2.1); rintro e w' ⟨rfl, ⟨nd, rfl⟩⟩; refine ⟨_, rfl, ?_⟩; have hcz18_0 : wr.cell? ⟨gb210, 0, none⟩ = some (.int .i64 a0_0) := (Zc BK210.out 0).trans rfl; have hcz18_1 : wr.cell? ⟨gb210, 1, none⟩ = some (.int .i64 a0_1) := (Zc BK210.out 1).trans rfl; have hcz18_2 : wr.cell? ⟨gb210, 2, none⟩ = some (.int .i64 a0_2) := (Zc BK210.out 2).trans rfl; have hcz18_3 : wr.cell? ⟨gb210, 3, none⟩ = some (.slice A0_3 l0_3.length c0_3) := (Zc BK210.out 3).trans rfl; have hfz18_0 := Zd BK210.out 0; have hfz18_1 := Zd BK210.out 1; have hfz18_2 := Zd BK210.out 2; have hfz18_3 := Zd BK210.out 3) | (go_at_call 62; (with_reducible refine (Zt1.calls t211 (wrap64 ((rd l1 x13_1) - a0_0)) true _ A15.out).mono ?_); rintro e w' ⟨rfl, ⟨nd, rfl⟩⟩))
                  go_roundg k1
                  case measure => have := HK1.out; omega
                  case rel => exact ⟨(x6_1), (wrap64 (x13_1 + 1)), (by first | rfl | (simp; done) | (simp [*]; done)), H', ⟨by have := HK1.out; omega⟩, ⟨by (with_reducible repeat (first | apply Kd.R_alloc | apply Kd.R_drewN | apply Kd.R_drew)); exact HO_6.out⟩, ⟨by (with_reducible repeat (first | refine Zj ?_ _ | refine Zf ?_ | refine Zi ?_ _)); exact BK210.out⟩, ⟨by repeat (first | (with_reducible first | exact HB.out | apply Zh | apply Zk | apply Zg | refine Ze ?_ GE210.out) | exact HB.out)⟩⟩
                · replace c16 := Bool.eq_false_iff.mpr c16
                  subst c16
                  have H1 : (some x6_1) = some r := by rw [if_neg (show ¬ (false = true) by decide)] at H; exact H
                  clear H
                  have H := H1
                  clear H1
                  obtain rfl := Option.some.inj H
                  have p212 : 0 ≤ (x13_1 : Int) := of_decide_eq_true (by assumption)
                  have q212 : x13_1 < (l1.length : Int) := of_decide_eq_true (by assumption)
                  obtain ⟨ad212, e212, hx212_0⟩ := Kd.at_int HR1.out x13_1 p212 q212
                  cases e212
                  replace hx212_0 := (HB.out.cell (World.block_lt_of_cell? w _ hx212_0)).trans hx212_0
                  replace p212 := eq_true p212
                  replace q212 := eq_true q212
                  obtain ⟨Ao19, co19, eo19⟩ := Kd.R_slice HO_6.out
                  subst eo19
                  go_wp2_with (first | ((with_reducible refine Zp1 (f := 46) rfl ?_); refine goesL_ (some 19) rfl rfl Try.func46 (by kernel_rfl) rfl #[.slice Ao19 x6_1.length co19, .int .i64 (rd l1 x13_1)] rfl (by (try simp only [List.map_toArray, List.map_cons, List.map_nil]); first | done | rfl | (simp only [List.length_drop, List.length_take]; rfl)) ?_; (with_reducible refine (Zy.calls k1 _ _ x6_1 (rd l1 x13_1) true _ ?side1 ?side2 A10.out).mono ?_); (case side1 => repeat (first | exact (Kd.R_reads' HO_6.out).2.2 | (with_reducible refine Kd.C_alloc ?_ _) | (with_reducible refine Kd.C_drewN ?_ _) | (with_reducible refine Kd.C_drew ?_))); (case side2 => exact (Kd.R_reads' HO_6.out).2.1); rintro e w' ⟨rfl, ⟨nd, rfl⟩⟩; refine ⟨_, rfl, ?_⟩; have hcz20_0 : wr.cell? ⟨gb210, 0, none⟩ = some (.int .i64 a0_0) := (Zc BK210.out 0).trans rfl; have hcz20_1 : wr.cell? ⟨gb210, 1, none⟩ = some (.int .i64 a0_1) := (Zc BK210.out 1).trans rfl; have hcz20_2 : wr.cell? ⟨gb210, 2, none⟩ = some (.int .i64 a0_2) := (Zc BK210.out 2).trans rfl; have hcz20_3 : wr.cell? ⟨gb210, 3, none⟩ = some (.slice A0_3 l0_3.length c0_3) := (Zc BK210.out 3).trans rfl; have hfz20_0 := Zd BK210.out 0; have hfz20_1 := Zd BK210.out 1; have hfz20_2 := Zd BK210.out 2; have hfz20_3 := Zd BK210.out 3) | (go_at_call 62; (with_reducible refine (Zt1.calls t211 (wrap64 ((rd l1 x13_1) - a0_0)) false _ A15.out).mono ?_); rintro e w' ⟨rfl, ⟨nd, rfl⟩⟩))
                  go_ret
                  exact ⟨_, by first | rfl | (simp [Zu, Zt] <;> rfl) | (simp [*, Zu, Zt] <;> rfl), by (with_reducible repeat (first | apply Kd.R_alloc | apply Kd.R_drewN | apply Kd.R_drew)); exact HO_6.out, by repeat (first | (with_reducible first | exact HB.out | apply Zh | apply Zk | apply Zg | refine Ze ?_ GE210.out) | exact HB.out)⟩
            · replace c11 := Bool.eq_false_iff.mpr c11
              subst c11
              have H1 : (if x6_1.length < 17592186044416 then ((some (x6_1 ++ [rd l1 x13_1] : List Int)).bind fun y215 => (if (rd l1 x13_1) < a0_0 then (some y215) else ((Zt1.f t211 (wrap64 ((rd l1 x13_1) - a0_0))).bind fun t218 => (if t218 = true then (Zj1.l0 k1 t211 y215 l1 (l1.length : Int) (wrap64 (x13_1 + 1)) a0_0 a0_1 a0_2 l0_3) else (some y215))))) else (none)) = some r := by rw [if_neg (show ¬ (false = true) by decide)] at H; exact H
              clear H
              have H := H1
              clear H1
              by_cases c21 : x6_1.length < 17592186044416
              · rw [if_pos c21] at H
                have LMc21 := Za.mk c21
                clear c21
                obtain ⟨y215, hy215⟩ : ∃ y_ : List Int, y_ = (x6_1 ++ [rd l1 x13_1]) := ⟨_, rfl⟩
                replace H : (if (rd l1 x13_1) < a0_0 then (some y215) else ((Zt1.f t211 (wrap64 ((rd l1 x13_1) - a0_0))).bind fun t218 => (if t218 = true then (Zj1.l0 k1 t211 y215 l1 (l1.length : Int) (wrap64 (x13_1 + 1)) a0_0 a0_1 a0_2 l0_3) else (some y215)))) = some r := by first | (rw [hy215]; with_reducible exact H) | (have H2_ := (Option.bind_some _ _).symm.trans H; rw [hy215]; with_reducible exact H2_) | (have H2_ := (Option.bind_some _ _).symm.trans H; with_reducible exact H2_) | with_reducible exact H | (rw [hy215]; exact H) | exact H
                have Ny215 := Za.mk hy215
                clear hy215
                by_cases c22 : (rd l1 x13_1) < a0_0
                · rw [if_pos c22] at H
                  have c22b0 : decide ((rd l1 x13_1) < a0_0) = true := decide_eq_true c22
                  clear c22
                  obtain rfl := Option.some.inj H
                  have p212 : 0 ≤ (x13_1 : Int) := of_decide_eq_true (by assumption)
                  have q212 : x13_1 < (l1.length : Int) := of_decide_eq_true (by assumption)
                  obtain ⟨ad212, e212, hx212_0⟩ := Kd.at_int HR1.out x13_1 p212 q212
                  cases e212
                  replace hx212_0 := (HB.out.cell (World.block_lt_of_cell? w _ hx212_0)).trans hx212_0
                  replace p212 := eq_true p212
                  replace q212 := eq_true q212
                  obtain ⟨Ao23, co23, eo23⟩ := Kd.R_slice HO_6.out
                  subst eo23
                  go_wp2_with (first | ((with_reducible refine Zp1 (f := 46) rfl ?_); refine goesL_ (some 19) rfl rfl Try.func46 (by kernel_rfl) rfl #[.slice Ao23 x6_1.length co23, .int .i64 (rd l1 x13_1)] rfl (by (try simp only [List.map_toArray, List.map_cons, List.map_nil]); first | done | rfl | (simp only [List.length_drop, List.length_take]; rfl)) ?_; (with_reducible refine (Zy.calls k1 _ _ x6_1 (rd l1 x13_1) false _ ?side1 ?side2 A10.out).mono ?_); (case side1 => repeat (first | exact (Kd.R_reads' HO_6.out).2.2 | (with_reducible refine Kd.C_alloc ?_ _) | (with_reducible refine Kd.C_drewN ?_ _) | (with_reducible refine Kd.C_drew ?_))); (case side2 => exact (Kd.R_reads' HO_6.out).2.1); rintro e w' ⟨rfl, ⟨nd, rfl⟩⟩; refine ⟨_, rfl, ?_⟩) | ((with_reducible refine gate_builtin (b := .append) (xs := #[.tmp 21, .tmp 23]) rfl ?_); at_builtin; refine Kd.R_append (Kd.int .i64) (w0 := w) w.heap.size rfl (.tmp 21) (.tmp 23) 33 3 (.int .i64 0) 8 rfl Try.underlying33 info3 rfl (by decide) (by omega) (.slice Ao23 x6_1.length co23) x6_1 (rd l1 x13_1) [.int .i64 (rd l1 x13_1)] (fun _ => True) (fun _ => False) rfl rfl ?aP (fun _ hk => hk.elim) ?aF ?aO ?aB ?aS ?aL ?_; (case aP => exact rfl); (case aB => exact (by repeat (first | (with_reducible first | exact HB.out | apply Zh | apply Zk | apply Zg | refine Ze ?_ GE210.out) | exact HB.out))); (case aF => exact (fun _ _ => trivial)); (case aO => exact (by (with_reducible repeat (first | apply Kd.R_alloc | apply Kd.R_drewN | apply Kd.R_drew)); exact HO_6.out)); (case aS => exact (Zo (by repeat (first | (with_reducible first | exact HB.out | apply Zh | apply Zk | apply Zg | refine Ze ?_ GE210.out) | exact HB.out)))); (case aL => have := LMc21.out; omega); intro v216 w24 ho hb hg hat; rw [← Ny215.out] at ho; have n0_ := Za.mk (Zs1 (g := gb210) (o := .cells #[.int .i64 a0_0, .int .i64 a0_1, .int .i64 a0_2, .slice A0_3 l0_3.length c0_3] 24 (0, 0)) (by (with_reducible repeat (first | refine Zj ?_ _ | refine Zf ?_ | refine Zi ?_ _)); exact BK210.out) hg (Kd.R_ne HO_6.out BK210.out (by decide))); have n1_ := Za.mk (hb); have n2_ := Za.mk (ho); clear BK210; clear HB; clear HO_6; have BK210 := n0_; have HB := n1_; have HO217 := n2_; clear n0_ n1_ n2_; clear ho hb hg hat; have hcz25_0 : w24.cell? ⟨gb210, 0, none⟩ = some (.int .i64 a0_0) := (Zc BK210.out 0).trans rfl; have hcz25_1 : w24.cell? ⟨gb210, 1, none⟩ = some (.int .i64 a0_1) := (Zc BK210.out 1).trans rfl; have hcz25_2 : w24.cell? ⟨gb210, 2, none⟩ = some (.int .i64 a0_2) := (Zc BK210.out 2).trans rfl; have hcz25_3 : w24.cell? ⟨gb210, 3, none⟩ = some (.slice A0_3 l0_3.length c0_3) := (Zc BK210.out 3).trans rfl; have hfz25_0 := Zd BK210.out 0; have hfz25_1 := Zd BK210.out 1; have hfz25_2 := Zd BK210.out 2; have hfz25_3 := Zd BK210.out 3))
                  go_ret
                  exact ⟨_, by first | rfl | (simp [Zu, Zt] <;> rfl) | (simp [*, Zu, Zt] <;> rfl), by (with_reducible repeat (first | apply Kd.R_alloc | apply Kd.R_drewN | apply Kd.R_drew)); exact HO217.out, by repeat (first | (with_reducible first | exact HB.out | apply Zh | apply Zk | apply Zg | refine Ze ?_ GE210.out) | exact HB.out)⟩
                · rw [if_neg c22] at H
                  have c22b0 : decide ((rd l1 x13_1) < a0_0) = false := decide_eq_false c22
                  clear c22
                  replace H := Option.bind_eq_some_iff.mp H
                  obtain ⟨t218, A260, H⟩ := H
                  replace H : (if t218 = true then (Zj1.l0 k1 t211 y215 l1 (l1.length : Int) (wrap64 (x13_1 + 1)) a0_0 a0_1 a0_2 l0_3) else (some y215)) = some r := H
                  have A26 := Za.mk A260
                  clear A260
                  by_cases c27 : t218 = true
                  · subst c27
                    have H1 : (Zj1.l0 k1 t211 y215 l1 (l1.length : Int) (wrap64 (x13_1 + 1)) a0_0 a0_1 a0_2 l0_3) = some r := by rw [if_pos rfl] at H; exact H
                    clear H
                    have H := H1
                    clear H1
                    have H' := Za.mk H
                    clear H
                    have p212 : 0 ≤ (x13_1 : Int) := of_decide_eq_true (by assumption)
                    have q212 : x13_1 < (l1.length : Int) := of_decide_eq_true (by assumption)
                    obtain ⟨ad212, e212, hx212_0⟩ := Kd.at_int HR1.out x13_1 p212 q212
                    cases e212
                    replace hx212_0 := (HB.out.cell (World.block_lt_of_cell? w _ hx212_0)).trans hx212_0
                    replace p212 := eq_true p212
                    replace q212 := eq_true q212
                    obtain ⟨Ao28, co28, eo28⟩ := Kd.R_slice HO_6.out
                    subst eo28
                    go_wp2_with (first | ((with_reducible refine Zp1 (f := 46) rfl ?_); refine goesL_ (some 19) rfl rfl Try.func46 (by kernel_rfl) rfl #[.slice Ao28 x6_1.length co28, .int .i64 (rd l1 x13_1)] rfl (by (try simp only [List.map_toArray, List.map_cons, List.map_nil]); first | done | rfl | (simp only [List.length_drop, List.length_take]; rfl)) ?_; (with_reducible refine (Zy.calls k1 _ _ x6_1 (rd l1 x13_1) false _ ?side1 ?side2 A10.out).mono ?_); (case side1 => repeat (first | exact (Kd.R_reads' HO_6.out).2.2 | (with_reducible refine Kd.C_alloc ?_ _) | (with_reducible refine Kd.C_drewN ?_ _) | (with_reducible refine Kd.C_drew ?_))); (case side2 => exact (Kd.R_reads' HO_6.out).2.1); rintro e w' ⟨rfl, ⟨nd, rfl⟩⟩; refine ⟨_, rfl, ?_⟩) | ((with_reducible refine gate_builtin (b := .append) (xs := #[.tmp 21, .tmp 23]) rfl ?_); at_builtin; refine Kd.R_append (Kd.int .i64) (w0 := w) w.heap.size rfl (.tmp 21) (.tmp 23) 33 3 (.int .i64 0) 8 rfl Try.underlying33 info3 rfl (by decide) (by omega) (.slice Ao28 x6_1.length co28) x6_1 (rd l1 x13_1) [.int .i64 (rd l1 x13_1)] (fun _ => True) (fun _ => False) rfl rfl ?aP (fun _ hk => hk.elim) ?aF ?aO ?aB ?aS ?aL ?_; (case aP => exact rfl); (case aB => exact (by repeat (first | (with_reducible first | exact HB.out | apply Zh | apply Zk | apply Zg | refine Ze ?_ GE210.out) | exact HB.out))); (case aF => exact (fun _ _ => trivial)); (case aO => exact (by (with_reducible repeat (first | apply Kd.R_alloc | apply Kd.R_drewN | apply Kd.R_drew)); exact HO_6.out)); (case aS => exact (Zo (by repeat (first | (with_reducible first | exact HB.out | apply Zh | apply Zk | apply Zg | refine Ze ?_ GE210.out) | exact HB.out)))); (case aL => have := LMc21.out; omega); intro v216 w29 ho hb hg hat; rw [← Ny215.out] at ho; have n0_ := Za.mk (Zs1 (g := gb210) (o := .cells #[.int .i64 a0_0, .int .i64 a0_1, .int .i64 a0_2, .slice A0_3 l0_3.length c0_3] 24 (0, 0)) (by (with_reducible repeat (first | refine Zj ?_ _ | refine Zf ?_ | refine Zi ?_ _)); exact BK210.out) hg (Kd.R_ne HO_6.out BK210.out (by decide))); have n1_ := Za.mk (hb); have n2_ := Za.mk (ho); clear BK210; clear HB; clear HO_6; have BK210 := n0_; have HB := n1_; have HO217 := n2_; clear n0_ n1_ n2_; clear ho hb hg hat; have hcz30_0 : w29.cell? ⟨gb210, 0, none⟩ = some (.int .i64 a0_0) := (Zc BK210.out 0).trans rfl; have hcz30_1 : w29.cell? ⟨gb210, 1, none⟩ = some (.int .i64 a0_1) := (Zc BK210.out 1).trans rfl; have hcz30_2 : w29.cell? ⟨gb210, 2, none⟩ = some (.int .i64 a0_2) := (Zc BK210.out 2).trans rfl; have hcz30_3 : w29.cell? ⟨gb210, 3, none⟩ = some (.slice A0_3 l0_3.length c0_3) := (Zc BK210.out 3).trans rfl; have hfz30_0 := Zd BK210.out 0; have hfz30_1 := Zd BK210.out 1; have hfz30_2 := Zd BK210.out 2; have hfz30_3 := Zd BK210.out 3) | (go_at_call 62; (with_reducible refine (Zt1.calls t211 (wrap64 ((rd l1 x13_1) - a0_0)) true _ A26.out).mono ?_); rintro e w' ⟨rfl, ⟨nd, rfl⟩⟩))
                    go_roundg k1
                    case measure => have := HK1.out; omega
                    case rel => exact ⟨(y215), (wrap64 (x13_1 + 1)), (by first | rfl | (simp; done) | (simp [*]; done)), H', ⟨by have := HK1.out; omega⟩, ⟨by (with_reducible repeat (first | apply Kd.R_alloc | apply Kd.R_drewN | apply Kd.R_drew)); exact HO217.out⟩, ⟨by (with_reducible repeat (first | refine Zj ?_ _ | refine Zf ?_ | refine Zi ?_ _)); exact BK210.out⟩, ⟨by repeat (first | (with_reducible first | exact HB.out | apply Zh | apply Zk | apply Zg | refine Ze ?_ GE210.out) | exact HB.out)⟩⟩
                  · replace c27 := Bool.eq_false_iff.mpr c27
                    subst c27
                    have H1 : (some y215) = some r := by rw [if_neg (show ¬ (false = true) by decide)] at H; exact H
                    clear H
                    have H := H1
                    clear H1
                    obtain rfl := Option.some.inj H
                    have p212 : 0 ≤ (x13_1 : Int) := of_decide_eq_true (by assumption)
                    have q212 : x13_1 < (l1.length : Int) := of_decide_eq_true (by assumption)
                    obtain ⟨ad212, e212, hx212_0⟩ := Kd.at_int HR1.out x13_1 p212 q212
                    cases e212
                    replace hx212_0 := (HB.out.cell (World.block_lt_of_cell? w _ hx212_0)).trans hx212_0
                    replace p212 := eq_true p212
                    replace q212 := eq_true q212
                    obtain ⟨Ao31, co31, eo31⟩ := Kd.R_slice HO_6.out
                    subst eo31
                    go_wp2_with (first | ((with_reducible refine Zp1 (f := 46) rfl ?_); refine goesL_ (some 19) rfl rfl Try.func46 (by kernel_rfl) rfl #[.slice Ao31 x6_1.length co31, .int .i64 (rd l1 x13_1)] rfl (by (try simp only [List.map_toArray, List.map_cons, List.map_nil]); first | done | rfl | (simp only [List.length_drop, List.length_take]; rfl)) ?_; (with_reducible refine (Zy.calls k1 _ _ x6_1 (rd l1 x13_1) false _ ?side1 ?side2 A10.out).mono ?_); (case side1 => repeat (first | exact (Kd.R_reads' HO_6.out).2.2 | (with_reducible refine Kd.C_alloc ?_ _) | (with_reducible refine Kd.C_drewN ?_ _) | (with_reducible refine Kd.C_drew ?_))); (case side2 => exact (Kd.R_reads' HO_6.out).2.1); rintro e w' ⟨rfl, ⟨nd, rfl⟩⟩; refine ⟨_, rfl, ?_⟩) | ((with_reducible refine gate_builtin (b := .append) (xs := #[.tmp 21, .tmp 23]) rfl ?_); at_builtin; refine Kd.R_append (Kd.int .i64) (w0 := w) w.heap.size rfl (.tmp 21) (.tmp 23) 33 3 (.int .i64 0) 8 rfl Try.underlying33 info3 rfl (by decide) (by omega) (.slice Ao31 x6_1.length co31) x6_1 (rd l1 x13_1) [.int .i64 (rd l1 x13_1)] (fun _ => True) (fun _ => False) rfl rfl ?aP (fun _ hk => hk.elim) ?aF ?aO ?aB ?aS ?aL ?_; (case aP => exact rfl); (case aB => exact (by repeat (first | (with_reducible first | exact HB.out | apply Zh | apply Zk | apply Zg | refine Ze ?_ GE210.out) | exact HB.out))); (case aF => exact (fun _ _ => trivial)); (case aO => exact (by (with_reducible repeat (first | apply Kd.R_alloc | apply Kd.R_drewN | apply Kd.R_drew)); exact HO_6.out)); (case aS => exact (Zo (by repeat (first | (with_reducible first | exact HB.out | apply Zh | apply Zk | apply Zg | refine Ze ?_ GE210.out) | exact HB.out)))); (case aL => have := LMc21.out; omega); intro v216 w32 ho hb hg hat; rw [← Ny215.out] at ho; have n0_ := Za.mk (Zs1 (g := gb210) (o := .cells #[.int .i64 a0_0, .int .i64 a0_1, .int .i64 a0_2, .slice A0_3 l0_3.length c0_3] 24 (0, 0)) (by (with_reducible repeat (first | refine Zj ?_ _ | refine Zf ?_ | refine Zi ?_ _)); exact BK210.out) hg (Kd.R_ne HO_6.out BK210.out (by decide))); have n1_ := Za.mk (hb); have n2_ := Za.mk (ho); clear BK210; clear HB; clear HO_6; have BK210 := n0_; have HB := n1_; have HO217 := n2_; clear n0_ n1_ n2_; clear ho hb hg hat; have hcz33_0 : w32.cell? ⟨gb210, 0, none⟩ = some (.int .i64 a0_0) := (Zc BK210.out 0).trans rfl; have hcz33_1 : w32.cell? ⟨gb210, 1, none⟩ = some (.int .i64 a0_1) := (Zc BK210.out 1).trans rfl; have hcz33_2 : w32.cell? ⟨gb210, 2, none⟩ = some (.int .i64 a0_2) := (Zc BK210.out 2).trans rfl; have hcz33_3 : w32.cell? ⟨gb210, 3, none⟩ = some (.slice A0_3 l0_3.length c0_3) := (Zc BK210.out 3).trans rfl; have hfz33_0 := Zd BK210.out 0; have hfz33_1 := Zd BK210.out 1; have hfz33_2 := Zd BK210.out 2; have hfz33_3 := Zd BK210.out 3) | (go_at_call 62; (with_reducible refine (Zt1.calls t211 (wrap64 ((rd l1 x13_1) - a0_0)) false _ A26.out).mono ?_); rintro e w' ⟨rfl, ⟨nd, rfl⟩⟩))
                    go_ret
                    exact ⟨_, by first | rfl | (simp [Zu, Zt] <;> rfl) | (simp [*, Zu, Zt] <;> rfl), by (with_reducible repeat (first | apply Kd.R_alloc | apply Kd.R_drewN | apply Kd.R_drew)); exact HO217.out, by repeat (first | (with_reducible first | exact HB.out | apply Zh | apply Zk | apply Zg | refine Ze ?_ GE210.out) | exact HB.out)⟩
              · rw [if_neg c21] at H
                exact absurd H (by simp)
          · rw [if_neg c9] at H
            exact absurd H (by simp)
        · rw [if_neg c8] at H
          exact absurd H (by simp)
      · rw [if_neg c7] at H
        have c7b0 : decide (x13_1 < (l1.length : Int)) = false := decide_eq_false c7
        clear c7
        obtain rfl := Option.some.inj H
        go_wp2
        go_ret
        exact ⟨_, by first | rfl | (simp [Zu, Zt] <;> rfl) | (simp [*, Zu, Zt] <;> rfl), by (with_reducible repeat (first | apply Kd.R_alloc | apply Kd.R_drewN | apply Kd.R_drew)); exact HO_6.out, by repeat (first | (with_reducible first | exact HB.out | apply Zh | apply Zk | apply Zg | refine Ze ?_ GE210.out) | exact HB.out)⟩
end Go.Proofs.Ytnjfcbhbebokeaa.PAheadClears
