-- Printed by a turn of a template of the kit, and shortened: remarks and what nothing here uses are left out.
import Derived.Test.YtnjfcbhbebokeaaQPAheadClearsx0
import Derived.Test.YtnjfcbhbebokeaaQPAheadClearsx3
namespace Go.Proofs.Ytnjfcbhbebokeaa.PAheadClears
open Go.RowKit Go.Proofs.YtnjfcbhbebokeaaW.PrintWords Go.Proofs.YtnjfcbhbebokeaaW.PrintLast Go.Proofs.YtnjfcbhbebokeaaW.PrintMore
attribute [local go_sem] max2_int min2_int max_two min_two max_three min_three max_four min_four
set_option linter.unusedVariables false
set_option linter.unusedSimpArgs false
mutual
def Zn1.l0 : Nat → List Int → List (S38) → Int → Int → Int → Int → Int → List (S38) → Option (Bool)
  | 0, _, _, _, _, _, _, _, _ => none
  | k + 1, x1, x9, x10, x11, x118000, x118001, x118002, x118003 => if x11 < x10 then (if 0 ≤ x11 then (if x11 < (x9.length : Int) then (Zn1.l1 k x1 x11 x9 x10 x11 x11 0 x118000 x118001 x118002 x118003 ((Zb x9 x11).f0) ((Zb x9 x11).f1)) else (none)) else (none)) else (some true)
def Zn1.l1 : Nat → List Int → Int → List (S38) → Int → Int → Int → Int → Int → Int → Int → List (S38) → Int → List Int → Option (Bool)
  | 0, _, _, _, _, _, _, _, _, _, _, _, _, _ => none
  | k + 1, x1, x5, x9, x10, x11, x16, x17, x118000, x118001, x118002, x118003, x120000, x120001 => if x17 < x16 then (if 0 ≤ x17 then (if x17 < (x118003.length : Int) then (if ((Zb x118003 x17).f0) = x120000 then (if 0 ≤ x5 then (if x5 < (x1.length : Int) then (if x17 < (x1.length : Int) then (if (Go.bits .and .u32 (rd x1 x5) (rd x1 x17)) = 0 then (Zn1.l1 k x1 x5 x9 x10 x11 x16 (wrap64 (x17 + 1)) x118000 x118001 x118002 x118003 x120000 x120001) else (some false)) else (none)) else (none)) else (none)) else (Zn1.l1 k x1 x5 x9 x10 x11 x16 (wrap64 (x17 + 1)) x118000 x118001 x118002 x118003 x120000 x120001)) else (none)) else (none)) else (Zn1.l0 k x1 x9 x10 (wrap64 (x11 + 1)) x118000 x118001 x118002 x118003)
end
def Zn1.f (k : Nat) (a0_0 : Int) (a0_1 : Int) (a0_2 : Int) (l0_3 : List (S38)) (l1 : List Int) : Option (Bool) := Zn1.l0 k l1 l0_3 (l0_3.length : Int) 0 a0_0 a0_1 a0_2 l0_3
theorem Zn1.mono_l : ∀ k, (∀ y0 y1 y2 y3 y4 y5 y6 y7, LeO (Zn1.l0 k y0 y1 y2 y3 y4 y5 y6 y7) (Zn1.l0 (k + 1) y0 y1 y2 y3 y4 y5 y6 y7)) ∧ (∀ y0 y1 y2 y3 y4 y5 y6 y7 y8 y9 y10 y11 y12, LeO (Zn1.l1 k y0 y1 y2 y3 y4 y5 y6 y7 y8 y9 y10 y11 y12) (Zn1.l1 (k + 1) y0 y1 y2 y3 y4 y5 y6 y7 y8 y9 y10 y11 y12))
  | 0 => ⟨fun _ _ _ _ _ _ _ _ r h => by simp [Zn1.l0] at h, fun _ _ _ _ _ _ _ _ _ _ _ _ _ r h => by simp [Zn1.l1] at h⟩
  | k + 1 => by
    obtain ⟨ih0, ih1⟩ := Zn1.mono_l k
    refine ⟨?_, ?_⟩
    · intro y0 y1 y2 y3 y4 y5 y6 y7
      unfold Zn1.l0
      repeat' first
      | (with_reducible exact ih0 _ _ _ _ _ _ _ _)
      | (with_reducible exact ih1 _ _ _ _ _ _ _ _ _ _ _ _ _)
      | (with_reducible exact LeO.refl _)
      | (with_reducible exact LeO.none _)
      | (with_reducible refine LeO.ite ?_ ?_)
      | (with_reducible refine LeO.bind ?_ (fun _ => ?_))
      | exact ih0 _ _ _ _ _ _ _ _
      | exact ih1 _ _ _ _ _ _ _ _ _ _ _ _ _
      | exact LeO.none _
      | refine LeO.ite ?_ ?_
      | refine LeO.bind ?_ (fun _ => ?_)
    · intro y0 y1 y2 y3 y4 y5 y6 y7 y8 y9 y10 y11 y12
      unfold Zn1.l1
      repeat' first
      | (with_reducible exact ih0 _ _ _ _ _ _ _ _)
      | (with_reducible exact ih1 _ _ _ _ _ _ _ _ _ _ _ _ _)
      | (with_reducible exact LeO.refl _)
      | (with_reducible exact LeO.none _)
      | (with_reducible refine LeO.ite ?_ ?_)
      | (with_reducible refine LeO.bind ?_ (fun _ => ?_))
      | exact ih0 _ _ _ _ _ _ _ _
      | exact ih1 _ _ _ _ _ _ _ _ _ _ _ _ _
      | exact LeO.none _
      | refine LeO.ite ?_ ?_
      | refine LeO.bind ?_ (fun _ => ?_)
theorem Zn1.mono : ∀ a0 a1 a2 a3 a4 k, LeO (Zn1.f k a0 a1 a2 a3 a4) (Zn1.f (k + 1) a0 a1 a2 a3 a4) := by
  intro a0 a1 a2 a3 a4 k
  obtain ⟨ih0, ih1⟩ := Zn1.mono_l k
  unfold Zn1.f
  repeat' first
      | (with_reducible exact ih0 _ _ _ _ _ _ _ _)
      | (with_reducible exact ih1 _ _ _ _ _ _ _ _ _ _ _ _ _)
      | (with_reducible exact LeO.refl _)
      | (with_reducible exact LeO.none _)
      | (with_reducible refine LeO.ite ?_ ?_)
      | (with_reducible refine LeO.bind ?_ (fun _ => ?_))
      | exact ih0 _ _ _ _ _ _ _ _
      | exact ih1 _ _ _ _ _ _ _ _ _ _ _ _ _
      | exact LeO.none _
      | refine LeO.ite ?_ ?_
      | refine LeO.bind ?_ (fun _ => ?_)
set_option maxHeartbeats 8000000 in
set_option maxRecDepth 100000 in
theorem Zn1.calls (k : Nat) (a0_0 : Int) (a0_1 : Int) (a0_2 : Int) (A0_3 : Option Addr) (c0_3 : Nat) (l0_3 : List (S38)) (A1 : Option Addr) (c1 : Nat) (l1 : List Int) (r : Bool) (w : World) (hr0_3 : Kd.C k38 w A0_3 l0_3.length l0_3) (hc0_3 : l0_3.length ≤ c0_3) (hr1 : Kd.C (Kd.int .u32) w A1 l1.length l1) (hc1 : l1.length ≤ c1) (h : Zn1.f k a0_0 a0_1 a0_2 l0_3 l1 = some r) :
    Calls Try.prog 64 #[.agg #[.int .i64 a0_0, .int .i64 a0_1, .int .i64 a0_2, .slice A0_3 l0_3.length c0_3], .slice A1 l1.length c1] w fun e w' => e = .returned (.bool r) ∧ Below w.heap.size w w' := by
 (have hu24 := Try.underlying24); (have hu38 := Try.underlying38); (have HR0_3 := Za.mk hr0_3); (have HC0_3 := Za.mk hc0_3); (clear hr0_3 hc0_3); (have HR1 := Za.mk hr1); (have HC1 := Za.mk hc1); (clear hr1 hc1); (have HB := Za.mk (Below.refl w.heap.size w)); (have H : (Zn1.l0 k l1 l0_3 (l0_3.length : Int) 0 a0_0 a0_1 a0_2 l0_3) = some r := h); (clear h); (have H' := Za.mk H); (clear H)
 go_enter Try.func64, Try.ntmps64
 go_wp2_with (first | ((with_reducible refine Zb1 (N := 2) rfl ?_); refine Zc1 ?hg (N := 2) ?hd (cs := #[.int .i64 a0_0, .int .i64 a0_1, .int .i64 a0_2, .slice A0_3 l0_3.length c0_3]) (t := 24) ?hr ?_; (case hd => rfl); (case hg => rfl); (case hr => first | (go_simp; done) | (go_simp; rfl)); intro gb117 hg w3 hbox hb; have n0_ := Za.mk (Zr (by repeat (first | (with_reducible first | exact HB.out | apply Zh | apply Zk | apply Zg) | exact HB.out)) hb); have n1_ := Za.mk (hbox); have n2_ := Za.mk ((by rw [hg]; exact (Zo (by repeat (first | (with_reducible first | exact HB.out | apply Zh | apply Zk | apply Zg) | exact HB.out))) : w.heap.size ≤ gb117)); have n3_ := Za.mk ((by rw [hg]; exact (Zo (by repeat (first | (with_reducible first | exact HB.out | apply Zh | apply Zk | apply Zg) | exact HB.out))) : w.heap.size ≤ gb117)); clear HB; have HB := n0_; have BK117 := n1_; have GW117 := n2_; have GE117 := n3_; clear n0_ n1_ n2_ n3_; clear hb hbox hg; have hcz4_0 : w3.cell? ⟨gb117, 0, none⟩ = some (.int .i64 a0_0) := (Zc BK117.out 0).trans rfl; have hcz4_1 : w3.cell? ⟨gb117, 1, none⟩ = some (.int .i64 a0_1) := (Zc BK117.out 1).trans rfl; have hcz4_2 : w3.cell? ⟨gb117, 2, none⟩ = some (.int .i64 a0_2) := (Zc BK117.out 2).trans rfl; have hcz4_3 : w3.cell? ⟨gb117, 3, none⟩ = some (.slice A0_3 l0_3.length c0_3) := (Zc BK117.out 3).trans rfl; have hfz4_0 := Zd BK117.out 0; have hfz4_1 := Zd BK117.out 1; have hfz4_2 := Zd BK117.out 2; have hfz4_3 := Zd BK117.out 3))
 repeat (go_quiet (first | ((with_reducible refine Zb1 (N := 2) rfl ?_); refine Zc1 ?hg (N := 2) ?hd (cs := #[.int .i64 a0_0, .int .i64 a0_1, .int .i64 a0_2, .slice A0_3 l0_3.length c0_3]) (t := 24) ?hr ?_; (case hd => rfl); (case hg => rfl); (case hr => first | (go_simp; done) | (go_simp; rfl)); intro gb117 hg w3 hbox hb; have n0_ := Za.mk (Zr (by repeat (first | (with_reducible first | exact HB.out | apply Zh | apply Zk | apply Zg) | exact HB.out)) hb); have n1_ := Za.mk (hbox); have n2_ := Za.mk ((by rw [hg]; exact (Zo (by repeat (first | (with_reducible first | exact HB.out | apply Zh | apply Zk | apply Zg) | exact HB.out))) : w.heap.size ≤ gb117)); have n3_ := Za.mk ((by rw [hg]; exact (Zo (by repeat (first | (with_reducible first | exact HB.out | apply Zh | apply Zk | apply Zg) | exact HB.out))) : w.heap.size ≤ gb117)); clear HB; have HB := n0_; have BK117 := n1_; have GW117 := n2_; have GE117 := n3_; clear n0_ n1_ n2_ n3_; clear hb hbox hg; have hcz4_0 : w3.cell? ⟨gb117, 0, none⟩ = some (.int .i64 a0_0) := (Zc BK117.out 0).trans rfl; have hcz4_1 : w3.cell? ⟨gb117, 1, none⟩ = some (.int .i64 a0_1) := (Zc BK117.out 1).trans rfl; have hcz4_2 : w3.cell? ⟨gb117, 2, none⟩ = some (.int .i64 a0_2) := (Zc BK117.out 2).trans rfl; have hcz4_3 : w3.cell? ⟨gb117, 3, none⟩ = some (.slice A0_3 l0_3.length c0_3) := (Zc BK117.out 3).trans rfl; have hfz4_0 := Zd BK117.out 0; have hfz4_1 := Zd BK117.out 1; have hfz4_2 := Zd BK117.out 2; have hfz4_3 := Zd BK117.out 3)); try go_wp2_with (first | ((with_reducible refine Zb1 (N := 2) rfl ?_); refine Zc1 ?hg (N := 2) ?hd (cs := #[.int .i64 a0_0, .int .i64 a0_1, .int .i64 a0_2, .slice A0_3 l0_3.length c0_3]) (t := 24) ?hr ?_; (case hd => rfl); (case hg => rfl); (case hr => first | (go_simp; done) | (go_simp; rfl)); intro gb117 hg w3 hbox hb; have n0_ := Za.mk (Zr (by repeat (first | (with_reducible first | exact HB.out | apply Zh | apply Zk | apply Zg) | exact HB.out)) hb); have n1_ := Za.mk (hbox); have n2_ := Za.mk ((by rw [hg]; exact (Zo (by repeat (first | (with_reducible first | exact HB.out | apply Zh | apply Zk | apply Zg) | exact HB.out))) : w.heap.size ≤ gb117)); have n3_ := Za.mk ((by rw [hg]; exact (Zo (by repeat (first | (with_reducible first | exact HB.out | apply Zh | apply Zk | apply Zg) | exact HB.out))) : w.heap.size ≤ gb117)); clear HB; have HB := n0_; have BK117 := n1_; have GW117 := n2_; have GE117 := n3_; clear n0_ n1_ n2_ n3_; clear hb hbox hg; have hcz4_0 : w3.cell? ⟨gb117, 0, none⟩ = some (.int .i64 a0_0) := (Zc BK117.out 0).trans rfl; have hcz4_1 : w3.cell? ⟨gb117, 1, none⟩ = some (.int .i64 a0_1) := (Zc BK117.out 1).trans rfl; have hcz4_2 : w3.cell? ⟨gb117, 2, none⟩ = some (.int .i64 a0_2) := (Zc BK117.out 2).trans rfl; have hcz4_3 : w3.cell? ⟨gb117, 3, none⟩ = some (.slice A0_3 l0_3.length c0_3) := (Zc BK117.out 3).trans rfl; have hfz4_0 := Zd BK117.out 0; have hfz4_1 := Zd BK117.out 1; have hfz4_2 := Zd BK117.out 2; have hfz4_3 := Zd BK117.out 3)))
 go_loopg [11] k (fun kq v11 w' => ∃ (x11_1 : Int), v11 = .int .i64 x11_1 ∧ Za (Zn1.l0 kq l1 l0_3 (l0_3.length : Int) x11_1 a0_0 a0_1 a0_2 l0_3 = some r) ∧ Za (kq ≤ k) ∧ Za (w'.heap[gb117]? = some (.cells #[.int .i64 a0_0, .int .i64 a0_1, .int .i64 a0_2, (.slice A0_3 l0_3.length c0_3)] 24 (0, 0))) ∧ Za (Below w.heap.size w w'))
 case atStart => exact ⟨(0), (by first | rfl | (simp; done) | (simp [*]; done)), H', ⟨Nat.le_refl _⟩, ⟨by (with_reducible repeat (first | refine Zj ?_ _ | refine Zf ?_ | refine Zi ?_ _)); exact BK117.out⟩, ⟨by repeat (first | (with_reducible first | exact HB.out | apply Zh | apply Zk | apply Zg | refine Ze ?_ GE117.out) | exact HB.out)⟩⟩
 case round =>
  (clear H'); (try clear c1); (try clear p2); (try clear hcz4_0); (try clear hcz4_1); (try clear hcz4_2); (try clear hcz4_3); (try clear hfz4_0); (try clear hfz4_1); (try clear hfz4_2); (try clear hfz4_3); (obtain ⟨x11_1, rfl, HA, HK1, BK117, HB⟩ := hrel)
  cases gk with
  | zero => exact absurd HA.out (by simp [Zn1.l0])
  | succ k1 =>
   (have H := HA.out); (clear HA); (simp only [Zn1.l0] at H)
   by_cases c5 : x11_1 < (l0_3.length : Int)
   rotate_left
   ·rw [if_neg c5] at H
    (have c5b0 : decide (x11_1 < (l0_3.length : Int)) = false := decide_eq_false c5); (clear c5); (obtain rfl := Option.some.inj H)
    go_wp2
    repeat (go_quiet (fail); try go_wp2)
    go_ret
    exact ⟨by first | rfl | (simp [Zu, Zt] <;> rfl) | (simp [*, Zu, Zt] <;> rfl), by repeat (first | (with_reducible first | exact HB.out | apply Zh | apply Zk | apply Zg | refine Ze ?_ GE117.out) | exact HB.out)⟩
   (rw [if_pos c5] at H); (have c5b0 : decide (x11_1 < (l0_3.length : Int)) = true := decide_eq_true c5); (clear c5)
   by_cases c6 : 0 ≤ x11_1
   rotate_left
   ·rw [if_neg c6] at H
    exact absurd H (by simp)
   (rw [if_pos c6] at H); (have c6b0 : decide (0 ≤ x11_1) = true := decide_eq_true c6); (clear c6)
   by_cases c7 : x11_1 < (l0_3.length : Int)
   rotate_left
   ·rw [if_neg c7] at H
    exact absurd H (by simp)
   (rw [if_pos c7] at H); (have c7b0 : decide (x11_1 < (l0_3.length : Int)) = true := decide_eq_true c7); (clear c7); (have H' := Za.mk H); (clear H); (have p118 : 0 ≤ (x11_1 : Int) := of_decide_eq_true (by assumption)); (have q118 : x11_1 < (l0_3.length : Int) := of_decide_eq_true (by assumption)); (obtain ⟨ad118, A118_1, c118_1, e118, hx118_0, hx118_1, hl118_1, hi118_1⟩ := at_T38 HR0_3.out x11_1 p118 q118); (cases e118); (replace hx118_0 := (HB.out.cell (World.block_lt_of_cell? w _ hx118_0)).trans hx118_0); (replace hx118_1 := (HB.out.cell (World.block_lt_of_cell? w _ hx118_1)).trans hx118_1); (have HR118_1 := Za.mk hi118_1); (have HC118_1 := Za.mk hl118_1); (clear hi118_1 hl118_1); (replace p118 := eq_true p118); (replace q118 := eq_true q118)
   go_wp2_with (first | ((with_reducible refine Zb1 (N := 6) rfl ?_); refine Zc1 ?hg (N := 6) ?hd (cs := #[.int .i64 0, .slice none 0 0]) (t := 38) ?hr ?_; (case hd => rfl); (case hg => rfl); (case hr => first | (go_simp; done) | (go_simp; rfl)); intro gb119 hg w8 hbox hb; have n0_ := Za.mk (Zp (g := gb117) (o := .cells #[.int .i64 a0_0, .int .i64 a0_1, .int .i64 a0_2, .slice (some ad118) l0_3.length c0_3] 24 (0, 0)) (by (with_reducible repeat (first | refine Zj ?_ _ | refine Zf ?_ | refine Zi ?_ _)); exact BK117.out) hb); have n1_ := Za.mk (Zr (by repeat (first | (with_reducible first | exact HB.out | apply Zh | apply Zk | apply Zg | refine Ze ?_ GE117.out) | exact HB.out)) hb); have n2_ := Za.mk (hbox); have n3_ := Za.mk ((by rw [hg]; exact (Zo (by repeat (first | (with_reducible first | exact HB.out | apply Zh | apply Zk | apply Zg | refine Ze ?_ GE117.out) | exact HB.out))) : w.heap.size ≤ gb119)); have n4_ := Za.mk ((by rw [hg]; exact (Zo (by repeat (first | (with_reducible first | exact HB.out | apply Zh | apply Zk | apply Zg | refine Ze ?_ GE117.out) | exact HB.out))) : w.heap.size ≤ gb119)); have n5_ := Za.mk ((by rw [hg]; exact Nat.ne_of_lt (Zx (g := gb117) (o := .cells #[.int .i64 a0_0, .int .i64 a0_1, .int .i64 a0_2, .slice (some ad118) l0_3.length c0_3] 24 (0, 0)) (by (with_reducible repeat (first | refine Zj ?_ _ | refine Zf ?_ | refine Zi ?_ _)); exact BK117.out)) : gb117 ≠ gb119)); have n6_ := Za.mk ((by rw [hg]; exact Nat.ne_of_gt (Zx (g := gb117) (o := .cells #[.int .i64 a0_0, .int .i64 a0_1, .int .i64 a0_2, .slice (some ad118) l0_3.length c0_3] 24 (0, 0)) (by (with_reducible repeat (first | refine Zj ?_ _ | refine Zf ?_ | refine Zi ?_ _)); exact BK117.out)) : gb119 ≠ gb117)); clear BK117; clear HB; have BK117 := n0_; have HB := n1_; have BK119 := n2_; have GW119 := n3_; have GE119 := n4_; have NB117_119 := n5_; have NB119_117 := n6_; clear n0_ n1_ n2_ n3_ n4_ n5_ n6_; clear hb hbox hg; have hnb9 := NB119_117.out; have hnc9 := NB117_119.out; have hcz10_0 : w8.cell? ⟨gb119, 0, none⟩ = some (.int .i64 0) := (Zc BK119.out 0).trans rfl; have hcz10_1 : w8.cell? ⟨gb119, 1, none⟩ = some (.slice none 0 0) := (Zc BK119.out 1).trans rfl; have hfz10_0 := Zd BK119.out 0; have hfz10_1 := Zd BK119.out 1))
   repeat (go_quiet (first | ((with_reducible refine Zb1 (N := 6) rfl ?_); refine Zc1 ?hg (N := 6) ?hd (cs := #[.int .i64 0, .slice none 0 0]) (t := 38) ?hr ?_; (case hd => rfl); (case hg => rfl); (case hr => first | (go_simp; done) | (go_simp; rfl)); intro gb119 hg w8 hbox hb; have n0_ := Za.mk (Zp (g := gb117) (o := .cells #[.int .i64 a0_0, .int .i64 a0_1, .int .i64 a0_2, .slice (some ad118) l0_3.length c0_3] 24 (0, 0)) (by (with_reducible repeat (first | refine Zj ?_ _ | refine Zf ?_ | refine Zi ?_ _)); exact BK117.out) hb); have n1_ := Za.mk (Zr (by repeat (first | (with_reducible first | exact HB.out | apply Zh | apply Zk | apply Zg | refine Ze ?_ GE117.out) | exact HB.out)) hb); have n2_ := Za.mk (hbox); have n3_ := Za.mk ((by rw [hg]; exact (Zo (by repeat (first | (with_reducible first | exact HB.out | apply Zh | apply Zk | apply Zg | refine Ze ?_ GE117.out) | exact HB.out))) : w.heap.size ≤ gb119)); have n4_ := Za.mk ((by rw [hg]; exact (Zo (by repeat (first | (with_reducible first | exact HB.out | apply Zh | apply Zk | apply Zg | refine Ze ?_ GE117.out) | exact HB.out))) : w.heap.size ≤ gb119)); have n5_ := Za.mk ((by rw [hg]; exact Nat.ne_of_lt (Zx (g := gb117) (o := .cells #[.int .i64 a0_0, .int .i64 a0_1, .int .i64 a0_2, .slice (some ad118) l0_3.length c0_3] 24 (0, 0)) (by (with_reducible repeat (first | refine Zj ?_ _ | refine Zf ?_ | refine Zi ?_ _)); exact BK117.out)) : gb117 ≠ gb119)); have n6_ := Za.mk ((by rw [hg]; exact Nat.ne_of_gt (Zx (g := gb117) (o := .cells #[.int .i64 a0_0, .int .i64 a0_1, .int .i64 a0_2, .slice (some ad118) l0_3.length c0_3] 24 (0, 0)) (by (with_reducible repeat (first | refine Zj ?_ _ | refine Zf ?_ | refine Zi ?_ _)); exact BK117.out)) : gb119 ≠ gb117)); clear BK117; clear HB; have BK117 := n0_; have HB := n1_; have BK119 := n2_; have GW119 := n3_; have GE119 := n4_; have NB117_119 := n5_; have NB119_117 := n6_; clear n0_ n1_ n2_ n3_ n4_ n5_ n6_; clear hb hbox hg; have hnb9 := NB119_117.out; have hnc9 := NB117_119.out; have hcz10_0 : w8.cell? ⟨gb119, 0, none⟩ = some (.int .i64 0) := (Zc BK119.out 0).trans rfl; have hcz10_1 : w8.cell? ⟨gb119, 1, none⟩ = some (.slice none 0 0) := (Zc BK119.out 1).trans rfl; have hfz10_0 := Zd BK119.out 0; have hfz10_1 := Zd BK119.out 1)); try go_wp2_with (first | ((with_reducible refine Zb1 (N := 6) rfl ?_); refine Zc1 ?hg (N := 6) ?hd (cs := #[.int .i64 0, .slice none 0 0]) (t := 38) ?hr ?_; (case hd => rfl); (case hg => rfl); (case hr => first | (go_simp; done) | (go_simp; rfl)); intro gb119 hg w8 hbox hb; have n0_ := Za.mk (Zp (g := gb117) (o := .cells #[.int .i64 a0_0, .int .i64 a0_1, .int .i64 a0_2, .slice (some ad118) l0_3.length c0_3] 24 (0, 0)) (by (with_reducible repeat (first | refine Zj ?_ _ | refine Zf ?_ | refine Zi ?_ _)); exact BK117.out) hb); have n1_ := Za.mk (Zr (by repeat (first | (with_reducible first | exact HB.out | apply Zh | apply Zk | apply Zg | refine Ze ?_ GE117.out) | exact HB.out)) hb); have n2_ := Za.mk (hbox); have n3_ := Za.mk ((by rw [hg]; exact (Zo (by repeat (first | (with_reducible first | exact HB.out | apply Zh | apply Zk | apply Zg | refine Ze ?_ GE117.out) | exact HB.out))) : w.heap.size ≤ gb119)); have n4_ := Za.mk ((by rw [hg]; exact (Zo (by repeat (first | (with_reducible first | exact HB.out | apply Zh | apply Zk | apply Zg | refine Ze ?_ GE117.out) | exact HB.out))) : w.heap.size ≤ gb119)); have n5_ := Za.mk ((by rw [hg]; exact Nat.ne_of_lt (Zx (g := gb117) (o := .cells #[.int .i64 a0_0, .int .i64 a0_1, .int .i64 a0_2, .slice (some ad118) l0_3.length c0_3] 24 (0, 0)) (by (with_reducible repeat (first | refine Zj ?_ _ | refine Zf ?_ | refine Zi ?_ _)); exact BK117.out)) : gb117 ≠ gb119)); have n6_ := Za.mk ((by rw [hg]; exact Nat.ne_of_gt (Zx (g := gb117) (o := .cells #[.int .i64 a0_0, .int .i64 a0_1, .int .i64 a0_2, .slice (some ad118) l0_3.length c0_3] 24 (0, 0)) (by (with_reducible repeat (first | refine Zj ?_ _ | refine Zf ?_ | refine Zi ?_ _)); exact BK117.out)) : gb119 ≠ gb117)); clear BK117; clear HB; have BK117 := n0_; have HB := n1_; have BK119 := n2_; have GW119 := n3_; have GE119 := n4_; have NB117_119 := n5_; have NB119_117 := n6_; clear n0_ n1_ n2_ n3_ n4_ n5_ n6_; clear hb hbox hg; have hnb9 := NB119_117.out; have hnc9 := NB117_119.out; have hcz10_0 : w8.cell? ⟨gb119, 0, none⟩ = some (.int .i64 0) := (Zc BK119.out 0).trans rfl; have hcz10_1 : w8.cell? ⟨gb119, 1, none⟩ = some (.slice none 0 0) := (Zc BK119.out 1).trans rfl; have hfz10_0 := Zd BK119.out 0; have hfz10_1 := Zd BK119.out 1)))
   go_loopg [17] k1 (fun kq v17 w' => ∃ (x17_2 : Int), v17 = .int .i64 x17_2 ∧ Za (Zn1.l1 kq l1 x11_1 l0_3 (l0_3.length : Int) x11_1 x11_1 x17_2 a0_0 a0_1 a0_2 l0_3 ((Zb l0_3 x11_1).f0) ((Zb l0_3 x11_1).f1) = some r) ∧ Za (kq ≤ k1) ∧ Za (w'.heap[gb117]? = some (.cells #[.int .i64 a0_0, .int .i64 a0_1, .int .i64 a0_2, (.slice (some ad118) l0_3.length c0_3)] 24 (0, 0))) ∧ Za (w'.heap[gb119]? = some (.cells #[.int .i64 ((Zb l0_3 x11_1).f0), (.slice A118_1 ((Zb l0_3 x11_1).f1).length c118_1)] 38 (0, 0))) ∧ Za (Below w.heap.size w w'))
   case atStart => exact ⟨(0), (by first | rfl | (simp; done) | (simp [*]; done)), H', ⟨Nat.le_refl _⟩, ⟨by (with_reducible repeat (first | refine Zj ?_ _ | refine Zf ?_ | refine Zi ?_ _)); refine Zd1 ?_ NB117_119.out _; (with_reducible repeat (first | refine Zj ?_ _ | refine Zf ?_ | refine Zi ?_ _)); refine Zd1 ?_ NB117_119.out _; (with_reducible repeat (first | refine Zj ?_ _ | refine Zf ?_ | refine Zi ?_ _)); exact BK117.out⟩, ⟨by (with_reducible repeat (first | refine Zj ?_ _ | refine Zf ?_ | refine Zi ?_ _)); refine blk_put (cs := #[.int .i64 ((Zb l0_3 x11_1).f0), .slice none 0 0]) ?_ 1 _ rfl; (with_reducible repeat (first | refine Zj ?_ _ | refine Zf ?_ | refine Zi ?_ _)); refine blk_put (cs := #[.int .i64 0, .slice none 0 0]) ?_ 0 _ rfl; (with_reducible repeat (first | refine Zj ?_ _ | refine Zf ?_ | refine Zi ?_ _)); exact BK119.out⟩, ⟨by repeat (first | (with_reducible first | exact HB.out | apply Zh | apply Zk | apply Zg | refine Ze ?_ GE117.out | refine Ze ?_ GE119.out) | exact HB.out)⟩⟩
   case round =>
    (clear H'); (try clear c1); (try clear p1); (try clear q1); (try clear hx1); (try clear p2); (try clear c5); (try clear c5b0); (try clear c6); (try clear c6b0); (try clear c7); (try clear c7b0); (try clear c9); (try clear hcz10_0); (try clear hcz10_1); (try clear hcz4_0); (try clear hcz4_1); (try clear hcz4_2); (try clear hcz4_3); (try clear hfz10_0); (try clear hfz10_1); (try clear hfz4_0); (try clear hfz4_1); (try clear hfz4_2); (try clear hfz4_3); (try clear hx118_0); (try clear hx118_1); (try clear p118); (try clear p2); (try clear q118); (obtain ⟨x17_2, rfl, HA, HK2, BK117, BK119, HB⟩ := hrel)
    cases gk with
    | zero => exact absurd HA.out (by simp [Zn1.l1])
    | succ k2 =>
     (have H := HA.out); (clear HA); (simp only [Zn1.l1] at H)
     by_cases c11 : x17_2 < x11_1
     rotate_left
     ·rw [if_neg c11] at H
      (have c11b0 : decide (x17_2 < x11_1) = false := decide_eq_false c11); (clear c11); (have H' := Za.mk H); (clear H)
      go_wp2
      repeat (go_quiet (fail); try go_wp2)
      go_roundg k2
      case measure => have := HK1.out; have := HK2.out; omega
      case rel => exact ⟨(wrap64 (x11_1 + 1)), (by first | rfl | (simp; done) | (simp [*]; done)), H', ⟨by have := HK1.out; have := HK2.out; omega⟩, ⟨by (with_reducible repeat (first | refine Zj ?_ _ | refine Zf ?_ | refine Zi ?_ _)); exact BK117.out⟩, ⟨by repeat (first | (with_reducible first | exact HB.out | apply Zh | apply Zk | apply Zg | refine Ze ?_ GE117.out | refine Ze ?_ GE119.out) | exact HB.out)⟩⟩
     (rw [if_pos c11] at H); (have c11b0 : decide (x17_2 < x11_1) = true := decide_eq_true c11); (clear c11)
     by_cases c12 : 0 ≤ x17_2
     rotate_left
     ·rw [if_neg c12] at H
      exact absurd H (by simp)
     (rw [if_pos c12] at H); (have c12b0 : decide (0 ≤ x17_2) = true := decide_eq_true c12); (clear c12)
     by_cases c13 : x17_2 < (l0_3.length : Int)
     rotate_left
     ·rw [if_neg c13] at H
      exact absurd H (by simp)
     (rw [if_pos c13] at H); (have c13b0 : decide (x17_2 < (l0_3.length : Int)) = true := decide_eq_true c13); (clear c13)
     by_cases c14 : ((Zb l0_3 x17_2).f0) = ((Zb l0_3 x11_1).f0)
     rotate_left
     ·rw [if_neg c14] at H
      (have c14b0 : (((Zb l0_3 x17_2).f0) == ((Zb l0_3 x11_1).f0)) = false := beq_eq_false_iff_ne.mpr c14); (have c14b1 : (((Zb l0_3 x17_2).f0) != ((Zb l0_3 x11_1).f0)) = true := bne_iff_ne.mpr c14); (have H' := Za.mk H); (clear H); (have hnb25 := NB117_119.out); (have hnc25 := NB119_117.out); (have hcz26_0 : wr.cell? ⟨gb117, 0, none⟩ = some (.int .i64 a0_0) := (Zc BK117.out 0).trans rfl); (have hcz26_1 : wr.cell? ⟨gb117, 1, none⟩ = some (.int .i64 a0_1) := (Zc BK117.out 1).trans rfl); (have hcz26_2 : wr.cell? ⟨gb117, 2, none⟩ = some (.int .i64 a0_2) := (Zc BK117.out 2).trans rfl); (have hcz26_3 : wr.cell? ⟨gb117, 3, none⟩ = some (.slice (some ad118) l0_3.length c0_3) := (Zc BK117.out 3).trans rfl); (have hfz26_0 := Zd BK117.out 0); (have hfz26_1 := Zd BK117.out 1); (have hfz26_2 := Zd BK117.out 2); (have hfz26_3 := Zd BK117.out 3); (have p120 : 0 ≤ (x17_2 : Int) := of_decide_eq_true (by assumption)); (have q120 : x17_2 < (l0_3.length : Int) := of_decide_eq_true (by assumption)); (obtain ⟨ad120, A120_1, c120_1, e120, hx120_0, hx120_1, hl120_1, hi120_1⟩ := at_T38 HR0_3.out x17_2 p120 q120); (obtain rfl : ad118 = ad120 := (by injection e120)); (replace hx120_0 := (HB.out.cell (World.block_lt_of_cell? w _ hx120_0)).trans hx120_0); (replace hx120_1 := (HB.out.cell (World.block_lt_of_cell? w _ hx120_1)).trans hx120_1); (have HR120_1 := Za.mk hi120_1); (have HC120_1 := Za.mk hl120_1); (clear hi120_1 hl120_1); (replace p120 := eq_true p120); (replace q120 := eq_true q120); (have hcz27_0 : wr.cell? ⟨gb119, 0, none⟩ = some (.int .i64 ((Zb l0_3 x11_1).f0)) := (Zc BK119.out 0).trans rfl)
      (have hcz27_1 : wr.cell? ⟨gb119, 1, none⟩ = some (.slice A118_1 ((Zb l0_3 x11_1).f1).length c118_1) := (Zc BK119.out 1).trans rfl); (have hfz27_0 := Zd BK119.out 0); (have hfz27_1 := Zd BK119.out 1)
      go_wp2
      repeat (go_quiet (fail); try go_wp2)
      go_roundg k2
      case measure => have := HK1.out; have := HK2.out; omega
      case rel => exact ⟨(wrap64 (x17_2 + 1)), (by first | rfl | (simp; done) | (simp [*]; done)), H', ⟨by have := HK1.out; have := HK2.out; omega⟩, ⟨by (with_reducible repeat (first | refine Zj ?_ _ | refine Zf ?_ | refine Zi ?_ _)); exact BK117.out⟩, ⟨by (with_reducible repeat (first | refine Zj ?_ _ | refine Zf ?_ | refine Zi ?_ _)); exact BK119.out⟩, ⟨by repeat (first | (with_reducible first | exact HB.out | apply Zh | apply Zk | apply Zg | refine Ze ?_ GE117.out | refine Ze ?_ GE119.out) | exact HB.out)⟩⟩
     (rw [if_pos c14] at H); (have c14b0 : (((Zb l0_3 x17_2).f0) == ((Zb l0_3 x11_1).f0)) = true := beq_iff_eq.mpr c14); (have c14b1 : (((Zb l0_3 x17_2).f0) != ((Zb l0_3 x11_1).f0)) = false := bne_eq_false_iff_eq.mpr c14); (clear c14)
     by_cases c15 : 0 ≤ x11_1
     rotate_left
     ·rw [if_neg c15] at H
      exact absurd H (by simp)
     (rw [if_pos c15] at H); (have c15b0 : decide (0 ≤ x11_1) = true := decide_eq_true c15); (clear c15)
     by_cases c16 : x11_1 < (l1.length : Int)
     rotate_left
     ·rw [if_neg c16] at H
      exact absurd H (by simp)
     (rw [if_pos c16] at H); (have c16b0 : decide (x11_1 < (l1.length : Int)) = true := decide_eq_true c16); (clear c16)
     by_cases c17 : x17_2 < (l1.length : Int)
     rotate_left
     ·rw [if_neg c17] at H
      exact absurd H (by simp)
     (rw [if_pos c17] at H); (have c17b0 : decide (x17_2 < (l1.length : Int)) = true := decide_eq_true c17); (clear c17)
     by_cases c18 : (Go.bits .and .u32 (rd l1 x11_1) (rd l1 x17_2)) = 0
     rotate_left
     ·rw [if_neg c18] at H
      (have c18b0 : ((Go.bits .and .u32 (rd l1 x11_1) (rd l1 x17_2)) == 0) = false := beq_eq_false_iff_ne.mpr c18); (have c18b1 : ((Go.bits .and .u32 (rd l1 x11_1) (rd l1 x17_2)) != 0) = true := bne_iff_ne.mpr c18); (obtain rfl := Option.some.inj H); (have hnb22 := NB117_119.out); (have hnc22 := NB119_117.out); (have hcz23_0 : wr.cell? ⟨gb117, 0, none⟩ = some (.int .i64 a0_0) := (Zc BK117.out 0).trans rfl); (have hcz23_1 : wr.cell? ⟨gb117, 1, none⟩ = some (.int .i64 a0_1) := (Zc BK117.out 1).trans rfl); (have hcz23_2 : wr.cell? ⟨gb117, 2, none⟩ = some (.int .i64 a0_2) := (Zc BK117.out 2).trans rfl); (have hcz23_3 : wr.cell? ⟨gb117, 3, none⟩ = some (.slice (some ad118) l0_3.length c0_3) := (Zc BK117.out 3).trans rfl); (have hfz23_0 := Zd BK117.out 0); (have hfz23_1 := Zd BK117.out 1); (have hfz23_2 := Zd BK117.out 2); (have hfz23_3 := Zd BK117.out 3); (have p120 : 0 ≤ (x17_2 : Int) := of_decide_eq_true (by assumption)); (have q120 : x17_2 < (l0_3.length : Int) := of_decide_eq_true (by assumption)); (obtain ⟨ad120, A120_1, c120_1, e120, hx120_0, hx120_1, hl120_1, hi120_1⟩ := at_T38 HR0_3.out x17_2 p120 q120); (obtain rfl : ad118 = ad120 := (by injection e120)); (replace hx120_0 := (HB.out.cell (World.block_lt_of_cell? w _ hx120_0)).trans hx120_0); (replace hx120_1 := (HB.out.cell (World.block_lt_of_cell? w _ hx120_1)).trans hx120_1); (have HR120_1 := Za.mk hi120_1); (have HC120_1 := Za.mk hl120_1); (clear hi120_1 hl120_1); (replace p120 := eq_true p120); (replace q120 := eq_true q120); (have hcz24_0 : wr.cell? ⟨gb119, 0, none⟩ = some (.int .i64 ((Zb l0_3 x11_1).f0)) := (Zc BK119.out 0).trans rfl)
      (have hcz24_1 : wr.cell? ⟨gb119, 1, none⟩ = some (.slice A118_1 ((Zb l0_3 x11_1).f1).length c118_1) := (Zc BK119.out 1).trans rfl); (have hfz24_0 := Zd BK119.out 0); (have hfz24_1 := Zd BK119.out 1); (have p121 : 0 ≤ (x11_1 : Int) := of_decide_eq_true (by assumption)); (have q121 : x11_1 < (l1.length : Int) := of_decide_eq_true (by assumption)); (obtain ⟨ad121, e121, hx121_0⟩ := Kd.at_int HR1.out x11_1 p121 q121); (cases e121); (replace hx121_0 := (HB.out.cell (World.block_lt_of_cell? w _ hx121_0)).trans hx121_0); (replace p121 := eq_true p121); (replace q121 := eq_true q121); (have p122 : 0 ≤ (x17_2 : Int) := of_decide_eq_true (by assumption)); (have q122 : x17_2 < (l1.length : Int) := of_decide_eq_true (by assumption)); (obtain ⟨ad122, e122, hx122_0⟩ := Kd.at_int HR1.out x17_2 p122 q122); (obtain rfl : ad121 = ad122 := (by injection e122)); (replace hx122_0 := (HB.out.cell (World.block_lt_of_cell? w _ hx122_0)).trans hx122_0); (replace p122 := eq_true p122); (replace q122 := eq_true q122)
      go_wp2
      repeat (go_quiet (fail); try go_wp2)
      go_ret
      exact ⟨by first | rfl | (simp [Zu, Zt] <;> rfl) | (simp [*, Zu, Zt] <;> rfl), by repeat (first | (with_reducible first | exact HB.out | apply Zh | apply Zk | apply Zg | refine Ze ?_ GE117.out | refine Ze ?_ GE119.out) | exact HB.out)⟩
     (rw [if_pos c18] at H); (have c18b0 : ((Go.bits .and .u32 (rd l1 x11_1) (rd l1 x17_2)) == 0) = true := beq_iff_eq.mpr c18); (have c18b1 : ((Go.bits .and .u32 (rd l1 x11_1) (rd l1 x17_2)) != 0) = false := bne_eq_false_iff_eq.mpr c18); (clear c18); (have H' := Za.mk H); (clear H); (have hnb19 := NB117_119.out); (have hnc19 := NB119_117.out); (have hcz20_0 : wr.cell? ⟨gb117, 0, none⟩ = some (.int .i64 a0_0) := (Zc BK117.out 0).trans rfl); (have hcz20_1 : wr.cell? ⟨gb117, 1, none⟩ = some (.int .i64 a0_1) := (Zc BK117.out 1).trans rfl); (have hcz20_2 : wr.cell? ⟨gb117, 2, none⟩ = some (.int .i64 a0_2) := (Zc BK117.out 2).trans rfl); (have hcz20_3 : wr.cell? ⟨gb117, 3, none⟩ = some (.slice (some ad118) l0_3.length c0_3) := (Zc BK117.out 3).trans rfl); (have hfz20_0 := Zd BK117.out 0); (have hfz20_1 := Zd BK117.out 1); (have hfz20_2 := Zd BK117.out 2); (have hfz20_3 := Zd BK117.out 3); (have p120 : 0 ≤ (x17_2 : Int) := of_decide_eq_true (by assumption)); (have q120 : x17_2 < (l0_3.length : Int) := of_decide_eq_true (by assumption)); (obtain ⟨ad120, A120_1, c120_1, e120, hx120_0, hx120_1, hl120_1, hi120_1⟩ := at_T38 HR0_3.out x17_2 p120 q120); (obtain rfl : ad118 = ad120 := (by injection e120)); (replace hx120_0 := (HB.out.cell (World.block_lt_of_cell? w _ hx120_0)).trans hx120_0); (replace hx120_1 := (HB.out.cell (World.block_lt_of_cell? w _ hx120_1)).trans hx120_1); (have HR120_1 := Za.mk hi120_1); (have HC120_1 := Za.mk hl120_1); (clear hi120_1 hl120_1); (replace p120 := eq_true p120); (replace q120 := eq_true q120); (have hcz21_0 : wr.cell? ⟨gb119, 0, none⟩ = some (.int .i64 ((Zb l0_3 x11_1).f0)) := (Zc BK119.out 0).trans rfl)
     (have hcz21_1 : wr.cell? ⟨gb119, 1, none⟩ = some (.slice A118_1 ((Zb l0_3 x11_1).f1).length c118_1) := (Zc BK119.out 1).trans rfl); (have hfz21_0 := Zd BK119.out 0); (have hfz21_1 := Zd BK119.out 1); (have p121 : 0 ≤ (x11_1 : Int) := of_decide_eq_true (by assumption)); (have q121 : x11_1 < (l1.length : Int) := of_decide_eq_true (by assumption)); (obtain ⟨ad121, e121, hx121_0⟩ := Kd.at_int HR1.out x11_1 p121 q121); (cases e121); (replace hx121_0 := (HB.out.cell (World.block_lt_of_cell? w _ hx121_0)).trans hx121_0); (replace p121 := eq_true p121); (replace q121 := eq_true q121); (have p122 : 0 ≤ (x17_2 : Int) := of_decide_eq_true (by assumption)); (have q122 : x17_2 < (l1.length : Int) := of_decide_eq_true (by assumption)); (obtain ⟨ad122, e122, hx122_0⟩ := Kd.at_int HR1.out x17_2 p122 q122); (obtain rfl : ad121 = ad122 := (by injection e122)); (replace hx122_0 := (HB.out.cell (World.block_lt_of_cell? w _ hx122_0)).trans hx122_0); (replace p122 := eq_true p122); (replace q122 := eq_true q122)
     go_wp2
     repeat (go_quiet (fail); try go_wp2)
     go_roundg k2
     case measure => have := HK1.out; have := HK2.out; omega
     case rel => exact ⟨(wrap64 (x17_2 + 1)), (by first | rfl | (simp; done) | (simp [*]; done)), H', ⟨by have := HK1.out; have := HK2.out; omega⟩, ⟨by (with_reducible repeat (first | refine Zj ?_ _ | refine Zf ?_ | refine Zi ?_ _)); exact BK117.out⟩, ⟨by (with_reducible repeat (first | refine Zj ?_ _ | refine Zf ?_ | refine Zi ?_ _)); exact BK119.out⟩, ⟨by repeat (first | (with_reducible first | exact HB.out | apply Zh | apply Zk | apply Zg | refine Ze ?_ GE117.out | refine Ze ?_ GE119.out) | exact HB.out)⟩⟩
def grammar_Least_1.f (a0 : Int) (a1_0 : Int) (a1_1 : Int) (a1_2 : Int) (l1_3 : List (S38)) (a2_0 : Bool) (a3_0 : Int) : Option (Bool) := if a0 < a1_0 then (if a2_0 = true then (if a0 ≥ a1_0 then (if 0 ≤ (wrap64 (a0 - a1_0)) then (some ((Go.bits .and .u32 (shr .u32 a3_0 (wrap64 (a0 - a1_0))) 1) == 0)) else (none)) else (some false)) else (some true)) else (if a0 ≥ a1_0 then (if 0 ≤ (wrap64 (a0 - a1_0)) then (some ((Go.bits .and .u32 (shr .u32 a3_0 (wrap64 (a0 - a1_0))) 1) == 0)) else (none)) else (some false))
set_option maxHeartbeats 8000000 in
set_option maxRecDepth 100000 in
theorem grammar_Least_1.calls (a0 : Int) (a1_0 : Int) (a1_1 : Int) (a1_2 : Int) (A1_3 : Option Addr) (c1_3 : Nat) (l1_3 : List (S38)) (g1 : Nat) (a2_0 : Bool) (g2 : Nat) (a3_0 : Int) (g3 : Nat) (r : Bool) (w : World) (hr1_3 : Kd.C k38 w A1_3 l1_3.length l1_3) (hc1_3 : l1_3.length ≤ c1_3) (hbk1 : w.heap[g1]? = some (.cells #[.int .i64 a1_0, .int .i64 a1_1, .int .i64 a1_2, .slice A1_3 l1_3.length c1_3] 24 (0, 0))) (hbk2 : w.heap[g2]? = some (.cells #[.bool a2_0] 4 (0, 0))) (hbk3 : w.heap[g3]? = some (.cells #[.int .u32 a3_0] 28 (0, 0))) (hnb1_2 : g1 ≠ g2) (hnb1_3 : g1 ≠ g3) (hnb2_3 : g2 ≠ g3) (h : grammar_Least_1.f a0 a1_0 a1_1 a1_2 l1_3 a2_0 a3_0 = some r) :
    Calls Try.prog 71 #[.int .i64 a0, .pointer (some ⟨g1, 0, none⟩), .pointer (some ⟨g2, 0, none⟩), .pointer (some ⟨g3, 0, none⟩)] w fun e w' => e = .returned (.bool r) ∧ Drawn0 w w' := by
  have hu4 := Try.underlying4
  have hu28 := Try.underlying28
  have HR1_3 := Za.mk hr1_3
  have HC1_3 := Za.mk hc1_3
  clear hr1_3 hc1_3
  have BK1 := Za.mk hbk1
  clear hbk1
  have BK2 := Za.mk hbk2
  clear hbk2
  have BK3 := Za.mk hbk3
  clear hbk3
  have NB1_2 := Za.mk hnb1_2
  have NB2_1 := Za.mk (Ne.symm hnb1_2)
  clear hnb1_2
  have NB1_3 := Za.mk hnb1_3
  have NB3_1 := Za.mk (Ne.symm hnb1_3)
  clear hnb1_3
  have NB2_3 := Za.mk hnb2_3
  have NB3_2 := Za.mk (Ne.symm hnb2_3)
  clear hnb2_3
  have H : (if a0 < a1_0 then (if a2_0 = true then (if a0 ≥ a1_0 then (if 0 ≤ (wrap64 (a0 - a1_0)) then (some ((Go.bits .and .u32 (shr .u32 a3_0 (wrap64 (a0 - a1_0))) 1) == 0)) else (none)) else (some false)) else (some true)) else (if a0 ≥ a1_0 then (if 0 ≤ (wrap64 (a0 - a1_0)) then (some ((Go.bits .and .u32 (shr .u32 a3_0 (wrap64 (a0 - a1_0))) 1) == 0)) else (none)) else (some false))) = some r := h
  clear h
  by_cases c5 : a0 < a1_0
  · rw [if_pos c5] at H
    have c5b0 : decide (a0 < a1_0) = true := decide_eq_true c5
    clear c5
    by_cases c6 : a2_0 = true
    · subst c6
      have H1 : (if a0 ≥ a1_0 then (if 0 ≤ (wrap64 (a0 - a1_0)) then (some ((Go.bits .and .u32 (shr .u32 a3_0 (wrap64 (a0 - a1_0))) 1) == 0)) else (none)) else (some false)) = some r := by rw [if_pos rfl] at H; exact H
      clear H
      have H := H1
      clear H1
      by_cases c7 : a0 ≥ a1_0
      · rw [if_pos c7] at H
        have c7b0 : decide (a1_0 ≤ a0) = true := decide_eq_true c7
        clear c7
        obtain ⟨ji8, hji8⟩ : ∃ j_ : Int, (wrap64 (a0 - a1_0)) = j_ := ⟨_, rfl⟩
        replace H : (if 0 ≤ (ji8) then (some ((Go.bits .and .u32 (shr .u32 a3_0 (ji8)) 1) == 0)) else (none)) = some r := by first | (rw [hji8] at H; exact H) | (simp only [hji8] at H ⊢; exact H)
        have hji8w : (IntKind.i64.wrap (a0 - a1_0)) = ji8 := (Zl _).trans hji8
        by_cases c9 : 0 ≤ (ji8)
        · rw [if_pos c9] at H
          have c9b0 := eq_true c9
          have c9b1 : decide (0 ≤ (ji8)) = true := decide_eq_true c9
          clear c9
          obtain ⟨ji10, hji10⟩ : ∃ j_ : Int, (shr .u32 a3_0 (ji8)) = j_ := ⟨_, rfl⟩
          replace H : (some ((Go.bits .and .u32 (ji10) 1) == 0)) = some r := by first | (rw [hji10] at H; exact H) | (simp only [hji10] at H ⊢; exact H)
          have hji10_ : (a3_0 / 2 ^ min (ji8).toNat 32) = ji10 := hji10
          have hji10z : (ji8) ≤ 32 → (a3_0 / 2 ^ (ji8).toNat) = ji10 := shr_small hji10
          obtain rfl := Option.some.inj H
          have hnb11 := NB1_2.out
          have hnc11 := NB2_1.out
          have hnb12 := NB1_3.out
          have hnc12 := NB3_1.out
          have hcz13_0 : w.cell? ⟨g1, 0, none⟩ = some (.int .i64 a1_0) := (Zc BK1.out 0).trans rfl
          have hcz13_1 : w.cell? ⟨g1, 1, none⟩ = some (.int .i64 a1_1) := (Zc BK1.out 1).trans rfl
          have hcz13_2 : w.cell? ⟨g1, 2, none⟩ = some (.int .i64 a1_2) := (Zc BK1.out 2).trans rfl
          have hcz13_3 : w.cell? ⟨g1, 3, none⟩ = some (.slice A1_3 l1_3.length c1_3) := (Zc BK1.out 3).trans rfl
          have hfz13_0 := Zd BK1.out 0
          have hfz13_1 := Zd BK1.out 1
          have hfz13_2 := Zd BK1.out 2
          have hfz13_3 := Zd BK1.out 3
          have hnb14 := NB2_3.out
          have hnc14 := NB3_2.out
          have hcz15_0 : w.cell? ⟨g2, 0, none⟩ = some (.bool true) := (Zc BK2.out 0).trans rfl
          have hfz15_0 := Zd BK2.out 0
          have hcz16_0 : w.cell? ⟨g3, 0, none⟩ = some (.int .u32 a3_0) := (Zc BK3.out 0).trans rfl
          have hfz16_0 := Zd BK3.out 0
          go_enter Try.func71, Try.ntmps71
          go_wp2
          go_ret
          exact ⟨by first | rfl | (simp; done) | (simp only [← hji8, ← hji10] <;> (first | rfl | simp)) | (simp [*]; done), by repeat (first | exact Drawn0.refl _ | apply Drawn0.step)⟩
        · rw [if_neg c9] at H
          exact absurd H (by simp)
      · rw [if_neg c7] at H
        have c7b0 : decide (a1_0 ≤ a0) = false := decide_eq_false c7
        clear c7
        obtain rfl := Option.some.inj H
        have hnb17 := NB1_2.out
        have hnc17 := NB2_1.out
        have hnb18 := NB1_3.out
        have hnc18 := NB3_1.out
        have hcz19_0 : w.cell? ⟨g1, 0, none⟩ = some (.int .i64 a1_0) := (Zc BK1.out 0).trans rfl
        have hcz19_1 : w.cell? ⟨g1, 1, none⟩ = some (.int .i64 a1_1) := (Zc BK1.out 1).trans rfl
        have hcz19_2 : w.cell? ⟨g1, 2, none⟩ = some (.int .i64 a1_2) := (Zc BK1.out 2).trans rfl
        have hcz19_3 : w.cell? ⟨g1, 3, none⟩ = some (.slice A1_3 l1_3.length c1_3) := (Zc BK1.out 3).trans rfl
        have hfz19_0 := Zd BK1.out 0
        have hfz19_1 := Zd BK1.out 1
        have hfz19_2 := Zd BK1.out 2
        have hfz19_3 := Zd BK1.out 3
        have hnb20 := NB2_3.out
        have hnc20 := NB3_2.out
        have hcz21_0 : w.cell? ⟨g2, 0, none⟩ = some (.bool true) := (Zc BK2.out 0).trans rfl
        have hfz21_0 := Zd BK2.out 0
        go_enter Try.func71, Try.ntmps71
        go_wp2
        go_ret
        exact ⟨by first | rfl | (simp; done) | (simp [*]; done), by repeat (first | exact Drawn0.refl _ | apply Drawn0.step)⟩
    · replace c6 := Bool.eq_false_iff.mpr c6
      subst c6
      have H1 : (some true) = some r := by rw [if_neg (show ¬ (false = true) by decide)] at H; exact H
      clear H
      have H := H1
      clear H1
      obtain rfl := Option.some.inj H
      have hnb22 := NB1_2.out
      have hnc22 := NB2_1.out
      have hnb23 := NB1_3.out
      have hnc23 := NB3_1.out
      have hcz24_0 : w.cell? ⟨g1, 0, none⟩ = some (.int .i64 a1_0) := (Zc BK1.out 0).trans rfl
      have hcz24_1 : w.cell? ⟨g1, 1, none⟩ = some (.int .i64 a1_1) := (Zc BK1.out 1).trans rfl
      have hcz24_2 : w.cell? ⟨g1, 2, none⟩ = some (.int .i64 a1_2) := (Zc BK1.out 2).trans rfl
      have hcz24_3 : w.cell? ⟨g1, 3, none⟩ = some (.slice A1_3 l1_3.length c1_3) := (Zc BK1.out 3).trans rfl
      have hfz24_0 := Zd BK1.out 0
      have hfz24_1 := Zd BK1.out 1
      have hfz24_2 := Zd BK1.out 2
      have hfz24_3 := Zd BK1.out 3
      have hnb25 := NB2_3.out
      have hnc25 := NB3_2.out
      have hcz26_0 : w.cell? ⟨g2, 0, none⟩ = some (.bool false) := (Zc BK2.out 0).trans rfl
      have hfz26_0 := Zd BK2.out 0
      go_enter Try.func71, Try.ntmps71
      go_wp2
      go_ret
      exact ⟨by first | rfl | (simp; done) | (simp [*]; done), by repeat (first | exact Drawn0.refl _ | apply Drawn0.step)⟩
  · rw [if_neg c5] at H
    have c5b0 : decide (a0 < a1_0) = false := decide_eq_false c5
    clear c5
    by_cases c27 : a0 ≥ a1_0
    · rw [if_pos c27] at H
      have c27b0 : decide (a1_0 ≤ a0) = true := decide_eq_true c27
      clear c27
      obtain ⟨ji28, hji28⟩ : ∃ j_ : Int, (wrap64 (a0 - a1_0)) = j_ := ⟨_, rfl⟩
      replace H : (if 0 ≤ (ji28) then (some ((Go.bits .and .u32 (shr .u32 a3_0 (ji28)) 1) == 0)) else (none)) = some r := by first | (rw [hji28] at H; exact H) | (simp only [hji28] at H ⊢; exact H)
      have hji28w : (IntKind.i64.wrap (a0 - a1_0)) = ji28 := (Zl _).trans hji28
      by_cases c29 : 0 ≤ (ji28)
      · rw [if_pos c29] at H
        have c29b0 := eq_true c29
        have c29b1 : decide (0 ≤ (ji28)) = true := decide_eq_true c29
        clear c29
        obtain ⟨ji30, hji30⟩ : ∃ j_ : Int, (shr .u32 a3_0 (ji28)) = j_ := ⟨_, rfl⟩
        replace H : (some ((Go.bits .and .u32 (ji30) 1) == 0)) = some r := by first | (rw [hji30] at H; exact H) | (simp only [hji30] at H ⊢; exact H)
        have hji30_ : (a3_0 / 2 ^ min (ji28).toNat 32) = ji30 := hji30
        have hji30z : (ji28) ≤ 32 → (a3_0 / 2 ^ (ji28).toNat) = ji30 := shr_small hji30
        obtain rfl := Option.some.inj H
        have hnb31 := NB1_2.out
        have hnc31 := NB2_1.out
        have hnb32 := NB1_3.out
        have hnc32 := NB3_1.out
        have hcz33_0 : w.cell? ⟨g1, 0, none⟩ = some (.int .i64 a1_0) := (Zc BK1.out 0).trans rfl
        have hcz33_1 : w.cell? ⟨g1, 1, none⟩ = some (.int .i64 a1_1) := (Zc BK1.out 1).trans rfl
        have hcz33_2 : w.cell? ⟨g1, 2, none⟩ = some (.int .i64 a1_2) := (Zc BK1.out 2).trans rfl
        have hcz33_3 : w.cell? ⟨g1, 3, none⟩ = some (.slice A1_3 l1_3.length c1_3) := (Zc BK1.out 3).trans rfl
        have hfz33_0 := Zd BK1.out 0
        have hfz33_1 := Zd BK1.out 1
        have hfz33_2 := Zd BK1.out 2
        have hfz33_3 := Zd BK1.out 3
        have hnb34 := NB3_2.out
        have hnc34 := NB2_3.out
        have hcz35_0 : w.cell? ⟨g3, 0, none⟩ = some (.int .u32 a3_0) := (Zc BK3.out 0).trans rfl
        have hfz35_0 := Zd BK3.out 0
        go_enter Try.func71, Try.ntmps71
        go_wp2
        go_ret
        exact ⟨by first | rfl | (simp; done) | (simp only [← hji28, ← hji30] <;> (first | rfl | simp)) | (simp [*]; done), by repeat (first | exact Drawn0.refl _ | apply Drawn0.step)⟩
      · rw [if_neg c29] at H
        exact absurd H (by simp)
    · rw [if_neg c27] at H
      have c27b0 : decide (a1_0 ≤ a0) = false := decide_eq_false c27
      clear c27
      obtain rfl := Option.some.inj H
      have hnb36 := NB1_2.out
      have hnc36 := NB2_1.out
      have hnb37 := NB1_3.out
      have hnc37 := NB3_1.out
      have hcz38_0 : w.cell? ⟨g1, 0, none⟩ = some (.int .i64 a1_0) := (Zc BK1.out 0).trans rfl
      have hcz38_1 : w.cell? ⟨g1, 1, none⟩ = some (.int .i64 a1_1) := (Zc BK1.out 1).trans rfl
      have hcz38_2 : w.cell? ⟨g1, 2, none⟩ = some (.int .i64 a1_2) := (Zc BK1.out 2).trans rfl
      have hcz38_3 : w.cell? ⟨g1, 3, none⟩ = some (.slice A1_3 l1_3.length c1_3) := (Zc BK1.out 3).trans rfl
      have hfz38_0 := Zd BK1.out 0
      have hfz38_1 := Zd BK1.out 1
      have hfz38_2 := Zd BK1.out 2
      have hfz38_3 := Zd BK1.out 3
      go_enter Try.func71, Try.ntmps71
      go_wp2
      go_ret
      exact ⟨by first | rfl | (simp; done) | (simp [*]; done), by repeat (first | exact Drawn0.refl _ | apply Drawn0.step)⟩
def grammar_Least_1_any.f (l0 : List Int) (a1_0 : Int) (a1_1 : Int) (a1_2 : Int) (l1_3 : List (S38)) (a2_0 : Bool) (a3_0 : Int) : Option Bool := anyO (fun x : Int => grammar_Least_1.f x a1_0 a1_1 a1_2 l1_3 a2_0 a3_0) l0
set_option maxHeartbeats 8000000 in
set_option maxRecDepth 100000 in
theorem grammar_Least_1_any.calls (A0 : Option Addr) (c0 : Nat) (l0 : List Int) (a1_0 : Int) (a1_1 : Int) (a1_2 : Int) (A1_3 : Option Addr) (c1_3 : Nat) (l1_3 : List (S38)) (g1 : Nat) (a2_0 : Bool) (g2 : Nat) (a3_0 : Int) (g3 : Nat) (r : Bool) (w : World) (hr0 : Kd.C (Kd.int .i64) w A0 l0.length l0) (hc0 : l0.length ≤ c0) (hr1_3 : Kd.C k38 w A1_3 l1_3.length l1_3) (hc1_3 : l1_3.length ≤ c1_3) (hbk1 : w.heap[g1]? = some (.cells #[.int .i64 a1_0, .int .i64 a1_1, .int .i64 a1_2, .slice A1_3 l1_3.length c1_3] 24 (0, 0))) (hbk2 : w.heap[g2]? = some (.cells #[.bool a2_0] 4 (0, 0))) (hbk3 : w.heap[g3]? = some (.cells #[.int .u32 a3_0] 28 (0, 0))) (hnb1_2 : g1 ≠ g2) (hnb1_3 : g1 ≠ g3) (hnb2_3 : g2 ≠ g3) (h : grammar_Least_1_any.f l0 a1_0 a1_1 a1_2 l1_3 a2_0 a3_0 = some r) :
    Calls Try.prog 69 #[.slice A0 l0.length c0, .func (.func 71) #[] #[.pointer (some ⟨g1, 0, none⟩), .pointer (some ⟨g2, 0, none⟩), .pointer (some ⟨g3, 0, none⟩)]] w fun e w' => e = .returned (.bool r) ∧ Below w.heap.size w w' := by
  refine slices_ContainsFunc_Sint_int.anyO (fun x : Int => grammar_Least_1.f x a1_0 a1_1 a1_2 l1_3 a2_0 a3_0) 71 #[.pointer (some ⟨g1, 0, none⟩), .pointer (some ⟨g2, 0, none⟩), .pointer (some ⟨g3, 0, none⟩)] (enters_of Try.func71 (by kernel_rfl) rfl) A0 c0 l0 w r h hr0 ?_
  intro W x cs b hx hB hK hp
  obtain rfl := hK
  refine (grammar_Least_1.calls x a1_0 a1_1 a1_2 A1_3 c1_3 l1_3 g1 a2_0 g2 a3_0 g3 b W  (Kd.C_below hr1_3 hB) hc1_3 (Zp hbk1 hB) (Zp hbk2 hB) (Zp hbk3 hB) hnb1_2 hnb1_3 hnb2_3 hp).mono ?_
  rintro e w' ⟨rfl, h2⟩
  exact ⟨rfl, Zr hB h2.below⟩
end Go.Proofs.Ytnjfcbhbebokeaa.PAheadClears
