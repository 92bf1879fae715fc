-- Printed by a turn of a template of the kit, and shortened: remarks and what nothing here uses are left out.
import Derived.Test.YtnjfcbhbebokeaaQPAheadClearsx0
import Derived.Test.YtnjfcbhbebokeaaQPAheadClearsx5
namespace Go.Proofs.Ytnjfcbhbebokeaa.PAheadClears
open Go.RowKit Go.Proofs.YtnjfcbhbebokeaaW.PrintWords Go.Proofs.YtnjfcbhbebokeaaW.PrintLast Go.Proofs.YtnjfcbhbebokeaaW.PrintMore
attribute [local go_sem] max2_int min2_int max_two min_two max_three min_three max_four min_four
set_option linter.unusedVariables false
set_option linter.unusedSimpArgs false
mutual
def Zm1.l0 : Nat → Int → Int → Int → Int → Int → List (S38) → Bool → Int → Option (Int)
  | 0, _, _, _, _, _, _, _, _ => none
  | k + 1, x10, x11, x124000, x124001, x124002, x124003, x125000, x126000 => if x11 < x10 then (Zm1.l1 k x10 x11 x124003 (x124003.length : Int) 0 x124000 x124001 x124002 x124003 x125000 x126000) else (some x126000)
def Zm1.l1 : Nat → Int → Int → List (S38) → Int → Int → Int → Int → Int → List (S38) → Bool → Int → Option (Int)
  | 0, _, _, _, _, _, _, _, _, _, _, _ => none
  | k + 1, x10, x11, x14, x15, x16, x124000, x124001, x124002, x124003, x125000, x126000 => if x16 < x15 then (if 0 ≤ x16 then (if x16 < (x14.length : Int) then ((grammar_Least_1_any.f ((Zb x14 x16).f1) x124000 x124001 x124002 x124003 x125000 x126000).bind fun t128 => (if t128 = true then (Zm1.l1 k x10 x11 x14 x15 (wrap64 (x16 + 1)) x124000 x124001 x124002 x124003 x125000 x126000) else (if 0 ≤ ((Zb x14 x16).f0) then (Zm1.l1 k x10 x11 x14 x15 (wrap64 (x16 + 1)) x124000 x124001 x124002 x124003 x125000 (Go.bits .or .u32 x126000 (shl .u32 1 ((Zb x14 x16).f0)))) else (none)))) else (none)) else (none)) else (Zm1.l0 k x10 (wrap64 (x11 + 1)) x124000 x124001 x124002 x124003 x125000 x126000)
end
def Zm1.f (k : Nat) (a0_0 : Int) (a0_1 : Int) (a0_2 : Int) (l0_3 : List (S38)) (a1 : Bool) : Option (Int) := Zm1.l0 k a0_1 0 a0_0 a0_1 a0_2 l0_3 a1 0
theorem Zm1.mono_l : ∀ k, (∀ y0 y1 y2 y3 y4 y5 y6 y7, LeO (Zm1.l0 k y0 y1 y2 y3 y4 y5 y6 y7) (Zm1.l0 (k + 1) y0 y1 y2 y3 y4 y5 y6 y7)) ∧ (∀ y0 y1 y2 y3 y4 y5 y6 y7 y8 y9 y10, LeO (Zm1.l1 k y0 y1 y2 y3 y4 y5 y6 y7 y8 y9 y10) (Zm1.l1 (k + 1) y0 y1 y2 y3 y4 y5 y6 y7 y8 y9 y10))
  | 0 => ⟨fun _ _ _ _ _ _ _ _ r h => by simp [Zm1.l0] at h, fun _ _ _ _ _ _ _ _ _ _ _ r h => by simp [Zm1.l1] at h⟩
  | k + 1 => by
    obtain ⟨ih0, ih1⟩ := Zm1.mono_l k
    refine ⟨?_, ?_⟩
    · intro y0 y1 y2 y3 y4 y5 y6 y7
      unfold Zm1.l0
      repeat' first
      | (with_reducible exact ih0 _ _ _ _ _ _ _ _)
      | (with_reducible exact ih1 _ _ _ _ _ _ _ _ _ _ _)
      | (with_reducible exact LeO.refl _)
      | (with_reducible exact LeO.none _)
      | (with_reducible refine LeO.ite ?_ ?_)
      | (with_reducible refine LeO.bind ?_ (fun _ => ?_))
      | exact ih0 _ _ _ _ _ _ _ _
      | exact ih1 _ _ _ _ _ _ _ _ _ _ _
      | exact LeO.none _
      | refine LeO.ite ?_ ?_
      | refine LeO.bind ?_ (fun _ => ?_)
    · intro y0 y1 y2 y3 y4 y5 y6 y7 y8 y9 y10
      unfold Zm1.l1
      repeat' first
      | (with_reducible exact ih0 _ _ _ _ _ _ _ _)
      | (with_reducible exact ih1 _ _ _ _ _ _ _ _ _ _ _)
      | (with_reducible exact LeO.refl _)
      | (with_reducible exact LeO.none _)
      | (with_reducible refine LeO.ite ?_ ?_)
      | (with_reducible refine LeO.bind ?_ (fun _ => ?_))
      | exact ih0 _ _ _ _ _ _ _ _
      | exact ih1 _ _ _ _ _ _ _ _ _ _ _
      | exact LeO.none _
      | refine LeO.ite ?_ ?_
      | refine LeO.bind ?_ (fun _ => ?_)
theorem Zm1.mono : ∀ a0 a1 a2 a3 a4 k, LeO (Zm1.f k a0 a1 a2 a3 a4) (Zm1.f (k + 1) a0 a1 a2 a3 a4) := by
  intro a0 a1 a2 a3 a4 k
  obtain ⟨ih0, ih1⟩ := Zm1.mono_l k
  unfold Zm1.f
  repeat' first
      | (with_reducible exact ih0 _ _ _ _ _ _ _ _)
      | (with_reducible exact ih1 _ _ _ _ _ _ _ _ _ _ _)
      | (with_reducible exact LeO.refl _)
      | (with_reducible exact LeO.none _)
      | (with_reducible refine LeO.ite ?_ ?_)
      | (with_reducible refine LeO.bind ?_ (fun _ => ?_))
      | exact ih0 _ _ _ _ _ _ _ _
      | exact ih1 _ _ _ _ _ _ _ _ _ _ _
      | exact LeO.none _
      | refine LeO.ite ?_ ?_
      | refine LeO.bind ?_ (fun _ => ?_)
set_option maxHeartbeats 8000000 in
set_option maxRecDepth 100000 in
theorem Zm1.calls (k : Nat) (a0_0 : Int) (a0_1 : Int) (a0_2 : Int) (A0_3 : Option Addr) (c0_3 : Nat) (l0_3 : List (S38)) (a1 : Bool) (r : Int) (w : World) (hr0_3 : Kd.C k38 w A0_3 l0_3.length l0_3) (hc0_3 : l0_3.length ≤ c0_3) (h : Zm1.f k a0_0 a0_1 a0_2 l0_3 a1 = some r) :
    Calls Try.prog 47 #[.agg #[.int .i64 a0_0, .int .i64 a0_1, .int .i64 a0_2, .slice A0_3 l0_3.length c0_3], .bool a1] w fun e w' => e = .returned (.int .u32 r) ∧ Below w.heap.size w w' := by
 (have hu24 := Try.underlying24); (have hu4 := Try.underlying4); (have hu28 := Try.underlying28); (have hu38 := Try.underlying38); (have HR0_3 := Za.mk hr0_3); (have HC0_3 := Za.mk hc0_3); (clear hr0_3 hc0_3); (have HB := Za.mk (Below.refl w.heap.size w)); (have H : (Zm1.l0 k a0_1 0 a0_0 a0_1 a0_2 l0_3 a1 0) = some r := h); (clear h); (have H' := Za.mk H); (clear H)
 go_enter Try.func47, Try.ntmps47
 go_wp2_with (first | ((with_reducible refine Zb1 (N := 2) rfl ?_); refine Zc1 ?hg (N := 2) ?hd (cs := #[.int .i64 a0_0, .int .i64 a0_1, .int .i64 a0_2, .slice A0_3 l0_3.length c0_3]) (t := 24) ?hr ?_; (case hd => rfl); (case hg => rfl); (case hr => first | (go_simp; done) | (go_simp; rfl)); intro gb123 hg w3 hbox hb; have n0_ := Za.mk (Zr (by repeat (first | (with_reducible first | exact HB.out | apply Zh | apply Zk | apply Zg) | exact HB.out)) hb); have n1_ := Za.mk (hbox); have n2_ := Za.mk ((by rw [hg]; exact (Zo (by repeat (first | (with_reducible first | exact HB.out | apply Zh | apply Zk | apply Zg) | exact HB.out))) : w.heap.size ≤ gb123)); have n3_ := Za.mk ((by rw [hg]; exact (Zo (by repeat (first | (with_reducible first | exact HB.out | apply Zh | apply Zk | apply Zg) | exact HB.out))) : w.heap.size ≤ gb123)); clear HB; have HB := n0_; have BK123 := n1_; have GW123 := n2_; have GE123 := n3_; clear n0_ n1_ n2_ n3_; clear hb hbox hg) | ((with_reducible refine Zb1 (N := 3) rfl ?_); refine Zc1 ?hg (N := 3) ?hd (cs := #[.bool a1]) (t := 4) ?hr ?_; (case hd => rfl); (case hg => rfl); (case hr => first | (go_simp; done) | (go_simp; rfl)); intro gb124 hg w4 hbox hb; have n0_ := Za.mk (Zp (g := gb123) (o := .cells #[.int .i64 a0_0, .int .i64 a0_1, .int .i64 a0_2, .slice A0_3 l0_3.length c0_3] 24 (0, 0)) (by (with_reducible repeat (first | refine Zj ?_ _ | refine Zf ?_ | refine Zi ?_ _)); exact BK123.out) hb); have n1_ := Za.mk (Zr (by repeat (first | (with_reducible first | exact HB.out | apply Zh | apply Zk | apply Zg | refine Ze ?_ GE123.out) | exact HB.out)) hb); have n2_ := Za.mk (hbox); have n3_ := Za.mk ((by rw [hg]; exact (Zo (by repeat (first | (with_reducible first | exact HB.out | apply Zh | apply Zk | apply Zg | refine Ze ?_ GE123.out) | exact HB.out))) : w.heap.size ≤ gb124)); have n4_ := Za.mk ((by rw [hg]; exact (Zo (by repeat (first | (with_reducible first | exact HB.out | apply Zh | apply Zk | apply Zg | refine Ze ?_ GE123.out) | exact HB.out))) : w.heap.size ≤ gb124)); have n5_ := Za.mk ((by rw [hg]; exact Nat.ne_of_lt (Zx (g := gb123) (o := .cells #[.int .i64 a0_0, .int .i64 a0_1, .int .i64 a0_2, .slice A0_3 l0_3.length c0_3] 24 (0, 0)) (by (with_reducible repeat (first | refine Zj ?_ _ | refine Zf ?_ | refine Zi ?_ _)); exact BK123.out)) : gb123 ≠ gb124)); have n6_ := Za.mk ((by rw [hg]; exact Nat.ne_of_gt (Zx (g := gb123) (o := .cells #[.int .i64 a0_0, .int .i64 a0_1, .int .i64 a0_2, .slice A0_3 l0_3.length c0_3] 24 (0, 0)) (by (with_reducible repeat (first | refine Zj ?_ _ | refine Zf ?_ | refine Zi ?_ _)); exact BK123.out)) : gb124 ≠ gb123)); clear BK123; clear HB; have BK123 := n0_; have HB := n1_; have BK124 := n2_; have GW124 := n3_; have GE124 := n4_; have NB123_124 := n5_; have NB124_123 := n6_; clear n0_ n1_ n2_ n3_ n4_ n5_ n6_; clear hb hbox hg) | ((with_reducible refine Zb1 (N := 5) rfl ?_); refine Zc1 ?hg (N := 5) ?hd (cs := #[.int .u32 0]) (t := 28) ?hr ?_; (case hd => rfl); (case hg => rfl); (case hr => first | (go_simp; done) | (go_simp; rfl)); intro gb125 hg w5 hbox hb; have n0_ := Za.mk (Zp (g := gb123) (o := .cells #[.int .i64 a0_0, .int .i64 a0_1, .int .i64 a0_2, .slice A0_3 l0_3.length c0_3] 24 (0, 0)) (by (with_reducible repeat (first | refine Zj ?_ _ | refine Zf ?_ | refine Zi ?_ _)); exact BK123.out) hb); have n1_ := Za.mk (Zp (g := gb124) (o := .cells #[.bool a1] 4 (0, 0)) (by (with_reducible repeat (first | refine Zj ?_ _ | refine Zf ?_ | refine Zi ?_ _)); exact BK124.out) hb); have n2_ := Za.mk (Zr (by repeat (first | (with_reducible first | exact HB.out | apply Zh | apply Zk | apply Zg | refine Ze ?_ GE123.out | refine Ze ?_ GE124.out) | exact HB.out)) hb); have n3_ := Za.mk (hbox); have n4_ := Za.mk ((by rw [hg]; exact (Zo (by repeat (first | (with_reducible first | exact HB.out | apply Zh | apply Zk | apply Zg | refine Ze ?_ GE123.out | refine Ze ?_ GE124.out) | exact HB.out))) : w.heap.size ≤ gb125)); have n5_ := Za.mk ((by rw [hg]; exact (Zo (by repeat (first | (with_reducible first | exact HB.out | apply Zh | apply Zk | apply Zg | refine Ze ?_ GE123.out | refine Ze ?_ GE124.out) | exact HB.out))) : w.heap.size ≤ gb125)); have n6_ := Za.mk ((by rw [hg]; exact Nat.ne_of_lt (Zx (g := gb123) (o := .cells #[.int .i64 a0_0, .int .i64 a0_1, .int .i64 a0_2, .slice A0_3 l0_3.length c0_3] 24 (0, 0)) (by (with_reducible repeat (first | refine Zj ?_ _ | refine Zf ?_ | refine Zi ?_ _)); exact BK123.out)) : gb123 ≠ gb125)); have n7_ := Za.mk ((by rw [hg]; exact Nat.ne_of_gt (Zx (g := gb123) (o := .cells #[.int .i64 a0_0, .int .i64 a0_1, .int .i64 a0_2, .slice A0_3 l0_3.length c0_3] 24 (0, 0)) (by (with_reducible repeat (first | refine Zj ?_ _ | refine Zf ?_ | refine Zi ?_ _)); exact BK123.out)) : gb125 ≠ gb123)); have n8_ := Za.mk ((by rw [hg]; exact Nat.ne_of_lt (Zx (g := gb124) (o := .cells #[.bool a1] 4 (0, 0)) (by (with_reducible repeat (first | refine Zj ?_ _ | refine Zf ?_ | refine Zi ?_ _)); exact BK124.out)) : gb124 ≠ gb125)); have n9_ := Za.mk ((by rw [hg]; exact Nat.ne_of_gt (Zx (g := gb124) (o := .cells #[.bool a1] 4 (0, 0)) (by (with_reducible repeat (first | refine Zj ?_ _ | refine Zf ?_ | refine Zi ?_ _)); exact BK124.out)) : gb125 ≠ gb124)); clear BK123; clear BK124; clear HB; have BK123 := n0_; have BK124 := n1_; have HB := n2_; have BK125 := n3_; have GW125 := n4_; have GE125 := n5_; have NB123_125 := n6_; have NB125_123 := n7_; have NB124_125 := n8_; have NB125_124 := n9_; clear n0_ n1_ n2_ n3_ n4_ n5_ n6_ n7_ n8_ n9_; clear hb hbox hg; have hnb6 := NB125_123.out; have hnc6 := NB123_125.out; have hnb7 := NB125_124.out; have hnc7 := NB124_125.out; have hcz8_0 : w5.cell? ⟨gb125, 0, none⟩ = some (.int .u32 0) := (Zc BK125.out 0).trans rfl; have hfz8_0 := Zd BK125.out 0; have hnb9 := NB123_124.out; have hnc9 := NB124_123.out; have hcz10_0 : w5.cell? ⟨gb123, 0, none⟩ = some (.int .i64 a0_0) := (Zc BK123.out 0).trans rfl; have hcz10_1 : w5.cell? ⟨gb123, 1, none⟩ = some (.int .i64 a0_1) := (Zc BK123.out 1).trans rfl; have hcz10_2 : w5.cell? ⟨gb123, 2, none⟩ = some (.int .i64 a0_2) := (Zc BK123.out 2).trans rfl; have hcz10_3 : w5.cell? ⟨gb123, 3, none⟩ = some (.slice A0_3 l0_3.length c0_3) := (Zc BK123.out 3).trans rfl; have hfz10_0 := Zd BK123.out 0; have hfz10_1 := Zd BK123.out 1; have hfz10_2 := Zd BK123.out 2; have hfz10_3 := Zd BK123.out 3))
 go_loopg [11] k (fun kq v11 w' => ∃ (x11_1 : Int) (x126000_1 : Int), v11 = .int .i64 x11_1 ∧ Za (Zm1.l0 kq a0_1 x11_1 a0_0 a0_1 a0_2 l0_3 a1 x126000_1 = some r) ∧ Za (kq ≤ k) ∧ Za (w'.heap[gb123]? = some (.cells #[.int .i64 a0_0, .int .i64 a0_1, .int .i64 a0_2, (.slice A0_3 l0_3.length c0_3)] 24 (0, 0))) ∧ Za (w'.heap[gb124]? = some (.cells #[.bool a1] 4 (0, 0))) ∧ Za (w'.heap[gb125]? = some (.cells #[.int .u32 x126000_1] 28 (0, 0))) ∧ Za (Below w.heap.size w w'))
 case atStart => exact ⟨(0), (0), (by first | rfl | (simp; done) | (simp [*]; done)), H', ⟨Nat.le_refl _⟩, ⟨by (with_reducible repeat (first | refine Zj ?_ _ | refine Zf ?_ | refine Zi ?_ _)); refine Zd1 ?_ NB123_125.out _; (with_reducible repeat (first | refine Zj ?_ _ | refine Zf ?_ | refine Zi ?_ _)); exact BK123.out⟩, ⟨by (with_reducible repeat (first | refine Zj ?_ _ | refine Zf ?_ | refine Zi ?_ _)); refine Zd1 ?_ NB124_125.out _; (with_reducible repeat (first | refine Zj ?_ _ | refine Zf ?_ | refine Zi ?_ _)); exact BK124.out⟩, ⟨by (with_reducible repeat (first | refine Zj ?_ _ | refine Zf ?_ | refine Zi ?_ _)); refine blk_put (cs := #[.int .u32 0]) ?_ 0 _ rfl; (with_reducible repeat (first | refine Zj ?_ _ | refine Zf ?_ | refine Zi ?_ _)); exact BK125.out⟩, ⟨by repeat (first | (with_reducible first | exact HB.out | apply Zh | apply Zk | apply Zg | refine Ze ?_ GE123.out | refine Ze ?_ GE124.out | refine Ze ?_ GE125.out) | exact HB.out)⟩⟩
 case round =>
  (clear H'); (try clear p2); (try clear c4); (try clear c6); (try clear c7); (try clear c9); (try clear hcz10_0); (try clear hcz10_1); (try clear hcz10_2); (try clear hcz10_3); (try clear hcz8_0); (try clear hfz10_0); (try clear hfz10_1); (try clear hfz10_2); (try clear hfz10_3); (try clear hfz8_0); (obtain ⟨x11_1, x126000_1, rfl, HA, HK1, BK123, BK124, BK125, HB⟩ := hrel)
  cases gk with
  | zero => exact absurd HA.out (by simp [Zm1.l0])
  | succ k1 =>
   (have H := HA.out); (clear HA); (simp only [Zm1.l0] at H)
   by_cases c11 : x11_1 < a0_1
   rotate_left
   ·rw [if_neg c11] at H
    (have c11b0 : decide (x11_1 < a0_1) = false := decide_eq_false c11); (clear c11); (obtain rfl := Option.some.inj H); (have hnb36 := NB125_123.out); (have hnc36 := NB123_125.out); (have hnb37 := NB125_124.out); (have hnc37 := NB124_125.out); (have hcz38_0 : wr.cell? ⟨gb125, 0, none⟩ = some (.int .u32 x126000_1) := (Zc BK125.out 0).trans rfl); (have hfz38_0 := Zd BK125.out 0)
    go_wp2
    go_ret
    exact ⟨by first | rfl | (simp [Zu, Zt] <;> rfl) | (simp [*, Zu, Zt] <;> rfl), by repeat (first | (with_reducible first | exact HB.out | apply Zh | apply Zk | apply Zg | refine Ze ?_ GE123.out | refine Ze ?_ GE124.out | refine Ze ?_ GE125.out) | exact HB.out)⟩
   (rw [if_pos c11] at H); (have c11b0 : decide (x11_1 < a0_1) = true := decide_eq_true c11); (clear c11); (have H' := Za.mk H); (clear H); (have hnb12 := NB123_124.out); (have hnc12 := NB124_123.out); (have hnb13 := NB123_125.out); (have hnc13 := NB125_123.out); (have hcz14_0 : wr.cell? ⟨gb123, 0, none⟩ = some (.int .i64 a0_0) := (Zc BK123.out 0).trans rfl); (have hcz14_1 : wr.cell? ⟨gb123, 1, none⟩ = some (.int .i64 a0_1) := (Zc BK123.out 1).trans rfl); (have hcz14_2 : wr.cell? ⟨gb123, 2, none⟩ = some (.int .i64 a0_2) := (Zc BK123.out 2).trans rfl); (have hcz14_3 : wr.cell? ⟨gb123, 3, none⟩ = some (.slice A0_3 l0_3.length c0_3) := (Zc BK123.out 3).trans rfl); (have hfz14_0 := Zd BK123.out 0); (have hfz14_1 := Zd BK123.out 1); (have hfz14_2 := Zd BK123.out 2); (have hfz14_3 := Zd BK123.out 3)
   go_wp2
   go_loopg [16] k1 (fun kq v16 w' => ∃ (x16_2 : Int) (x126000_2 : Int), v16 = .int .i64 x16_2 ∧ Za (Zm1.l1 kq a0_1 x11_1 l0_3 (l0_3.length : Int) x16_2 a0_0 a0_1 a0_2 l0_3 a1 x126000_2 = some r) ∧ Za (kq ≤ k1) ∧ Za (w'.heap[gb123]? = some (.cells #[.int .i64 a0_0, .int .i64 a0_1, .int .i64 a0_2, (.slice A0_3 l0_3.length c0_3)] 24 (0, 0))) ∧ Za (w'.heap[gb124]? = some (.cells #[.bool a1] 4 (0, 0))) ∧ Za (w'.heap[gb125]? = some (.cells #[.int .u32 x126000_2] 28 (0, 0))) ∧ Za (Below w.heap.size w w'))
   case atStart => exact ⟨(0), (x126000_1), (by first | rfl | (simp; done) | (simp [*]; done)), H', ⟨Nat.le_refl _⟩, ⟨by (with_reducible repeat (first | refine Zj ?_ _ | refine Zf ?_ | refine Zi ?_ _)); exact BK123.out⟩, ⟨by (with_reducible repeat (first | refine Zj ?_ _ | refine Zf ?_ | refine Zi ?_ _)); exact BK124.out⟩, ⟨by (with_reducible repeat (first | refine Zj ?_ _ | refine Zf ?_ | refine Zi ?_ _)); exact BK125.out⟩, ⟨by repeat (first | (with_reducible first | exact HB.out | apply Zh | apply Zk | apply Zg | refine Ze ?_ GE123.out | refine Ze ?_ GE124.out | refine Ze ?_ GE125.out) | exact HB.out)⟩⟩
   case round =>
    (clear H'); (try clear c1); (try clear p2); (try clear c4); (try clear c6); (try clear c7); (try clear c9); (try clear c11); (try clear c11b0); (try clear c12); (try clear c13); (try clear hcz10_0); (try clear hcz10_1); (try clear hcz10_2); (try clear hcz10_3); (try clear hcz14_0); (try clear hcz14_1); (try clear hcz14_2); (try clear hcz14_3); (try clear hcz8_0); (try clear hfz10_0); (try clear hfz10_1); (try clear hfz10_2); (try clear hfz10_3); (try clear hfz14_0); (try clear hfz14_1); (try clear hfz14_2); (try clear hfz14_3); (try clear hfz8_0); (try clear p2); (obtain ⟨x16_2, x126000_2, rfl, HA, HK2, BK123, BK124, BK125, HB⟩ := hrel)
    cases gk with
    | zero => exact absurd HA.out (by simp [Zm1.l1])
    | succ k2 =>
     (have H := HA.out); (clear HA); (simp only [Zm1.l1] at H)
     by_cases c15 : x16_2 < (l0_3.length : Int)
     rotate_left
     ·rw [if_neg c15] at H
      (have c15b0 : decide (x16_2 < (l0_3.length : Int)) = false := decide_eq_false c15); (clear c15); (have H' := Za.mk H); (clear H)
      go_wp2
      go_roundg k2
      case measure => have := HK1.out; have := HK2.out; omega
      case rel => exact ⟨(wrap64 (x11_1 + 1)), (x126000_2), (by first | rfl | (simp; done) | (simp [*]; done)), H', ⟨by have := HK1.out; have := HK2.out; omega⟩, ⟨by (with_reducible repeat (first | refine Zj ?_ _ | refine Zf ?_ | refine Zi ?_ _)); exact BK123.out⟩, ⟨by (with_reducible repeat (first | refine Zj ?_ _ | refine Zf ?_ | refine Zi ?_ _)); exact BK124.out⟩, ⟨by (with_reducible repeat (first | refine Zj ?_ _ | refine Zf ?_ | refine Zi ?_ _)); exact BK125.out⟩, ⟨by repeat (first | (with_reducible first | exact HB.out | apply Zh | apply Zk | apply Zg | refine Ze ?_ GE123.out | refine Ze ?_ GE124.out | refine Ze ?_ GE125.out) | exact HB.out)⟩⟩
     (rw [if_pos c15] at H); (have c15b0 : decide (x16_2 < (l0_3.length : Int)) = true := decide_eq_true c15); (clear c15)
     by_cases c16 : 0 ≤ x16_2
     rotate_left
     ·rw [if_neg c16] at H
      exact absurd H (by simp)
     (rw [if_pos c16] at H); (have c16b0 : decide (0 ≤ x16_2) = true := decide_eq_true c16); (clear c16)
     by_cases c17 : x16_2 < (l0_3.length : Int)
     rotate_left
     ·rw [if_neg c17] at H
      exact absurd H (by simp)
     (rw [if_pos c17] at H); (have c17b0 : decide (x16_2 < (l0_3.length : Int)) = true := decide_eq_true c17); (clear c17); (replace H := Option.bind_eq_some_iff.mp H); (obtain ⟨t128, A180, H⟩ := H); (replace H : (if t128 = true then (Zm1.l1 k2 a0_1 x11_1 l0_3 (l0_3.length : Int) (wrap64 (x16_2 + 1)) a0_0 a0_1 a0_2 l0_3 a1 x126000_2) else (if 0 ≤ ((Zb l0_3 x16_2).f0) then (Zm1.l1 k2 a0_1 x11_1 l0_3 (l0_3.length : Int) (wrap64 (x16_2 + 1)) a0_0 a0_1 a0_2 l0_3 a1 (Go.bits .or .u32 x126000_2 (shl .u32 1 ((Zb l0_3 x16_2).f0)))) else (none))) = some r := H); (have A18 := Za.mk A180); (clear A180)
     by_cases c19 : t128 = true
     ·subst c19
      (have H1 : (Zm1.l1 k2 a0_1 x11_1 l0_3 (l0_3.length : Int) (wrap64 (x16_2 + 1)) a0_0 a0_1 a0_2 l0_3 a1 x126000_2) = some r := by rw [if_pos rfl] at H; exact H); (clear H); (have H := H1); (clear H1); (have H' := Za.mk H); (clear H); (have p126 : 0 ≤ (x16_2 : Int) := of_decide_eq_true (by assumption)); (have q126 : x16_2 < (l0_3.length : Int) := of_decide_eq_true (by assumption)); (obtain ⟨ad126, A126_1, c126_1, e126, hx126_0, hx126_1, hl126_1, hi126_1⟩ := at_T38 HR0_3.out x16_2 p126 q126); (cases e126); (replace hx126_0 := (HB.out.cell (World.block_lt_of_cell? w _ hx126_0)).trans hx126_0); (replace hx126_1 := (HB.out.cell (World.block_lt_of_cell? w _ hx126_1)).trans hx126_1); (have HR126_1 := Za.mk hi126_1); (have HC126_1 := Za.mk hl126_1); (clear hi126_1 hl126_1); (replace p126 := eq_true p126); (replace q126 := eq_true q126)
      go_wp2_with (first | ((with_reducible refine Zb1 (N := 7) rfl ?_); refine Zc1 ?hg (N := 7) ?hd (cs := #[.int .i64 0, .slice none 0 0]) (t := 38) ?hr ?_; (case hd => rfl); (case hg => rfl); (case hr => first | (go_simp; done) | (go_simp; rfl)); intro gb127 hg w20 hbox hb; have n0_ := Za.mk (Zp (g := gb123) (o := .cells #[.int .i64 a0_0, .int .i64 a0_1, .int .i64 a0_2, .slice (some ad126) l0_3.length c0_3] 24 (0, 0)) (by (with_reducible repeat (first | refine Zj ?_ _ | refine Zf ?_ | refine Zi ?_ _)); exact BK123.out) hb); have n1_ := Za.mk (Zp (g := gb124) (o := .cells #[.bool a1] 4 (0, 0)) (by (with_reducible repeat (first | refine Zj ?_ _ | refine Zf ?_ | refine Zi ?_ _)); exact BK124.out) hb); have n2_ := Za.mk (Zp (g := gb125) (o := .cells #[.int .u32 x126000_2] 28 (0, 0)) (by (with_reducible repeat (first | refine Zj ?_ _ | refine Zf ?_ | refine Zi ?_ _)); exact BK125.out) hb); have n3_ := Za.mk (Zr (by repeat (first | (with_reducible first | exact HB.out | apply Zh | apply Zk | apply Zg | refine Ze ?_ GE123.out | refine Ze ?_ GE124.out | refine Ze ?_ GE125.out) | exact HB.out)) hb); have n4_ := Za.mk (hbox); have n5_ := Za.mk ((by rw [hg]; exact (Zo (by repeat (first | (with_reducible first | exact HB.out | apply Zh | apply Zk | apply Zg | refine Ze ?_ GE123.out | refine Ze ?_ GE124.out | refine Ze ?_ GE125.out) | exact HB.out))) : w.heap.size ≤ gb127)); have n6_ := Za.mk ((by rw [hg]; exact (Zo (by repeat (first | (with_reducible first | exact HB.out | apply Zh | apply Zk | apply Zg | refine Ze ?_ GE123.out | refine Ze ?_ GE124.out | refine Ze ?_ GE125.out) | exact HB.out))) : w.heap.size ≤ gb127)); have n7_ := Za.mk ((by rw [hg]; exact Nat.ne_of_lt (Zx (g := gb123) (o := .cells #[.int .i64 a0_0, .int .i64 a0_1, .int .i64 a0_2, .slice (some ad126) l0_3.length c0_3] 24 (0, 0)) (by (with_reducible repeat (first | refine Zj ?_ _ | refine Zf ?_ | refine Zi ?_ _)); exact BK123.out)) : gb123 ≠ gb127)); have n8_ := Za.mk ((by rw [hg]; exact Nat.ne_of_gt (Zx (g := gb123) (o := .cells #[.int .i64 a0_0, .int .i64 a0_1, .int .i64 a0_2, .slice (some ad126) l0_3.length c0_3] 24 (0, 0)) (by (with_reducible repeat (first | refine Zj ?_ _ | refine Zf ?_ | refine Zi ?_ _)); exact BK123.out)) : gb127 ≠ gb123)); have n9_ := Za.mk ((by rw [hg]; exact Nat.ne_of_lt (Zx (g := gb124) (o := .cells #[.bool a1] 4 (0, 0)) (by (with_reducible repeat (first | refine Zj ?_ _ | refine Zf ?_ | refine Zi ?_ _)); exact BK124.out)) : gb124 ≠ gb127)); have n10_ := Za.mk ((by rw [hg]; exact Nat.ne_of_gt (Zx (g := gb124) (o := .cells #[.bool a1] 4 (0, 0)) (by (with_reducible repeat (first | refine Zj ?_ _ | refine Zf ?_ | refine Zi ?_ _)); exact BK124.out)) : gb127 ≠ gb124)); have n11_ := Za.mk ((by rw [hg]; exact Nat.ne_of_lt (Zx (g := gb125) (o := .cells #[.int .u32 x126000_2] 28 (0, 0)) (by (with_reducible repeat (first | refine Zj ?_ _ | refine Zf ?_ | refine Zi ?_ _)); exact BK125.out)) : gb125 ≠ gb127)); have n12_ := Za.mk ((by rw [hg]; exact Nat.ne_of_gt (Zx (g := gb125) (o := .cells #[.int .u32 x126000_2] 28 (0, 0)) (by (with_reducible repeat (first | refine Zj ?_ _ | refine Zf ?_ | refine Zi ?_ _)); exact BK125.out)) : gb127 ≠ gb125)); clear BK123; clear BK124; clear BK125; clear HB; have BK123 := n0_; have BK124 := n1_; have BK125 := n2_; have HB := n3_; have BK127 := n4_; have GW127 := n5_; have GE127 := n6_; have NB123_127 := n7_; have NB127_123 := n8_; have NB124_127 := n9_; have NB127_124 := n10_; have NB125_127 := n11_; have NB127_125 := n12_; clear n0_ n1_ n2_ n3_ n4_ n5_ n6_ n7_ n8_ n9_ n10_ n11_ n12_; clear hb hbox hg; have hnb21 := NB127_123.out; have hnc21 := NB123_127.out; have hnb22 := NB127_124.out; have hnc22 := NB124_127.out; have hnb23 := NB127_125.out; have hnc23 := NB125_127.out; have hcz24_0 : w20.cell? ⟨gb127, 0, none⟩ = some (.int .i64 0) := (Zc BK127.out 0).trans rfl; have hcz24_1 : w20.cell? ⟨gb127, 1, none⟩ = some (.slice none 0 0) := (Zc BK127.out 1).trans rfl; have hfz24_0 := Zd BK127.out 0; have hfz24_1 := Zd BK127.out 1) | ((with_reducible refine Zp1 (f := 69) rfl ?_); refine goesL_ (some 24) rfl rfl Try.func69 (by kernel_rfl) rfl #[.slice A126_1 ((Zb l0_3 x16_2).f1).length c126_1, .func (.func 71) #[] #[.pointer (some ⟨gb123, 0, none⟩), .pointer (some ⟨gb124, 0, none⟩), .pointer (some ⟨gb125, 0, none⟩)]] rfl (by (try simp only [List.map_toArray, List.map_cons, List.map_nil]); first | done | rfl | (simp only [List.length_drop, List.length_take]; rfl)) ?_; (with_reducible refine (grammar_Least_1_any.calls _ _ ((Zb l0_3 x16_2).f1) a0_0 a0_1 a0_2 ((some ad126)) (c0_3) l0_3 gb123 a1 gb124 x126000_2 gb125 true _ ?side1 ?side2 ?side3 ?side4 ?side5 ?side6 ?side7 ?side8 ?side9 ?side10 A18.out).mono ?_); (case side1 => exact Kd.C_below HR126_1.out (by repeat (first | (with_reducible first | exact HB.out | apply Zh | apply Zk | apply Zg | refine Ze ?_ GE123.out | refine Ze ?_ GE124.out | refine Ze ?_ GE125.out | refine Ze ?_ GE127.out) | exact HB.out))); (case side2 => exact HC126_1.out); (case side3 => exact Kd.C_below HR0_3.out (by repeat (first | (with_reducible first | exact HB.out | apply Zh | apply Zk | apply Zg | refine Ze ?_ GE123.out | refine Ze ?_ GE124.out | refine Ze ?_ GE125.out | refine Ze ?_ GE127.out) | exact HB.out))); (case side4 => exact HC0_3.out); (case side5 => exact (by (with_reducible repeat (first | refine Zj ?_ _ | refine Zf ?_ | refine Zi ?_ _)); refine Zd1 ?_ NB123_127.out _; (with_reducible repeat (first | refine Zj ?_ _ | refine Zf ?_ | refine Zi ?_ _)); refine Zd1 ?_ NB123_127.out _; (with_reducible repeat (first | refine Zj ?_ _ | refine Zf ?_ | refine Zi ?_ _)); exact BK123.out)); (case side6 => exact (by (with_reducible repeat (first | refine Zj ?_ _ | refine Zf ?_ | refine Zi ?_ _)); refine Zd1 ?_ NB124_127.out _; (with_reducible repeat (first | refine Zj ?_ _ | refine Zf ?_ | refine Zi ?_ _)); refine Zd1 ?_ NB124_127.out _; (with_reducible repeat (first | refine Zj ?_ _ | refine Zf ?_ | refine Zi ?_ _)); exact BK124.out)); (case side7 => exact (by (with_reducible repeat (first | refine Zj ?_ _ | refine Zf ?_ | refine Zi ?_ _)); refine Zd1 ?_ NB125_127.out _; (with_reducible repeat (first | refine Zj ?_ _ | refine Zf ?_ | refine Zi ?_ _)); refine Zd1 ?_ NB125_127.out _; (with_reducible repeat (first | refine Zj ?_ _ | refine Zf ?_ | refine Zi ?_ _)); exact BK125.out)); (case side8 => exact NB123_124.out); (case side9 => exact NB123_125.out); (case side10 => exact NB124_125.out); rintro e w25 ⟨rfl, hb⟩; refine ⟨_, rfl, ?_⟩; have n0_ := Za.mk (Zp (g := gb123) (o := .cells #[.int .i64 a0_0, .int .i64 a0_1, .int .i64 a0_2, .slice (some ad126) l0_3.length c0_3] 24 (0, 0)) (by (with_reducible repeat (first | refine Zj ?_ _ | refine Zf ?_ | refine Zi ?_ _)); refine Zd1 ?_ NB123_127.out _; (with_reducible repeat (first | refine Zj ?_ _ | refine Zf ?_ | refine Zi ?_ _)); refine Zd1 ?_ NB123_127.out _; (with_reducible repeat (first | refine Zj ?_ _ | refine Zf ?_ | refine Zi ?_ _)); exact BK123.out) hb); have n1_ := Za.mk (Zp (g := gb124) (o := .cells #[.bool a1] 4 (0, 0)) (by (with_reducible repeat (first | refine Zj ?_ _ | refine Zf ?_ | refine Zi ?_ _)); refine Zd1 ?_ NB124_127.out _; (with_reducible repeat (first | refine Zj ?_ _ | refine Zf ?_ | refine Zi ?_ _)); refine Zd1 ?_ NB124_127.out _; (with_reducible repeat (first | refine Zj ?_ _ | refine Zf ?_ | refine Zi ?_ _)); exact BK124.out) hb); have n2_ := Za.mk (Zp (g := gb125) (o := .cells #[.int .u32 x126000_2] 28 (0, 0)) (by (with_reducible repeat (first | refine Zj ?_ _ | refine Zf ?_ | refine Zi ?_ _)); refine Zd1 ?_ NB125_127.out _; (with_reducible repeat (first | refine Zj ?_ _ | refine Zf ?_ | refine Zi ?_ _)); refine Zd1 ?_ NB125_127.out _; (with_reducible repeat (first | refine Zj ?_ _ | refine Zf ?_ | refine Zi ?_ _)); exact BK125.out) hb); have n3_ := Za.mk (Zp (g := gb127) (o := .cells #[.int .i64 ((Zb l0_3 x16_2).f0), .slice A126_1 ((Zb l0_3 x16_2).f1).length c126_1] 38 (0, 0)) (by (with_reducible repeat (first | refine Zj ?_ _ | refine Zf ?_ | refine Zi ?_ _)); refine blk_put (cs := #[.int .i64 ((Zb l0_3 x16_2).f0), .slice none 0 0]) ?_ 1 _ rfl; (with_reducible repeat (first | refine Zj ?_ _ | refine Zf ?_ | refine Zi ?_ _)); refine blk_put (cs := #[.int .i64 0, .slice none 0 0]) ?_ 0 _ rfl; (with_reducible repeat (first | refine Zj ?_ _ | refine Zf ?_ | refine Zi ?_ _)); exact BK127.out) hb); have n4_ := Za.mk (Zr (by repeat (first | (with_reducible first | exact HB.out | apply Zh | apply Zk | apply Zg | refine Ze ?_ GE123.out | refine Ze ?_ GE124.out | refine Ze ?_ GE125.out | refine Ze ?_ GE127.out) | exact HB.out)) hb); clear BK123; clear BK124; clear BK125; clear BK127; clear HB; have BK123 := n0_; have BK124 := n1_; have BK125 := n2_; have BK127 := n3_; have HB := n4_; clear n0_ n1_ n2_ n3_ n4_; (try clear hb); (try clear hb2); (try clear hk); (try clear hi)))
      go_roundg k2
      case measure => have := HK1.out; have := HK2.out; omega
      case rel => exact ⟨(wrap64 (x16_2 + 1)), (x126000_2), (by first | rfl | (simp; done) | (simp [*]; done)), H', ⟨by have := HK1.out; have := HK2.out; omega⟩, ⟨by (with_reducible repeat (first | refine Zj ?_ _ | refine Zf ?_ | refine Zi ?_ _)); exact BK123.out⟩, ⟨by (with_reducible repeat (first | refine Zj ?_ _ | refine Zf ?_ | refine Zi ?_ _)); exact BK124.out⟩, ⟨by (with_reducible repeat (first | refine Zj ?_ _ | refine Zf ?_ | refine Zi ?_ _)); exact BK125.out⟩, ⟨by repeat (first | (with_reducible first | exact HB.out | apply Zh | apply Zk | apply Zg | refine Ze ?_ GE123.out | refine Ze ?_ GE124.out | refine Ze ?_ GE125.out | refine Ze ?_ GE127.out) | exact HB.out)⟩⟩
     (replace c19 := Bool.eq_false_iff.mpr c19); (subst c19); (have H1 : (if 0 ≤ ((Zb l0_3 x16_2).f0) then (Zm1.l1 k2 a0_1 x11_1 l0_3 (l0_3.length : Int) (wrap64 (x16_2 + 1)) a0_0 a0_1 a0_2 l0_3 a1 (Go.bits .or .u32 x126000_2 (shl .u32 1 ((Zb l0_3 x16_2).f0)))) else (none)) = some r := by rw [if_neg (show ¬ (false = true) by decide)] at H; exact H); (clear H); (have H := H1); (clear H1)
     by_cases c26 : 0 ≤ ((Zb l0_3 x16_2).f0)
     rotate_left
     ·rw [if_neg c26] at H
      exact absurd H (by simp)
     (rw [if_pos c26] at H); (have c26b0 := eq_true c26); (have c26b1 : decide (0 ≤ ((Zb l0_3 x16_2).f0)) = true := decide_eq_true c26); (clear c26); (obtain ⟨ji27, hji27⟩ : ∃ j_ : Int, (shl .u32 1 ((Zb l0_3 x16_2).f0)) = j_ := ⟨_, rfl⟩); (replace H : (Zm1.l1 k2 a0_1 x11_1 l0_3 (l0_3.length : Int) (wrap64 (x16_2 + 1)) a0_0 a0_1 a0_2 l0_3 a1 (Go.bits .or .u32 x126000_2 (ji27))) = some r := by first | (rw [hji27] at H; exact H) | (simp only [hji27] at H ⊢; exact H)); ((try rw [hji27] at A18)); (have hji27_ : (IntKind.u32.wrap (1 * 2 ^ min ((Zb l0_3 x16_2).f0).toNat 32)) = ji27 := hji27); (have hji27z : ((Zb l0_3 x16_2).f0) ≤ 32 → (IntKind.u32.wrap (1 * 2 ^ ((Zb l0_3 x16_2).f0).toNat)) = ji27 := shl_small hji27); (have hji27u : (IntKind.u32.wrap (2 ^ min ((Zb l0_3 x16_2).f0).toNat 32)) = ji27 := by have h_ := hji27_; rw [Int.one_mul] at h_; exact h_); (have hji27v : ((Zb l0_3 x16_2).f0) ≤ 32 → (IntKind.u32.wrap (2 ^ ((Zb l0_3 x16_2).f0).toNat)) = ji27 := fun hle_ => by have h_ := hji27z hle_; rw [Int.one_mul] at h_; exact h_); (have H' := Za.mk H); (clear H); (have p126 : 0 ≤ (x16_2 : Int) := of_decide_eq_true (by assumption)); (have q126 : x16_2 < (l0_3.length : Int) := of_decide_eq_true (by assumption)); (obtain ⟨ad126, A126_1, c126_1, e126, hx126_0, hx126_1, hl126_1, hi126_1⟩ := at_T38 HR0_3.out x16_2 p126 q126); (cases e126); (replace hx126_0 := (HB.out.cell (World.block_lt_of_cell? w _ hx126_0)).trans hx126_0); (replace hx126_1 := (HB.out.cell (World.block_lt_of_cell? w _ hx126_1)).trans hx126_1); (have HR126_1 := Za.mk hi126_1)
     (have HC126_1 := Za.mk hl126_1); (clear hi126_1 hl126_1); (replace p126 := eq_true p126); (replace q126 := eq_true q126)
     try go_wp2_with (first | ((with_reducible refine Zb1 (N := 7) rfl ?_); refine Zc1 ?hg (N := 7) ?hd (cs := #[.int .i64 0, .slice none 0 0]) (t := 38) ?hr ?_; (case hd => rfl); (case hg => rfl); (case hr => first | (go_simp; done) | (go_simp; rfl)); intro gb127 hg w28 hbox hb; have n0_ := Za.mk (Zp (g := gb123) (o := .cells #[.int .i64 a0_0, .int .i64 a0_1, .int .i64 a0_2, .slice (some ad126) l0_3.length c0_3] 24 (0, 0)) (by (with_reducible repeat (first | refine Zj ?_ _ | refine Zf ?_ | refine Zi ?_ _)); exact BK123.out) hb); have n1_ := Za.mk (Zp (g := gb124) (o := .cells #[.bool a1] 4 (0, 0)) (by (with_reducible repeat (first | refine Zj ?_ _ | refine Zf ?_ | refine Zi ?_ _)); exact BK124.out) hb); have n2_ := Za.mk (Zp (g := gb125) (o := .cells #[.int .u32 x126000_2] 28 (0, 0)) (by (with_reducible repeat (first | refine Zj ?_ _ | refine Zf ?_ | refine Zi ?_ _)); exact BK125.out) hb); have n3_ := Za.mk (Zr (by repeat (first | (with_reducible first | exact HB.out | apply Zh | apply Zk | apply Zg | refine Ze ?_ GE123.out | refine Ze ?_ GE124.out | refine Ze ?_ GE125.out) | exact HB.out)) hb); have n4_ := Za.mk (hbox); have n5_ := Za.mk ((by rw [hg]; exact (Zo (by repeat (first | (with_reducible first | exact HB.out | apply Zh | apply Zk | apply Zg | refine Ze ?_ GE123.out | refine Ze ?_ GE124.out | refine Ze ?_ GE125.out) | exact HB.out))) : w.heap.size ≤ gb127)); have n6_ := Za.mk ((by rw [hg]; exact (Zo (by repeat (first | (with_reducible first | exact HB.out | apply Zh | apply Zk | apply Zg | refine Ze ?_ GE123.out | refine Ze ?_ GE124.out | refine Ze ?_ GE125.out) | exact HB.out))) : w.heap.size ≤ gb127)); have n7_ := Za.mk ((by rw [hg]; exact Nat.ne_of_lt (Zx (g := gb123) (o := .cells #[.int .i64 a0_0, .int .i64 a0_1, .int .i64 a0_2, .slice (some ad126) l0_3.length c0_3] 24 (0, 0)) (by (with_reducible repeat (first | refine Zj ?_ _ | refine Zf ?_ | refine Zi ?_ _)); exact BK123.out)) : gb123 ≠ gb127)); have n8_ := Za.mk ((by rw [hg]; exact Nat.ne_of_gt (Zx (g := gb123) (o := .cells #[.int .i64 a0_0, .int .i64 a0_1, .int .i64 a0_2, .slice (some ad126) l0_3.length c0_3] 24 (0, 0)) (by (with_reducible repeat (first | refine Zj ?_ _ | refine Zf ?_ | refine Zi ?_ _)); exact BK123.out)) : gb127 ≠ gb123)); have n9_ := Za.mk ((by rw [hg]; exact Nat.ne_of_lt (Zx (g := gb124) (o := .cells #[.bool a1] 4 (0, 0)) (by (with_reducible repeat (first | refine Zj ?_ _ | refine Zf ?_ | refine Zi ?_ _)); exact BK124.out)) : gb124 ≠ gb127)); have n10_ := Za.mk ((by rw [hg]; exact Nat.ne_of_gt (Zx (g := gb124) (o := .cells #[.bool a1] 4 (0, 0)) (by (with_reducible repeat (first | refine Zj ?_ _ | refine Zf ?_ | refine Zi ?_ _)); exact BK124.out)) : gb127 ≠ gb124)); have n11_ := Za.mk ((by rw [hg]; exact Nat.ne_of_lt (Zx (g := gb125) (o := .cells #[.int .u32 x126000_2] 28 (0, 0)) (by (with_reducible repeat (first | refine Zj ?_ _ | refine Zf ?_ | refine Zi ?_ _)); exact BK125.out)) : gb125 ≠ gb127)); have n12_ := Za.mk ((by rw [hg]; exact Nat.ne_of_gt (Zx (g := gb125) (o := .cells #[.int .u32 x126000_2] 28 (0, 0)) (by (with_reducible repeat (first | refine Zj ?_ _ | refine Zf ?_ | refine Zi ?_ _)); exact BK125.out)) : gb127 ≠ gb125)); clear BK123; clear BK124; clear BK125; clear HB; have BK123 := n0_; have BK124 := n1_; have BK125 := n2_; have HB := n3_; have BK127 := n4_; have GW127 := n5_; have GE127 := n6_; have NB123_127 := n7_; have NB127_123 := n8_; have NB124_127 := n9_; have NB127_124 := n10_; have NB125_127 := n11_; have NB127_125 := n12_; clear n0_ n1_ n2_ n3_ n4_ n5_ n6_ n7_ n8_ n9_ n10_ n11_ n12_; clear hb hbox hg; have hnb29 := NB127_123.out; have hnc29 := NB123_127.out; have hnb30 := NB127_124.out; have hnc30 := NB124_127.out; have hnb31 := NB127_125.out; have hnc31 := NB125_127.out; have hcz32_0 : w28.cell? ⟨gb127, 0, none⟩ = some (.int .i64 0) := (Zc BK127.out 0).trans rfl; have hcz32_1 : w28.cell? ⟨gb127, 1, none⟩ = some (.slice none 0 0) := (Zc BK127.out 1).trans rfl; have hfz32_0 := Zd BK127.out 0; have hfz32_1 := Zd BK127.out 1) | ((with_reducible refine Zp1 (f := 69) rfl ?_); refine goesL_ (some 24) rfl rfl Try.func69 (by kernel_rfl) rfl #[.slice A126_1 ((Zb l0_3 x16_2).f1).length c126_1, .func (.func 71) #[] #[.pointer (some ⟨gb123, 0, none⟩), .pointer (some ⟨gb124, 0, none⟩), .pointer (some ⟨gb125, 0, none⟩)]] rfl (by (try simp only [List.map_toArray, List.map_cons, List.map_nil]); first | done | rfl | (simp only [List.length_drop, List.length_take]; rfl)) ?_; (with_reducible refine (grammar_Least_1_any.calls _ _ ((Zb l0_3 x16_2).f1) a0_0 a0_1 a0_2 ((some ad126)) (c0_3) l0_3 gb123 a1 gb124 x126000_2 gb125 false _ ?side1 ?side2 ?side3 ?side4 ?side5 ?side6 ?side7 ?side8 ?side9 ?side10 A18.out).mono ?_); (case side1 => exact Kd.C_below HR126_1.out (by repeat (first | (with_reducible first | exact HB.out | apply Zh | apply Zk | apply Zg | refine Ze ?_ GE123.out | refine Ze ?_ GE124.out | refine Ze ?_ GE125.out | refine Ze ?_ GE127.out) | exact HB.out))); (case side2 => exact HC126_1.out); (case side3 => exact Kd.C_below HR0_3.out (by repeat (first | (with_reducible first | exact HB.out | apply Zh | apply Zk | apply Zg | refine Ze ?_ GE123.out | refine Ze ?_ GE124.out | refine Ze ?_ GE125.out | refine Ze ?_ GE127.out) | exact HB.out))); (case side4 => exact HC0_3.out); (case side5 => exact (by (with_reducible repeat (first | refine Zj ?_ _ | refine Zf ?_ | refine Zi ?_ _)); refine Zd1 ?_ NB123_127.out _; (with_reducible repeat (first | refine Zj ?_ _ | refine Zf ?_ | refine Zi ?_ _)); refine Zd1 ?_ NB123_127.out _; (with_reducible repeat (first | refine Zj ?_ _ | refine Zf ?_ | refine Zi ?_ _)); exact BK123.out)); (case side6 => exact (by (with_reducible repeat (first | refine Zj ?_ _ | refine Zf ?_ | refine Zi ?_ _)); refine Zd1 ?_ NB124_127.out _; (with_reducible repeat (first | refine Zj ?_ _ | refine Zf ?_ | refine Zi ?_ _)); refine Zd1 ?_ NB124_127.out _; (with_reducible repeat (first | refine Zj ?_ _ | refine Zf ?_ | refine Zi ?_ _)); exact BK124.out)); (case side7 => exact (by (with_reducible repeat (first | refine Zj ?_ _ | refine Zf ?_ | refine Zi ?_ _)); refine Zd1 ?_ NB125_127.out _; (with_reducible repeat (first | refine Zj ?_ _ | refine Zf ?_ | refine Zi ?_ _)); refine Zd1 ?_ NB125_127.out _; (with_reducible repeat (first | refine Zj ?_ _ | refine Zf ?_ | refine Zi ?_ _)); exact BK125.out)); (case side8 => exact NB123_124.out); (case side9 => exact NB123_125.out); (case side10 => exact NB124_125.out); rintro e w33 ⟨rfl, hb⟩; refine ⟨_, rfl, ?_⟩; have n0_ := Za.mk (Zp (g := gb123) (o := .cells #[.int .i64 a0_0, .int .i64 a0_1, .int .i64 a0_2, .slice (some ad126) l0_3.length c0_3] 24 (0, 0)) (by (with_reducible repeat (first | refine Zj ?_ _ | refine Zf ?_ | refine Zi ?_ _)); refine Zd1 ?_ NB123_127.out _; (with_reducible repeat (first | refine Zj ?_ _ | refine Zf ?_ | refine Zi ?_ _)); refine Zd1 ?_ NB123_127.out _; (with_reducible repeat (first | refine Zj ?_ _ | refine Zf ?_ | refine Zi ?_ _)); exact BK123.out) hb); have n1_ := Za.mk (Zp (g := gb124) (o := .cells #[.bool a1] 4 (0, 0)) (by (with_reducible repeat (first | refine Zj ?_ _ | refine Zf ?_ | refine Zi ?_ _)); refine Zd1 ?_ NB124_127.out _; (with_reducible repeat (first | refine Zj ?_ _ | refine Zf ?_ | refine Zi ?_ _)); refine Zd1 ?_ NB124_127.out _; (with_reducible repeat (first | refine Zj ?_ _ | refine Zf ?_ | refine Zi ?_ _)); exact BK124.out) hb); have n2_ := Za.mk (Zp (g := gb125) (o := .cells #[.int .u32 x126000_2] 28 (0, 0)) (by (with_reducible repeat (first | refine Zj ?_ _ | refine Zf ?_ | refine Zi ?_ _)); refine Zd1 ?_ NB125_127.out _; (with_reducible repeat (first | refine Zj ?_ _ | refine Zf ?_ | refine Zi ?_ _)); refine Zd1 ?_ NB125_127.out _; (with_reducible repeat (first | refine Zj ?_ _ | refine Zf ?_ | refine Zi ?_ _)); exact BK125.out) hb); have n3_ := Za.mk (Zp (g := gb127) (o := .cells #[.int .i64 ((Zb l0_3 x16_2).f0), .slice A126_1 ((Zb l0_3 x16_2).f1).length c126_1] 38 (0, 0)) (by (with_reducible repeat (first | refine Zj ?_ _ | refine Zf ?_ | refine Zi ?_ _)); refine blk_put (cs := #[.int .i64 ((Zb l0_3 x16_2).f0), .slice none 0 0]) ?_ 1 _ rfl; (with_reducible repeat (first | refine Zj ?_ _ | refine Zf ?_ | refine Zi ?_ _)); refine blk_put (cs := #[.int .i64 0, .slice none 0 0]) ?_ 0 _ rfl; (with_reducible repeat (first | refine Zj ?_ _ | refine Zf ?_ | refine Zi ?_ _)); exact BK127.out) hb); have n4_ := Za.mk (Zr (by repeat (first | (with_reducible first | exact HB.out | apply Zh | apply Zk | apply Zg | refine Ze ?_ GE123.out | refine Ze ?_ GE124.out | refine Ze ?_ GE125.out | refine Ze ?_ GE127.out) | exact HB.out)) hb); clear BK123; clear BK124; clear BK125; clear BK127; clear HB; have BK123 := n0_; have BK124 := n1_; have BK125 := n2_; have BK127 := n3_; have HB := n4_; clear n0_ n1_ n2_ n3_ n4_; (try clear hb); (try clear hb2); (try clear hk); (try clear hi)))
     (have n0_ := Za.mk (Zf BK123.out)); (have n1_ := Za.mk (Zf BK124.out)); (have n2_ := Za.mk (Zf BK125.out)); (have n3_ := Za.mk (Zf BK127.out)); (have n4_ := Za.mk (Zg HB.out)); (clear BK123); (clear BK124); (clear BK125); (clear BK127); (clear HB); (have BK123 := n0_); (have BK124 := n1_); (have BK125 := n2_); (have BK127 := n3_); (have HB := n4_); (clear n0_ n1_ n2_ n3_ n4_)
     refine start_ (n := 6) (S := fun w' => w'.cell? ⟨gb125, 0, none⟩ = some (.int .u32 x126000_2) ∧ w'.cell? ⟨gb127, 0, none⟩ = some (.int .i64 ((Zb l0_3 x16_2).f0)) ∧ w'.cell? ⟨gb127, 1, none⟩ = some (.slice A126_1 ((Zb l0_3 x16_2).f1).length c126_1)) (ds := [5]) #[false, false, false, false, false, false] (by kernel_rfl) rfl rfl ⟨(Zc BK125.out 0).trans rfl, (Zc BK127.out 0).trans rfl, (Zc BK127.out 1).trans rfl⟩ (fun hHeld => ?_)
     generalize w33.drew = w34 at BK123 BK124 BK125 BK127 HB hHeld ⊢
     refine pure_ (i := 1) (N := some 27) (v := ?_) (a' := ?_) #[false, true, false, false, false, false] rfl rfl (by kernel_rfl) (fun _ _ _ h => h) (Or.inl ⟨by rfl, ?_⟩) ?_ ?_
     rotate_left
     ·intro w'
      go_simp
      with_reducible rfl
     rotate_left
     ·simp only [Act.put, List.setIfInBounds_toArray, List.set_cons_zero, List.set_cons_succ, Zl, Zm]
      rfl
     refine take_ (i := 0) (N := some 26) (v := ?_) (a' := ?_) #[true, true, false, false, false, false] rfl rfl (by kernel_rfl) (fun _ _ _ h => h) (Or.inl ⟨by rfl, ?_⟩) hHeld ?_ ?_
     rotate_left
     ·rintro w' ⟨s0, s1, s2⟩
      go_simp
      with_reducible rfl
     rotate_left
     ·simp only [Act.put, List.setIfInBounds_toArray, List.set_cons_zero, List.set_cons_succ, Zl, Zm]
      rfl
     refine take_ (i := 2) (N := some 28) (v := ?_) (a' := ?_) #[true, true, true, false, false, false] rfl rfl (by kernel_rfl) (fun _ _ _ h => h) (Or.inl ⟨by rfl, ?_⟩) hHeld ?_ ?_
     rotate_left
     ·rintro w' ⟨s0, s1, s2⟩
      go_simp
      with_reducible rfl
     rotate_left
     ·simp only [Act.put, List.setIfInBounds_toArray, List.set_cons_zero, List.set_cons_succ, Zl, Zm]
      rfl
     refine pure_ (i := 3) (N := some 29) (v := ?_) (a' := ?_) #[true, true, true, true, false, false] rfl rfl (by kernel_rfl) (fun _ _ _ h => h) (Or.inl ⟨by rfl, ?_⟩) ?_ ?_
     rotate_left
     ·intro w'
      go_simp
      with_reducible rfl
     rotate_left
     ·simp only [Act.put, List.setIfInBounds_toArray, List.set_cons_zero, List.set_cons_succ, Zl, Zm]
      rfl
     refine pure_ (i := 4) (N := some 30) (v := ?_) (a' := ?_) #[true, true, true, true, true, false] rfl rfl (by kernel_rfl) (fun _ _ _ h => h) (Or.inl ⟨by rfl, ?_⟩) ?_ ?_
     rotate_left
     ·intro w'
      go_simp
      with_reducible rfl
     rotate_left
     ·simp only [Act.put, List.setIfInBounds_toArray, List.set_cons_zero, List.set_cons_succ, Zl, Zm]
      rfl
     refine last_ (i := 5) (N := none) #[true, true, true, true, true, true] rfl rfl (by kernel_rfl) (by decide) (fun K hK => ?_)
     (have hs35 : w34.cell? ⟨gb125, 0, none⟩ = some (.int .u32 x126000_2) := (Zc BK125.out 0).trans rfl); (have hfs35 := Zd BK125.out 0); (have hns35_0 := NB123_125.out); (have hns35_1 := NB124_125.out); (have hns35_3 := NB127_125.out); (have hms35_0 := NB125_123.out); (have hms35_1 := NB125_124.out); (have hms35_3 := NB125_127.out)
     refine skip_ (w1 := ?_) (by rfl) rfl ?_ ?_
     rotate_left
     ·go_simp
      rfl
     refine hK.out _ _ ?_
     clear hK K
     refine done_ (by kernel_rfl) ?_
     try go_wp2
     (first | go_roundg k2 | (simp only [← hji27]; go_roundg k2))
     case measure => have := HK1.out; have := HK2.out; omega
     case rel => exact ⟨(wrap64 (x16_2 + 1)), (Go.bits .or .u32 x126000_2 (ji27)), (by first | rfl | (simp; done) | (simp [*]; done)), H', ⟨by have := HK1.out; have := HK2.out; omega⟩, ⟨by (with_reducible repeat (first | refine Zj ?_ _ | refine Zf ?_ | refine Zi ?_ _)); refine Zd1 ?_ NB123_125.out _; (with_reducible repeat (first | refine Zj ?_ _ | refine Zf ?_ | refine Zi ?_ _)); exact BK123.out⟩, ⟨by (with_reducible repeat (first | refine Zj ?_ _ | refine Zf ?_ | refine Zi ?_ _)); refine Zd1 ?_ NB124_125.out _; (with_reducible repeat (first | refine Zj ?_ _ | refine Zf ?_ | refine Zi ?_ _)); exact BK124.out⟩, ⟨by (with_reducible repeat (first | refine Zj ?_ _ | refine Zf ?_ | refine Zi ?_ _)); refine blk_put (cs := #[.int .u32 x126000_2]) ?_ 0 _ rfl; (with_reducible repeat (first | refine Zj ?_ _ | refine Zf ?_ | refine Zi ?_ _)); exact BK125.out⟩, ⟨by repeat (first | (with_reducible first | exact HB.out | apply Zh | apply Zk | apply Zg | refine Ze ?_ GE123.out | refine Ze ?_ GE124.out | refine Ze ?_ GE125.out | refine Ze ?_ GE127.out) | exact HB.out)⟩⟩
def Zh1.l0 : Nat → List Int → Int → Int → List Int → Int → Int → Int → Int → Int → List (S38) → Option (Int × Bool)
  | 0, _, _, _, _, _, _, _, _, _, _ => none
  | k + 1, x1, x2, x10, x13, x14, x15, x130000, x130001, x130002, x130003 => if x15 < x14 then (if 0 ≤ x15 then (if x15 < (x13.length : Int) then (if (rd x13 x15) < x130000 then (if 0 ≤ (rd x13 x15) then (some (Go.bits .or .u32 x10 (shl .u32 1 (rd x13 x15)), false)) else (none)) else (if 0 ≤ (wrap64 ((rd x13 x15) - x130000)) then (if (wrap64 ((rd x13 x15) - x130000)) < (x1.length : Int) then (if (Go.bits .and .u32 (shr .u32 x2 (wrap64 ((rd x13 x15) - x130000))) 1) = 0 then (some (Go.bits .or .u32 x10 (rd x1 (wrap64 ((rd x13 x15) - x130000))), false)) else (Zh1.l0 k x1 x2 (Go.bits .or .u32 x10 (rd x1 (wrap64 ((rd x13 x15) - x130000)))) x13 x14 (wrap64 (x15 + 1)) x130000 x130001 x130002 x130003)) else (none)) else (none))) else (none)) else (none)) else (some (x10, true))
def Zh1.f (k : Nat) (a0_0 : Int) (a0_1 : Int) (a0_2 : Int) (l0_3 : List (S38)) (l1 : List Int) (a2 : Int) (l3 : List Int) : Option (Int × Bool) := Zh1.l0 k l1 a2 0 l3 (l3.length : Int) 0 a0_0 a0_1 a0_2 l0_3
theorem Zh1.mono_l : ∀ k, (∀ y0 y1 y2 y3 y4 y5 y6 y7 y8 y9, LeO (Zh1.l0 k y0 y1 y2 y3 y4 y5 y6 y7 y8 y9) (Zh1.l0 (k + 1) y0 y1 y2 y3 y4 y5 y6 y7 y8 y9))
  | 0 => fun _ _ _ _ _ _ _ _ _ _ r h => by simp [Zh1.l0] at h
  | k + 1 => by
    have ih0 := Zh1.mono_l k
    · intro y0 y1 y2 y3 y4 y5 y6 y7 y8 y9
      unfold Zh1.l0
      repeat' first
      | (with_reducible exact ih0 _ _ _ _ _ _ _ _ _ _)
      | (with_reducible exact LeO.refl _)
      | (with_reducible exact LeO.none _)
      | (with_reducible refine LeO.ite ?_ ?_)
      | (with_reducible refine LeO.bind ?_ (fun _ => ?_))
      | exact ih0 _ _ _ _ _ _ _ _ _ _
      | exact LeO.none _
      | refine LeO.ite ?_ ?_
      | refine LeO.bind ?_ (fun _ => ?_)
theorem Zh1.mono : ∀ a0 a1 a2 a3 a4 a5 a6 k, LeO (Zh1.f k a0 a1 a2 a3 a4 a5 a6) (Zh1.f (k + 1) a0 a1 a2 a3 a4 a5 a6) := by
  intro a0 a1 a2 a3 a4 a5 a6 k
  have ih0 := Zh1.mono_l k
  unfold Zh1.f
  repeat' first
      | (with_reducible exact ih0 _ _ _ _ _ _ _ _ _ _)
      | (with_reducible exact LeO.refl _)
      | (with_reducible exact LeO.none _)
      | (with_reducible refine LeO.ite ?_ ?_)
      | (with_reducible refine LeO.bind ?_ (fun _ => ?_))
      | exact ih0 _ _ _ _ _ _ _ _ _ _
      | exact LeO.none _
      | refine LeO.ite ?_ ?_
      | refine LeO.bind ?_ (fun _ => ?_)
set_option maxHeartbeats 8000000 in
set_option maxRecDepth 100000 in
theorem Zh1.calls (k : Nat) (a0_0 : Int) (a0_1 : Int) (a0_2 : Int) (A0_3 : Option Addr) (c0_3 : Nat) (l0_3 : List (S38)) (A1 : Option Addr) (c1 : Nat) (l1 : List Int) (a2 : Int) (A3 : Option Addr) (c3 : Nat) (l3 : List Int) (r1 : Int) (r2 : Bool) (w : World) (hr0_3 : Kd.C k38 w A0_3 l0_3.length l0_3) (hc0_3 : l0_3.length ≤ c0_3) (hr1 : Kd.C (Kd.int .u32) w A1 l1.length l1) (hc1 : l1.length ≤ c1) (hr3 : Kd.C (Kd.int .i64) w A3 l3.length l3) (hc3 : l3.length ≤ c3) (h : Zh1.f k a0_0 a0_1 a0_2 l0_3 l1 a2 l3 = some (r1, r2)) :
    Calls Try.prog 77 #[.agg #[.int .i64 a0_0, .int .i64 a0_1, .int .i64 a0_2, .slice A0_3 l0_3.length c0_3], .slice A1 l1.length c1, .int .u32 a2, .slice A3 l3.length c3] w fun e w' => e = .returned (.tuple #[.int .u32 r1, .bool r2]) ∧ Below w.heap.size w w' := by
  have hu24 := Try.underlying24
  have hu28 := Try.underlying28
  have HR0_3 := Za.mk hr0_3
  have HC0_3 := Za.mk hc0_3
  clear hr0_3 hc0_3
  have HR1 := Za.mk hr1
  have HC1 := Za.mk hc1
  clear hr1 hc1
  have HR3 := Za.mk hr3
  have HC3 := Za.mk hc3
  clear hr3 hc3
  have HB := Za.mk (Below.refl w.heap.size w)
  have H : (Zh1.l0 k l1 a2 0 l3 (l3.length : Int) 0 a0_0 a0_1 a0_2 l0_3) = some (r1, r2) := h
  clear h
  have H' := Za.mk H
  clear H
  go_enter Try.func77, Try.ntmps77
  go_wp2_with (first | ((with_reducible refine Zb1 (N := 4) rfl ?_); refine Zc1 ?hg (N := 4) ?hd (cs := #[.int .i64 a0_0, .int .i64 a0_1, .int .i64 a0_2, .slice A0_3 l0_3.length c0_3]) (t := 24) ?hr ?_; (case hd => rfl); (case hg => rfl); (case hr => first | (go_simp; done) | (go_simp; rfl)); intro gb129 hg w5 hbox hb; have n0_ := Za.mk (Zr (by repeat (first | (with_reducible first | exact HB.out | apply Zh | apply Zk | apply Zg) | exact HB.out)) hb); have n1_ := Za.mk (hbox); have n2_ := Za.mk ((by rw [hg]; exact (Zo (by repeat (first | (with_reducible first | exact HB.out | apply Zh | apply Zk | apply Zg) | exact HB.out))) : w.heap.size ≤ gb129)); have n3_ := Za.mk ((by rw [hg]; exact (Zo (by repeat (first | (with_reducible first | exact HB.out | apply Zh | apply Zk | apply Zg) | exact HB.out))) : w.heap.size ≤ gb129)); clear HB; have HB := n0_; have BK129 := n1_; have GW129 := n2_; have GE129 := n3_; clear n0_ n1_ n2_ n3_; clear hb hbox hg))
  go_loopg [10, 15] k (fun kq v10 v15 w' => ∃ (x10_1 : Int) (x15_1 : Int), v10 = .int .u32 x10_1 ∧ v15 = .int .i64 x15_1 ∧ Za (Zh1.l0 kq l1 a2 x10_1 l3 (l3.length : Int) x15_1 a0_0 a0_1 a0_2 l0_3 = some (r1, r2)) ∧ Za (kq ≤ k) ∧ Za (w'.heap[gb129]? = some (.cells #[.int .i64 a0_0, .int .i64 a0_1, .int .i64 a0_2, (.slice A0_3 l0_3.length c0_3)] 24 (0, 0))) ∧ Za (Below w.heap.size w w'))
  case atStart => exact ⟨(0), (0), (by first | rfl | (simp; done) | (simp [*]; done)), (by first | rfl | (simp; done) | (simp [*]; done)), H', ⟨Nat.le_refl _⟩, ⟨by (with_reducible repeat (first | refine Zj ?_ _ | refine Zf ?_ | refine Zi ?_ _)); exact BK129.out⟩, ⟨by repeat (first | (with_reducible first | exact HB.out | apply Zh | apply Zk | apply Zg | refine Ze ?_ GE129.out) | exact HB.out)⟩⟩
  case round =>
    clear H'
    try clear c1
    try clear p2
    try clear c3
    obtain ⟨x10_1, x15_1, rfl, rfl, HA, HK1, BK129, HB⟩ := hrel
    cases gk with
    | zero => exact absurd HA.out (by simp [Zh1.l0])
    | succ k1 =>
      have H := HA.out
      clear HA
      simp only [Zh1.l0] at H
      by_cases c6 : x15_1 < (l3.length : Int)
      · rw [if_pos c6] at H
        have c6b0 : decide (x15_1 < (l3.length : Int)) = true := decide_eq_true c6
        clear c6
        by_cases c7 : 0 ≤ x15_1
        · rw [if_pos c7] at H
          have c7b0 : decide (0 ≤ x15_1) = true := decide_eq_true c7
          clear c7
          by_cases c8 : x15_1 < (l3.length : Int)
          · rw [if_pos c8] at H
            have c8b0 : decide (x15_1 < (l3.length : Int)) = true := decide_eq_true c8
            clear c8
            by_cases c9 : (rd l3 x15_1) < a0_0
            · rw [if_pos c9] at H
              have c9b0 : decide ((rd l3 x15_1) < a0_0) = true := decide_eq_true c9
              clear c9
              by_cases c10 : 0 ≤ (rd l3 x15_1)
              · rw [if_pos c10] at H
                have c10b0 := eq_true c10
                have c10b1 : decide (0 ≤ (rd l3 x15_1)) = true := decide_eq_true c10
                clear c10
                obtain ⟨ji11, hji11⟩ : ∃ j_ : Int, (shl .u32 1 (rd l3 x15_1)) = j_ := ⟨_, rfl⟩
                replace H : (some (Go.bits .or .u32 x10_1 (ji11), false)) = some (r1, r2) := by first | (rw [hji11] at H; exact H) | (simp only [hji11] at H ⊢; exact H)
                have hji11_ : (IntKind.u32.wrap (1 * 2 ^ min (rd l3 x15_1).toNat 32)) = ji11 := hji11
                have hji11z : (rd l3 x15_1) ≤ 32 → (IntKind.u32.wrap (1 * 2 ^ (rd l3 x15_1).toNat)) = ji11 := shl_small hji11
                have hji11u : (IntKind.u32.wrap (2 ^ min (rd l3 x15_1).toNat 32)) = ji11 := by have h_ := hji11_; rw [Int.one_mul] at h_; exact h_
                have hji11v : (rd l3 x15_1) ≤ 32 → (IntKind.u32.wrap (2 ^ (rd l3 x15_1).toNat)) = ji11 := fun hle_ => by have h_ := hji11z hle_; rw [Int.one_mul] at h_; exact h_
                simp only [Option.some.injEq, Prod.mk.injEq] at H
                obtain ⟨rfl, rfl⟩ := H
                have p130 : 0 ≤ (x15_1 : Int) := of_decide_eq_true (by assumption)
                have q130 : x15_1 < (l3.length : Int) := of_decide_eq_true (by assumption)
                obtain ⟨ad130, e130, hx130_0⟩ := Kd.at_int HR3.out x15_1 p130 q130
                cases e130
                replace hx130_0 := (HB.out.cell (World.block_lt_of_cell? w _ hx130_0)).trans hx130_0
                replace p130 := eq_true p130
                replace q130 := eq_true q130
                have hcz12_0 : wr.cell? ⟨gb129, 0, none⟩ = some (.int .i64 a0_0) := (Zc BK129.out 0).trans rfl
                have hcz12_1 : wr.cell? ⟨gb129, 1, none⟩ = some (.int .i64 a0_1) := (Zc BK129.out 1).trans rfl
                have hcz12_2 : wr.cell? ⟨gb129, 2, none⟩ = some (.int .i64 a0_2) := (Zc BK129.out 2).trans rfl
                have hcz12_3 : wr.cell? ⟨gb129, 3, none⟩ = some (.slice A0_3 l0_3.length c0_3) := (Zc BK129.out 3).trans rfl
                have hfz12_0 := Zd BK129.out 0
                have hfz12_1 := Zd BK129.out 1
                have hfz12_2 := Zd BK129.out 2
                have hfz12_3 := Zd BK129.out 3
                go_wp2
                go_ret2
                exact ⟨by first | rfl | (simp [Zu, Zt] <;> rfl) | (simp only [← hji11]; first | rfl | (simp [Zu, Zt] <;> rfl)) | (simp [*, Zu, Zt] <;> rfl), by repeat (first | (with_reducible first | exact HB.out | apply Zh | apply Zk | apply Zg | refine Ze ?_ GE129.out) | exact HB.out)⟩
              · rw [if_neg c10] at H
                exact absurd H (by simp)
            · rw [if_neg c9] at H
              have c9b0 : decide ((rd l3 x15_1) < a0_0) = false := decide_eq_false c9
              clear c9
              obtain ⟨ji13, hji13⟩ : ∃ j_ : Int, (wrap64 ((rd l3 x15_1) - a0_0)) = j_ := ⟨_, rfl⟩
              replace H : (if 0 ≤ (ji13) then (if (ji13) < (l1.length : Int) then (if (Go.bits .and .u32 (shr .u32 a2 (ji13)) 1) = 0 then (some (Go.bits .or .u32 x10_1 (rd l1 (ji13)), false)) else (Zh1.l0 k1 l1 a2 (Go.bits .or .u32 x10_1 (rd l1 (ji13))) l3 (l3.length : Int) (wrap64 (x15_1 + 1)) a0_0 a0_1 a0_2 l0_3)) else (none)) else (none)) = some (r1, r2) := by first | (rw [hji13] at H; exact H) | (simp only [hji13] at H ⊢; exact H)
              have hji13w : (IntKind.i64.wrap ((rd l3 x15_1) - a0_0)) = ji13 := (Zl _).trans hji13
              by_cases c14 : 0 ≤ (ji13)
              · rw [if_pos c14] at H
                have c14b0 : decide (0 ≤ (ji13)) = true := decide_eq_true c14
                clear c14
                by_cases c15 : (ji13) < (l1.length : Int)
                · rw [if_pos c15] at H
                  have c15b0 : decide ((ji13) < (l1.length : Int)) = true := decide_eq_true c15
                  clear c15
                  have c16b0 := eq_true (of_decide_eq_true (by assumption) : 0 ≤ (ji13))
                  obtain ⟨ji17, hji17⟩ : ∃ j_ : Int, (shr .u32 a2 (ji13)) = j_ := ⟨_, rfl⟩
                  replace H : (if (Go.bits .and .u32 (ji17) 1) = 0 then (some (Go.bits .or .u32 x10_1 (rd l1 (ji13)), false)) else (Zh1.l0 k1 l1 a2 (Go.bits .or .u32 x10_1 (rd l1 (ji13))) l3 (l3.length : Int) (wrap64 (x15_1 + 1)) a0_0 a0_1 a0_2 l0_3)) = some (r1, r2) := by first | (rw [hji17] at H; exact H) | (simp only [hji17] at H ⊢; exact H)
                  have hji17_ : (a2 / 2 ^ min (ji13).toNat 32) = ji17 := hji17
                  have hji17z : (ji13) ≤ 32 → (a2 / 2 ^ (ji13).toNat) = ji17 := shr_small hji17
                  by_cases c18 : (Go.bits .and .u32 (ji17) 1) = 0
                  · rw [if_pos c18] at H
                    have c18b0 : ((Go.bits .and .u32 (ji17) 1) == 0) = true := beq_iff_eq.mpr c18
                    have c18b1 : ((Go.bits .and .u32 (ji17) 1) != 0) = false := bne_eq_false_iff_eq.mpr c18
                    clear c18
                    simp only [Option.some.injEq, Prod.mk.injEq] at H
                    obtain ⟨rfl, rfl⟩ := H
                    have p130 : 0 ≤ (x15_1 : Int) := of_decide_eq_true (by assumption)
                    have q130 : x15_1 < (l3.length : Int) := of_decide_eq_true (by assumption)
                    obtain ⟨ad130, e130, hx130_0⟩ := Kd.at_int HR3.out x15_1 p130 q130
                    cases e130
                    replace hx130_0 := (HB.out.cell (World.block_lt_of_cell? w _ hx130_0)).trans hx130_0
                    replace p130 := eq_true p130
                    replace q130 := eq_true q130
                    have hcz19_0 : wr.cell? ⟨gb129, 0, none⟩ = some (.int .i64 a0_0) := (Zc BK129.out 0).trans rfl
                    have hcz19_1 : wr.cell? ⟨gb129, 1, none⟩ = some (.int .i64 a0_1) := (Zc BK129.out 1).trans rfl
                    have hcz19_2 : wr.cell? ⟨gb129, 2, none⟩ = some (.int .i64 a0_2) := (Zc BK129.out 2).trans rfl
                    have hcz19_3 : wr.cell? ⟨gb129, 3, none⟩ = some (.slice A0_3 l0_3.length c0_3) := (Zc BK129.out 3).trans rfl
                    have hfz19_0 := Zd BK129.out 0
                    have hfz19_1 := Zd BK129.out 1
                    have hfz19_2 := Zd BK129.out 2
                    have hfz19_3 := Zd BK129.out 3
                    have p131 : 0 ≤ ((ji13) : Int) := of_decide_eq_true (by assumption)
                    have q131 : (ji13) < (l1.length : Int) := of_decide_eq_true (by assumption)
                    obtain ⟨ad131, e131, hx131_0⟩ := Kd.at_int HR1.out (ji13) p131 q131
                    cases e131
                    replace hx131_0 := (HB.out.cell (World.block_lt_of_cell? w _ hx131_0)).trans hx131_0
                    replace p131 := eq_true p131
                    replace q131 := eq_true q131
                    go_wp2
                    go_ret2
                    exact ⟨by first | rfl | (simp [Zu, Zt] <;> rfl) | (simp only [← hji13, ← hji17]; first | rfl | (simp [Zu, Zt] <;> rfl)) | (simp [*, Zu, Zt] <;> rfl), by repeat (first | (with_reducible first | exact HB.out | apply Zh | apply Zk | apply Zg | refine Ze ?_ GE129.out) | exact HB.out)⟩
                  · rw [if_neg c18] at H
                    have c18b0 : ((Go.bits .and .u32 (ji17) 1) == 0) = false := beq_eq_false_iff_ne.mpr c18
                    have c18b1 : ((Go.bits .and .u32 (ji17) 1) != 0) = true := bne_iff_ne.mpr c18
                    have H' := Za.mk H
                    clear H
                    have p130 : 0 ≤ (x15_1 : Int) := of_decide_eq_true (by assumption)
                    have q130 : x15_1 < (l3.length : Int) := of_decide_eq_true (by assumption)
                    obtain ⟨ad130, e130, hx130_0⟩ := Kd.at_int HR3.out x15_1 p130 q130
                    cases e130
                    replace hx130_0 := (HB.out.cell (World.block_lt_of_cell? w _ hx130_0)).trans hx130_0
                    replace p130 := eq_true p130
                    replace q130 := eq_true q130
                    have hcz20_0 : wr.cell? ⟨gb129, 0, none⟩ = some (.int .i64 a0_0) := (Zc BK129.out 0).trans rfl
                    have hcz20_1 : wr.cell? ⟨gb129, 1, none⟩ = some (.int .i64 a0_1) := (Zc BK129.out 1).trans rfl
                    have hcz20_2 : wr.cell? ⟨gb129, 2, none⟩ = some (.int .i64 a0_2) := (Zc BK129.out 2).trans rfl
                    have hcz20_3 : wr.cell? ⟨gb129, 3, none⟩ = some (.slice A0_3 l0_3.length c0_3) := (Zc BK129.out 3).trans rfl
                    have hfz20_0 := Zd BK129.out 0
                    have hfz20_1 := Zd BK129.out 1
                    have hfz20_2 := Zd BK129.out 2
                    have hfz20_3 := Zd BK129.out 3
                    have p131 : 0 ≤ ((ji13) : Int) := of_decide_eq_true (by assumption)
                    have q131 : (ji13) < (l1.length : Int) := of_decide_eq_true (by assumption)
                    obtain ⟨ad131, e131, hx131_0⟩ := Kd.at_int HR1.out (ji13) p131 q131
                    cases e131
                    replace hx131_0 := (HB.out.cell (World.block_lt_of_cell? w _ hx131_0)).trans hx131_0
                    replace p131 := eq_true p131
                    replace q131 := eq_true q131
                    go_wp2
                    (first | go_roundg k1 | (simp only [← hji17]; go_roundg k1) | (simp only [← hji13, ← hji17]; go_roundg k1))
                    case measure => have := HK1.out; omega
                    case rel => exact ⟨(Go.bits .or .u32 x10_1 (rd l1 (ji13))), (wrap64 (x15_1 + 1)), (by first | rfl | (simp; done) | (simp only [← hji13] <;> (first | rfl | simp)) | (simp [*]; done)), (by first | rfl | (simp; done) | (simp [*]; done)), H', ⟨by have := HK1.out; omega⟩, ⟨by (with_reducible repeat (first | refine Zj ?_ _ | refine Zf ?_ | refine Zi ?_ _)); exact BK129.out⟩, ⟨by repeat (first | (with_reducible first | exact HB.out | apply Zh | apply Zk | apply Zg | refine Ze ?_ GE129.out) | exact HB.out)⟩⟩
                · rw [if_neg c15] at H
                  exact absurd H (by simp)
              · rw [if_neg c14] at H
                exact absurd H (by simp)
          · rw [if_neg c8] at H
            exact absurd H (by simp)
        · rw [if_neg c7] at H
          exact absurd H (by simp)
      · rw [if_neg c6] at H
        have c6b0 : decide (x15_1 < (l3.length : Int)) = false := decide_eq_false c6
        clear c6
        simp only [Option.some.injEq, Prod.mk.injEq] at H
        obtain ⟨rfl, rfl⟩ := H
        go_wp2
        go_ret2
        exact ⟨by first | rfl | (simp [Zu, Zt] <;> rfl) | (simp [*, Zu, Zt] <;> rfl), by repeat (first | (with_reducible first | exact HB.out | apply Zh | apply Zk | apply Zg | refine Ze ?_ GE129.out) | exact HB.out)⟩
mutual
def Zi1.l0 : Nat → Int → List Int → Bool → Int → Int → Int → List (S38) → Option (List Int)
  | 0, _, _, _, _, _, _, _ => none
  | k + 1, x1, x5, x6, x133000, x133001, x133002, x133003 => if x6 = true then (Zi1.l1 k x1 x5 false x133003 (x133003.length : Int) 0 x133000 x133001 x133002 x133003) else (some x5)
def Zi1.l1 : Nat → Int → List Int → Bool → List (S38) → Int → Int → Int → Int → Int → List (S38) → Option (List Int)
  | 0, _, _, _, _, _, _, _, _, _, _ => none
  | k + 1, x1, x5, x6, x16, x17, x18, x133000, x133001, x133002, x133003 => if x18 < x17 then (if 0 ≤ x18 then (if x18 < (x16.length : Int) then ((Zh1.f k x133000 x133001 x133002 x133003 x5 x1 ((Zb x16 x18).f1)).bind fun bt138 => (if x6 = true then (if 0 ≤ ((Zb x16 x18).f0) then (if ((Zb x16 x18).f0) < (x5.length : Int) then (Zi1.l1 k x1 (x5.set (((Zb x16 x18).f0) : Int).toNat (Go.bits .or .u32 (rd x5 ((Zb x16 x18).f0)) bt138.1)) true x16 x17 (wrap64 (x18 + 1)) x133000 x133001 x133002 x133003) else (none)) else (none)) else (if 0 ≤ ((Zb x16 x18).f0) then (if ((Zb x16 x18).f0) < (x5.length : Int) then (Zi1.l1 k x1 (x5.set (((Zb x16 x18).f0) : Int).toNat (Go.bits .or .u32 (rd x5 ((Zb x16 x18).f0)) bt138.1)) ((Go.bits .andNot .u32 bt138.1 (rd x5 ((Zb x16 x18).f0))) != 0) x16 x17 (wrap64 (x18 + 1)) x133000 x133001 x133002 x133003) else (none)) else (none)))) else (none)) else (none)) else (Zi1.l0 k x1 x5 x6 x133000 x133001 x133002 x133003)
end
def Zi1.f (k : Nat) (a0_0 : Int) (a0_1 : Int) (a0_2 : Int) (l0_3 : List (S38)) (a1 : Int) : Option (List Int) := if 0 ≤ a0_1 then (if (a0_1 : Int).toNat ≤ 70368744177664 then (Zi1.l0 k a1 (List.replicate (a0_1 : Int).toNat 0) true a0_0 a0_1 a0_2 l0_3) else (none)) else (none)
theorem Zi1.mono_l : ∀ k, (∀ y0 y1 y2 y3 y4 y5 y6, LeO (Zi1.l0 k y0 y1 y2 y3 y4 y5 y6) (Zi1.l0 (k + 1) y0 y1 y2 y3 y4 y5 y6)) ∧ (∀ y0 y1 y2 y3 y4 y5 y6 y7 y8 y9, LeO (Zi1.l1 k y0 y1 y2 y3 y4 y5 y6 y7 y8 y9) (Zi1.l1 (k + 1) y0 y1 y2 y3 y4 y5 y6 y7 y8 y9))
  | 0 => ⟨fun _ _ _ _ _ _ _ r h => by simp [Zi1.l0] at h, fun _ _ _ _ _ _ _ _ _ _ r h => by simp [Zi1.l1] at h⟩
  | k + 1 => by
    obtain ⟨ih0, ih1⟩ := Zi1.mono_l k
    refine ⟨?_, ?_⟩
    · intro y0 y1 y2 y3 y4 y5 y6
      unfold Zi1.l0
      repeat' first
      | (with_reducible exact ih0 _ _ _ _ _ _ _)
      | (with_reducible exact ih1 _ _ _ _ _ _ _ _ _ _)
      | (with_reducible exact Zh1.mono _ _ _ _ _ _ _ _)
      | (with_reducible exact LeO.refl _)
      | (with_reducible exact LeO.none _)
      | (with_reducible refine LeO.ite ?_ ?_)
      | (with_reducible refine LeO.bind ?_ (fun _ => ?_))
      | exact ih0 _ _ _ _ _ _ _
      | exact ih1 _ _ _ _ _ _ _ _ _ _
      | exact Zh1.mono _ _ _ _ _ _ _ _
      | exact LeO.none _
      | refine LeO.ite ?_ ?_
      | refine LeO.bind ?_ (fun _ => ?_)
    · intro y0 y1 y2 y3 y4 y5 y6 y7 y8 y9
      unfold Zi1.l1
      repeat' first
      | (with_reducible exact ih0 _ _ _ _ _ _ _)
      | (with_reducible exact ih1 _ _ _ _ _ _ _ _ _ _)
      | (with_reducible exact Zh1.mono _ _ _ _ _ _ _ _)
      | (with_reducible exact LeO.refl _)
      | (with_reducible exact LeO.none _)
      | (with_reducible refine LeO.ite ?_ ?_)
      | (with_reducible refine LeO.bind ?_ (fun _ => ?_))
      | exact ih0 _ _ _ _ _ _ _
      | exact ih1 _ _ _ _ _ _ _ _ _ _
      | exact Zh1.mono _ _ _ _ _ _ _ _
      | exact LeO.none _
      | refine LeO.ite ?_ ?_
      | refine LeO.bind ?_ (fun _ => ?_)
theorem Zi1.mono : ∀ a0 a1 a2 a3 a4 k, LeO (Zi1.f k a0 a1 a2 a3 a4) (Zi1.f (k + 1) a0 a1 a2 a3 a4) := by
  intro a0 a1 a2 a3 a4 k
  obtain ⟨ih0, ih1⟩ := Zi1.mono_l k
  unfold Zi1.f
  repeat' first
      | (with_reducible exact ih0 _ _ _ _ _ _ _)
      | (with_reducible exact ih1 _ _ _ _ _ _ _ _ _ _)
      | (with_reducible exact Zh1.mono _ _ _ _ _ _ _ _)
      | (with_reducible exact LeO.refl _)
      | (with_reducible exact LeO.none _)
      | (with_reducible refine LeO.ite ?_ ?_)
      | (with_reducible refine LeO.bind ?_ (fun _ => ?_))
      | exact ih0 _ _ _ _ _ _ _
      | exact ih1 _ _ _ _ _ _ _ _ _ _
      | exact Zh1.mono _ _ _ _ _ _ _ _
      | exact LeO.none _
      | refine LeO.ite ?_ ?_
      | refine LeO.bind ?_ (fun _ => ?_)
set_option maxHeartbeats 8000000 in
set_option maxRecDepth 100000 in
theorem Zi1.calls (k : Nat) (a0_0 : Int) (a0_1 : Int) (a0_2 : Int) (A0_3 : Option Addr) (c0_3 : Nat) (l0_3 : List (S38)) (a1 : Int) (r : List Int) (w : World) (hr0_3 : Kd.C k38 w A0_3 l0_3.length l0_3) (hc0_3 : l0_3.length ≤ c0_3) (h : Zi1.f k a0_0 a0_1 a0_2 l0_3 a1 = some r) :
    Calls Try.prog 59 #[.agg #[.int .i64 a0_0, .int .i64 a0_1, .int .i64 a0_2, .slice A0_3 l0_3.length c0_3], .int .u32 a1] w fun e w' => ∃ v0_ : Value, e = .returned (v0_) ∧ Kd.R (Kd.int .u32) 28 w' w.heap.size (fun _ => True) v0_ r ∧ Below w.heap.size w w' := by
  have hu24 := Try.underlying24
  have hu38 := Try.underlying38
  have hu28 := Try.underlying28
  have HR0_3 := Za.mk hr0_3
  have HC0_3 := Za.mk hc0_3
  clear hr0_3 hc0_3
  have HB := Za.mk (Below.refl w.heap.size w)
  have H : (if 0 ≤ a0_1 then (if (a0_1 : Int).toNat ≤ 70368744177664 then (Zi1.l0 k a1 (List.replicate (a0_1 : Int).toNat 0) true a0_0 a0_1 a0_2 l0_3) else (none)) else (none)) = some r := h
  clear h
  by_cases c3 : 0 ≤ a0_1
  · rw [if_pos c3] at H
    have c3b0 := eq_true c3
    have c3b1 : decide (0 ≤ a0_1) = true := decide_eq_true c3
    clear c3
    by_cases c4 : (a0_1 : Int).toNat ≤ 70368744177664
    · rw [if_pos c4] at H
      have c4b0 := eq_true c4
      have c4b1 : decide ((a0_1 : Int).toNat ≤ 70368744177664) = true := decide_eq_true c4
      clear c4
      obtain ⟨y133, hy133⟩ : ∃ y_ : List Int, y_ = (List.replicate (a0_1 : Int).toNat 0) := ⟨_, rfl⟩
      replace H : (Zi1.l0 k a1 y133 true a0_0 a0_1 a0_2 l0_3) = some r := by first | (rw [hy133]; with_reducible exact H) | (have H2_ := (Option.bind_some _ _).symm.trans H; rw [hy133]; with_reducible exact H2_) | (have H2_ := (Option.bind_some _ _).symm.trans H; with_reducible exact H2_) | with_reducible exact H | (rw [hy133]; exact H) | exact H
      have Ny133 := Za.mk hy133
      clear hy133
      have H' := Za.mk H
      clear H
      go_enter Try.func59, Try.ntmps59
      go_wp2_with (first | ((with_reducible refine Zb1 (N := 2) rfl ?_); refine Zc1 ?hg (N := 2) ?hd (cs := #[.int .i64 a0_0, .int .i64 a0_1, .int .i64 a0_2, .slice A0_3 l0_3.length c0_3]) (t := 24) ?hr ?_; (case hd => rfl); (case hg => rfl); (case hr => first | (go_simp; done) | (go_simp; rfl)); intro gb132 hg w5 hbox hb; have n0_ := Za.mk (Zr (by repeat (first | (with_reducible first | exact HB.out | apply Zh | apply Zk | apply Zg) | exact HB.out)) hb); have n1_ := Za.mk (hbox); have n2_ := Za.mk ((by rw [hg]; exact (Zo (by repeat (first | (with_reducible first | exact HB.out | apply Zh | apply Zk | apply Zg) | exact HB.out))) : w.heap.size ≤ gb132)); have n3_ := Za.mk ((by rw [hg]; exact (Zo (by repeat (first | (with_reducible first | exact HB.out | apply Zh | apply Zk | apply Zg) | exact HB.out))) : w.heap.size ≤ gb132)); clear HB; have HB := n0_; have BK132 := n1_; have GW132 := n2_; have GE132 := n3_; clear n0_ n1_ n2_ n3_; clear hb hbox hg; have hcz6_0 : w5.cell? ⟨gb132, 0, none⟩ = some (.int .i64 a0_0) := (Zc BK132.out 0).trans rfl; have hcz6_1 : w5.cell? ⟨gb132, 1, none⟩ = some (.int .i64 a0_1) := (Zc BK132.out 1).trans rfl; have hcz6_2 : w5.cell? ⟨gb132, 2, none⟩ = some (.int .i64 a0_2) := (Zc BK132.out 2).trans rfl; have hcz6_3 : w5.cell? ⟨gb132, 3, none⟩ = some (.slice A0_3 l0_3.length c0_3) := (Zc BK132.out 3).trans rfl; have hfz6_0 := Zd BK132.out 0; have hfz6_1 := Zd BK132.out 1; have hfz6_2 := Zd BK132.out 2; have hfz6_3 := Zd BK132.out 3) | ((with_reducible refine Zb1 (N := 13) rfl ?_); refine Kd.R_make (Kd.int .u32) _ 28 rfl (N := 13) rfl 56 _ _ rfl a0_1 rfl rfl Try.underlying56 (.int .u32 0) 4 info28 rfl (by decide) (by omega) 0 (ok := fun _ => True) (okp := fun _ => True) rfl (fun _ hk => hk) trivial (of_decide_eq_true (by assumption)) (Nat.le_trans (Nat.mul_le_mul_right _ (of_decide_eq_true (by assumption) : a0_1.toNat ≤ 70368744177664)) (by omega)) (Below.refl _ _) (Nat.le_refl _) ?_; intro v134 w7 ho8 hb hg_ hnew_; clear hg_ hnew_; (first | rw [← Ny133.out] at ho8 | (simp only [Int.reduceToNat] at ho8; rw [← Ny133.out] at ho8)); have n0_ := Za.mk (Kd.R_lower ho8 (Zo (by repeat (first | (with_reducible first | exact HB.out | apply Zh | apply Zk | apply Zg | refine Ze ?_ GE132.out) | exact HB.out)))); have n1_ := Za.mk (Zp (g := gb132) (o := .cells #[.int .i64 a0_0, .int .i64 a0_1, .int .i64 a0_2, .slice A0_3 l0_3.length c0_3] 24 (0, 0)) (by (with_reducible repeat (first | refine Zj ?_ _ | refine Zf ?_ | refine Zi ?_ _)); exact BK132.out) hb); have n2_ := Za.mk (Zr (by repeat (first | (with_reducible first | exact HB.out | apply Zh | apply Zk | apply Zg | refine Ze ?_ GE132.out) | exact HB.out)) hb); clear BK132; clear HB; have HO135 := n0_; have BK132 := n1_; have HB := n2_; clear n0_ n1_ n2_; clear hb ho8))
      go_loopg [6] k (fun kq v6 w' => ∃ (x5_1 : List Int) (x6_1 : Bool), v6 = .bool x6_1 ∧ Za (Zi1.l0 kq a1 x5_1 x6_1 a0_0 a0_1 a0_2 l0_3 = some r) ∧ Za (kq ≤ k) ∧ Za (Kd.R (Kd.int .u32) 28 w' w.heap.size (fun _ => True) v134 x5_1) ∧ Za (w'.heap[gb132]? = some (.cells #[.int .i64 a0_0, .int .i64 a0_1, .int .i64 a0_2, (.slice A0_3 l0_3.length c0_3)] 24 (0, 0))) ∧ Za (Below w.heap.size w w'))
      case atStart => exact ⟨(y133), (true), (by first | rfl | (simp; done) | (simp [*]; done)), H', ⟨Nat.le_refl _⟩, ⟨by (with_reducible repeat (first | apply Kd.R_alloc | apply Kd.R_drewN | apply Kd.R_drew)); exact HO135.out⟩, ⟨by (with_reducible repeat (first | refine Zj ?_ _ | refine Zf ?_ | refine Zi ?_ _)); exact BK132.out⟩, ⟨by repeat (first | (with_reducible first | exact HB.out | apply Zh | apply Zk | apply Zg | refine Ze ?_ GE132.out) | exact HB.out)⟩⟩
      case round =>
        clear H'
        try clear p2
        try clear c3
        try clear c3b0
        try clear c3b1
        try clear c4
        try clear c4b0
        try clear c4b1
        try clear c5
        try clear hcz6_0
        try clear hcz6_1
        try clear hcz6_2
        try clear hcz6_3
        try clear hfz6_0
        try clear hfz6_1
        try clear hfz6_2
        try clear hfz6_3
        obtain ⟨x5_1, x6_1, rfl, HA, HK1, HO_5, BK132, HB⟩ := hrel
        cases gk with
        | zero => exact absurd HA.out (by simp [Zi1.l0])
        | succ k1 =>
          have H := HA.out
          clear HA
          simp only [Zi1.l0] at H
          by_cases c9 : x6_1 = true
          · subst c9
            have H1 : (Zi1.l1 k1 a1 x5_1 false l0_3 (l0_3.length : Int) 0 a0_0 a0_1 a0_2 l0_3) = some r := by rw [if_pos rfl] at H; exact H
            clear H
            have H := H1
            clear H1
            have H' := Za.mk H
            clear H
            have hcz10_0 : wr.cell? ⟨gb132, 0, none⟩ = some (.int .i64 a0_0) := (Zc BK132.out 0).trans rfl
            have hcz10_1 : wr.cell? ⟨gb132, 1, none⟩ = some (.int .i64 a0_1) := (Zc BK132.out 1).trans rfl
            have hcz10_2 : wr.cell? ⟨gb132, 2, none⟩ = some (.int .i64 a0_2) := (Zc BK132.out 2).trans rfl
            have hcz10_3 : wr.cell? ⟨gb132, 3, none⟩ = some (.slice A0_3 l0_3.length c0_3) := (Zc BK132.out 3).trans rfl
            have hfz10_0 := Zd BK132.out 0
            have hfz10_1 := Zd BK132.out 1
            have hfz10_2 := Zd BK132.out 2
            have hfz10_3 := Zd BK132.out 3
            go_wp2
            go_loopg [6, 18] k1 (fun kq v6 v18 w' => ∃ (x5_2 : List Int) (x6_2 : Bool) (x18_2 : Int), v6 = .bool x6_2 ∧ v18 = .int .i64 x18_2 ∧ Za (Zi1.l1 kq a1 x5_2 x6_2 l0_3 (l0_3.length : Int) x18_2 a0_0 a0_1 a0_2 l0_3 = some r) ∧ Za (kq ≤ k1) ∧ Za (Kd.R (Kd.int .u32) 28 w' w.heap.size (fun _ => True) v134 x5_2) ∧ Za (w'.heap[gb132]? = some (.cells #[.int .i64 a0_0, .int .i64 a0_1, .int .i64 a0_2, (.slice A0_3 l0_3.length c0_3)] 24 (0, 0))) ∧ Za (Below w.heap.size w w'))
            case atStart => exact ⟨(x5_1), (false), (0), (by first | rfl | (simp; done) | (simp [*]; done)), (by first | rfl | (simp; done) | (simp [*]; done)), H', ⟨Nat.le_refl _⟩, ⟨by (with_reducible repeat (first | apply Kd.R_alloc | apply Kd.R_drewN | apply Kd.R_drew)); exact HO_5.out⟩, ⟨by (with_reducible repeat (first | refine Zj ?_ _ | refine Zf ?_ | refine Zi ?_ _)); exact BK132.out⟩, ⟨by repeat (first | (with_reducible first | exact HB.out | apply Zh | apply Zk | apply Zg | refine Ze ?_ GE132.out) | exact HB.out)⟩⟩
            case round =>
              clear H'
              try clear p2
              try clear c3
              try clear c3b0
              try clear c3b1
              try clear c4
              try clear c4b0
              try clear c4b1
              try clear c5
              try clear c9
              try clear hcz10_0
              try clear hcz10_1
              try clear hcz10_2
              try clear hcz10_3
              try clear hcz6_0
              try clear hcz6_1
              try clear hcz6_2
              try clear hcz6_3
              try clear hfz10_0
              try clear hfz10_1
              try clear hfz10_2
              try clear hfz10_3
              try clear hfz6_0
              try clear hfz6_1
              try clear hfz6_2
              try clear hfz6_3
              try clear p2
              obtain ⟨x5_2, x6_2, x18_2, rfl, rfl, HA, HK2, HO_5, BK132, HB⟩ := hrel
              cases gk with
              | zero => exact absurd HA.out (by simp [Zi1.l1])
              | succ k2 =>
                have H := HA.out
                clear HA
                simp only [Zi1.l1] at H
                by_cases c11 : x18_2 < (l0_3.length : Int)
                · rw [if_pos c11] at H
                  have c11b0 : decide (x18_2 < (l0_3.length : Int)) = true := decide_eq_true c11
                  clear c11
                  by_cases c12 : 0 ≤ x18_2
                  · rw [if_pos c12] at H
                    have c12b0 : decide (0 ≤ x18_2) = true := decide_eq_true c12
                    clear c12
                    by_cases c13 : x18_2 < (l0_3.length : Int)
                    · rw [if_pos c13] at H
                      have c13b0 : decide (x18_2 < (l0_3.length : Int)) = true := decide_eq_true c13
                      clear c13
                      replace H := Option.bind_eq_some_iff.mp H
                      obtain ⟨⟨t138, t139⟩, A140, H⟩ := H
                      replace H : (if x6_2 = true then (if 0 ≤ ((Zb l0_3 x18_2).f0) then (if ((Zb l0_3 x18_2).f0) < (x5_2.length : Int) then (Zi1.l1 k2 a1 (x5_2.set (((Zb l0_3 x18_2).f0) : Int).toNat (Go.bits .or .u32 (rd x5_2 ((Zb l0_3 x18_2).f0)) t138)) true l0_3 (l0_3.length : Int) (wrap64 (x18_2 + 1)) a0_0 a0_1 a0_2 l0_3) else (none)) else (none)) else (if 0 ≤ ((Zb l0_3 x18_2).f0) then (if ((Zb l0_3 x18_2).f0) < (x5_2.length : Int) then (Zi1.l1 k2 a1 (x5_2.set (((Zb l0_3 x18_2).f0) : Int).toNat (Go.bits .or .u32 (rd x5_2 ((Zb l0_3 x18_2).f0)) t138)) ((Go.bits .andNot .u32 t138 (rd x5_2 ((Zb l0_3 x18_2).f0))) != 0) l0_3 (l0_3.length : Int) (wrap64 (x18_2 + 1)) a0_0 a0_1 a0_2 l0_3) else (none)) else (none))) = some r := H
                      have A14 := Za.mk A140
                      clear A140
                      by_cases c15 : x6_2 = true
                      · subst c15
                        have H1 : (if 0 ≤ ((Zb l0_3 x18_2).f0) then (if ((Zb l0_3 x18_2).f0) < (x5_2.length : Int) then (Zi1.l1 k2 a1 (x5_2.set (((Zb l0_3 x18_2).f0) : Int).toNat (Go.bits .or .u32 (rd x5_2 ((Zb l0_3 x18_2).f0)) t138)) true l0_3 (l0_3.length : Int) (wrap64 (x18_2 + 1)) a0_0 a0_1 a0_2 l0_3) else (none)) else (none)) = some r := by rw [if_pos rfl] at H; exact H
                        clear H
                        have H := H1
                        clear H1
                        by_cases c16 : 0 ≤ ((Zb l0_3 x18_2).f0)
                        · rw [if_pos c16] at H
                          have c16b0 : decide (0 ≤ ((Zb l0_3 x18_2).f0)) = true := decide_eq_true c16
                          clear c16
                          by_cases c17 : ((Zb l0_3 x18_2).f0) < (x5_2.length : Int)
                          · rw [if_pos c17] at H
                            have c17b0 : decide (((Zb l0_3 x18_2).f0) < (x5_2.length : Int)) = true := decide_eq_true c17
                            clear c17
                            obtain ⟨y141, hy141⟩ : ∃ y_ : List Int, y_ = (x5_2.set (((Zb l0_3 x18_2).f0) : Int).toNat (Go.bits .or .u32 (rd x5_2 ((Zb l0_3 x18_2).f0)) t138)) := ⟨_, rfl⟩
                            replace H : (Zi1.l1 k2 a1 y141 true l0_3 (l0_3.length : Int) (wrap64 (x18_2 + 1)) a0_0 a0_1 a0_2 l0_3) = some r := by first | (rw [hy141]; with_reducible exact H) | (have H2_ := (Option.bind_some _ _).symm.trans H; rw [hy141]; with_reducible exact H2_) | (have H2_ := (Option.bind_some _ _).symm.trans H; with_reducible exact H2_) | with_reducible exact H | (rw [hy141]; exact H) | exact H
                            have Ny141 := Za.mk hy141
                            clear hy141
                            have H' := Za.mk H
                            clear H
                            have p136 : 0 ≤ (x18_2 : Int) := of_decide_eq_true (by assumption)
                            have q136 : x18_2 < (l0_3.length : Int) := of_decide_eq_true (by assumption)
                            obtain ⟨ad136, A136_1, c136_1, e136, hx136_0, hx136_1, hl136_1, hi136_1⟩ := at_T38 HR0_3.out x18_2 p136 q136
                            cases e136
                            replace hx136_0 := (HB.out.cell (World.block_lt_of_cell? w _ hx136_0)).trans hx136_0
                            replace hx136_1 := (HB.out.cell (World.block_lt_of_cell? w _ hx136_1)).trans hx136_1
                            have HR136_1 := Za.mk hi136_1
                            have HC136_1 := Za.mk hl136_1
                            clear hi136_1 hl136_1
                            replace p136 := eq_true p136
                            replace q136 := eq_true q136
                            go_wp2_with (first | ((with_reducible refine Zb1 (N := 8) rfl ?_); refine Zc1 ?hg (N := 8) ?hd (cs := #[.int .i64 0, .slice none 0 0]) (t := 38) ?hr ?_; (case hd => rfl); (case hg => rfl); (case hr => first | (go_simp; done) | (go_simp; rfl)); intro gb137 hg w19 hbox hb; have n0_ := Za.mk (Kd.R_below (by (with_reducible repeat (first | apply Kd.R_alloc | apply Kd.R_drewN | apply Kd.R_drew)); exact HO_5.out) hb); have n1_ := Za.mk (Zp (g := gb132) (o := .cells #[.int .i64 a0_0, .int .i64 a0_1, .int .i64 a0_2, .slice (some ad136) l0_3.length c0_3] 24 (0, 0)) (by (with_reducible repeat (first | refine Zj ?_ _ | refine Zf ?_ | refine Zi ?_ _)); exact BK132.out) hb); have n2_ := Za.mk (Zr (by repeat (first | (with_reducible first | exact HB.out | apply Zh | apply Zk | apply Zg | refine Ze ?_ GE132.out) | exact HB.out)) hb); have n3_ := Za.mk (hbox); have n4_ := Za.mk ((by rw [hg]; exact (Zo (by repeat (first | (with_reducible first | exact HB.out | apply Zh | apply Zk | apply Zg | refine Ze ?_ GE132.out) | exact HB.out))) : w.heap.size ≤ gb137)); have n5_ := Za.mk ((by rw [hg]; exact (Zo (by repeat (first | (with_reducible first | exact HB.out | apply Zh | apply Zk | apply Zg | refine Ze ?_ GE132.out) | exact HB.out))) : w.heap.size ≤ gb137)); have n6_ := Za.mk ((by rw [hg]; exact Nat.ne_of_lt (Zx (g := gb132) (o := .cells #[.int .i64 a0_0, .int .i64 a0_1, .int .i64 a0_2, .slice (some ad136) l0_3.length c0_3] 24 (0, 0)) (by (with_reducible repeat (first | refine Zj ?_ _ | refine Zf ?_ | refine Zi ?_ _)); exact BK132.out)) : gb132 ≠ gb137)); have n7_ := Za.mk ((by rw [hg]; exact Nat.ne_of_gt (Zx (g := gb132) (o := .cells #[.int .i64 a0_0, .int .i64 a0_1, .int .i64 a0_2, .slice (some ad136) l0_3.length c0_3] 24 (0, 0)) (by (with_reducible repeat (first | refine Zj ?_ _ | refine Zf ?_ | refine Zi ?_ _)); exact BK132.out)) : gb137 ≠ gb132)); clear HO_5; clear BK132; clear HB; have HO_5 := n0_; have BK132 := n1_; have HB := n2_; have BK137 := n3_; have GW137 := n4_; have GE137 := n5_; have NB132_137 := n6_; have NB137_132 := n7_; clear n0_ n1_ n2_ n3_ n4_ n5_ n6_ n7_; clear hb hbox hg; have hnb20 := NB137_132.out; have hnc20 := NB132_137.out; have hcz21_0 : w19.cell? ⟨gb137, 0, none⟩ = some (.int .i64 0) := (Zc BK137.out 0).trans rfl; have hcz21_1 : w19.cell? ⟨gb137, 1, none⟩ = some (.slice none 0 0) := (Zc BK137.out 1).trans rfl; have hfz21_0 := Zd BK137.out 0; have hfz21_1 := Zd BK137.out 1; have hcz22_0 : w19.cell? ⟨gb132, 0, none⟩ = some (.int .i64 a0_0) := (Zc BK132.out 0).trans rfl; have hcz22_1 : w19.cell? ⟨gb132, 1, none⟩ = some (.int .i64 a0_1) := (Zc BK132.out 1).trans rfl; have hcz22_2 : w19.cell? ⟨gb132, 2, none⟩ = some (.int .i64 a0_2) := (Zc BK132.out 2).trans rfl; have hcz22_3 : w19.cell? ⟨gb132, 3, none⟩ = some (.slice (some ad136) l0_3.length c0_3) := (Zc BK132.out 3).trans rfl; have hfz22_0 := Zd BK132.out 0; have hfz22_1 := Zd BK132.out 1; have hfz22_2 := Zd BK132.out 2; have hfz22_3 := Zd BK132.out 3; obtain ⟨Ao23, co23, eo23⟩ := Kd.R_slice HO_5.out; subst eo23) | ((with_reducible refine Zp1 (f := 77) rfl ?_); refine goesL_ (some 28) rfl rfl Try.func77 (by kernel_rfl) rfl #[.agg #[.int .i64 a0_0, .int .i64 a0_1, .int .i64 a0_2, .slice (some ad136) l0_3.length c0_3], .slice Ao23 x5_2.length co23, .int .u32 a1, .slice A136_1 ((Zb l0_3 x18_2).f1).length c136_1] rfl (by (try simp only [List.map_toArray, List.map_cons, List.map_nil]); first | done | rfl | (simp only [List.length_drop, List.length_take]; rfl)) ?_; (with_reducible refine (Zh1.calls k2 a0_0 a0_1 a0_2 _ _ l0_3 _ _ x5_2 a1 _ _ ((Zb l0_3 x18_2).f1) t138 t139 _ ?side1 ?side2 ?side3 ?side4 ?side5 ?side6 A14.out).mono ?_); (case side1 => exact Kd.C_below HR0_3.out (by repeat (first | (with_reducible first | exact HB.out | apply Zh | apply Zk | apply Zg | refine Ze ?_ GE132.out | refine Ze ?_ GE137.out) | exact HB.out))); (case side2 => exact HC0_3.out); (case side3 => refine (Kd.R_reads' (e := 28) (base := w.heap.size) (ok := fun k_ => True) (n := x5_2.length) (c := co23) ?_).2.2; exact (by (with_reducible repeat (first | apply Kd.R_alloc | apply Kd.R_drewN | apply Kd.R_drew)); exact (Kd.R_mono (Kd.R_far (p := ⟨gb137, 1, none⟩) (Kd.R_far (p := ⟨gb137, 0, none⟩) (Kd.R_types HO_5.out BK137.out (by decide)) (fun _ hk => hk.2) (.int .i64 ((Zb l0_3 x18_2).f0))) (fun _ hk => hk.2) (.slice A136_1 ((Zb l0_3 x18_2).f1).length c136_1)) (fun _ h_ => h_.1)))); (case side4 => exact (Kd.R_reads' HO_5.out).2.1); (case side5 => exact Kd.C_below HR136_1.out (by repeat (first | (with_reducible first | exact HB.out | apply Zh | apply Zk | apply Zg | refine Ze ?_ GE132.out | refine Ze ?_ GE137.out) | exact HB.out))); (case side6 => exact HC136_1.out); rintro e w24 ⟨rfl, hb⟩; refine ⟨_, rfl, ?_⟩; have n0_ := Za.mk (Kd.R_below (by (with_reducible repeat (first | apply Kd.R_alloc | apply Kd.R_drewN | apply Kd.R_drew)); exact (Kd.R_mono (Kd.R_far (p := ⟨gb137, 1, none⟩) (Kd.R_far (p := ⟨gb137, 0, none⟩) (Kd.R_types HO_5.out BK137.out (by decide)) (fun _ hk => hk.2) (.int .i64 ((Zb l0_3 x18_2).f0))) (fun _ hk => hk.2) (.slice A136_1 ((Zb l0_3 x18_2).f1).length c136_1)) (fun _ h_ => h_.1))) hb); have n1_ := Za.mk (Zp (g := gb132) (o := .cells #[.int .i64 a0_0, .int .i64 a0_1, .int .i64 a0_2, .slice (some ad136) l0_3.length c0_3] 24 (0, 0)) (by (with_reducible repeat (first | refine Zj ?_ _ | refine Zf ?_ | refine Zi ?_ _)); refine Zd1 ?_ NB132_137.out _; (with_reducible repeat (first | refine Zj ?_ _ | refine Zf ?_ | refine Zi ?_ _)); refine Zd1 ?_ NB132_137.out _; (with_reducible repeat (first | refine Zj ?_ _ | refine Zf ?_ | refine Zi ?_ _)); exact BK132.out) hb); have n2_ := Za.mk (Zp (g := gb137) (o := .cells #[.int .i64 ((Zb l0_3 x18_2).f0), .slice A136_1 ((Zb l0_3 x18_2).f1).length c136_1] 38 (0, 0)) (by (with_reducible repeat (first | refine Zj ?_ _ | refine Zf ?_ | refine Zi ?_ _)); refine blk_put (cs := #[.int .i64 ((Zb l0_3 x18_2).f0), .slice none 0 0]) ?_ 1 _ rfl; (with_reducible repeat (first | refine Zj ?_ _ | refine Zf ?_ | refine Zi ?_ _)); refine blk_put (cs := #[.int .i64 0, .slice none 0 0]) ?_ 0 _ rfl; (with_reducible repeat (first | refine Zj ?_ _ | refine Zf ?_ | refine Zi ?_ _)); exact BK137.out) hb); have n3_ := Za.mk (Zr (by repeat (first | (with_reducible first | exact HB.out | apply Zh | apply Zk | apply Zg | refine Ze ?_ GE132.out | refine Ze ?_ GE137.out) | exact HB.out)) hb); clear HO_5; clear BK132; clear BK137; clear HB; have HO_5 := n0_; have BK132 := n1_; have BK137 := n2_; have HB := n3_; clear n0_ n1_ n2_ n3_; (try clear hb); (try clear hb2); (try clear hk); (try clear hi); have hcz25_0 : w24.cell? ⟨gb137, 0, none⟩ = some (.int .i64 ((Zb l0_3 x18_2).f0)) := (Zc BK137.out 0).trans rfl; have hcz25_1 : w24.cell? ⟨gb137, 1, none⟩ = some (.slice A136_1 ((Zb l0_3 x18_2).f1).length c136_1) := (Zc BK137.out 1).trans rfl; have hfz25_0 := Zd BK137.out 0; have hfz25_1 := Zd BK137.out 1; have p140 : 0 ≤ (((Zb l0_3 x18_2).f0) : Int) := of_decide_eq_true (by assumption); have q140 : ((Zb l0_3 x18_2).f0) < (x5_2.length : Int) := of_decide_eq_true (by assumption); obtain ⟨ad140, e140, hx140_0⟩ := Kd.at_int (Kd.R_reads' HO_5.out).2.2 ((Zb l0_3 x18_2).f0) p140 q140; cases e140; replace p140 := eq_true p140; replace q140 := eq_true q140; have p18 : 0 ≤ (((Zb l0_3 x18_2).f0) : Int) := of_decide_eq_true (by assumption); have q18 : (((Zb l0_3 x18_2).f0) : Int) < ((x5_2.length : Int) : Int) := of_decide_eq_true (by assumption); obtain ⟨go18, co18, eo18, gb18, gl18, cl18, HG18⟩ := Kd.R_form HO_5.out (by omega); (first | cases eo18 | (injection eo18 with ea_ en_ ec_; (first | subst ea_ | (injection ea_ with ea_; subst ea_)); subst ec_; clear en_)); have GB18 := Za.mk gb18; have GG18 := Za.mk HG18; clear gb18 gl18 HG18; (first | simp only [add_plain] at hx140_0 | skip); obtain ⟨hx18_0, hf18_0⟩ := Kd.R_celln 0 HO_5.out (((Zb l0_3 x18_2).f0) : Int) p18 q18; replace p18 := eq_true p18; replace q18 := eq_true q18; obtain ⟨hy26_, hz26_⟩ := Kd.R_celln 0 HO_5.out (((Zb l0_3 x18_2).f0) : Int) (of_decide_eq_true (by assumption)) (of_decide_eq_true (by assumption)); have HP26 := Kd.R_putg HO_5.out (((Zb l0_3 x18_2).f0) : Int) (Go.bits .or .u32 (rd x5_2 ((Zb l0_3 x18_2).f0)) t138)) | ((with_reducible refine gate_store (t := 28) (p := 49) rfl ?_); refine store_event (t := 28) (p := 49) (v := ?vo_w27) (w1 := (w24.setCell ⟨go18, (((Zb l0_3 x18_2).f0) : Int).toNat, none⟩ (.int .u32 (Go.bits .or .u32 (rd x5_2 ((Zb l0_3 x18_2).f0)) t138)))) ?hg ?ho ?hn ?hr ?_; (case ho => rfl); (case hg => rfl); (case hn => rfl); (case hr => first | (go_simp; done) | (go_simp; rfl)); intro w27 hw; have hg : w24.grownBy w27 (some go18) := (by rw [hw]; exact HP26.2); have hp_ : Kd.R (Kd.int .u32) 28 w27 w.heap.size (fun _ => True) (.slice (some ⟨go18, 0, none⟩) x5_2.length co23) y141 := (by rw [hw, Ny141.out]; exact HP26.1); clear HP26; have n0_ := Za.mk (hp_); have n1_ := Za.mk (Zs1 (g := gb132) (o := .cells #[.int .i64 a0_0, .int .i64 a0_1, .int .i64 a0_2, .slice (some ad136) l0_3.length c0_3] 24 (0, 0)) (by (with_reducible repeat (first | refine Zj ?_ _ | refine Zf ?_ | refine Zi ?_ _)); exact BK132.out) hg (Kd.R_ne HO_5.out BK132.out (by decide))); have n2_ := Za.mk (Zs1 (g := gb137) (o := .cells #[.int .i64 ((Zb l0_3 x18_2).f0), .slice A136_1 ((Zb l0_3 x18_2).f1).length c136_1] 38 (0, 0)) (by (with_reducible repeat (first | refine Zj ?_ _ | refine Zf ?_ | refine Zi ?_ _)); exact BK137.out) hg (Kd.R_ne HO_5.out BK137.out (by decide))); have n3_ := Za.mk ((by rw [hw]; exact Ze (HB.out) GB18.out : Below w.heap.size w w27)); clear HO_5; clear BK132; clear BK137; clear HB; have HO_5 := n0_; have BK132 := n1_; have BK137 := n2_; have HB := n3_; clear n0_ n1_ n2_ n3_; clear hg hw hp_))
                            go_roundg k2
                            case measure => have := HK1.out; have := HK2.out; omega
                            case rel => exact ⟨(y141), (true), (wrap64 (x18_2 + 1)), (by first | rfl | (simp; done) | (simp [*]; done)), (by first | rfl | (simp; done) | (simp [*]; done)), H', ⟨by have := HK1.out; have := HK2.out; omega⟩, ⟨by (with_reducible repeat (first | apply Kd.R_alloc | apply Kd.R_drewN | apply Kd.R_drew)); exact HO_5.out⟩, ⟨by (with_reducible repeat (first | refine Zj ?_ _ | refine Zf ?_ | refine Zi ?_ _)); exact BK132.out⟩, ⟨by repeat (first | (with_reducible first | exact HB.out | apply Zh | apply Zk | apply Zg | refine Ze ?_ GE132.out | refine Ze ?_ GE137.out) | exact HB.out)⟩⟩
                          · rw [if_neg c17] at H
                            exact absurd H (by simp)
                        · rw [if_neg c16] at H
                          exact absurd H (by simp)
                      · replace c15 := Bool.eq_false_iff.mpr c15
                        subst c15
                        have H1 : (if 0 ≤ ((Zb l0_3 x18_2).f0) then (if ((Zb l0_3 x18_2).f0) < (x5_2.length : Int) then (Zi1.l1 k2 a1 (x5_2.set (((Zb l0_3 x18_2).f0) : Int).toNat (Go.bits .or .u32 (rd x5_2 ((Zb l0_3 x18_2).f0)) t138)) ((Go.bits .andNot .u32 t138 (rd x5_2 ((Zb l0_3 x18_2).f0))) != 0) l0_3 (l0_3.length : Int) (wrap64 (x18_2 + 1)) a0_0 a0_1 a0_2 l0_3) else (none)) else (none)) = some r := by rw [if_neg (show ¬ (false = true) by decide)] at H; exact H
                        clear H
                        have H := H1
                        clear H1
                        by_cases c28 : 0 ≤ ((Zb l0_3 x18_2).f0)
                        · rw [if_pos c28] at H
                          have c28b0 : decide (0 ≤ ((Zb l0_3 x18_2).f0)) = true := decide_eq_true c28
                          clear c28
                          by_cases c29 : ((Zb l0_3 x18_2).f0) < (x5_2.length : Int)
                          · rw [if_pos c29] at H
                            have c29b0 : decide (((Zb l0_3 x18_2).f0) < (x5_2.length : Int)) = true := decide_eq_true c29
                            clear c29
                            obtain ⟨y144, hy144⟩ : ∃ y_ : List Int, y_ = (x5_2.set (((Zb l0_3 x18_2).f0) : Int).toNat (Go.bits .or .u32 (rd x5_2 ((Zb l0_3 x18_2).f0)) t138)) := ⟨_, rfl⟩
                            replace H : (Zi1.l1 k2 a1 y144 ((Go.bits .andNot .u32 t138 (rd x5_2 ((Zb l0_3 x18_2).f0))) != 0) l0_3 (l0_3.length : Int) (wrap64 (x18_2 + 1)) a0_0 a0_1 a0_2 l0_3) = some r := by first | (rw [hy144]; with_reducible exact H) | (have H2_ := (Option.bind_some _ _).symm.trans H; rw [hy144]; with_reducible exact H2_) | (have H2_ := (Option.bind_some _ _).symm.trans H; with_reducible exact H2_) | with_reducible exact H | (rw [hy144]; exact H) | exact H
                            have Ny144 := Za.mk hy144
                            clear hy144
                            have H' := Za.mk H
                            clear H
                            have p136 : 0 ≤ (x18_2 : Int) := of_decide_eq_true (by assumption)
                            have q136 : x18_2 < (l0_3.length : Int) := of_decide_eq_true (by assumption)
                            obtain ⟨ad136, A136_1, c136_1, e136, hx136_0, hx136_1, hl136_1, hi136_1⟩ := at_T38 HR0_3.out x18_2 p136 q136
                            cases e136
                            replace hx136_0 := (HB.out.cell (World.block_lt_of_cell? w _ hx136_0)).trans hx136_0
                            replace hx136_1 := (HB.out.cell (World.block_lt_of_cell? w _ hx136_1)).trans hx136_1
                            have HR136_1 := Za.mk hi136_1
                            have HC136_1 := Za.mk hl136_1
                            clear hi136_1 hl136_1
                            replace p136 := eq_true p136
                            replace q136 := eq_true q136
                            go_wp2_with (first | ((with_reducible refine Zb1 (N := 8) rfl ?_); refine Zc1 ?hg (N := 8) ?hd (cs := #[.int .i64 0, .slice none 0 0]) (t := 38) ?hr ?_; (case hd => rfl); (case hg => rfl); (case hr => first | (go_simp; done) | (go_simp; rfl)); intro gb137 hg w31 hbox hb; have n0_ := Za.mk (Kd.R_below (by (with_reducible repeat (first | apply Kd.R_alloc | apply Kd.R_drewN | apply Kd.R_drew)); exact HO_5.out) hb); have n1_ := Za.mk (Zp (g := gb132) (o := .cells #[.int .i64 a0_0, .int .i64 a0_1, .int .i64 a0_2, .slice (some ad136) l0_3.length c0_3] 24 (0, 0)) (by (with_reducible repeat (first | refine Zj ?_ _ | refine Zf ?_ | refine Zi ?_ _)); exact BK132.out) hb); have n2_ := Za.mk (Zr (by repeat (first | (with_reducible first | exact HB.out | apply Zh | apply Zk | apply Zg | refine Ze ?_ GE132.out) | exact HB.out)) hb); have n3_ := Za.mk (hbox); have n4_ := Za.mk ((by rw [hg]; exact (Zo (by repeat (first | (with_reducible first | exact HB.out | apply Zh | apply Zk | apply Zg | refine Ze ?_ GE132.out) | exact HB.out))) : w.heap.size ≤ gb137)); have n5_ := Za.mk ((by rw [hg]; exact (Zo (by repeat (first | (with_reducible first | exact HB.out | apply Zh | apply Zk | apply Zg | refine Ze ?_ GE132.out) | exact HB.out))) : w.heap.size ≤ gb137)); have n6_ := Za.mk ((by rw [hg]; exact Nat.ne_of_lt (Zx (g := gb132) (o := .cells #[.int .i64 a0_0, .int .i64 a0_1, .int .i64 a0_2, .slice (some ad136) l0_3.length c0_3] 24 (0, 0)) (by (with_reducible repeat (first | refine Zj ?_ _ | refine Zf ?_ | refine Zi ?_ _)); exact BK132.out)) : gb132 ≠ gb137)); have n7_ := Za.mk ((by rw [hg]; exact Nat.ne_of_gt (Zx (g := gb132) (o := .cells #[.int .i64 a0_0, .int .i64 a0_1, .int .i64 a0_2, .slice (some ad136) l0_3.length c0_3] 24 (0, 0)) (by (with_reducible repeat (first | refine Zj ?_ _ | refine Zf ?_ | refine Zi ?_ _)); exact BK132.out)) : gb137 ≠ gb132)); clear HO_5; clear BK132; clear HB; have HO_5 := n0_; have BK132 := n1_; have HB := n2_; have BK137 := n3_; have GW137 := n4_; have GE137 := n5_; have NB132_137 := n6_; have NB137_132 := n7_; clear n0_ n1_ n2_ n3_ n4_ n5_ n6_ n7_; clear hb hbox hg; have hnb32 := NB137_132.out; have hnc32 := NB132_137.out; have hcz33_0 : w31.cell? ⟨gb137, 0, none⟩ = some (.int .i64 0) := (Zc BK137.out 0).trans rfl; have hcz33_1 : w31.cell? ⟨gb137, 1, none⟩ = some (.slice none 0 0) := (Zc BK137.out 1).trans rfl; have hfz33_0 := Zd BK137.out 0; have hfz33_1 := Zd BK137.out 1; have hcz34_0 : w31.cell? ⟨gb132, 0, none⟩ = some (.int .i64 a0_0) := (Zc BK132.out 0).trans rfl; have hcz34_1 : w31.cell? ⟨gb132, 1, none⟩ = some (.int .i64 a0_1) := (Zc BK132.out 1).trans rfl; have hcz34_2 : w31.cell? ⟨gb132, 2, none⟩ = some (.int .i64 a0_2) := (Zc BK132.out 2).trans rfl; have hcz34_3 : w31.cell? ⟨gb132, 3, none⟩ = some (.slice (some ad136) l0_3.length c0_3) := (Zc BK132.out 3).trans rfl; have hfz34_0 := Zd BK132.out 0; have hfz34_1 := Zd BK132.out 1; have hfz34_2 := Zd BK132.out 2; have hfz34_3 := Zd BK132.out 3; obtain ⟨Ao35, co35, eo35⟩ := Kd.R_slice HO_5.out; subst eo35) | ((with_reducible refine Zp1 (f := 77) rfl ?_); refine goesL_ (some 28) rfl rfl Try.func77 (by kernel_rfl) rfl #[.agg #[.int .i64 a0_0, .int .i64 a0_1, .int .i64 a0_2, .slice (some ad136) l0_3.length c0_3], .slice Ao35 x5_2.length co35, .int .u32 a1, .slice A136_1 ((Zb l0_3 x18_2).f1).length c136_1] rfl (by (try simp only [List.map_toArray, List.map_cons, List.map_nil]); first | done | rfl | (simp only [List.length_drop, List.length_take]; rfl)) ?_; (with_reducible refine (Zh1.calls k2 a0_0 a0_1 a0_2 _ _ l0_3 _ _ x5_2 a1 _ _ ((Zb l0_3 x18_2).f1) t138 t139 _ ?side1 ?side2 ?side3 ?side4 ?side5 ?side6 A14.out).mono ?_); (case side1 => exact Kd.C_below HR0_3.out (by repeat (first | (with_reducible first | exact HB.out | apply Zh | apply Zk | apply Zg | refine Ze ?_ GE132.out | refine Ze ?_ GE137.out) | exact HB.out))); (case side2 => exact HC0_3.out); (case side3 => refine (Kd.R_reads' (e := 28) (base := w.heap.size) (ok := fun k_ => True) (n := x5_2.length) (c := co35) ?_).2.2; exact (by (with_reducible repeat (first | apply Kd.R_alloc | apply Kd.R_drewN | apply Kd.R_drew)); exact (Kd.R_mono (Kd.R_far (p := ⟨gb137, 1, none⟩) (Kd.R_far (p := ⟨gb137, 0, none⟩) (Kd.R_types HO_5.out BK137.out (by decide)) (fun _ hk => hk.2) (.int .i64 ((Zb l0_3 x18_2).f0))) (fun _ hk => hk.2) (.slice A136_1 ((Zb l0_3 x18_2).f1).length c136_1)) (fun _ h_ => h_.1)))); (case side4 => exact (Kd.R_reads' HO_5.out).2.1); (case side5 => exact Kd.C_below HR136_1.out (by repeat (first | (with_reducible first | exact HB.out | apply Zh | apply Zk | apply Zg | refine Ze ?_ GE132.out | refine Ze ?_ GE137.out) | exact HB.out))); (case side6 => exact HC136_1.out); rintro e w36 ⟨rfl, hb⟩; refine ⟨_, rfl, ?_⟩; have n0_ := Za.mk (Kd.R_below (by (with_reducible repeat (first | apply Kd.R_alloc | apply Kd.R_drewN | apply Kd.R_drew)); exact (Kd.R_mono (Kd.R_far (p := ⟨gb137, 1, none⟩) (Kd.R_far (p := ⟨gb137, 0, none⟩) (Kd.R_types HO_5.out BK137.out (by decide)) (fun _ hk => hk.2) (.int .i64 ((Zb l0_3 x18_2).f0))) (fun _ hk => hk.2) (.slice A136_1 ((Zb l0_3 x18_2).f1).length c136_1)) (fun _ h_ => h_.1))) hb); have n1_ := Za.mk (Zp (g := gb132) (o := .cells #[.int .i64 a0_0, .int .i64 a0_1, .int .i64 a0_2, .slice (some ad136) l0_3.length c0_3] 24 (0, 0)) (by (with_reducible repeat (first | refine Zj ?_ _ | refine Zf ?_ | refine Zi ?_ _)); refine Zd1 ?_ NB132_137.out _; (with_reducible repeat (first | refine Zj ?_ _ | refine Zf ?_ | refine Zi ?_ _)); refine Zd1 ?_ NB132_137.out _; (with_reducible repeat (first | refine Zj ?_ _ | refine Zf ?_ | refine Zi ?_ _)); exact BK132.out) hb); have n2_ := Za.mk (Zp (g := gb137) (o := .cells #[.int .i64 ((Zb l0_3 x18_2).f0), .slice A136_1 ((Zb l0_3 x18_2).f1).length c136_1] 38 (0, 0)) (by (with_reducible repeat (first | refine Zj ?_ _ | refine Zf ?_ | refine Zi ?_ _)); refine blk_put (cs := #[.int .i64 ((Zb l0_3 x18_2).f0), .slice none 0 0]) ?_ 1 _ rfl; (with_reducible repeat (first | refine Zj ?_ _ | refine Zf ?_ | refine Zi ?_ _)); refine blk_put (cs := #[.int .i64 0, .slice none 0 0]) ?_ 0 _ rfl; (with_reducible repeat (first | refine Zj ?_ _ | refine Zf ?_ | refine Zi ?_ _)); exact BK137.out) hb); have n3_ := Za.mk (Zr (by repeat (first | (with_reducible first | exact HB.out | apply Zh | apply Zk | apply Zg | refine Ze ?_ GE132.out | refine Ze ?_ GE137.out) | exact HB.out)) hb); clear HO_5; clear BK132; clear BK137; clear HB; have HO_5 := n0_; have BK132 := n1_; have BK137 := n2_; have HB := n3_; clear n0_ n1_ n2_ n3_; (try clear hb); (try clear hb2); (try clear hk); (try clear hi); have hcz37_0 : w36.cell? ⟨gb137, 0, none⟩ = some (.int .i64 ((Zb l0_3 x18_2).f0)) := (Zc BK137.out 0).trans rfl; have hcz37_1 : w36.cell? ⟨gb137, 1, none⟩ = some (.slice A136_1 ((Zb l0_3 x18_2).f1).length c136_1) := (Zc BK137.out 1).trans rfl; have hfz37_0 := Zd BK137.out 0; have hfz37_1 := Zd BK137.out 1; have p142 : 0 ≤ (((Zb l0_3 x18_2).f0) : Int) := of_decide_eq_true (by assumption); have q142 : ((Zb l0_3 x18_2).f0) < (x5_2.length : Int) := of_decide_eq_true (by assumption); obtain ⟨ad142, e142, hx142_0⟩ := Kd.at_int (Kd.R_reads' HO_5.out).2.2 ((Zb l0_3 x18_2).f0) p142 q142; cases e142; replace p142 := eq_true p142; replace q142 := eq_true q142; have p143 : 0 ≤ (((Zb l0_3 x18_2).f0) : Int) := of_decide_eq_true (by assumption); have q143 : ((Zb l0_3 x18_2).f0) < (x5_2.length : Int) := of_decide_eq_true (by assumption); obtain ⟨ad143, e143, hx143_0⟩ := Kd.at_int (Kd.R_reads' HO_5.out).2.2 ((Zb l0_3 x18_2).f0) p143 q143; obtain rfl : ad142 = ad143 := (by injection e143); replace p143 := eq_true p143; replace q143 := eq_true q143; have p30 : 0 ≤ (((Zb l0_3 x18_2).f0) : Int) := of_decide_eq_true (by assumption); have q30 : (((Zb l0_3 x18_2).f0) : Int) < ((x5_2.length : Int) : Int) := of_decide_eq_true (by assumption); obtain ⟨go30, co30, eo30, gb30, gl30, cl30, HG30⟩ := Kd.R_form HO_5.out (by omega); (first | cases eo30 | (injection eo30 with ea_ en_ ec_; (first | subst ea_ | (injection ea_ with ea_; subst ea_)); subst ec_; clear en_)); have GB30 := Za.mk gb30; have GG30 := Za.mk HG30; clear gb30 gl30 HG30; (first | simp only [add_plain] at hx142_0 | skip); (first | simp only [add_plain] at hx143_0 | skip); obtain ⟨hx30_0, hf30_0⟩ := Kd.R_celln 0 HO_5.out (((Zb l0_3 x18_2).f0) : Int) p30 q30; replace p30 := eq_true p30; replace q30 := eq_true q30; obtain ⟨hy38_, hz38_⟩ := Kd.R_celln 0 HO_5.out (((Zb l0_3 x18_2).f0) : Int) (of_decide_eq_true (by assumption)) (of_decide_eq_true (by assumption)); have HP38 := Kd.R_putg HO_5.out (((Zb l0_3 x18_2).f0) : Int) (Go.bits .or .u32 (rd x5_2 ((Zb l0_3 x18_2).f0)) t138)) | ((with_reducible refine gate_store (t := 28) (p := 49) rfl ?_); refine store_event (t := 28) (p := 49) (v := ?vo_w39) (w1 := (w36.setCell ⟨go30, (((Zb l0_3 x18_2).f0) : Int).toNat, none⟩ (.int .u32 (Go.bits .or .u32 (rd x5_2 ((Zb l0_3 x18_2).f0)) t138)))) ?hg ?ho ?hn ?hr ?_; (case ho => rfl); (case hg => rfl); (case hn => rfl); (case hr => first | (go_simp; done) | (go_simp; rfl)); intro w39 hw; have hg : w36.grownBy w39 (some go30) := (by rw [hw]; exact HP38.2); have hp_ : Kd.R (Kd.int .u32) 28 w39 w.heap.size (fun _ => True) (.slice (some ⟨go30, 0, none⟩) x5_2.length co35) y144 := (by rw [hw, Ny144.out]; exact HP38.1); clear HP38; have n0_ := Za.mk (hp_); have n1_ := Za.mk (Zs1 (g := gb132) (o := .cells #[.int .i64 a0_0, .int .i64 a0_1, .int .i64 a0_2, .slice (some ad136) l0_3.length c0_3] 24 (0, 0)) (by (with_reducible repeat (first | refine Zj ?_ _ | refine Zf ?_ | refine Zi ?_ _)); exact BK132.out) hg (Kd.R_ne HO_5.out BK132.out (by decide))); have n2_ := Za.mk (Zs1 (g := gb137) (o := .cells #[.int .i64 ((Zb l0_3 x18_2).f0), .slice A136_1 ((Zb l0_3 x18_2).f1).length c136_1] 38 (0, 0)) (by (with_reducible repeat (first | refine Zj ?_ _ | refine Zf ?_ | refine Zi ?_ _)); exact BK137.out) hg (Kd.R_ne HO_5.out BK137.out (by decide))); have n3_ := Za.mk ((by rw [hw]; exact Ze (HB.out) GB30.out : Below w.heap.size w w39)); clear HO_5; clear BK132; clear BK137; clear HB; have HO_5 := n0_; have BK132 := n1_; have BK137 := n2_; have HB := n3_; clear n0_ n1_ n2_ n3_; clear hg hw hp_))
                            go_roundg k2
                            case measure => have := HK1.out; have := HK2.out; omega
                            case rel => exact ⟨(y144), (((Go.bits .andNot .u32 t138 (rd x5_2 ((Zb l0_3 x18_2).f0))) != 0)), (wrap64 (x18_2 + 1)), (by first | rfl | (simp; done) | (simp [*]; done)), (by first | rfl | (simp; done) | (simp [*]; done)), H', ⟨by have := HK1.out; have := HK2.out; omega⟩, ⟨by (with_reducible repeat (first | apply Kd.R_alloc | apply Kd.R_drewN | apply Kd.R_drew)); exact HO_5.out⟩, ⟨by (with_reducible repeat (first | refine Zj ?_ _ | refine Zf ?_ | refine Zi ?_ _)); exact BK132.out⟩, ⟨by repeat (first | (with_reducible first | exact HB.out | apply Zh | apply Zk | apply Zg | refine Ze ?_ GE132.out | refine Ze ?_ GE137.out) | exact HB.out)⟩⟩
                          · rw [if_neg c29] at H
                            exact absurd H (by simp)
                        · rw [if_neg c28] at H
                          exact absurd H (by simp)
                    · rw [if_neg c13] at H
                      exact absurd H (by simp)
                  · rw [if_neg c12] at H
                    exact absurd H (by simp)
                · rw [if_neg c11] at H
                  have c11b0 : decide (x18_2 < (l0_3.length : Int)) = false := decide_eq_false c11
                  clear c11
                  have H' := Za.mk H
                  clear H
                  go_wp2
                  go_roundg k2
                  case measure => have := HK1.out; have := HK2.out; omega
                  case rel => exact ⟨(x5_2), (x6_2), (by first | rfl | (simp; done) | (simp [*]; done)), H', ⟨by have := HK1.out; have := HK2.out; omega⟩, ⟨by (with_reducible repeat (first | apply Kd.R_alloc | apply Kd.R_drewN | apply Kd.R_drew)); exact HO_5.out⟩, ⟨by (with_reducible repeat (first | refine Zj ?_ _ | refine Zf ?_ | refine Zi ?_ _)); exact BK132.out⟩, ⟨by repeat (first | (with_reducible first | exact HB.out | apply Zh | apply Zk | apply Zg | refine Ze ?_ GE132.out) | exact HB.out)⟩⟩
          · replace c9 := Bool.eq_false_iff.mpr c9
            subst c9
            have H1 : (some x5_1) = some r := by rw [if_neg (show ¬ (false = true) by decide)] at H; exact H
            clear H
            have H := H1
            clear H1
            obtain rfl := Option.some.inj H
            go_wp2
            go_ret
            exact ⟨_, by first | rfl | (simp [Zu, Zt] <;> rfl) | (simp [*, Zu, Zt] <;> rfl), by (with_reducible repeat (first | apply Kd.R_alloc | apply Kd.R_drewN | apply Kd.R_drew)); exact HO_5.out, by repeat (first | (with_reducible first | exact HB.out | apply Zh | apply Zk | apply Zg | refine Ze ?_ GE132.out) | exact HB.out)⟩
    · rw [if_neg c4] at H
      exact absurd H (by simp)
  · rw [if_neg c3] at H
    exact absurd H (by simp)
end Go.Proofs.Ytnjfcbhbebokeaa.PAheadClears
