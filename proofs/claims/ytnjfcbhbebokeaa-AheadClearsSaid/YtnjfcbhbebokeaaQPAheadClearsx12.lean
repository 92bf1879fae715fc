-- Printed by a turn of a template of the kit, and shortened: remarks and what nothing here uses are left out.
import Derived.Test.YtnjfcbhbebokeaaQPAheadClearsx0
import Derived.Test.YtnjfcbhbebokeaaQPAheadClearsx9
import Derived.Test.YtnjfcbhbebokeaaQPAheadClearsx10
namespace Go.Proofs.Ytnjfcbhbebokeaa.PAheadClears
open Go.RowKit Go.Proofs.YtnjfcbhbebokeaaW.PrintWords Go.Proofs.YtnjfcbhbebokeaaW.PrintLast Go.Proofs.YtnjfcbhbebokeaaW.PrintMore
attribute [local go_sem] max2_int min2_int max_two min_two max_three min_three max_four min_four
set_option linter.unusedVariables false
set_option linter.unusedSimpArgs false
mutual
def Zw.l0 : Nat → List Int → Int → Int → Int → Int → List (S38) → Option (Int)
  | 0, _, _, _, _, _, _ => none
  | k + 1, x3, x4, x236000, x236001, x236002, x236003 => if x4 < (x3.length : Int) then (Zw.l1 k x3 x4 x236003 (x236003.length : Int) 0 x236000 x236001 x236002 x236003) else (Zw.l3 k 0 x3 (x3.length : Int) 0)
def Zw.l1 : Nat → List Int → Int → List (S38) → Int → Int → Int → Int → Int → List (S38) → Option (Int)
  | 0, _, _, _, _, _, _, _, _, _ => none
  | k + 1, x3, x4, x22, x23, x24, x236000, x236001, x236002, x236003 => if x24 < x23 then (if 0 ≤ x24 then (if x24 < (x22.length : Int) then (Zw.l2 k x3 x4 x22 x23 x24 ((Zb x22 x24).f1) (((Zb x22 x24).f1).length : Int) 0 x236000 x236001 x236002 x236003 ((Zb x22 x24).f0) ((Zb x22 x24).f1)) else (none)) else (none)) else (Zw.l0 k x3 (wrap64 (x4 + 1)) x236000 x236001 x236002 x236003)
def Zw.l2 : Nat → List Int → Int → List (S38) → Int → Int → List Int → Int → Int → Int → Int → Int → List (S38) → Int → List Int → Option (Int)
  | 0, _, _, _, _, _, _, _, _, _, _, _, _, _, _ => none
  | k + 1, x3, x4, x22, x23, x24, x29, x30, x31, x236000, x236001, x236002, x236003, x241000, x241001 => if x31 < x30 then (if 0 ≤ x31 then (if x31 < (x29.length : Int) then (if 0 ≤ x4 then (if x4 < (x3.length : Int) then (if x241000 = (rd x3 x4) then (if (rd x29 x31) ≥ x236000 then ((Zy.f k x3 (wrap64 ((rd x29 x31) - x236000))).bind fun t243 => (if t243 = true then (Zw.l2 k x3 x4 x22 x23 x24 x29 x30 (wrap64 (x31 + 1)) x236000 x236001 x236002 x236003 x241000 x241001) else (if x3.length < 17592186044416 then (Zw.l2 k (x3 ++ [wrap64 ((rd x29 x31) - x236000)]) x4 x22 x23 x24 x29 x30 (wrap64 (x31 + 1)) x236000 x236001 x236002 x236003 x241000 x241001) else (none)))) else (Zw.l2 k x3 x4 x22 x23 x24 x29 x30 (wrap64 (x31 + 1)) x236000 x236001 x236002 x236003 x241000 x241001)) else (Zw.l2 k x3 x4 x22 x23 x24 x29 x30 (wrap64 (x31 + 1)) x236000 x236001 x236002 x236003 x241000 x241001)) else (none)) else (none)) else (none)) else (none)) else (Zw.l1 k x3 x4 x22 x23 (wrap64 (x24 + 1)) x236000 x236001 x236002 x236003)
def Zw.l3 : Nat → Int → List Int → Int → Int → Option (Int)
  | 0, _, _, _, _ => none
  | k + 1, x9, x66, x67, x68 => if x68 < x67 then (if 0 ≤ x68 then (if x68 < (x66.length : Int) then (if 0 ≤ (IntKind.u64.wrap (rd x66 x68)) then (Zw.l3 k ((x9 + (shl .u32 1 (IntKind.u64.wrap (rd x66 x68)))) % 4294967296) x66 x67 (wrap64 (x68 + 1))) else (none)) else (none)) else (none)) else (some x9)
end
def Zw.f (k : Nat) (a0_0 : Int) (a0_1 : Int) (a0_2 : Int) (l0_3 : List (S38)) : Option (Int) := Zw.l0 k (([a0_2] : List Int)) 0 a0_0 a0_1 a0_2 l0_3
theorem Zw.mono_l : ∀ k, (∀ y0 y1 y2 y3 y4 y5, LeO (Zw.l0 k y0 y1 y2 y3 y4 y5) (Zw.l0 (k + 1) y0 y1 y2 y3 y4 y5)) ∧ (∀ y0 y1 y2 y3 y4 y5 y6 y7 y8, LeO (Zw.l1 k y0 y1 y2 y3 y4 y5 y6 y7 y8) (Zw.l1 (k + 1) y0 y1 y2 y3 y4 y5 y6 y7 y8)) ∧ (∀ y0 y1 y2 y3 y4 y5 y6 y7 y8 y9 y10 y11 y12 y13, LeO (Zw.l2 k y0 y1 y2 y3 y4 y5 y6 y7 y8 y9 y10 y11 y12 y13) (Zw.l2 (k + 1) y0 y1 y2 y3 y4 y5 y6 y7 y8 y9 y10 y11 y12 y13)) ∧ (∀ y0 y1 y2 y3, LeO (Zw.l3 k y0 y1 y2 y3) (Zw.l3 (k + 1) y0 y1 y2 y3))
  | 0 => ⟨fun _ _ _ _ _ _ r h => by simp [Zw.l0] at h, fun _ _ _ _ _ _ _ _ _ r h => by simp [Zw.l1] at h, fun _ _ _ _ _ _ _ _ _ _ _ _ _ _ r h => by simp [Zw.l2] at h, fun _ _ _ _ r h => by simp [Zw.l3] at h⟩
  | k + 1 => by
    obtain ⟨ih0, ih1, ih2, ih3⟩ := Zw.mono_l k
    refine ⟨?_, ?_, ?_, ?_⟩
    · intro y0 y1 y2 y3 y4 y5
      unfold Zw.l0
      repeat' first
      | (with_reducible exact ih0 _ _ _ _ _ _)
      | (with_reducible exact ih1 _ _ _ _ _ _ _ _ _)
      | (with_reducible exact ih2 _ _ _ _ _ _ _ _ _ _ _ _ _ _)
      | (with_reducible exact ih3 _ _ _ _)
      | (with_reducible exact Zy.mono _ _ _)
      | (with_reducible exact LeO.refl _)
      | (with_reducible exact LeO.none _)
      | (with_reducible refine LeO.ite ?_ ?_)
      | (with_reducible refine LeO.bind ?_ (fun _ => ?_))
      | exact ih0 _ _ _ _ _ _
      | exact ih1 _ _ _ _ _ _ _ _ _
      | exact ih2 _ _ _ _ _ _ _ _ _ _ _ _ _ _
      | exact ih3 _ _ _ _
      | exact Zy.mono _ _ _
      | exact LeO.none _
      | refine LeO.ite ?_ ?_
      | refine LeO.bind ?_ (fun _ => ?_)
    · intro y0 y1 y2 y3 y4 y5 y6 y7 y8
      unfold Zw.l1
      repeat' first
      | (with_reducible exact ih0 _ _ _ _ _ _)
      | (with_reducible exact ih1 _ _ _ _ _ _ _ _ _)
      | (with_reducible exact ih2 _ _ _ _ _ _ _ _ _ _ _ _ _ _)
      | (with_reducible exact ih3 _ _ _ _)
      | (with_reducible exact Zy.mono _ _ _)
      | (with_reducible exact LeO.refl _)
      | (with_reducible exact LeO.none _)
      | (with_reducible refine LeO.ite ?_ ?_)
      | (with_reducible refine LeO.bind ?_ (fun _ => ?_))
      | exact ih0 _ _ _ _ _ _
      | exact ih1 _ _ _ _ _ _ _ _ _
      | exact ih2 _ _ _ _ _ _ _ _ _ _ _ _ _ _
      | exact ih3 _ _ _ _
      | exact Zy.mono _ _ _
      | exact LeO.none _
      | refine LeO.ite ?_ ?_
      | refine LeO.bind ?_ (fun _ => ?_)
    · intro y0 y1 y2 y3 y4 y5 y6 y7 y8 y9 y10 y11 y12 y13
      unfold Zw.l2
      repeat' first
      | (with_reducible exact ih0 _ _ _ _ _ _)
      | (with_reducible exact ih1 _ _ _ _ _ _ _ _ _)
      | (with_reducible exact ih2 _ _ _ _ _ _ _ _ _ _ _ _ _ _)
      | (with_reducible exact ih3 _ _ _ _)
      | (with_reducible exact Zy.mono _ _ _)
      | (with_reducible exact LeO.refl _)
      | (with_reducible exact LeO.none _)
      | (with_reducible refine LeO.ite ?_ ?_)
      | (with_reducible refine LeO.bind ?_ (fun _ => ?_))
      | exact ih0 _ _ _ _ _ _
      | exact ih1 _ _ _ _ _ _ _ _ _
      | exact ih2 _ _ _ _ _ _ _ _ _ _ _ _ _ _
      | exact ih3 _ _ _ _
      | exact Zy.mono _ _ _
      | exact LeO.none _
      | refine LeO.ite ?_ ?_
      | refine LeO.bind ?_ (fun _ => ?_)
    · intro y0 y1 y2 y3
      unfold Zw.l3
      repeat' first
      | (with_reducible exact ih0 _ _ _ _ _ _)
      | (with_reducible exact ih1 _ _ _ _ _ _ _ _ _)
      | (with_reducible exact ih2 _ _ _ _ _ _ _ _ _ _ _ _ _ _)
      | (with_reducible exact ih3 _ _ _ _)
      | (with_reducible exact Zy.mono _ _ _)
      | (with_reducible exact LeO.refl _)
      | (with_reducible exact LeO.none _)
      | (with_reducible refine LeO.ite ?_ ?_)
      | (with_reducible refine LeO.bind ?_ (fun _ => ?_))
      | exact ih0 _ _ _ _ _ _
      | exact ih1 _ _ _ _ _ _ _ _ _
      | exact ih2 _ _ _ _ _ _ _ _ _ _ _ _ _ _
      | exact ih3 _ _ _ _
      | exact Zy.mono _ _ _
      | exact LeO.none _
      | refine LeO.ite ?_ ?_
      | refine LeO.bind ?_ (fun _ => ?_)
theorem Zw.mono : ∀ a0 a1 a2 a3 k, LeO (Zw.f k a0 a1 a2 a3) (Zw.f (k + 1) a0 a1 a2 a3) := by
  intro a0 a1 a2 a3 k
  obtain ⟨ih0, ih1, ih2, ih3⟩ := Zw.mono_l k
  unfold Zw.f
  repeat' first
      | (with_reducible exact ih0 _ _ _ _ _ _)
      | (with_reducible exact ih1 _ _ _ _ _ _ _ _ _)
      | (with_reducible exact ih2 _ _ _ _ _ _ _ _ _ _ _ _ _ _)
      | (with_reducible exact ih3 _ _ _ _)
      | (with_reducible exact Zy.mono _ _ _)
      | (with_reducible exact LeO.refl _)
      | (with_reducible exact LeO.none _)
      | (with_reducible refine LeO.ite ?_ ?_)
      | (with_reducible refine LeO.bind ?_ (fun _ => ?_))
      | exact ih0 _ _ _ _ _ _
      | exact ih1 _ _ _ _ _ _ _ _ _
      | exact ih2 _ _ _ _ _ _ _ _ _ _ _ _ _ _
      | exact ih3 _ _ _ _
      | exact Zy.mono _ _ _
      | exact LeO.none _
      | refine LeO.ite ?_ ?_
      | refine LeO.bind ?_ (fun _ => ?_)
set_option maxHeartbeats 8000000 in
set_option maxRecDepth 100000 in
theorem Zw.calls (k : Nat) (a0_0 : Int) (a0_1 : Int) (a0_2 : Int) (A0_3 : Option Addr) (c0_3 : Nat) (l0_3 : List (S38)) (r : Int) (w : World) (hr0_3 : Kd.C k38 w A0_3 l0_3.length l0_3) (hc0_3 : l0_3.length ≤ c0_3) (h : Zw.f k a0_0 a0_1 a0_2 l0_3 = some r) :
    Calls Try.prog 18 #[.agg #[.int .i64 a0_0, .int .i64 a0_1, .int .i64 a0_2, .slice A0_3 l0_3.length c0_3]] w fun e w' => e = .returned (.int .u32 r) ∧ Below w.heap.size w w' := by
 (have hu24 := Try.underlying24); (have hu38 := Try.underlying38); (have HR0_3 := Za.mk hr0_3); (have HC0_3 := Za.mk hc0_3); (clear hr0_3 hc0_3); (have HB := Za.mk (Below.refl w.heap.size w)); (have H : (Zw.l0 k (([a0_2] : List Int)) 0 a0_0 a0_1 a0_2 l0_3) = some r := h); (clear h); (obtain ⟨y236, hy236⟩ : ∃ y_ : List Int, y_ = (([a0_2] : List Int)) := ⟨_, rfl⟩); (replace H : (Zw.l0 k y236 0 a0_0 a0_1 a0_2 l0_3) = some r := by first | (rw [hy236]; with_reducible exact H) | (have H2_ := (Option.bind_some _ _).symm.trans H; rw [hy236]; with_reducible exact H2_) | (have H2_ := (Option.bind_some _ _).symm.trans H; with_reducible exact H2_) | with_reducible exact H | (rw [hy236]; exact H) | exact H); (have Ny236 := Za.mk hy236); (clear hy236); (have H' := Za.mk H); (clear H)
 go_enter Try.func18, Try.ntmps18
 go_wp2_with (first | ((with_reducible refine Zb1 (N := 1) rfl ?_); refine Zc1 ?hg (N := 1) ?hd (cs := #[.int .i64 a0_0, .int .i64 a0_1, .int .i64 a0_2, .slice A0_3 l0_3.length c0_3]) (t := 24) ?hr ?_; (case hd => rfl); (case hg => rfl); (case hr => first | (go_simp; done) | (go_simp; rfl)); intro gb235 hg w2 hbox hb; have n0_ := Za.mk (Zr (by repeat (first | (with_reducible first | exact HB.out | apply Zh | apply Zk | apply Zg) | exact HB.out)) hb); have n1_ := Za.mk (hbox); have n2_ := Za.mk ((by rw [hg]; exact (Zo (by repeat (first | (with_reducible first | exact HB.out | apply Zh | apply Zk | apply Zg) | exact HB.out))) : w.heap.size ≤ gb235)); have n3_ := Za.mk ((by rw [hg]; exact (Zo (by repeat (first | (with_reducible first | exact HB.out | apply Zh | apply Zk | apply Zg) | exact HB.out))) : w.heap.size ≤ gb235)); clear HB; have HB := n0_; have BK235 := n1_; have GW235 := n2_; have GE235 := n3_; clear n0_ n1_ n2_ n3_; clear hb hbox hg; have hcz3_0 : w2.cell? ⟨gb235, 0, none⟩ = some (.int .i64 a0_0) := (Zc BK235.out 0).trans rfl; have hcz3_1 : w2.cell? ⟨gb235, 1, none⟩ = some (.int .i64 a0_1) := (Zc BK235.out 1).trans rfl; have hcz3_2 : w2.cell? ⟨gb235, 2, none⟩ = some (.int .i64 a0_2) := (Zc BK235.out 2).trans rfl; have hcz3_3 : w2.cell? ⟨gb235, 3, none⟩ = some (.slice A0_3 l0_3.length c0_3) := (Zc BK235.out 3).trans rfl; have hfz3_0 := Zd BK235.out 0; have hfz3_1 := Zd BK235.out 1; have hfz3_2 := Zd BK235.out 2; have hfz3_3 := Zd BK235.out 3) | ((with_reducible refine Zb1 (N := 14) rfl ?_); refine Kd.R_lit (Kd.int .i64) _ 3 ?hg (N := 14) ?hd (xs := ([a0_2] : List Int)) (inner := [.int .i64 a0_2]) (ok := fun _ => True) (okp := fun _ => True) ?hr ?hp (fun _ hk => hk) trivial (Below.refl _ _) (Nat.le_refl _) (by simp) ?_; (case hd => rfl); (case hg => rfl); (case hr => first | (go_simp; done) | (go_simp; rfl)); (case hp => exact (Reps.one (show Kd.M (Kd.int .i64) _ _ _ a0_2 [.int .i64 a0_2] from rfl) (Reps.none _ _))); intro v237 w4 ho5 hb hg_ hnew_; clear hg_ hnew_; (first | rw [← Ny236.out] at ho5 | (simp only [Int.reduceToNat] at ho5; rw [← Ny236.out] at ho5)); have n0_ := Za.mk (Kd.R_lower ho5 (Zo (by repeat (first | (with_reducible first | exact HB.out | apply Zh | apply Zk | apply Zg | refine Ze ?_ GE235.out) | exact HB.out)))); have n1_ := Za.mk (Zp (g := gb235) (o := .cells #[.int .i64 a0_0, .int .i64 a0_1, .int .i64 a0_2, .slice A0_3 l0_3.length c0_3] 24 (0, 0)) (by (with_reducible repeat (first | refine Zj ?_ _ | refine Zf ?_ | refine Zi ?_ _)); exact BK235.out) hb); have n2_ := Za.mk (Zr (by repeat (first | (with_reducible first | exact HB.out | apply Zh | apply Zk | apply Zg | refine Ze ?_ GE235.out) | exact HB.out)) hb); clear BK235; clear HB; have HO238 := n0_; have BK235 := n1_; have HB := n2_; clear n0_ n1_ n2_; clear hb ho5))
 repeat (go_quiet (first | ((with_reducible refine Zb1 (N := 1) rfl ?_); refine Zc1 ?hg (N := 1) ?hd (cs := #[.int .i64 a0_0, .int .i64 a0_1, .int .i64 a0_2, .slice A0_3 l0_3.length c0_3]) (t := 24) ?hr ?_; (case hd => rfl); (case hg => rfl); (case hr => first | (go_simp; done) | (go_simp; rfl)); intro gb235 hg w2 hbox hb; have n0_ := Za.mk (Zr (by repeat (first | (with_reducible first | exact HB.out | apply Zh | apply Zk | apply Zg) | exact HB.out)) hb); have n1_ := Za.mk (hbox); have n2_ := Za.mk ((by rw [hg]; exact (Zo (by repeat (first | (with_reducible first | exact HB.out | apply Zh | apply Zk | apply Zg) | exact HB.out))) : w.heap.size ≤ gb235)); have n3_ := Za.mk ((by rw [hg]; exact (Zo (by repeat (first | (with_reducible first | exact HB.out | apply Zh | apply Zk | apply Zg) | exact HB.out))) : w.heap.size ≤ gb235)); clear HB; have HB := n0_; have BK235 := n1_; have GW235 := n2_; have GE235 := n3_; clear n0_ n1_ n2_ n3_; clear hb hbox hg; have hcz3_0 : w2.cell? ⟨gb235, 0, none⟩ = some (.int .i64 a0_0) := (Zc BK235.out 0).trans rfl; have hcz3_1 : w2.cell? ⟨gb235, 1, none⟩ = some (.int .i64 a0_1) := (Zc BK235.out 1).trans rfl; have hcz3_2 : w2.cell? ⟨gb235, 2, none⟩ = some (.int .i64 a0_2) := (Zc BK235.out 2).trans rfl; have hcz3_3 : w2.cell? ⟨gb235, 3, none⟩ = some (.slice A0_3 l0_3.length c0_3) := (Zc BK235.out 3).trans rfl; have hfz3_0 := Zd BK235.out 0; have hfz3_1 := Zd BK235.out 1; have hfz3_2 := Zd BK235.out 2; have hfz3_3 := Zd BK235.out 3) | ((with_reducible refine Zb1 (N := 14) rfl ?_); refine Kd.R_lit (Kd.int .i64) _ 3 ?hg (N := 14) ?hd (xs := ([a0_2] : List Int)) (inner := [.int .i64 a0_2]) (ok := fun _ => True) (okp := fun _ => True) ?hr ?hp (fun _ hk => hk) trivial (Below.refl _ _) (Nat.le_refl _) (by simp) ?_; (case hd => rfl); (case hg => rfl); (case hr => first | (go_simp; done) | (go_simp; rfl)); (case hp => exact (Reps.one (show Kd.M (Kd.int .i64) _ _ _ a0_2 [.int .i64 a0_2] from rfl) (Reps.none _ _))); intro v237 w4 ho5 hb hg_ hnew_; clear hg_ hnew_; (first | rw [← Ny236.out] at ho5 | (simp only [Int.reduceToNat] at ho5; rw [← Ny236.out] at ho5)); have n0_ := Za.mk (Kd.R_lower ho5 (Zo (by repeat (first | (with_reducible first | exact HB.out | apply Zh | apply Zk | apply Zg | refine Ze ?_ GE235.out) | exact HB.out)))); have n1_ := Za.mk (Zp (g := gb235) (o := .cells #[.int .i64 a0_0, .int .i64 a0_1, .int .i64 a0_2, .slice A0_3 l0_3.length c0_3] 24 (0, 0)) (by (with_reducible repeat (first | refine Zj ?_ _ | refine Zf ?_ | refine Zi ?_ _)); exact BK235.out) hb); have n2_ := Za.mk (Zr (by repeat (first | (with_reducible first | exact HB.out | apply Zh | apply Zk | apply Zg | refine Ze ?_ GE235.out) | exact HB.out)) hb); clear BK235; clear HB; have HO238 := n0_; have BK235 := n1_; have HB := n2_; clear n0_ n1_ n2_; clear hb ho5)); try go_wp2_with (first | ((with_reducible refine Zb1 (N := 1) rfl ?_); refine Zc1 ?hg (N := 1) ?hd (cs := #[.int .i64 a0_0, .int .i64 a0_1, .int .i64 a0_2, .slice A0_3 l0_3.length c0_3]) (t := 24) ?hr ?_; (case hd => rfl); (case hg => rfl); (case hr => first | (go_simp; done) | (go_simp; rfl)); intro gb235 hg w2 hbox hb; have n0_ := Za.mk (Zr (by repeat (first | (with_reducible first | exact HB.out | apply Zh | apply Zk | apply Zg) | exact HB.out)) hb); have n1_ := Za.mk (hbox); have n2_ := Za.mk ((by rw [hg]; exact (Zo (by repeat (first | (with_reducible first | exact HB.out | apply Zh | apply Zk | apply Zg) | exact HB.out))) : w.heap.size ≤ gb235)); have n3_ := Za.mk ((by rw [hg]; exact (Zo (by repeat (first | (with_reducible first | exact HB.out | apply Zh | apply Zk | apply Zg) | exact HB.out))) : w.heap.size ≤ gb235)); clear HB; have HB := n0_; have BK235 := n1_; have GW235 := n2_; have GE235 := n3_; clear n0_ n1_ n2_ n3_; clear hb hbox hg; have hcz3_0 : w2.cell? ⟨gb235, 0, none⟩ = some (.int .i64 a0_0) := (Zc BK235.out 0).trans rfl; have hcz3_1 : w2.cell? ⟨gb235, 1, none⟩ = some (.int .i64 a0_1) := (Zc BK235.out 1).trans rfl; have hcz3_2 : w2.cell? ⟨gb235, 2, none⟩ = some (.int .i64 a0_2) := (Zc BK235.out 2).trans rfl; have hcz3_3 : w2.cell? ⟨gb235, 3, none⟩ = some (.slice A0_3 l0_3.length c0_3) := (Zc BK235.out 3).trans rfl; have hfz3_0 := Zd BK235.out 0; have hfz3_1 := Zd BK235.out 1; have hfz3_2 := Zd BK235.out 2; have hfz3_3 := Zd BK235.out 3) | ((with_reducible refine Zb1 (N := 14) rfl ?_); refine Kd.R_lit (Kd.int .i64) _ 3 ?hg (N := 14) ?hd (xs := ([a0_2] : List Int)) (inner := [.int .i64 a0_2]) (ok := fun _ => True) (okp := fun _ => True) ?hr ?hp (fun _ hk => hk) trivial (Below.refl _ _) (Nat.le_refl _) (by simp) ?_; (case hd => rfl); (case hg => rfl); (case hr => first | (go_simp; done) | (go_simp; rfl)); (case hp => exact (Reps.one (show Kd.M (Kd.int .i64) _ _ _ a0_2 [.int .i64 a0_2] from rfl) (Reps.none _ _))); intro v237 w4 ho5 hb hg_ hnew_; clear hg_ hnew_; (first | rw [← Ny236.out] at ho5 | (simp only [Int.reduceToNat] at ho5; rw [← Ny236.out] at ho5)); have n0_ := Za.mk (Kd.R_lower ho5 (Zo (by repeat (first | (with_reducible first | exact HB.out | apply Zh | apply Zk | apply Zg | refine Ze ?_ GE235.out) | exact HB.out)))); have n1_ := Za.mk (Zp (g := gb235) (o := .cells #[.int .i64 a0_0, .int .i64 a0_1, .int .i64 a0_2, .slice A0_3 l0_3.length c0_3] 24 (0, 0)) (by (with_reducible repeat (first | refine Zj ?_ _ | refine Zf ?_ | refine Zi ?_ _)); exact BK235.out) hb); have n2_ := Za.mk (Zr (by repeat (first | (with_reducible first | exact HB.out | apply Zh | apply Zk | apply Zg | refine Ze ?_ GE235.out) | exact HB.out)) hb); clear BK235; clear HB; have HO238 := n0_; have BK235 := n1_; have HB := n2_; clear n0_ n1_ n2_; clear hb ho5)))
 go_loopg [3, 4] k (fun kq v3 v4 w' => ∃ (x3_1 : List Int) (x4_1 : Int), v4 = .int .i64 x4_1 ∧ Za (Zw.l0 kq x3_1 x4_1 a0_0 a0_1 a0_2 l0_3 = some r) ∧ Za (kq ≤ k) ∧ Za (Kd.R (Kd.int .i64) 3 w' w.heap.size (fun _ => True) v3 x3_1) ∧ Za (w'.heap[gb235]? = some (.cells #[.int .i64 a0_0, .int .i64 a0_1, .int .i64 a0_2, (.slice A0_3 l0_3.length c0_3)] 24 (0, 0))) ∧ Za (Below w.heap.size w w'))
 case atStart => exact ⟨(y236), (0), (by first | rfl | (simp; done) | (simp [*]; done)), H', ⟨Nat.le_refl _⟩, ⟨by (with_reducible repeat (first | apply Kd.R_alloc | apply Kd.R_drewN | apply Kd.R_drew)); exact HO238.out⟩, ⟨by (with_reducible repeat (first | refine Zj ?_ _ | refine Zf ?_ | refine Zi ?_ _)); exact BK235.out⟩, ⟨by repeat (first | (with_reducible first | exact HB.out | apply Zh | apply Zk | apply Zg | refine Ze ?_ GE235.out) | exact HB.out)⟩⟩
 case round =>
  (clear H'); (try clear c1); (try clear p2); (try clear hcz3_0); (try clear hcz3_1); (try clear hcz3_2); (try clear hcz3_3); (try clear hfz3_0); (try clear hfz3_1); (try clear hfz3_2); (try clear hfz3_3); (obtain ⟨x3_1, x4_1, rfl, HA, HK1, HO_3, BK235, HB⟩ := hrel)
  cases gk with
  | zero => exact absurd HA.out (by simp [Zw.l0])
  | succ k1 =>
   (have H := HA.out); (clear HA); (simp only [Zw.l0] at H)
   by_cases c6 : x4_1 < (x3_1.length : Int)
   rotate_left
   ·rw [if_neg c6] at H
    (have c6b0 : decide (x4_1 < (x3_1.length : Int)) = false := decide_eq_false c6); (clear c6); (have H' := Za.mk H); (clear H); (obtain ⟨Ao41, co41, eo41⟩ := Kd.R_slice HO_3.out); (subst eo41)
    go_wp2
    repeat (go_quiet (fail); try go_wp2)
    go_loopg [9, 68] k1 (fun kq v9 v68 w' => ∃ (x9_2 : Int) (x68_2 : Int), v9 = .int .u32 x9_2 ∧ v68 = .int .i64 x68_2 ∧ Za (Zw.l3 kq x9_2 x3_1 (x3_1.length : Int) x68_2 = some r) ∧ Za (kq ≤ k1) ∧ Za (Kd.R (Kd.int .i64) 3 w' w.heap.size (fun _ => True) (.slice Ao41 x3_1.length co41) x3_1) ∧ Za (w'.heap[gb235]? = some (.cells #[.int .i64 a0_0, .int .i64 a0_1, .int .i64 a0_2, (.slice A0_3 l0_3.length c0_3)] 24 (0, 0))) ∧ Za (Below w.heap.size w w'))
    case atStart => exact ⟨(0), (0), (by first | rfl | (simp; done) | (simp [*]; done)), (by first | rfl | (simp; done) | (simp [*]; done)), H', ⟨Nat.le_refl _⟩, ⟨by (with_reducible repeat (first | apply Kd.R_alloc | apply Kd.R_drewN | apply Kd.R_drew)); exact HO_3.out⟩, ⟨by (with_reducible repeat (first | refine Zj ?_ _ | refine Zf ?_ | refine Zi ?_ _)); exact BK235.out⟩, ⟨by repeat (first | (with_reducible first | exact HB.out | apply Zh | apply Zk | apply Zg | refine Ze ?_ GE235.out) | exact HB.out)⟩⟩
    case round =>
     (clear H'); (try clear c1); (try clear c2); (try clear p2); (try clear q2); (try clear hx2); (try clear c3); (try clear c6); (try clear c6b0); (try clear p6); (try clear c9); (try clear c9b0); (try clear c10); (try clear c10b0); (try clear c11); (try clear c11b0); (try clear c13); (try clear c15); (try clear c15b0); (try clear c16); (try clear c16b0); (try clear c17); (try clear c17b0); (try clear c18); (try clear c18b0); (try clear c19); (try clear c19b0); (try clear c20); (try clear c20b0); (try clear c20b1); (try clear c21); (try clear c21b0); (try clear c23); (try clear p23); (try clear q23); (try clear hx23); (try clear c24); (try clear p24); (try clear q24); (try clear hx24); (try clear c28); (try clear c29); (try clear c34); (try clear c38); (try clear hcz14_0); (try clear hcz14_1); (try clear hcz25_0); (try clear hcz25_1); (try clear hcz27_0); (try clear hcz27_1); (try clear hcz27_2); (try clear hcz27_3); (try clear hcz30_0); (try clear hcz30_1); (try clear hcz32_0); (try clear hcz32_1); (try clear hcz32_2); (try clear hcz32_3); (try clear hcz35_0); (try clear hcz35_1); (try clear hcz37_0); (try clear hcz37_1); (try clear hcz37_2); (try clear hcz37_3); (try clear hcz39_0); (try clear hcz39_1); (try clear hcz3_0); (try clear hcz3_1); (try clear hcz3_2); (try clear hcz3_3); (try clear hcz8_0); (try clear hcz8_1); (try clear hcz8_2); (try clear hcz8_3); (try clear hfz14_0); (try clear hfz14_1); (try clear hfz25_0); (try clear hfz25_1); (try clear hfz27_0); (try clear hfz27_1); (try clear hfz27_2); (try clear hfz27_3); (try clear hfz30_0); (try clear hfz30_1); (try clear hfz32_0); (try clear hfz32_1); (try clear hfz32_2); (try clear hfz32_3); (try clear hfz35_0); (try clear hfz35_1); (try clear hfz37_0); (try clear hfz37_1); (try clear hfz37_2); (try clear hfz37_3); (try clear hfz39_0); (try clear hfz39_1); (try clear hfz3_0); (try clear hfz3_1); (try clear hfz3_2)
     (try clear hfz3_3); (try clear hfz8_0); (try clear hfz8_1); (try clear hfz8_2); (try clear hfz8_3); (try clear hx239_0); (try clear hx239_1); (try clear hx241_0); (try clear hx242_0); (try clear p2); (try clear p239); (try clear p241); (try clear p242); (try clear q2); (try clear q239); (try clear q241); (try clear q242); (obtain ⟨x9_2, x68_2, rfl, rfl, HA, HK2, HO_66, BK235, HB⟩ := hrel)
     cases gk with
     | zero => exact absurd HA.out (by simp [Zw.l3])
     | succ k2 =>
      (have H := HA.out); (clear HA); (simp only [Zw.l3] at H)
      by_cases c42 : x68_2 < (x3_1.length : Int)
      rotate_left
      ·rw [if_neg c42] at H
       (have c42b0 : decide (x68_2 < (x3_1.length : Int)) = false := decide_eq_false c42); (clear c42); (obtain rfl := Option.some.inj H)
       go_wp2
       repeat (go_quiet (fail); try go_wp2)
       go_ret
       exact ⟨by first | rfl | (simp [Zu, Zt] <;> rfl) | (simp [*, Zu, Zt] <;> rfl), by repeat (first | (with_reducible first | exact HB.out | apply Zh | apply Zk | apply Zg | refine Ze ?_ GE235.out) | exact HB.out)⟩
      (rw [if_pos c42] at H); (have c42b0 : decide (x68_2 < (x3_1.length : Int)) = true := decide_eq_true c42); (clear c42)
      by_cases c43 : 0 ≤ x68_2
      rotate_left
      ·rw [if_neg c43] at H
       exact absurd H (by simp)
      (rw [if_pos c43] at H); (have c43b0 : decide (0 ≤ x68_2) = true := decide_eq_true c43); (clear c43)
      by_cases c44 : x68_2 < (x3_1.length : Int)
      rotate_left
      ·rw [if_neg c44] at H
       exact absurd H (by simp)
      (rw [if_pos c44] at H); (have c44b0 : decide (x68_2 < (x3_1.length : Int)) = true := decide_eq_true c44); (clear c44); (obtain ⟨ji45, hji45⟩ : ∃ j_ : Int, (IntKind.u64.wrap (rd x3_1 x68_2)) = j_ := ⟨_, rfl⟩); (replace H : (if 0 ≤ (ji45) then (Zw.l3 k2 ((x9_2 + (shl .u32 1 (ji45))) % 4294967296) x3_1 (x3_1.length : Int) (wrap64 (x68_2 + 1))) else (none)) = some r := by first | (rw [hji45] at H; exact H) | (simp only [hji45] at H ⊢; exact H))
      by_cases c46 : 0 ≤ (ji45)
      rotate_left
      ·rw [if_neg c46] at H
       exact absurd H (by simp)
      (rw [if_pos c46] at H); (have c46b0 := eq_true c46); (have c46b1 : decide (0 ≤ (ji45)) = true := decide_eq_true c46); (clear c46); (obtain ⟨ji47, hji47⟩ : ∃ j_ : Int, (shl .u32 1 (ji45)) = j_ := ⟨_, rfl⟩); (replace H : (Zw.l3 k2 ((x9_2 + (ji47)) % 4294967296) x3_1 (x3_1.length : Int) (wrap64 (x68_2 + 1))) = some r := by first | (rw [hji47] at H; exact H) | (simp only [hji47] at H ⊢; exact H)); (have hji47_ : (IntKind.u32.wrap (1 * 2 ^ min (ji45).toNat 32)) = ji47 := hji47); (have hji47z : (ji45) ≤ 32 → (IntKind.u32.wrap (1 * 2 ^ (ji45).toNat)) = ji47 := shl_small hji47); (have hji47u : (IntKind.u32.wrap (2 ^ min (ji45).toNat 32)) = ji47 := by have h_ := hji47_; rw [Int.one_mul] at h_; exact h_); (have hji47v : (ji45) ≤ 32 → (IntKind.u32.wrap (2 ^ (ji45).toNat)) = ji47 := fun hle_ => by have h_ := hji47z hle_; rw [Int.one_mul] at h_; exact h_); (have H' := Za.mk H); (clear H); (have p247 : 0 ≤ (x68_2 : Int) := of_decide_eq_true (by assumption)); (have q247 : x68_2 < (x3_1.length : Int) := of_decide_eq_true (by assumption)); (obtain ⟨ad247, e247, hx247_0⟩ := Kd.at_int (Kd.R_reads' HO_66.out).2.2 x68_2 p247 q247); (cases e247); (replace p247 := eq_true p247); (replace q247 := eq_true q247)
      go_wp2
      repeat (go_quiet (fail); try go_wp2)
      (first | go_roundg k2 | (simp only [← hji47]; go_roundg k2) | (simp only [← hji45, ← hji47]; go_roundg k2))
      case measure => have := HK1.out; have := HK2.out; omega
      case rel => exact ⟨((x9_2 + (ji47)) % 4294967296), (wrap64 (x68_2 + 1)), (by first | rfl | (simp; done) | (simp only [← hji47] <;> (first | rfl | simp)) | (simp [*]; done)), (by first | rfl | (simp; done) | (simp [*]; done)), H', ⟨by have := HK1.out; have := HK2.out; omega⟩, ⟨by (with_reducible repeat (first | apply Kd.R_alloc | apply Kd.R_drewN | apply Kd.R_drew)); exact HO_66.out⟩, ⟨by (with_reducible repeat (first | refine Zj ?_ _ | refine Zf ?_ | refine Zi ?_ _)); exact BK235.out⟩, ⟨by repeat (first | (with_reducible first | exact HB.out | apply Zh | apply Zk | apply Zg | refine Ze ?_ GE235.out) | exact HB.out)⟩⟩
   (rw [if_pos c6] at H); (have c6b0 : decide (x4_1 < (x3_1.length : Int)) = true := decide_eq_true c6); (clear c6); (have H' := Za.mk H); (clear H); (obtain ⟨Ao7, co7, eo7⟩ := Kd.R_slice HO_3.out); (subst eo7); (have hcz8_0 : wr.cell? ⟨gb235, 0, none⟩ = some (.int .i64 a0_0) := (Zc BK235.out 0).trans rfl); (have hcz8_1 : wr.cell? ⟨gb235, 1, none⟩ = some (.int .i64 a0_1) := (Zc BK235.out 1).trans rfl); (have hcz8_2 : wr.cell? ⟨gb235, 2, none⟩ = some (.int .i64 a0_2) := (Zc BK235.out 2).trans rfl); (have hcz8_3 : wr.cell? ⟨gb235, 3, none⟩ = some (.slice A0_3 l0_3.length c0_3) := (Zc BK235.out 3).trans rfl); (have hfz8_0 := Zd BK235.out 0); (have hfz8_1 := Zd BK235.out 1); (have hfz8_2 := Zd BK235.out 2); (have hfz8_3 := Zd BK235.out 3)
   go_wp2
   repeat (go_quiet (fail); try go_wp2)
   go_loopg [3, 24] k1 (fun kq v3 v24 w' => ∃ (x3_2 : List Int) (x24_2 : Int), v24 = .int .i64 x24_2 ∧ Za (Zw.l1 kq x3_2 x4_1 l0_3 (l0_3.length : Int) x24_2 a0_0 a0_1 a0_2 l0_3 = some r) ∧ Za (kq ≤ k1) ∧ Za (Kd.R (Kd.int .i64) 3 w' w.heap.size (fun _ => True) v3 x3_2) ∧ Za (w'.heap[gb235]? = some (.cells #[.int .i64 a0_0, .int .i64 a0_1, .int .i64 a0_2, (.slice A0_3 l0_3.length c0_3)] 24 (0, 0))) ∧ Za (Below w.heap.size w w'))
   case atStart => exact ⟨(x3_1), (0), (by first | rfl | (simp; done) | (simp [*]; done)), H', ⟨Nat.le_refl _⟩, ⟨by (with_reducible repeat (first | apply Kd.R_alloc | apply Kd.R_drewN | apply Kd.R_drew)); exact HO_3.out⟩, ⟨by (with_reducible repeat (first | refine Zj ?_ _ | refine Zf ?_ | refine Zi ?_ _)); exact BK235.out⟩, ⟨by repeat (first | (with_reducible first | exact HB.out | apply Zh | apply Zk | apply Zg | refine Ze ?_ GE235.out) | exact HB.out)⟩⟩
   case round =>
    (clear H'); (try clear c1); (try clear p2); (try clear c6); (try clear c6b0); (try clear hcz3_0); (try clear hcz3_1); (try clear hcz3_2); (try clear hcz3_3); (try clear hcz8_0); (try clear hcz8_1); (try clear hcz8_2); (try clear hcz8_3); (try clear hfz3_0); (try clear hfz3_1); (try clear hfz3_2); (try clear hfz3_3); (try clear hfz8_0); (try clear hfz8_1); (try clear hfz8_2); (try clear hfz8_3); (try clear p2); (obtain ⟨x3_2, x24_2, rfl, HA, HK2, HO_3, BK235, HB⟩ := hrel)
    cases gk with
    | zero => exact absurd HA.out (by simp [Zw.l1])
    | succ k2 =>
     (have H := HA.out); (clear HA); (simp only [Zw.l1] at H)
     by_cases c9 : x24_2 < (l0_3.length : Int)
     rotate_left
     ·rw [if_neg c9] at H
      (have c9b0 : decide (x24_2 < (l0_3.length : Int)) = false := decide_eq_false c9); (clear c9); (have H' := Za.mk H); (clear H)
      go_wp2
      repeat (go_quiet (fail); try go_wp2)
      go_roundg k2
      case measure => have := HK1.out; have := HK2.out; omega
      case rel => exact ⟨(x3_2), (wrap64 (x4_1 + 1)), (by first | rfl | (simp; done) | (simp [*]; done)), H', ⟨by have := HK1.out; have := HK2.out; omega⟩, ⟨by (with_reducible repeat (first | apply Kd.R_alloc | apply Kd.R_drewN | apply Kd.R_drew)); exact HO_3.out⟩, ⟨by (with_reducible repeat (first | refine Zj ?_ _ | refine Zf ?_ | refine Zi ?_ _)); exact BK235.out⟩, ⟨by repeat (first | (with_reducible first | exact HB.out | apply Zh | apply Zk | apply Zg | refine Ze ?_ GE235.out) | exact HB.out)⟩⟩
     (rw [if_pos c9] at H); (have c9b0 : decide (x24_2 < (l0_3.length : Int)) = true := decide_eq_true c9); (clear c9)
     by_cases c10 : 0 ≤ x24_2
     rotate_left
     ·rw [if_neg c10] at H
      exact absurd H (by simp)
     (rw [if_pos c10] at H); (have c10b0 : decide (0 ≤ x24_2) = true := decide_eq_true c10); (clear c10)
     by_cases c11 : x24_2 < (l0_3.length : Int)
     rotate_left
     ·rw [if_neg c11] at H
      exact absurd H (by simp)
     (rw [if_pos c11] at H); (have c11b0 : decide (x24_2 < (l0_3.length : Int)) = true := decide_eq_true c11); (clear c11); (have H' := Za.mk H); (clear H); (have p239 : 0 ≤ (x24_2 : Int) := of_decide_eq_true (by assumption)); (have q239 : x24_2 < (l0_3.length : Int) := of_decide_eq_true (by assumption)); (obtain ⟨ad239, A239_1, c239_1, e239, hx239_0, hx239_1, hl239_1, hi239_1⟩ := at_T38 HR0_3.out x24_2 p239 q239); (cases e239); (replace hx239_0 := (HB.out.cell (World.block_lt_of_cell? w _ hx239_0)).trans hx239_0); (replace hx239_1 := (HB.out.cell (World.block_lt_of_cell? w _ hx239_1)).trans hx239_1); (have HR239_1 := Za.mk hi239_1); (have HC239_1 := Za.mk hl239_1); (clear hi239_1 hl239_1); (replace p239 := eq_true p239); (replace q239 := eq_true q239)
     go_wp2_with (first | ((with_reducible refine Zb1 (N := 6) rfl ?_); refine Zc1 ?hg (N := 6) ?hd (cs := #[.int .i64 0, .slice none 0 0]) (t := 38) ?hr ?_; (case hd => rfl); (case hg => rfl); (case hr => first | (go_simp; done) | (go_simp; rfl)); intro gb240 hg w12 hbox hb; have n0_ := Za.mk (Kd.R_below (by (with_reducible repeat (first | apply Kd.R_alloc | apply Kd.R_drewN | apply Kd.R_drew)); exact HO_3.out) hb); have n1_ := Za.mk (Zp (g := gb235) (o := .cells #[.int .i64 a0_0, .int .i64 a0_1, .int .i64 a0_2, .slice (some ad239) l0_3.length c0_3] 24 (0, 0)) (by (with_reducible repeat (first | refine Zj ?_ _ | refine Zf ?_ | refine Zi ?_ _)); exact BK235.out) hb); have n2_ := Za.mk (Zr (by repeat (first | (with_reducible first | exact HB.out | apply Zh | apply Zk | apply Zg | refine Ze ?_ GE235.out) | exact HB.out)) hb); have n3_ := Za.mk (hbox); have n4_ := Za.mk ((by rw [hg]; exact (Zo (by repeat (first | (with_reducible first | exact HB.out | apply Zh | apply Zk | apply Zg | refine Ze ?_ GE235.out) | exact HB.out))) : w.heap.size ≤ gb240)); have n5_ := Za.mk ((by rw [hg]; exact (Zo (by repeat (first | (with_reducible first | exact HB.out | apply Zh | apply Zk | apply Zg | refine Ze ?_ GE235.out) | exact HB.out))) : w.heap.size ≤ gb240)); have n6_ := Za.mk ((by rw [hg]; exact Nat.ne_of_lt (Zx (g := gb235) (o := .cells #[.int .i64 a0_0, .int .i64 a0_1, .int .i64 a0_2, .slice (some ad239) l0_3.length c0_3] 24 (0, 0)) (by (with_reducible repeat (first | refine Zj ?_ _ | refine Zf ?_ | refine Zi ?_ _)); exact BK235.out)) : gb235 ≠ gb240)); have n7_ := Za.mk ((by rw [hg]; exact Nat.ne_of_gt (Zx (g := gb235) (o := .cells #[.int .i64 a0_0, .int .i64 a0_1, .int .i64 a0_2, .slice (some ad239) l0_3.length c0_3] 24 (0, 0)) (by (with_reducible repeat (first | refine Zj ?_ _ | refine Zf ?_ | refine Zi ?_ _)); exact BK235.out)) : gb240 ≠ gb235)); clear HO_3; clear BK235; clear HB; have HO_3 := n0_; have BK235 := n1_; have HB := n2_; have BK240 := n3_; have GW240 := n4_; have GE240 := n5_; have NB235_240 := n6_; have NB240_235 := n7_; clear n0_ n1_ n2_ n3_ n4_ n5_ n6_ n7_; clear hb hbox hg; have hnb13 := NB240_235.out; have hnc13 := NB235_240.out; have hcz14_0 : w12.cell? ⟨gb240, 0, none⟩ = some (.int .i64 0) := (Zc BK240.out 0).trans rfl; have hcz14_1 : w12.cell? ⟨gb240, 1, none⟩ = some (.slice none 0 0) := (Zc BK240.out 1).trans rfl; have hfz14_0 := Zd BK240.out 0; have hfz14_1 := Zd BK240.out 1))
     repeat (go_quiet (first | ((with_reducible refine Zb1 (N := 6) rfl ?_); refine Zc1 ?hg (N := 6) ?hd (cs := #[.int .i64 0, .slice none 0 0]) (t := 38) ?hr ?_; (case hd => rfl); (case hg => rfl); (case hr => first | (go_simp; done) | (go_simp; rfl)); intro gb240 hg w12 hbox hb; have n0_ := Za.mk (Kd.R_below (by (with_reducible repeat (first | apply Kd.R_alloc | apply Kd.R_drewN | apply Kd.R_drew)); exact HO_3.out) hb); have n1_ := Za.mk (Zp (g := gb235) (o := .cells #[.int .i64 a0_0, .int .i64 a0_1, .int .i64 a0_2, .slice (some ad239) l0_3.length c0_3] 24 (0, 0)) (by (with_reducible repeat (first | refine Zj ?_ _ | refine Zf ?_ | refine Zi ?_ _)); exact BK235.out) hb); have n2_ := Za.mk (Zr (by repeat (first | (with_reducible first | exact HB.out | apply Zh | apply Zk | apply Zg | refine Ze ?_ GE235.out) | exact HB.out)) hb); have n3_ := Za.mk (hbox); have n4_ := Za.mk ((by rw [hg]; exact (Zo (by repeat (first | (with_reducible first | exact HB.out | apply Zh | apply Zk | apply Zg | refine Ze ?_ GE235.out) | exact HB.out))) : w.heap.size ≤ gb240)); have n5_ := Za.mk ((by rw [hg]; exact (Zo (by repeat (first | (with_reducible first | exact HB.out | apply Zh | apply Zk | apply Zg | refine Ze ?_ GE235.out) | exact HB.out))) : w.heap.size ≤ gb240)); have n6_ := Za.mk ((by rw [hg]; exact Nat.ne_of_lt (Zx (g := gb235) (o := .cells #[.int .i64 a0_0, .int .i64 a0_1, .int .i64 a0_2, .slice (some ad239) l0_3.length c0_3] 24 (0, 0)) (by (with_reducible repeat (first | refine Zj ?_ _ | refine Zf ?_ | refine Zi ?_ _)); exact BK235.out)) : gb235 ≠ gb240)); have n7_ := Za.mk ((by rw [hg]; exact Nat.ne_of_gt (Zx (g := gb235) (o := .cells #[.int .i64 a0_0, .int .i64 a0_1, .int .i64 a0_2, .slice (some ad239) l0_3.length c0_3] 24 (0, 0)) (by (with_reducible repeat (first | refine Zj ?_ _ | refine Zf ?_ | refine Zi ?_ _)); exact BK235.out)) : gb240 ≠ gb235)); clear HO_3; clear BK235; clear HB; have HO_3 := n0_; have BK235 := n1_; have HB := n2_; have BK240 := n3_; have GW240 := n4_; have GE240 := n5_; have NB235_240 := n6_; have NB240_235 := n7_; clear n0_ n1_ n2_ n3_ n4_ n5_ n6_ n7_; clear hb hbox hg; have hnb13 := NB240_235.out; have hnc13 := NB235_240.out; have hcz14_0 : w12.cell? ⟨gb240, 0, none⟩ = some (.int .i64 0) := (Zc BK240.out 0).trans rfl; have hcz14_1 : w12.cell? ⟨gb240, 1, none⟩ = some (.slice none 0 0) := (Zc BK240.out 1).trans rfl; have hfz14_0 := Zd BK240.out 0; have hfz14_1 := Zd BK240.out 1)); try go_wp2_with (first | ((with_reducible refine Zb1 (N := 6) rfl ?_); refine Zc1 ?hg (N := 6) ?hd (cs := #[.int .i64 0, .slice none 0 0]) (t := 38) ?hr ?_; (case hd => rfl); (case hg => rfl); (case hr => first | (go_simp; done) | (go_simp; rfl)); intro gb240 hg w12 hbox hb; have n0_ := Za.mk (Kd.R_below (by (with_reducible repeat (first | apply Kd.R_alloc | apply Kd.R_drewN | apply Kd.R_drew)); exact HO_3.out) hb); have n1_ := Za.mk (Zp (g := gb235) (o := .cells #[.int .i64 a0_0, .int .i64 a0_1, .int .i64 a0_2, .slice (some ad239) l0_3.length c0_3] 24 (0, 0)) (by (with_reducible repeat (first | refine Zj ?_ _ | refine Zf ?_ | refine Zi ?_ _)); exact BK235.out) hb); have n2_ := Za.mk (Zr (by repeat (first | (with_reducible first | exact HB.out | apply Zh | apply Zk | apply Zg | refine Ze ?_ GE235.out) | exact HB.out)) hb); have n3_ := Za.mk (hbox); have n4_ := Za.mk ((by rw [hg]; exact (Zo (by repeat (first | (with_reducible first | exact HB.out | apply Zh | apply Zk | apply Zg | refine Ze ?_ GE235.out) | exact HB.out))) : w.heap.size ≤ gb240)); have n5_ := Za.mk ((by rw [hg]; exact (Zo (by repeat (first | (with_reducible first | exact HB.out | apply Zh | apply Zk | apply Zg | refine Ze ?_ GE235.out) | exact HB.out))) : w.heap.size ≤ gb240)); have n6_ := Za.mk ((by rw [hg]; exact Nat.ne_of_lt (Zx (g := gb235) (o := .cells #[.int .i64 a0_0, .int .i64 a0_1, .int .i64 a0_2, .slice (some ad239) l0_3.length c0_3] 24 (0, 0)) (by (with_reducible repeat (first | refine Zj ?_ _ | refine Zf ?_ | refine Zi ?_ _)); exact BK235.out)) : gb235 ≠ gb240)); have n7_ := Za.mk ((by rw [hg]; exact Nat.ne_of_gt (Zx (g := gb235) (o := .cells #[.int .i64 a0_0, .int .i64 a0_1, .int .i64 a0_2, .slice (some ad239) l0_3.length c0_3] 24 (0, 0)) (by (with_reducible repeat (first | refine Zj ?_ _ | refine Zf ?_ | refine Zi ?_ _)); exact BK235.out)) : gb240 ≠ gb235)); clear HO_3; clear BK235; clear HB; have HO_3 := n0_; have BK235 := n1_; have HB := n2_; have BK240 := n3_; have GW240 := n4_; have GE240 := n5_; have NB235_240 := n6_; have NB240_235 := n7_; clear n0_ n1_ n2_ n3_ n4_ n5_ n6_ n7_; clear hb hbox hg; have hnb13 := NB240_235.out; have hnc13 := NB235_240.out; have hcz14_0 : w12.cell? ⟨gb240, 0, none⟩ = some (.int .i64 0) := (Zc BK240.out 0).trans rfl; have hcz14_1 : w12.cell? ⟨gb240, 1, none⟩ = some (.slice none 0 0) := (Zc BK240.out 1).trans rfl; have hfz14_0 := Zd BK240.out 0; have hfz14_1 := Zd BK240.out 1)))
     go_loopg [3, 31] k2 (fun kq v3 v31 w' => ∃ (x3_3 : List Int) (x31_3 : Int), v31 = .int .i64 x31_3 ∧ Za (Zw.l2 kq x3_3 x4_1 l0_3 (l0_3.length : Int) x24_2 ((Zb l0_3 x24_2).f1) (((Zb l0_3 x24_2).f1).length : Int) x31_3 a0_0 a0_1 a0_2 l0_3 ((Zb l0_3 x24_2).f0) ((Zb l0_3 x24_2).f1) = some r) ∧ Za (kq ≤ k2) ∧ Za (Kd.R (Kd.int .i64) 3 w' w.heap.size (fun _ => True) v3 x3_3) ∧ Za (w'.heap[gb235]? = some (.cells #[.int .i64 a0_0, .int .i64 a0_1, .int .i64 a0_2, (.slice (some ad239) l0_3.length c0_3)] 24 (0, 0))) ∧ Za (w'.heap[gb240]? = some (.cells #[.int .i64 ((Zb l0_3 x24_2).f0), (.slice A239_1 ((Zb l0_3 x24_2).f1).length c239_1)] 38 (0, 0))) ∧ Za (Below w.heap.size w w'))
     case atStart => exact ⟨(x3_2), (0), (by first | rfl | (simp; done) | (simp [*]; done)), H', ⟨Nat.le_refl _⟩, ⟨by (with_reducible repeat (first | apply Kd.R_alloc | apply Kd.R_drewN | apply Kd.R_drew)); exact Kd.R_mono (Kd.R_far (p := ⟨gb240, 1, none⟩) (Kd.R_far (p := ⟨gb240, 0, none⟩) (Kd.R_types HO_3.out BK240.out (by decide)) (fun _ hk => hk.2) (.int .i64 ((Zb l0_3 x24_2).f0))) (fun _ hk => hk.2) (.slice A239_1 ((Zb l0_3 x24_2).f1).length c239_1)) (fun _ hk => trivial)⟩, ⟨by (with_reducible repeat (first | refine Zj ?_ _ | refine Zf ?_ | refine Zi ?_ _)); refine Zd1 ?_ NB235_240.out _; (with_reducible repeat (first | refine Zj ?_ _ | refine Zf ?_ | refine Zi ?_ _)); refine Zd1 ?_ NB235_240.out _; (with_reducible repeat (first | refine Zj ?_ _ | refine Zf ?_ | refine Zi ?_ _)); exact BK235.out⟩, ⟨by (with_reducible repeat (first | refine Zj ?_ _ | refine Zf ?_ | refine Zi ?_ _)); refine blk_put (cs := #[.int .i64 ((Zb l0_3 x24_2).f0), .slice none 0 0]) ?_ 1 _ rfl; (with_reducible repeat (first | refine Zj ?_ _ | refine Zf ?_ | refine Zi ?_ _)); refine blk_put (cs := #[.int .i64 0, .slice none 0 0]) ?_ 0 _ rfl; (with_reducible repeat (first | refine Zj ?_ _ | refine Zf ?_ | refine Zi ?_ _)); exact BK240.out⟩, ⟨by repeat (first | (with_reducible first | exact HB.out | apply Zh | apply Zk | apply Zg | refine Ze ?_ GE235.out | refine Ze ?_ GE240.out) | exact HB.out)⟩⟩
     case round =>
      (clear H'); (try clear c1); (try clear c2); (try clear p2); (try clear q2); (try clear hx2); (try clear c6); (try clear c6b0); (try clear c9); (try clear c9b0); (try clear c10); (try clear c10b0); (try clear c11); (try clear c11b0); (try clear c13); (try clear hcz14_0); (try clear hcz14_1); (try clear hcz3_0); (try clear hcz3_1); (try clear hcz3_2); (try clear hcz3_3); (try clear hcz8_0); (try clear hcz8_1); (try clear hcz8_2); (try clear hcz8_3); (try clear hfz14_0); (try clear hfz14_1); (try clear hfz3_0); (try clear hfz3_1); (try clear hfz3_2); (try clear hfz3_3); (try clear hfz8_0); (try clear hfz8_1); (try clear hfz8_2); (try clear hfz8_3); (try clear hx239_0); (try clear hx239_1); (try clear p2); (try clear p239); (try clear q239); (obtain ⟨x3_3, x31_3, rfl, HA, HK3, HO_3, BK235, BK240, HB⟩ := hrel)
      cases gk with
      | zero => exact absurd HA.out (by simp [Zw.l2])
      | succ k3 =>
       (have H := HA.out); (clear HA); (simp only [Zw.l2] at H)
       by_cases c15 : x31_3 < (((Zb l0_3 x24_2).f1).length : Int)
       rotate_left
       ·rw [if_neg c15] at H
        (have c15b0 : decide (x31_3 < (((Zb l0_3 x24_2).f1).length : Int)) = false := decide_eq_false c15); (clear c15); (have H' := Za.mk H); (clear H)
        go_wp2
        repeat (go_quiet (fail); try go_wp2)
        go_roundg k3
        case measure => have := HK1.out; have := HK2.out; have := HK3.out; omega
        case rel => exact ⟨(x3_3), (wrap64 (x24_2 + 1)), (by first | rfl | (simp; done) | (simp [*]; done)), H', ⟨by have := HK1.out; have := HK2.out; have := HK3.out; omega⟩, ⟨by (with_reducible repeat (first | apply Kd.R_alloc | apply Kd.R_drewN | apply Kd.R_drew)); exact HO_3.out⟩, ⟨by (with_reducible repeat (first | refine Zj ?_ _ | refine Zf ?_ | refine Zi ?_ _)); exact BK235.out⟩, ⟨by repeat (first | (with_reducible first | exact HB.out | apply Zh | apply Zk | apply Zg | refine Ze ?_ GE235.out | refine Ze ?_ GE240.out) | exact HB.out)⟩⟩
       (rw [if_pos c15] at H); (have c15b0 : decide (x31_3 < (((Zb l0_3 x24_2).f1).length : Int)) = true := decide_eq_true c15); (clear c15)
       by_cases c16 : 0 ≤ x31_3
       rotate_left
       ·rw [if_neg c16] at H
        exact absurd H (by simp)
       (rw [if_pos c16] at H); (have c16b0 : decide (0 ≤ x31_3) = true := decide_eq_true c16); (clear c16)
       by_cases c17 : x31_3 < (((Zb l0_3 x24_2).f1).length : Int)
       rotate_left
       ·rw [if_neg c17] at H
        exact absurd H (by simp)
       (rw [if_pos c17] at H); (have c17b0 : decide (x31_3 < (((Zb l0_3 x24_2).f1).length : Int)) = true := decide_eq_true c17); (clear c17)
       by_cases c18 : 0 ≤ x4_1
       rotate_left
       ·rw [if_neg c18] at H
        exact absurd H (by simp)
       (rw [if_pos c18] at H); (have c18b0 : decide (0 ≤ x4_1) = true := decide_eq_true c18); (clear c18)
       by_cases c19 : x4_1 < (x3_3.length : Int)
       rotate_left
       ·rw [if_neg c19] at H
        exact absurd H (by simp)
       (rw [if_pos c19] at H); (have c19b0 : decide (x4_1 < (x3_3.length : Int)) = true := decide_eq_true c19); (clear c19)
       by_cases c20 : ((Zb l0_3 x24_2).f0) = (rd x3_3 x4_1)
       rotate_left
       ·rw [if_neg c20] at H
        (have c20b0 : (((Zb l0_3 x24_2).f0) == (rd x3_3 x4_1)) = false := beq_eq_false_iff_ne.mpr c20); (have c20b1 : (((Zb l0_3 x24_2).f0) != (rd x3_3 x4_1)) = true := bne_iff_ne.mpr c20); (have H' := Za.mk H); (clear H); (have p241 : 0 ≤ (x31_3 : Int) := of_decide_eq_true (by assumption)); (have q241 : x31_3 < (((Zb l0_3 x24_2).f1).length : Int) := of_decide_eq_true (by assumption)); (obtain ⟨ad241, e241, hx241_0⟩ := Kd.at_int HR239_1.out x31_3 p241 q241); (cases e241); (replace hx241_0 := (HB.out.cell (World.block_lt_of_cell? w _ hx241_0)).trans hx241_0); (replace p241 := eq_true p241); (replace q241 := eq_true q241); (have hnb38 := NB240_235.out); (have hnc38 := NB235_240.out); (have hcz39_0 : wr.cell? ⟨gb240, 0, none⟩ = some (.int .i64 ((Zb l0_3 x24_2).f0)) := (Zc BK240.out 0).trans rfl); (have hcz39_1 : wr.cell? ⟨gb240, 1, none⟩ = some (.slice (some ad241) ((Zb l0_3 x24_2).f1).length c239_1) := (Zc BK240.out 1).trans rfl); (have hfz39_0 := Zd BK240.out 0); (have hfz39_1 := Zd BK240.out 1); (obtain ⟨Ao40, co40, eo40⟩ := Kd.R_slice HO_3.out); (subst eo40); (have p242 : 0 ≤ (x4_1 : Int) := of_decide_eq_true (by assumption)); (have q242 : x4_1 < (x3_3.length : Int) := of_decide_eq_true (by assumption)); (obtain ⟨ad242, e242, hx242_0⟩ := Kd.at_int (Kd.R_reads' HO_3.out).2.2 x4_1 p242 q242); (cases e242); (replace p242 := eq_true p242); (replace q242 := eq_true q242)
        go_wp2
        repeat (go_quiet (fail); try go_wp2)
        go_roundg k3
        case measure => have := HK1.out; have := HK2.out; have := HK3.out; omega
        case rel => exact ⟨(x3_3), (wrap64 (x31_3 + 1)), (by first | rfl | (simp; done) | (simp [*]; done)), H', ⟨by have := HK1.out; have := HK2.out; have := HK3.out; omega⟩, ⟨by (with_reducible repeat (first | apply Kd.R_alloc | apply Kd.R_drewN | apply Kd.R_drew)); exact HO_3.out⟩, ⟨by (with_reducible repeat (first | refine Zj ?_ _ | refine Zf ?_ | refine Zi ?_ _)); exact BK235.out⟩, ⟨by (with_reducible repeat (first | refine Zj ?_ _ | refine Zf ?_ | refine Zi ?_ _)); exact BK240.out⟩, ⟨by repeat (first | (with_reducible first | exact HB.out | apply Zh | apply Zk | apply Zg | refine Ze ?_ GE235.out | refine Ze ?_ GE240.out) | exact HB.out)⟩⟩
       (rw [if_pos c20] at H); (have c20b0 : (((Zb l0_3 x24_2).f0) == (rd x3_3 x4_1)) = true := beq_iff_eq.mpr c20); (have c20b1 : (((Zb l0_3 x24_2).f0) != (rd x3_3 x4_1)) = false := bne_eq_false_iff_eq.mpr c20); (clear c20)
       by_cases c21 : (rd ((Zb l0_3 x24_2).f1) x31_3) ≥ a0_0
       rotate_left
       ·rw [if_neg c21] at H
        (have c21b0 : decide (a0_0 ≤ (rd ((Zb l0_3 x24_2).f1) x31_3)) = false := decide_eq_false c21); (clear c21); (have H' := Za.mk H); (clear H); (have p241 : 0 ≤ (x31_3 : Int) := of_decide_eq_true (by assumption)); (have q241 : x31_3 < (((Zb l0_3 x24_2).f1).length : Int) := of_decide_eq_true (by assumption)); (obtain ⟨ad241, e241, hx241_0⟩ := Kd.at_int HR239_1.out x31_3 p241 q241); (cases e241); (replace hx241_0 := (HB.out.cell (World.block_lt_of_cell? w _ hx241_0)).trans hx241_0); (replace p241 := eq_true p241); (replace q241 := eq_true q241); (have hnb34 := NB240_235.out); (have hnc34 := NB235_240.out); (have hcz35_0 : wr.cell? ⟨gb240, 0, none⟩ = some (.int .i64 ((Zb l0_3 x24_2).f0)) := (Zc BK240.out 0).trans rfl); (have hcz35_1 : wr.cell? ⟨gb240, 1, none⟩ = some (.slice (some ad241) ((Zb l0_3 x24_2).f1).length c239_1) := (Zc BK240.out 1).trans rfl); (have hfz35_0 := Zd BK240.out 0); (have hfz35_1 := Zd BK240.out 1); (obtain ⟨Ao36, co36, eo36⟩ := Kd.R_slice HO_3.out); (subst eo36); (have p242 : 0 ≤ (x4_1 : Int) := of_decide_eq_true (by assumption)); (have q242 : x4_1 < (x3_3.length : Int) := of_decide_eq_true (by assumption)); (obtain ⟨ad242, e242, hx242_0⟩ := Kd.at_int (Kd.R_reads' HO_3.out).2.2 x4_1 p242 q242); (cases e242); (replace p242 := eq_true p242); (replace q242 := eq_true q242); (have hcz37_0 : wr.cell? ⟨gb235, 0, none⟩ = some (.int .i64 a0_0) := (Zc BK235.out 0).trans rfl); (have hcz37_1 : wr.cell? ⟨gb235, 1, none⟩ = some (.int .i64 a0_1) := (Zc BK235.out 1).trans rfl); (have hcz37_2 : wr.cell? ⟨gb235, 2, none⟩ = some (.int .i64 a0_2) := (Zc BK235.out 2).trans rfl)
        (have hcz37_3 : wr.cell? ⟨gb235, 3, none⟩ = some (.slice (some ad239) l0_3.length c0_3) := (Zc BK235.out 3).trans rfl); (have hfz37_0 := Zd BK235.out 0); (have hfz37_1 := Zd BK235.out 1); (have hfz37_2 := Zd BK235.out 2); (have hfz37_3 := Zd BK235.out 3)
        go_wp2
        repeat (go_quiet (fail); try go_wp2)
        go_roundg k3
        case measure => have := HK1.out; have := HK2.out; have := HK3.out; omega
        case rel => exact ⟨(x3_3), (wrap64 (x31_3 + 1)), (by first | rfl | (simp; done) | (simp [*]; done)), H', ⟨by have := HK1.out; have := HK2.out; have := HK3.out; omega⟩, ⟨by (with_reducible repeat (first | apply Kd.R_alloc | apply Kd.R_drewN | apply Kd.R_drew)); exact HO_3.out⟩, ⟨by (with_reducible repeat (first | refine Zj ?_ _ | refine Zf ?_ | refine Zi ?_ _)); exact BK235.out⟩, ⟨by (with_reducible repeat (first | refine Zj ?_ _ | refine Zf ?_ | refine Zi ?_ _)); exact BK240.out⟩, ⟨by repeat (first | (with_reducible first | exact HB.out | apply Zh | apply Zk | apply Zg | refine Ze ?_ GE235.out | refine Ze ?_ GE240.out) | exact HB.out)⟩⟩
       (rw [if_pos c21] at H); (have c21b0 : decide (a0_0 ≤ (rd ((Zb l0_3 x24_2).f1) x31_3)) = true := decide_eq_true c21); (clear c21); (replace H := Option.bind_eq_some_iff.mp H); (obtain ⟨t243, A220, H⟩ := H); (replace H : (if t243 = true then (Zw.l2 k3 x3_3 x4_1 l0_3 (l0_3.length : Int) x24_2 ((Zb l0_3 x24_2).f1) (((Zb l0_3 x24_2).f1).length : Int) (wrap64 (x31_3 + 1)) a0_0 a0_1 a0_2 l0_3 ((Zb l0_3 x24_2).f0) ((Zb l0_3 x24_2).f1)) else (if x3_3.length < 17592186044416 then (Zw.l2 k3 (x3_3 ++ [wrap64 ((rd ((Zb l0_3 x24_2).f1) x31_3) - a0_0)]) x4_1 l0_3 (l0_3.length : Int) x24_2 ((Zb l0_3 x24_2).f1) (((Zb l0_3 x24_2).f1).length : Int) (wrap64 (x31_3 + 1)) a0_0 a0_1 a0_2 l0_3 ((Zb l0_3 x24_2).f0) ((Zb l0_3 x24_2).f1)) else (none))) = some r := H); (have A22 := Za.mk A220); (clear A220)
       by_cases c23 : t243 = true
       ·subst c23
        (have H1 : (Zw.l2 k3 x3_3 x4_1 l0_3 (l0_3.length : Int) x24_2 ((Zb l0_3 x24_2).f1) (((Zb l0_3 x24_2).f1).length : Int) (wrap64 (x31_3 + 1)) a0_0 a0_1 a0_2 l0_3 ((Zb l0_3 x24_2).f0) ((Zb l0_3 x24_2).f1)) = some r := by rw [if_pos rfl] at H; exact H); (clear H); (have H := H1); (clear H1); (have H' := Za.mk H); (clear H); (have p241 : 0 ≤ (x31_3 : Int) := of_decide_eq_true (by assumption)); (have q241 : x31_3 < (((Zb l0_3 x24_2).f1).length : Int) := of_decide_eq_true (by assumption)); (obtain ⟨ad241, e241, hx241_0⟩ := Kd.at_int HR239_1.out x31_3 p241 q241); (cases e241); (replace hx241_0 := (HB.out.cell (World.block_lt_of_cell? w _ hx241_0)).trans hx241_0); (replace p241 := eq_true p241); (replace q241 := eq_true q241); (have hnb24 := NB240_235.out); (have hnc24 := NB235_240.out); (have hcz25_0 : wr.cell? ⟨gb240, 0, none⟩ = some (.int .i64 ((Zb l0_3 x24_2).f0)) := (Zc BK240.out 0).trans rfl); (have hcz25_1 : wr.cell? ⟨gb240, 1, none⟩ = some (.slice (some ad241) ((Zb l0_3 x24_2).f1).length c239_1) := (Zc BK240.out 1).trans rfl); (have hfz25_0 := Zd BK240.out 0); (have hfz25_1 := Zd BK240.out 1); (obtain ⟨Ao26, co26, eo26⟩ := Kd.R_slice HO_3.out); (subst eo26); (have p242 : 0 ≤ (x4_1 : Int) := of_decide_eq_true (by assumption)); (have q242 : x4_1 < (x3_3.length : Int) := of_decide_eq_true (by assumption)); (obtain ⟨ad242, e242, hx242_0⟩ := Kd.at_int (Kd.R_reads' HO_3.out).2.2 x4_1 p242 q242); (cases e242); (replace p242 := eq_true p242); (replace q242 := eq_true q242); (have hcz27_0 : wr.cell? ⟨gb235, 0, none⟩ = some (.int .i64 a0_0) := (Zc BK235.out 0).trans rfl)
        (have hcz27_1 : wr.cell? ⟨gb235, 1, none⟩ = some (.int .i64 a0_1) := (Zc BK235.out 1).trans rfl); (have hcz27_2 : wr.cell? ⟨gb235, 2, none⟩ = some (.int .i64 a0_2) := (Zc BK235.out 2).trans rfl); (have hcz27_3 : wr.cell? ⟨gb235, 3, none⟩ = some (.slice (some ad239) l0_3.length c0_3) := (Zc BK235.out 3).trans rfl); (have hfz27_0 := Zd BK235.out 0); (have hfz27_1 := Zd BK235.out 1); (have hfz27_2 := Zd BK235.out 2); (have hfz27_3 := Zd BK235.out 3)
        go_wp2_with (first | (go_at_call 46; (with_reducible refine (Zy.calls k3 _ _ x3_3 (wrap64 ((rd ((Zb l0_3 x24_2).f1) x31_3) - a0_0)) true _ ?side1 ?side2 A22.out).mono ?_); (case side1 => repeat (first | exact (Kd.R_reads' HO_3.out).2.2 | (with_reducible refine Kd.C_alloc ?_ _) | (with_reducible refine Kd.C_drewN ?_ _) | (with_reducible refine Kd.C_drew ?_))); (case side2 => exact (Kd.R_reads' HO_3.out).2.1); rintro e w' ⟨rfl, ⟨nd, rfl⟩⟩; (try first | exact ⟨rfl, _, World.drewN_drewN _ _ _⟩ | exact ⟨rfl, _, Eq.trans (World.drewN_drewN _ _ _) (congrArg (World.drewN _) (Nat.add_assoc _ _ _))⟩)))
        repeat (go_quiet (first | (go_at_call 46; (with_reducible refine (Zy.calls k3 _ _ x3_3 (wrap64 ((rd ((Zb l0_3 x24_2).f1) x31_3) - a0_0)) true _ ?side1 ?side2 A22.out).mono ?_); (case side1 => repeat (first | exact (Kd.R_reads' HO_3.out).2.2 | (with_reducible refine Kd.C_alloc ?_ _) | (with_reducible refine Kd.C_drewN ?_ _) | (with_reducible refine Kd.C_drew ?_))); (case side2 => exact (Kd.R_reads' HO_3.out).2.1); rintro e w' ⟨rfl, ⟨nd, rfl⟩⟩; (try first | exact ⟨rfl, _, World.drewN_drewN _ _ _⟩ | exact ⟨rfl, _, Eq.trans (World.drewN_drewN _ _ _) (congrArg (World.drewN _) (Nat.add_assoc _ _ _))⟩))); try go_wp2_with (first | (go_at_call 46; (with_reducible refine (Zy.calls k3 _ _ x3_3 (wrap64 ((rd ((Zb l0_3 x24_2).f1) x31_3) - a0_0)) true _ ?side1 ?side2 A22.out).mono ?_); (case side1 => repeat (first | exact (Kd.R_reads' HO_3.out).2.2 | (with_reducible refine Kd.C_alloc ?_ _) | (with_reducible refine Kd.C_drewN ?_ _) | (with_reducible refine Kd.C_drew ?_))); (case side2 => exact (Kd.R_reads' HO_3.out).2.1); rintro e w' ⟨rfl, ⟨nd, rfl⟩⟩; (try first | exact ⟨rfl, _, World.drewN_drewN _ _ _⟩ | exact ⟨rfl, _, Eq.trans (World.drewN_drewN _ _ _) (congrArg (World.drewN _) (Nat.add_assoc _ _ _))⟩))))
        go_roundg k3
        case measure => have := HK1.out; have := HK2.out; have := HK3.out; omega
        case rel => exact ⟨(x3_3), (wrap64 (x31_3 + 1)), (by first | rfl | (simp; done) | (simp [*]; done)), H', ⟨by have := HK1.out; have := HK2.out; have := HK3.out; omega⟩, ⟨by (with_reducible repeat (first | apply Kd.R_alloc | apply Kd.R_drewN | apply Kd.R_drew)); exact HO_3.out⟩, ⟨by (with_reducible repeat (first | refine Zj ?_ _ | refine Zf ?_ | refine Zi ?_ _)); exact BK235.out⟩, ⟨by (with_reducible repeat (first | refine Zj ?_ _ | refine Zf ?_ | refine Zi ?_ _)); exact BK240.out⟩, ⟨by repeat (first | (with_reducible first | exact HB.out | apply Zh | apply Zk | apply Zg | refine Ze ?_ GE235.out | refine Ze ?_ GE240.out) | exact HB.out)⟩⟩
       (replace c23 := Bool.eq_false_iff.mpr c23); (subst c23); (have H1 : (if x3_3.length < 17592186044416 then (Zw.l2 k3 (x3_3 ++ [wrap64 ((rd ((Zb l0_3 x24_2).f1) x31_3) - a0_0)]) x4_1 l0_3 (l0_3.length : Int) x24_2 ((Zb l0_3 x24_2).f1) (((Zb l0_3 x24_2).f1).length : Int) (wrap64 (x31_3 + 1)) a0_0 a0_1 a0_2 l0_3 ((Zb l0_3 x24_2).f0) ((Zb l0_3 x24_2).f1)) else (none)) = some r := by rw [if_neg (show ¬ (false = true) by decide)] at H; exact H); (clear H); (have H := H1); (clear H1)
       by_cases c28 : x3_3.length < 17592186044416
       rotate_left
       ·rw [if_neg c28] at H
        exact absurd H (by simp)
       (rw [if_pos c28] at H); (have LMc28 := Za.mk c28); (clear c28); (obtain ⟨y244, hy244⟩ : ∃ y_ : List Int, y_ = (x3_3 ++ [wrap64 ((rd ((Zb l0_3 x24_2).f1) x31_3) - a0_0)]) := ⟨_, rfl⟩); (replace H : (Zw.l2 k3 y244 x4_1 l0_3 (l0_3.length : Int) x24_2 ((Zb l0_3 x24_2).f1) (((Zb l0_3 x24_2).f1).length : Int) (wrap64 (x31_3 + 1)) a0_0 a0_1 a0_2 l0_3 ((Zb l0_3 x24_2).f0) ((Zb l0_3 x24_2).f1)) = some r := by first | (rw [hy244]; with_reducible exact H) | (have H2_ := (Option.bind_some _ _).symm.trans H; rw [hy244]; with_reducible exact H2_) | (have H2_ := (Option.bind_some _ _).symm.trans H; with_reducible exact H2_) | with_reducible exact H | (rw [hy244]; exact H) | exact H); (have Ny244 := Za.mk hy244); (clear hy244); (have H' := Za.mk H); (clear H); (have p241 : 0 ≤ (x31_3 : Int) := of_decide_eq_true (by assumption)); (have q241 : x31_3 < (((Zb l0_3 x24_2).f1).length : Int) := of_decide_eq_true (by assumption)); (obtain ⟨ad241, e241, hx241_0⟩ := Kd.at_int HR239_1.out x31_3 p241 q241); (cases e241); (replace hx241_0 := (HB.out.cell (World.block_lt_of_cell? w _ hx241_0)).trans hx241_0); (replace p241 := eq_true p241); (replace q241 := eq_true q241); (have hnb29 := NB240_235.out); (have hnc29 := NB235_240.out); (have hcz30_0 : wr.cell? ⟨gb240, 0, none⟩ = some (.int .i64 ((Zb l0_3 x24_2).f0)) := (Zc BK240.out 0).trans rfl); (have hcz30_1 : wr.cell? ⟨gb240, 1, none⟩ = some (.slice (some ad241) ((Zb l0_3 x24_2).f1).length c239_1) := (Zc BK240.out 1).trans rfl); (have hfz30_0 := Zd BK240.out 0)
       (have hfz30_1 := Zd BK240.out 1); (obtain ⟨Ao31, co31, eo31⟩ := Kd.R_slice HO_3.out); (subst eo31); (have p242 : 0 ≤ (x4_1 : Int) := of_decide_eq_true (by assumption)); (have q242 : x4_1 < (x3_3.length : Int) := of_decide_eq_true (by assumption)); (obtain ⟨ad242, e242, hx242_0⟩ := Kd.at_int (Kd.R_reads' HO_3.out).2.2 x4_1 p242 q242); (cases e242); (replace p242 := eq_true p242); (replace q242 := eq_true q242); (have hcz32_0 : wr.cell? ⟨gb235, 0, none⟩ = some (.int .i64 a0_0) := (Zc BK235.out 0).trans rfl); (have hcz32_1 : wr.cell? ⟨gb235, 1, none⟩ = some (.int .i64 a0_1) := (Zc BK235.out 1).trans rfl); (have hcz32_2 : wr.cell? ⟨gb235, 2, none⟩ = some (.int .i64 a0_2) := (Zc BK235.out 2).trans rfl); (have hcz32_3 : wr.cell? ⟨gb235, 3, none⟩ = some (.slice (some ad239) l0_3.length c0_3) := (Zc BK235.out 3).trans rfl); (have hfz32_0 := Zd BK235.out 0); (have hfz32_1 := Zd BK235.out 1); (have hfz32_2 := Zd BK235.out 2); (have hfz32_3 := Zd BK235.out 3)
       go_wp2_with (first | (go_at_call 46; (with_reducible refine (Zy.calls k3 _ _ x3_3 (wrap64 ((rd ((Zb l0_3 x24_2).f1) x31_3) - a0_0)) false _ ?side1 ?side2 A22.out).mono ?_); (case side1 => repeat (first | exact (Kd.R_reads' HO_3.out).2.2 | (with_reducible refine Kd.C_alloc ?_ _) | (with_reducible refine Kd.C_drewN ?_ _) | (with_reducible refine Kd.C_drew ?_))); (case side2 => exact (Kd.R_reads' HO_3.out).2.1); rintro e w' ⟨rfl, ⟨nd, rfl⟩⟩; (try first | exact ⟨rfl, _, World.drewN_drewN _ _ _⟩ | exact ⟨rfl, _, Eq.trans (World.drewN_drewN _ _ _) (congrArg (World.drewN _) (Nat.add_assoc _ _ _))⟩)) | ((with_reducible refine gate_builtin (b := .append) (xs := #[.tmp 57, .tmp 62]) rfl ?_); at_builtin; refine Kd.R_append (Kd.int .i64) (w0 := w) w.heap.size rfl (.tmp 57) (.tmp 62) 33 3 (.int .i64 0) 8 rfl Try.underlying33 info3 rfl (by decide) (by omega) (.slice (some ad242) x3_3.length co31) x3_3 (wrap64 ((rd ((Zb l0_3 x24_2).f1) x31_3) - a0_0)) [.int .i64 (wrap64 ((rd ((Zb l0_3 x24_2).f1) x31_3) - a0_0))] (fun _ => True) (fun _ => False) rfl rfl ?aP (fun _ hk => hk.elim) ?aF ?aO ?aB ?aS ?aL ?_; (case aP => exact rfl); (case aB => exact (by repeat (first | (with_reducible first | exact HB.out | apply Zh | apply Zk | apply Zg | refine Ze ?_ GE235.out | refine Ze ?_ GE240.out) | exact HB.out))); (case aF => exact (fun _ _ => trivial)); (case aO => exact (by (with_reducible repeat (first | apply Kd.R_alloc | apply Kd.R_drewN | apply Kd.R_drew)); exact HO_3.out)); (case aS => exact (Zo (by repeat (first | (with_reducible first | exact HB.out | apply Zh | apply Zk | apply Zg | refine Ze ?_ GE235.out | refine Ze ?_ GE240.out) | exact HB.out)))); (case aL => have := LMc28.out; omega); intro v245 w33 ho hb hg hat; rw [← Ny244.out] at ho; have n0_ := Za.mk (Zs1 (g := gb235) (o := .cells #[.int .i64 a0_0, .int .i64 a0_1, .int .i64 a0_2, .slice (some ad239) l0_3.length c0_3] 24 (0, 0)) (by (with_reducible repeat (first | refine Zj ?_ _ | refine Zf ?_ | refine Zi ?_ _)); exact BK235.out) hg (Kd.R_ne HO_3.out BK235.out (by decide))); have n1_ := Za.mk (Zs1 (g := gb240) (o := .cells #[.int .i64 ((Zb l0_3 x24_2).f0), .slice (some ad241) ((Zb l0_3 x24_2).f1).length c239_1] 38 (0, 0)) (by (with_reducible repeat (first | refine Zj ?_ _ | refine Zf ?_ | refine Zi ?_ _)); exact BK240.out) hg (Kd.R_ne HO_3.out BK240.out (by decide))); have n2_ := Za.mk (hb); have n3_ := Za.mk (ho); clear BK235; clear BK240; clear HB; clear HO_3; have BK235 := n0_; have BK240 := n1_; have HB := n2_; have HO246 := n3_; clear n0_ n1_ n2_ n3_; clear ho hb hg hat))
       repeat (go_quiet (first | (go_at_call 46; (with_reducible refine (Zy.calls k3 _ _ x3_3 (wrap64 ((rd ((Zb l0_3 x24_2).f1) x31_3) - a0_0)) false _ ?side1 ?side2 A22.out).mono ?_); (case side1 => repeat (first | exact (Kd.R_reads' HO_3.out).2.2 | (with_reducible refine Kd.C_alloc ?_ _) | (with_reducible refine Kd.C_drewN ?_ _) | (with_reducible refine Kd.C_drew ?_))); (case side2 => exact (Kd.R_reads' HO_3.out).2.1); rintro e w' ⟨rfl, ⟨nd, rfl⟩⟩; (try first | exact ⟨rfl, _, World.drewN_drewN _ _ _⟩ | exact ⟨rfl, _, Eq.trans (World.drewN_drewN _ _ _) (congrArg (World.drewN _) (Nat.add_assoc _ _ _))⟩)) | ((with_reducible refine gate_builtin (b := .append) (xs := #[.tmp 57, .tmp 62]) rfl ?_); at_builtin; refine Kd.R_append (Kd.int .i64) (w0 := w) w.heap.size rfl (.tmp 57) (.tmp 62) 33 3 (.int .i64 0) 8 rfl Try.underlying33 info3 rfl (by decide) (by omega) (.slice (some ad242) x3_3.length co31) x3_3 (wrap64 ((rd ((Zb l0_3 x24_2).f1) x31_3) - a0_0)) [.int .i64 (wrap64 ((rd ((Zb l0_3 x24_2).f1) x31_3) - a0_0))] (fun _ => True) (fun _ => False) rfl rfl ?aP (fun _ hk => hk.elim) ?aF ?aO ?aB ?aS ?aL ?_; (case aP => exact rfl); (case aB => exact (by repeat (first | (with_reducible first | exact HB.out | apply Zh | apply Zk | apply Zg | refine Ze ?_ GE235.out | refine Ze ?_ GE240.out) | exact HB.out))); (case aF => exact (fun _ _ => trivial)); (case aO => exact (by (with_reducible repeat (first | apply Kd.R_alloc | apply Kd.R_drewN | apply Kd.R_drew)); exact HO_3.out)); (case aS => exact (Zo (by repeat (first | (with_reducible first | exact HB.out | apply Zh | apply Zk | apply Zg | refine Ze ?_ GE235.out | refine Ze ?_ GE240.out) | exact HB.out)))); (case aL => have := LMc28.out; omega); intro v245 w33 ho hb hg hat; rw [← Ny244.out] at ho; have n0_ := Za.mk (Zs1 (g := gb235) (o := .cells #[.int .i64 a0_0, .int .i64 a0_1, .int .i64 a0_2, .slice (some ad239) l0_3.length c0_3] 24 (0, 0)) (by (with_reducible repeat (first | refine Zj ?_ _ | refine Zf ?_ | refine Zi ?_ _)); exact BK235.out) hg (Kd.R_ne HO_3.out BK235.out (by decide))); have n1_ := Za.mk (Zs1 (g := gb240) (o := .cells #[.int .i64 ((Zb l0_3 x24_2).f0), .slice (some ad241) ((Zb l0_3 x24_2).f1).length c239_1] 38 (0, 0)) (by (with_reducible repeat (first | refine Zj ?_ _ | refine Zf ?_ | refine Zi ?_ _)); exact BK240.out) hg (Kd.R_ne HO_3.out BK240.out (by decide))); have n2_ := Za.mk (hb); have n3_ := Za.mk (ho); clear BK235; clear BK240; clear HB; clear HO_3; have BK235 := n0_; have BK240 := n1_; have HB := n2_; have HO246 := n3_; clear n0_ n1_ n2_ n3_; clear ho hb hg hat)); try go_wp2_with (first | (go_at_call 46; (with_reducible refine (Zy.calls k3 _ _ x3_3 (wrap64 ((rd ((Zb l0_3 x24_2).f1) x31_3) - a0_0)) false _ ?side1 ?side2 A22.out).mono ?_); (case side1 => repeat (first | exact (Kd.R_reads' HO_3.out).2.2 | (with_reducible refine Kd.C_alloc ?_ _) | (with_reducible refine Kd.C_drewN ?_ _) | (with_reducible refine Kd.C_drew ?_))); (case side2 => exact (Kd.R_reads' HO_3.out).2.1); rintro e w' ⟨rfl, ⟨nd, rfl⟩⟩; (try first | exact ⟨rfl, _, World.drewN_drewN _ _ _⟩ | exact ⟨rfl, _, Eq.trans (World.drewN_drewN _ _ _) (congrArg (World.drewN _) (Nat.add_assoc _ _ _))⟩)) | ((with_reducible refine gate_builtin (b := .append) (xs := #[.tmp 57, .tmp 62]) rfl ?_); at_builtin; refine Kd.R_append (Kd.int .i64) (w0 := w) w.heap.size rfl (.tmp 57) (.tmp 62) 33 3 (.int .i64 0) 8 rfl Try.underlying33 info3 rfl (by decide) (by omega) (.slice (some ad242) x3_3.length co31) x3_3 (wrap64 ((rd ((Zb l0_3 x24_2).f1) x31_3) - a0_0)) [.int .i64 (wrap64 ((rd ((Zb l0_3 x24_2).f1) x31_3) - a0_0))] (fun _ => True) (fun _ => False) rfl rfl ?aP (fun _ hk => hk.elim) ?aF ?aO ?aB ?aS ?aL ?_; (case aP => exact rfl); (case aB => exact (by repeat (first | (with_reducible first | exact HB.out | apply Zh | apply Zk | apply Zg | refine Ze ?_ GE235.out | refine Ze ?_ GE240.out) | exact HB.out))); (case aF => exact (fun _ _ => trivial)); (case aO => exact (by (with_reducible repeat (first | apply Kd.R_alloc | apply Kd.R_drewN | apply Kd.R_drew)); exact HO_3.out)); (case aS => exact (Zo (by repeat (first | (with_reducible first | exact HB.out | apply Zh | apply Zk | apply Zg | refine Ze ?_ GE235.out | refine Ze ?_ GE240.out) | exact HB.out)))); (case aL => have := LMc28.out; omega); intro v245 w33 ho hb hg hat; rw [← Ny244.out] at ho; have n0_ := Za.mk (Zs1 (g := gb235) (o := .cells #[.int .i64 a0_0, .int .i64 a0_1, .int .i64 a0_2, .slice (some ad239) l0_3.length c0_3] 24 (0, 0)) (by (with_reducible repeat (first | refine Zj ?_ _ | refine Zf ?_ | refine Zi ?_ _)); exact BK235.out) hg (Kd.R_ne HO_3.out BK235.out (by decide))); have n1_ := Za.mk (Zs1 (g := gb240) (o := .cells #[.int .i64 ((Zb l0_3 x24_2).f0), .slice (some ad241) ((Zb l0_3 x24_2).f1).length c239_1] 38 (0, 0)) (by (with_reducible repeat (first | refine Zj ?_ _ | refine Zf ?_ | refine Zi ?_ _)); exact BK240.out) hg (Kd.R_ne HO_3.out BK240.out (by decide))); have n2_ := Za.mk (hb); have n3_ := Za.mk (ho); clear BK235; clear BK240; clear HB; clear HO_3; have BK235 := n0_; have BK240 := n1_; have HB := n2_; have HO246 := n3_; clear n0_ n1_ n2_ n3_; clear ho hb hg hat)))
       go_roundg k3
       case measure => have := HK1.out; have := HK2.out; have := HK3.out; omega
       case rel => exact ⟨(y244), (wrap64 (x31_3 + 1)), (by first | rfl | (simp; done) | (simp [*]; done)), H', ⟨by have := HK1.out; have := HK2.out; have := HK3.out; omega⟩, ⟨by (with_reducible repeat (first | apply Kd.R_alloc | apply Kd.R_drewN | apply Kd.R_drew)); exact HO246.out⟩, ⟨by (with_reducible repeat (first | refine Zj ?_ _ | refine Zf ?_ | refine Zi ?_ _)); exact BK235.out⟩, ⟨by (with_reducible repeat (first | refine Zj ?_ _ | refine Zf ?_ | refine Zi ?_ _)); exact BK240.out⟩, ⟨by repeat (first | (with_reducible first | exact HB.out | apply Zh | apply Zk | apply Zg | refine Ze ?_ GE235.out | refine Ze ?_ GE240.out) | exact HB.out)⟩⟩
def Zl1.l0 : Nat → Int → List Int → Int → Int → Int → Int → Int → List (S38) → Option (Bool)
  | 0, _, _, _, _, _, _, _, _ => none
  | k + 1, x5, x10, x11, x12, x249000, x249001, x249002, x249003 => if x12 < x11 then (if 0 ≤ x12 then (if x12 < (x10.length : Int) then (if (rd x10 x12) < x249000 then (some false) else ((Zt1.f x5 (wrap64 ((rd x10 x12) - x249000))).bind fun t251 => (if t251 = true then (Zl1.l0 k x5 x10 x11 (wrap64 (x12 + 1)) x249000 x249001 x249002 x249003) else (some false)))) else (none)) else (none)) else (some true)
def Zl1.f (k : Nat) (a0_0 : Int) (a0_1 : Int) (a0_2 : Int) (l0_3 : List (S38)) (l1 : List Int) : Option (Bool) := (Zo1.f k a0_0 a0_1 a0_2 l0_3 true).bind fun t249 => (Zl1.l0 k t249 l1 (l1.length : Int) 0 a0_0 a0_1 a0_2 l0_3)
theorem Zl1.mono_l : ∀ k, (∀ y0 y1 y2 y3 y4 y5 y6 y7, LeO (Zl1.l0 k y0 y1 y2 y3 y4 y5 y6 y7) (Zl1.l0 (k + 1) y0 y1 y2 y3 y4 y5 y6 y7))
  | 0 => fun _ _ _ _ _ _ _ _ r h => by simp [Zl1.l0] at h
  | k + 1 => by
    have ih0 := Zl1.mono_l k
    · intro y0 y1 y2 y3 y4 y5 y6 y7
      unfold Zl1.l0
      repeat' first
      | (with_reducible exact ih0 _ _ _ _ _ _ _ _)
      | (with_reducible exact Zo1.mono _ _ _ _ _ _)
      | (with_reducible exact LeO.refl _)
      | (with_reducible exact LeO.none _)
      | (with_reducible refine LeO.ite ?_ ?_)
      | (with_reducible refine LeO.bind ?_ (fun _ => ?_))
      | exact ih0 _ _ _ _ _ _ _ _
      | exact Zo1.mono _ _ _ _ _ _
      | exact LeO.none _
      | refine LeO.ite ?_ ?_
      | refine LeO.bind ?_ (fun _ => ?_)
theorem Zl1.mono : ∀ a0 a1 a2 a3 a4 k, LeO (Zl1.f k a0 a1 a2 a3 a4) (Zl1.f (k + 1) a0 a1 a2 a3 a4) := by
  intro a0 a1 a2 a3 a4 k
  have ih0 := Zl1.mono_l k
  unfold Zl1.f
  repeat' first
      | (with_reducible exact ih0 _ _ _ _ _ _ _ _)
      | (with_reducible exact Zo1.mono _ _ _ _ _ _)
      | (with_reducible exact LeO.refl _)
      | (with_reducible exact LeO.none _)
      | (with_reducible refine LeO.ite ?_ ?_)
      | (with_reducible refine LeO.bind ?_ (fun _ => ?_))
      | exact ih0 _ _ _ _ _ _ _ _
      | exact Zo1.mono _ _ _ _ _ _
      | exact LeO.none _
      | refine LeO.ite ?_ ?_
      | refine LeO.bind ?_ (fun _ => ?_)
set_option maxHeartbeats 8000000 in
set_option maxRecDepth 100000 in
theorem Zl1.calls (k : Nat) (a0_0 : Int) (a0_1 : Int) (a0_2 : Int) (A0_3 : Option Addr) (c0_3 : Nat) (l0_3 : List (S38)) (A1 : Option Addr) (c1 : Nat) (l1 : List Int) (r : Bool) (w : World) (hr0_3 : Kd.C k38 w A0_3 l0_3.length l0_3) (hc0_3 : l0_3.length ≤ c0_3) (hr1 : Kd.C (Kd.int .i64) w A1 l1.length l1) (hc1 : l1.length ≤ c1) (h : Zl1.f k a0_0 a0_1 a0_2 l0_3 l1 = some r) :
    Calls Try.prog 63 #[.agg #[.int .i64 a0_0, .int .i64 a0_1, .int .i64 a0_2, .slice A0_3 l0_3.length c0_3], .slice A1 l1.length c1] w fun e w' => e = .returned (.bool r) ∧ Below w.heap.size w w' := by
  have hu24 := Try.underlying24
  have HR0_3 := Za.mk hr0_3
  have HC0_3 := Za.mk hc0_3
  clear hr0_3 hc0_3
  have HR1 := Za.mk hr1
  have HC1 := Za.mk hc1
  clear hr1 hc1
  have HB := Za.mk (Below.refl w.heap.size w)
  have H : ((Zo1.f k a0_0 a0_1 a0_2 l0_3 true).bind fun t249 => (Zl1.l0 k t249 l1 (l1.length : Int) 0 a0_0 a0_1 a0_2 l0_3)) = some r := h
  clear h
  replace H := Option.bind_eq_some_iff.mp H
  obtain ⟨t249, A30, H⟩ := H
  replace H : (Zl1.l0 k t249 l1 (l1.length : Int) 0 a0_0 a0_1 a0_2 l0_3) = some r := H
  have A3 := Za.mk A30
  clear A30
  have H' := Za.mk H
  clear H
  go_enter Try.func63, Try.ntmps63
  go_wp2_with (first | ((with_reducible refine Zb1 (N := 2) rfl ?_); refine Zc1 ?hg (N := 2) ?hd (cs := #[.int .i64 a0_0, .int .i64 a0_1, .int .i64 a0_2, .slice A0_3 l0_3.length c0_3]) (t := 24) ?hr ?_; (case hd => rfl); (case hg => rfl); (case hr => first | (go_simp; done) | (go_simp; rfl)); intro gb248 hg w4 hbox hb; have n0_ := Za.mk (Zr (by repeat (first | (with_reducible first | exact HB.out | apply Zh | apply Zk | apply Zg) | exact HB.out)) hb); have n1_ := Za.mk (hbox); have n2_ := Za.mk ((by rw [hg]; exact (Zo (by repeat (first | (with_reducible first | exact HB.out | apply Zh | apply Zk | apply Zg) | exact HB.out))) : w.heap.size ≤ gb248)); have n3_ := Za.mk ((by rw [hg]; exact (Zo (by repeat (first | (with_reducible first | exact HB.out | apply Zh | apply Zk | apply Zg) | exact HB.out))) : w.heap.size ≤ gb248)); clear HB; have HB := n0_; have BK248 := n1_; have GW248 := n2_; have GE248 := n3_; clear n0_ n1_ n2_ n3_; clear hb hbox hg; have hcz5_0 : w4.cell? ⟨gb248, 0, none⟩ = some (.int .i64 a0_0) := (Zc BK248.out 0).trans rfl; have hcz5_1 : w4.cell? ⟨gb248, 1, none⟩ = some (.int .i64 a0_1) := (Zc BK248.out 1).trans rfl; have hcz5_2 : w4.cell? ⟨gb248, 2, none⟩ = some (.int .i64 a0_2) := (Zc BK248.out 2).trans rfl; have hcz5_3 : w4.cell? ⟨gb248, 3, none⟩ = some (.slice A0_3 l0_3.length c0_3) := (Zc BK248.out 3).trans rfl; have hfz5_0 := Zd BK248.out 0; have hfz5_1 := Zd BK248.out 1; have hfz5_2 := Zd BK248.out 2; have hfz5_3 := Zd BK248.out 3) | ((with_reducible refine Zp1 (f := 20) rfl ?_); refine goesL_ (some 9) rfl rfl Try.func20 (by kernel_rfl) rfl #[.agg #[.int .i64 a0_0, .int .i64 a0_1, .int .i64 a0_2, .slice A0_3 l0_3.length c0_3], .bool true] rfl (by (try simp only [List.map_toArray, List.map_cons, List.map_nil]); first | done | rfl | (simp only [List.length_drop, List.length_take]; rfl)) ?_; (with_reducible refine (Zo1.calls k a0_0 a0_1 a0_2 _ _ l0_3 true t249 _ ?side1 ?side2 A3.out).mono ?_); (case side1 => repeat (first | exact (Kd.C_below HR0_3.out HB.out) | (with_reducible refine Kd.C_alloc ?_ _) | (with_reducible refine Kd.C_drewN ?_ _) | (with_reducible refine Kd.C_drew ?_))); (case side2 => exact HC0_3.out); rintro e w6 ⟨rfl, hb⟩; refine ⟨_, rfl, ?_⟩; have n0_ := Za.mk (Zp (g := gb248) (o := .cells #[.int .i64 a0_0, .int .i64 a0_1, .int .i64 a0_2, .slice A0_3 l0_3.length c0_3] 24 (0, 0)) (by (with_reducible repeat (first | refine Zj ?_ _ | refine Zf ?_ | refine Zi ?_ _)); exact BK248.out) hb); have n1_ := Za.mk (Zr (by repeat (first | (with_reducible first | exact HB.out | apply Zh | apply Zk | apply Zg | refine Ze ?_ GE248.out) | exact HB.out)) hb); clear BK248; clear HB; have BK248 := n0_; have HB := n1_; clear n0_ n1_; (try clear hb); (try clear hb2); (try clear hk); (try clear hi)))
  go_loopg [12] k (fun kq v12 w' => ∃ (x12_1 : Int), v12 = .int .i64 x12_1 ∧ Za (Zl1.l0 kq t249 l1 (l1.length : Int) x12_1 a0_0 a0_1 a0_2 l0_3 = some r) ∧ Za (kq ≤ k) ∧ Za (w'.heap[gb248]? = some (.cells #[.int .i64 a0_0, .int .i64 a0_1, .int .i64 a0_2, (.slice A0_3 l0_3.length c0_3)] 24 (0, 0))) ∧ Za (Below w.heap.size w w'))
  case atStart => exact ⟨(0), (by first | rfl | (simp; done) | (simp [*]; done)), H', ⟨Nat.le_refl _⟩, ⟨by (with_reducible repeat (first | refine Zj ?_ _ | refine Zf ?_ | refine Zi ?_ _)); exact BK248.out⟩, ⟨by repeat (first | (with_reducible first | exact HB.out | apply Zh | apply Zk | apply Zg | refine Ze ?_ GE248.out) | exact HB.out)⟩⟩
  case round =>
    clear H'
    try clear c1
    try clear c2
    try clear p2
    try clear c6
    try clear hcz5_0
    try clear hcz5_1
    try clear hcz5_2
    try clear hcz5_3
    try clear hfz5_0
    try clear hfz5_1
    try clear hfz5_2
    try clear hfz5_3
    obtain ⟨x12_1, rfl, HA, HK1, BK248, HB⟩ := hrel
    cases gk with
    | zero => exact absurd HA.out (by simp [Zl1.l0])
    | succ k1 =>
      have H := HA.out
      clear HA
      simp only [Zl1.l0] at H
      by_cases c7 : x12_1 < (l1.length : Int)
      · rw [if_pos c7] at H
        have c7b0 : decide (x12_1 < (l1.length : Int)) = true := decide_eq_true c7
        clear c7
        by_cases c8 : 0 ≤ x12_1
        · rw [if_pos c8] at H
          have c8b0 : decide (0 ≤ x12_1) = true := decide_eq_true c8
          clear c8
          by_cases c9 : x12_1 < (l1.length : Int)
          · rw [if_pos c9] at H
            have c9b0 : decide (x12_1 < (l1.length : Int)) = true := decide_eq_true c9
            clear c9
            by_cases c10 : (rd l1 x12_1) < a0_0
            · rw [if_pos c10] at H
              have c10b0 : decide ((rd l1 x12_1) < a0_0) = true := decide_eq_true c10
              clear c10
              obtain rfl := Option.some.inj H
              have p250 : 0 ≤ (x12_1 : Int) := of_decide_eq_true (by assumption)
              have q250 : x12_1 < (l1.length : Int) := of_decide_eq_true (by assumption)
              obtain ⟨ad250, e250, hx250_0⟩ := Kd.at_int HR1.out x12_1 p250 q250
              cases e250
              replace hx250_0 := (HB.out.cell (World.block_lt_of_cell? w _ hx250_0)).trans hx250_0
              replace p250 := eq_true p250
              replace q250 := eq_true q250
              have hcz11_0 : wr.cell? ⟨gb248, 0, none⟩ = some (.int .i64 a0_0) := (Zc BK248.out 0).trans rfl
              have hcz11_1 : wr.cell? ⟨gb248, 1, none⟩ = some (.int .i64 a0_1) := (Zc BK248.out 1).trans rfl
              have hcz11_2 : wr.cell? ⟨gb248, 2, none⟩ = some (.int .i64 a0_2) := (Zc BK248.out 2).trans rfl
              have hcz11_3 : wr.cell? ⟨gb248, 3, none⟩ = some (.slice A0_3 l0_3.length c0_3) := (Zc BK248.out 3).trans rfl
              have hfz11_0 := Zd BK248.out 0
              have hfz11_1 := Zd BK248.out 1
              have hfz11_2 := Zd BK248.out 2
              have hfz11_3 := Zd BK248.out 3
              go_wp2
              go_ret
              exact ⟨by first | rfl | (simp [Zu, Zt] <;> rfl) | (simp [*, Zu, Zt] <;> rfl), by repeat (first | (with_reducible first | exact HB.out | apply Zh | apply Zk | apply Zg | refine Ze ?_ GE248.out) | exact HB.out)⟩
            · rw [if_neg c10] at H
              have c10b0 : decide ((rd l1 x12_1) < a0_0) = false := decide_eq_false c10
              clear c10
              replace H := Option.bind_eq_some_iff.mp H
              obtain ⟨t251, A120, H⟩ := H
              replace H : (if t251 = true then (Zl1.l0 k1 t249 l1 (l1.length : Int) (wrap64 (x12_1 + 1)) a0_0 a0_1 a0_2 l0_3) else (some false)) = some r := H
              have A12 := Za.mk A120
              clear A120
              by_cases c13 : t251 = true
              · subst c13
                have H1 : (Zl1.l0 k1 t249 l1 (l1.length : Int) (wrap64 (x12_1 + 1)) a0_0 a0_1 a0_2 l0_3) = some r := by rw [if_pos rfl] at H; exact H
                clear H
                have H := H1
                clear H1
                have H' := Za.mk H
                clear H
                have p250 : 0 ≤ (x12_1 : Int) := of_decide_eq_true (by assumption)
                have q250 : x12_1 < (l1.length : Int) := of_decide_eq_true (by assumption)
                obtain ⟨ad250, e250, hx250_0⟩ := Kd.at_int HR1.out x12_1 p250 q250
                cases e250
                replace hx250_0 := (HB.out.cell (World.block_lt_of_cell? w _ hx250_0)).trans hx250_0
                replace p250 := eq_true p250
                replace q250 := eq_true q250
                have hcz14_0 : wr.cell? ⟨gb248, 0, none⟩ = some (.int .i64 a0_0) := (Zc BK248.out 0).trans rfl
                have hcz14_1 : wr.cell? ⟨gb248, 1, none⟩ = some (.int .i64 a0_1) := (Zc BK248.out 1).trans rfl
                have hcz14_2 : wr.cell? ⟨gb248, 2, none⟩ = some (.int .i64 a0_2) := (Zc BK248.out 2).trans rfl
                have hcz14_3 : wr.cell? ⟨gb248, 3, none⟩ = some (.slice A0_3 l0_3.length c0_3) := (Zc BK248.out 3).trans rfl
                have hfz14_0 := Zd BK248.out 0
                have hfz14_1 := Zd BK248.out 1
                have hfz14_2 := Zd BK248.out 2
                have hfz14_3 := Zd BK248.out 3
                go_wp2_with (first | (go_at_call 62; (with_reducible refine (Zt1.calls t249 (wrap64 ((rd l1 x12_1) - a0_0)) true _ A12.out).mono ?_); rintro e w' ⟨rfl, ⟨nd, rfl⟩⟩))
                go_roundg k1
                case measure => have := HK1.out; omega
                case rel => exact ⟨(wrap64 (x12_1 + 1)), (by first | rfl | (simp; done) | (simp [*]; done)), H', ⟨by have := HK1.out; omega⟩, ⟨by (with_reducible repeat (first | refine Zj ?_ _ | refine Zf ?_ | refine Zi ?_ _)); exact BK248.out⟩, ⟨by repeat (first | (with_reducible first | exact HB.out | apply Zh | apply Zk | apply Zg | refine Ze ?_ GE248.out) | exact HB.out)⟩⟩
              · replace c13 := Bool.eq_false_iff.mpr c13
                subst c13
                have H1 : (some false) = some r := by rw [if_neg (show ¬ (false = true) by decide)] at H; exact H
                clear H
                have H := H1
                clear H1
                obtain rfl := Option.some.inj H
                have p250 : 0 ≤ (x12_1 : Int) := of_decide_eq_true (by assumption)
                have q250 : x12_1 < (l1.length : Int) := of_decide_eq_true (by assumption)
                obtain ⟨ad250, e250, hx250_0⟩ := Kd.at_int HR1.out x12_1 p250 q250
                cases e250
                replace hx250_0 := (HB.out.cell (World.block_lt_of_cell? w _ hx250_0)).trans hx250_0
                replace p250 := eq_true p250
                replace q250 := eq_true q250
                have hcz15_0 : wr.cell? ⟨gb248, 0, none⟩ = some (.int .i64 a0_0) := (Zc BK248.out 0).trans rfl
                have hcz15_1 : wr.cell? ⟨gb248, 1, none⟩ = some (.int .i64 a0_1) := (Zc BK248.out 1).trans rfl
                have hcz15_2 : wr.cell? ⟨gb248, 2, none⟩ = some (.int .i64 a0_2) := (Zc BK248.out 2).trans rfl
                have hcz15_3 : wr.cell? ⟨gb248, 3, none⟩ = some (.slice A0_3 l0_3.length c0_3) := (Zc BK248.out 3).trans rfl
                have hfz15_0 := Zd BK248.out 0
                have hfz15_1 := Zd BK248.out 1
                have hfz15_2 := Zd BK248.out 2
                have hfz15_3 := Zd BK248.out 3
                go_wp2_with (first | (go_at_call 62; (with_reducible refine (Zt1.calls t249 (wrap64 ((rd l1 x12_1) - a0_0)) false _ A12.out).mono ?_); rintro e w' ⟨rfl, ⟨nd, rfl⟩⟩))
                go_ret
                exact ⟨by first | rfl | (simp [Zu, Zt] <;> rfl) | (simp [*, Zu, Zt] <;> rfl), by repeat (first | (with_reducible first | exact HB.out | apply Zh | apply Zk | apply Zg | refine Ze ?_ GE248.out) | exact HB.out)⟩
          · rw [if_neg c9] at H
            exact absurd H (by simp)
        · rw [if_neg c8] at H
          exact absurd H (by simp)
      · rw [if_neg c7] at H
        have c7b0 : decide (x12_1 < (l1.length : Int)) = false := decide_eq_false c7
        clear c7
        obtain rfl := Option.some.inj H
        go_wp2
        go_ret
        exact ⟨by first | rfl | (simp [Zu, Zt] <;> rfl) | (simp [*, Zu, Zt] <;> rfl), by repeat (first | (with_reducible first | exact HB.out | apply Zh | apply Zk | apply Zg | refine Ze ?_ GE248.out) | exact HB.out)⟩
end Go.Proofs.Ytnjfcbhbebokeaa.PAheadClears
