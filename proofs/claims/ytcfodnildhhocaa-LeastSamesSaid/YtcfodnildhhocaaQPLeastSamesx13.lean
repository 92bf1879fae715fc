-- Printed by a turn of a template of the kit, and shortened: remarks and what nothing here uses are left out.
import Derived.Test.YtcfodnildhhocaaQPLeastSamesx0
import Derived.Test.YtcfodnildhhocaaQPLeastSamesx11
import Derived.Test.YtcfodnildhhocaaQPLeastSamesx12
namespace Go.Proofs.Ytcfodnildhhocaa.PLeastSames
open Go.RowKit Go.Proofs.YtcfodnildhhocaaW.PrintWords Go.Proofs.YtcfodnildhhocaaW.PrintLast Go.Proofs.YtcfodnildhhocaaW.PrintMore
attribute [local go_sem] max2_int min2_int max_two min_two max_three min_three max_four min_four
set_option linter.unusedVariables false
set_option linter.unusedSimpArgs false
mutual
def Zv.l0 : Nat → Int → Int → Int → Int → Int → List (List Int) → Int → Int → Option (List Int × Bool)
  | 0, _, _, _, _, _, _, _, _ => none
  | k + 1, x7, x8, x9, x297000, x297001, x297002, x297003, x297004 => (Zk.f k x297000 x297001 x297002 x297003 x297004 x9 x7 x8).bind fun t297 => (if t297 = true then (Zv.l1 k x7 x8 x9 ([] : List Int) x297000 x297001 x297002 x297003 x297004) else (if (wrap64 (x9 + 1)) > x297000 then (some (([] : List Int), false)) else (Zv.l0 k x7 x8 (wrap64 (x9 + 1)) x297000 x297001 x297002 x297003 x297004)))
def Zv.l1 : Nat → Int → Int → Int → List Int → Int → Int → List (List Int) → Int → Int → Option (List Int × Bool)
  | 0, _, _, _, _, _, _, _, _, _ => none
  | k + 1, x7, x8, x9, x10, x297000, x297001, x297002, x297003, x297004 => if x9 > 0 then (Zv.l2 k x7 x8 x9 x10 0 x297000 x297001 x297002 x297003 x297004) else (some (x10, true))
def Zv.l2 : Nat → Int → Int → Int → List Int → Int → Int → Int → List (List Int) → Int → Int → Option (List Int × Bool)
  | 0, _, _, _, _, _, _, _, _, _, _ => none
  | k + 1, x7, x8, x9, x10, x11, x297000, x297001, x297002, x297003, x297004 => if 0 ≤ x7 then (if x7 < (x297002.length : Int) then (if 0 ≤ x11 then (if x11 < ((Zd x297002 x7).length : Int) then (if 0 ≤ x8 then (if x8 < (x297002.length : Int) then (if x11 < ((Zd x297002 x8).length : Int) then ((Zk.f k x297000 x297001 x297002 x297003 x297004 (wrap64 (x9 - 1)) (rd (Zd x297002 x7) x11) (rd (Zd x297002 x8) x11)).bind fun t302 => (if t302 = true then (if x10.length < 17592186044416 then (Zv.l1 k (rd (Zd x297002 x7) x11) (rd (Zd x297002 x8) x11) (wrap64 (x9 - 1)) (x10 ++ [x11]) x297000 x297001 x297002 x297003 x297004) else (none)) else (Zv.l2 k x7 x8 x9 x10 (wrap64 (x11 + 1)) x297000 x297001 x297002 x297003 x297004))) else (none)) else (none)) else (none)) else (none)) else (none)) else (none)) else (none)
end
def Zv.f (k : Nat) (a0_0 : Int) (a0_1 : Int) (l0_2 : List (List Int)) (a0_3 : Int) (a0_4 : Int) (a1_0 : Int) (a1_1 : Int) (l1_2 : List (List Int)) (a1_3 : Int) (a1_4 : Int) : Option (List Int × Bool) := (Zx.f k a0_0 a0_1 l0_2 a0_3 a0_4 a1_0 a1_1 l1_2 a1_3 a1_4).bind fun bt289 => (Zv.l0 k a0_3 (wrap64 (a0_0 + a1_3)) 0 bt289.1 bt289.2.1 bt289.2.2.1 bt289.2.2.2.1 bt289.2.2.2.2)
theorem Zv.mono_l : ∀ k, (∀ y0 y1 y2 y3 y4 y5 y6 y7, LeO (Zv.l0 k y0 y1 y2 y3 y4 y5 y6 y7) (Zv.l0 (k + 1) y0 y1 y2 y3 y4 y5 y6 y7)) ∧ (∀ y0 y1 y2 y3 y4 y5 y6 y7 y8, LeO (Zv.l1 k y0 y1 y2 y3 y4 y5 y6 y7 y8) (Zv.l1 (k + 1) y0 y1 y2 y3 y4 y5 y6 y7 y8)) ∧ (∀ y0 y1 y2 y3 y4 y5 y6 y7 y8 y9, LeO (Zv.l2 k y0 y1 y2 y3 y4 y5 y6 y7 y8 y9) (Zv.l2 (k + 1) y0 y1 y2 y3 y4 y5 y6 y7 y8 y9))
  | 0 => ⟨fun _ _ _ _ _ _ _ _ r h => by simp [Zv.l0] at h, fun _ _ _ _ _ _ _ _ _ r h => by simp [Zv.l1] at h, fun _ _ _ _ _ _ _ _ _ _ r h => by simp [Zv.l2] at h⟩
  | k + 1 => by
    obtain ⟨ih0, ih1, ih2⟩ := Zv.mono_l k
    refine ⟨?_, ?_, ?_⟩
    · intro y0 y1 y2 y3 y4 y5 y6 y7
      unfold Zv.l0
      repeat' first
      | (with_reducible exact ih0 _ _ _ _ _ _ _ _)
      | (with_reducible exact ih1 _ _ _ _ _ _ _ _ _)
      | (with_reducible exact ih2 _ _ _ _ _ _ _ _ _ _)
      | (with_reducible exact Zx.mono _ _ _ _ _ _ _ _ _ _ _)
      | (with_reducible exact Zk.mono _ _ _ _ _ _ _ _ _)
      | (with_reducible exact LeO.refl _)
      | (with_reducible exact LeO.none _)
      | (with_reducible refine LeO.ite ?_ ?_)
      | (with_reducible refine LeO.bind ?_ (fun _ => ?_))
      | exact ih0 _ _ _ _ _ _ _ _
      | exact ih1 _ _ _ _ _ _ _ _ _
      | exact ih2 _ _ _ _ _ _ _ _ _ _
      | exact Zx.mono _ _ _ _ _ _ _ _ _ _ _
      | exact Zk.mono _ _ _ _ _ _ _ _ _
      | exact LeO.none _
      | refine LeO.ite ?_ ?_
      | refine LeO.bind ?_ (fun _ => ?_)
    · intro y0 y1 y2 y3 y4 y5 y6 y7 y8
      unfold Zv.l1
      repeat' first
      | (with_reducible exact ih0 _ _ _ _ _ _ _ _)
      | (with_reducible exact ih1 _ _ _ _ _ _ _ _ _)
      | (with_reducible exact ih2 _ _ _ _ _ _ _ _ _ _)
      | (with_reducible exact Zx.mono _ _ _ _ _ _ _ _ _ _ _)
      | (with_reducible exact Zk.mono _ _ _ _ _ _ _ _ _)
      | (with_reducible exact LeO.refl _)
      | (with_reducible exact LeO.none _)
      | (with_reducible refine LeO.ite ?_ ?_)
      | (with_reducible refine LeO.bind ?_ (fun _ => ?_))
      | exact ih0 _ _ _ _ _ _ _ _
      | exact ih1 _ _ _ _ _ _ _ _ _
      | exact ih2 _ _ _ _ _ _ _ _ _ _
      | exact Zx.mono _ _ _ _ _ _ _ _ _ _ _
      | exact Zk.mono _ _ _ _ _ _ _ _ _
      | exact LeO.none _
      | refine LeO.ite ?_ ?_
      | refine LeO.bind ?_ (fun _ => ?_)
    · intro y0 y1 y2 y3 y4 y5 y6 y7 y8 y9
      unfold Zv.l2
      repeat' first
      | (with_reducible exact ih0 _ _ _ _ _ _ _ _)
      | (with_reducible exact ih1 _ _ _ _ _ _ _ _ _)
      | (with_reducible exact ih2 _ _ _ _ _ _ _ _ _ _)
      | (with_reducible exact Zx.mono _ _ _ _ _ _ _ _ _ _ _)
      | (with_reducible exact Zk.mono _ _ _ _ _ _ _ _ _)
      | (with_reducible exact LeO.refl _)
      | (with_reducible exact LeO.none _)
      | (with_reducible refine LeO.ite ?_ ?_)
      | (with_reducible refine LeO.bind ?_ (fun _ => ?_))
      | exact ih0 _ _ _ _ _ _ _ _
      | exact ih1 _ _ _ _ _ _ _ _ _
      | exact ih2 _ _ _ _ _ _ _ _ _ _
      | exact Zx.mono _ _ _ _ _ _ _ _ _ _ _
      | exact Zk.mono _ _ _ _ _ _ _ _ _
      | exact LeO.none _
      | refine LeO.ite ?_ ?_
      | refine LeO.bind ?_ (fun _ => ?_)
theorem Zv.mono : ∀ a0 a1 a2 a3 a4 a5 a6 a7 a8 a9 k, LeO (Zv.f k a0 a1 a2 a3 a4 a5 a6 a7 a8 a9) (Zv.f (k + 1) a0 a1 a2 a3 a4 a5 a6 a7 a8 a9) := by
  intro a0 a1 a2 a3 a4 a5 a6 a7 a8 a9 k
  obtain ⟨ih0, ih1, ih2⟩ := Zv.mono_l k
  unfold Zv.f
  repeat' first
      | (with_reducible exact ih0 _ _ _ _ _ _ _ _)
      | (with_reducible exact ih1 _ _ _ _ _ _ _ _ _)
      | (with_reducible exact ih2 _ _ _ _ _ _ _ _ _ _)
      | (with_reducible exact Zx.mono _ _ _ _ _ _ _ _ _ _ _)
      | (with_reducible exact Zk.mono _ _ _ _ _ _ _ _ _)
      | (with_reducible exact LeO.refl _)
      | (with_reducible exact LeO.none _)
      | (with_reducible refine LeO.ite ?_ ?_)
      | (with_reducible refine LeO.bind ?_ (fun _ => ?_))
      | exact ih0 _ _ _ _ _ _ _ _
      | exact ih1 _ _ _ _ _ _ _ _ _
      | exact ih2 _ _ _ _ _ _ _ _ _ _
      | exact Zx.mono _ _ _ _ _ _ _ _ _ _ _
      | exact Zk.mono _ _ _ _ _ _ _ _ _
      | exact LeO.none _
      | refine LeO.ite ?_ ?_
      | refine LeO.bind ?_ (fun _ => ?_)
def Zv.T13 : Bool × List (List Nat × List Nat) := (true, [([], []), ([], []), ([1], [1]), ([], []), ([3], [3]), ([], []), ([4, 5], [4, 5]), ([6], [6]), ([], []), ([7, 8], [7, 8]), ([9], [9]), ([], []), ([11], [11]), ([], []), ([12, 13], [12, 13]), ([14], [14]), ([], []), ([15, 16], [15, 16]), ([17], [17]), ([0, 2, 10, 18], [0, 2, 10, 18]), ([19], [19])])
def Zv.B13 : List Nat := [0, 0, 2, 0, 8, 0, 56, 120, 0, 504, 1016, 0, 2048, 0, 14336, 30720, 0, 129024, 260096, 524287, 1048575]
theorem Zv.tab13 : rtab .any (opsOf Try.f21 13) = Zv.T13 := by kernel_rfl
theorem Zv.bits13 : waitsOk Zv.T13.2 Zv.B13 = true := by kernel_rfl
set_option maxHeartbeats 8000000 in
set_option maxRecDepth 100000 in
theorem Zv.calls (k : Nat) (a0_0 : Int) (a0_1 : Int) (A0_2 : Option Addr) (c0_2 : Nat) (l0_2 : List (List Int)) (a0_3 : Int) (a0_4 : Int) (a1_0 : Int) (a1_1 : Int) (A1_2 : Option Addr) (c1_2 : Nat) (l1_2 : List (List Int)) (a1_3 : Int) (a1_4 : Int) (r1 : List Int) (r2 : Bool) (w : World) (hr0_2 : Kd.C (Kd.slice 3 (Kd.int .i64)) w A0_2 l0_2.length l0_2) (hc0_2 : l0_2.length ≤ c0_2) (hr1_2 : Kd.C (Kd.slice 3 (Kd.int .i64)) w A1_2 l1_2.length l1_2) (hc1_2 : l1_2.length ≤ c1_2) (h : Zv.f k a0_0 a0_1 l0_2 a0_3 a0_4 a1_0 a1_1 l1_2 a1_3 a1_4 = some (r1, r2)) :
    Calls Try.prog 21 #[.agg #[.int .i64 a0_0, .int .i64 a0_1, .slice A0_2 l0_2.length c0_2, .int .i64 a0_3, .int .u32 a0_4], .agg #[.int .i64 a1_0, .int .i64 a1_1, .slice A1_2 l1_2.length c1_2, .int .i64 a1_3, .int .u32 a1_4]] w fun e w' => ∃ v0_ : Value, e = .returned (.tuple #[v0_, .bool r2]) ∧ Kd.R (Kd.int .i64) 3 w' w.heap.size (fun _ => True) v0_ r1 ∧ Below w.heap.size w w' := by
 (have hu35 := Try.underlying35); (have HR0_2 := Za.mk hr0_2); (have HC0_2 := Za.mk hc0_2); (clear hr0_2 hc0_2); (have HR1_2 := Za.mk hr1_2); (have HC1_2 := Za.mk hc1_2); (clear hr1_2 hc1_2); (have HB := Za.mk (Below.refl w.heap.size w)); (have H : ((Zx.f k a0_0 a0_1 l0_2 a0_3 a0_4 a1_0 a1_1 l1_2 a1_3 a1_4).bind fun bt289 => (Zv.l0 k a0_3 (wrap64 (a0_0 + a1_3)) 0 bt289.1 bt289.2.1 bt289.2.2.1 bt289.2.2.2.1 bt289.2.2.2.2)) = some (r1, r2) := h); (clear h); (replace H := Option.bind_eq_some_iff.mp H); (obtain ⟨⟨t289, t290, t291, t294, t295⟩, A30, H⟩ := H); (replace H : (Zv.l0 k a0_3 (wrap64 (a0_0 + a1_3)) 0 t289 t290 t291 t294 t295) = some (r1, r2) := H); (have A3 := Za.mk A30); (clear A30); (have H' := Za.mk H); (clear H)
 go_enter Try.func21, Try.ntmps21
 go_wp2_with (first | ((with_reducible refine Za1 (N := 2) rfl ?_); refine Zf1 ?hg (N := 2) ?hd (cs := #[.int .i64 a0_0, .int .i64 a0_1, .slice A0_2 l0_2.length c0_2, .int .i64 a0_3, .int .u32 a0_4]) (t := 35) ?hr ?_; (case hd => rfl); (case hg => rfl); (case hr => first | (go_simp; done) | (go_simp; rfl)); intro gb287 hg w4 hbox hb; have BK287 := Za.mk (hbox); have GW287 := Za.mk ((by rw [hg]; exact (Zi (by repeat (first | (with_reducible first | exact HB.out | apply zc1 | apply zc2 | apply zc3) | exact HB.out))) : w.heap.size ≤ gb287)); have GE287 := Za.mk ((by rw [hg]; exact (Zi (by repeat (first | (with_reducible first | exact HB.out | apply zc1 | apply zc2 | apply zc3) | exact HB.out))) : w.heap.size ≤ gb287)); replace HB := Za.mk (Zn (by repeat (first | (with_reducible first | exact HB.out | apply zc1 | apply zc2 | apply zc3) | exact HB.out)) hb); clear hb hbox hg) | ((with_reducible refine Za1 (N := 3) rfl ?_); refine Zf1 ?hg (N := 3) ?hd (cs := #[.int .i64 a1_0, .int .i64 a1_1, .slice A1_2 l1_2.length c1_2, .int .i64 a1_3, .int .u32 a1_4]) (t := 35) ?hr ?_; (case hd => rfl); (case hg => rfl); (case hr => first | (go_simp; done) | (go_simp; rfl)); intro gb288 hg w5 hbox hb; have BK288 := Za.mk (hbox); have GW288 := Za.mk ((by rw [hg]; exact (Zi (by repeat (first | (with_reducible first | exact HB.out | apply zc1 | apply zc2 | apply zc3 | refine zc4 ?_ (by assumption)) | exact HB.out))) : w.heap.size ≤ gb288)); have GE288 := Za.mk ((by rw [hg]; exact (Zi (by repeat (first | (with_reducible first | exact HB.out | apply zc1 | apply zc2 | apply zc3 | refine zc4 ?_ (by assumption)) | exact HB.out))) : w.heap.size ≤ gb288)); replace HB := Za.mk (Zn (by repeat (first | (with_reducible first | exact HB.out | apply zc1 | apply zc2 | apply zc3 | refine zc4 ?_ (by assumption)) | exact HB.out)) hb); have NB287_288 := Za.mk ((by rw [hg]; exact Nat.ne_of_lt (Zm (g := gb287) (o := .cells #[.int .i64 a0_0, .int .i64 a0_1, .slice A0_2 l0_2.length c0_2, .int .i64 a0_3, .int .u32 a0_4] 35 (0, 0)) (by (with_reducible repeat (first | apply zb3 | apply zb2 | apply zb1)); exact BK287.out)) : gb287 ≠ gb288)); have NB288_287 := Za.mk ((by rw [hg]; exact Nat.ne_of_gt (Zm (g := gb287) (o := .cells #[.int .i64 a0_0, .int .i64 a0_1, .slice A0_2 l0_2.length c0_2, .int .i64 a0_3, .int .u32 a0_4] 35 (0, 0)) (by (with_reducible repeat (first | apply zb3 | apply zb2 | apply zb1)); exact BK287.out)) : gb288 ≠ gb287)); replace BK287 := Za.mk (Zh (g := gb287) (by (with_reducible repeat (first | apply zb3 | apply zb2 | apply zb1)); exact BK287.out) hb); clear hb hbox hg; have hnb6 := NB287_288.out; have hnc6 := NB288_287.out; have hcz7_0 : w5.cell? ⟨gb287, 0, none⟩ = some (.int .i64 a0_0) := (Zb BK287.out 0).trans rfl; have hcz7_1 : w5.cell? ⟨gb287, 1, none⟩ = some (.int .i64 a0_1) := (Zb BK287.out 1).trans rfl; have hcz7_2 : w5.cell? ⟨gb287, 2, none⟩ = some (.slice A0_2 l0_2.length c0_2) := (Zb BK287.out 2).trans rfl; have hcz7_3 : w5.cell? ⟨gb287, 3, none⟩ = some (.int .i64 a0_3) := (Zb BK287.out 3).trans rfl; have hcz7_4 : w5.cell? ⟨gb287, 4, none⟩ = some (.int .u32 a0_4) := (Zb BK287.out 4).trans rfl; have hfz7_0 := Zc BK287.out 0; have hfz7_1 := Zc BK287.out 1; have hfz7_2 := Zc BK287.out 2; have hfz7_3 := Zc BK287.out 3; have hfz7_4 := Zc BK287.out 4; have hcz8_0 : w5.cell? ⟨gb288, 0, none⟩ = some (.int .i64 a1_0) := (Zb BK288.out 0).trans rfl; have hcz8_1 : w5.cell? ⟨gb288, 1, none⟩ = some (.int .i64 a1_1) := (Zb BK288.out 1).trans rfl; have hcz8_2 : w5.cell? ⟨gb288, 2, none⟩ = some (.slice A1_2 l1_2.length c1_2) := (Zb BK288.out 2).trans rfl; have hcz8_3 : w5.cell? ⟨gb288, 3, none⟩ = some (.int .i64 a1_3) := (Zb BK288.out 3).trans rfl; have hcz8_4 : w5.cell? ⟨gb288, 4, none⟩ = some (.int .u32 a1_4) := (Zb BK288.out 4).trans rfl; have hfz8_0 := Zc BK288.out 0; have hfz8_1 := Zc BK288.out 1; have hfz8_2 := Zc BK288.out 2; have hfz8_3 := Zc BK288.out 3; have hfz8_4 := Zc BK288.out 4) | ((with_reducible refine Zl1 (f := 33) rfl ?_); refine goesL_ (some 14) rfl rfl Try.func33 (by kernel_rfl) rfl #[.agg #[.int .i64 a0_0, .int .i64 a0_1, .slice A0_2 l0_2.length c0_2, .int .i64 a0_3, .int .u32 a0_4], .agg #[.int .i64 a1_0, .int .i64 a1_1, .slice A1_2 l1_2.length c1_2, .int .i64 a1_3, .int .u32 a1_4]] rfl (by (try simp only [List.map_toArray, List.map_cons, List.map_nil]); first | done | rfl | (simp only [List.length_drop, List.length_take]; rfl)) ?_; (with_reducible refine (Zx.calls k a0_0 a0_1 _ _ l0_2 a0_3 a0_4 a1_0 a1_1 _ _ l1_2 a1_3 a1_4 t289 t290 t291 t294 t295 _ ?side1 ?side2 ?side3 ?side4 A3.out).mono ?_); (case side1 => repeat (first | exact (Kd.C_below HR0_2.out HB.out) | (with_reducible refine Kd.C_alloc ?_ _) | (with_reducible refine Kd.C_drewN ?_ _) | (with_reducible refine Kd.C_drew ?_))); (case side2 => exact HC0_2.out); (case side3 => repeat (first | exact (Kd.C_below HR1_2.out HB.out) | (with_reducible refine Kd.C_alloc ?_ _) | (with_reducible refine Kd.C_drewN ?_ _) | (with_reducible refine Kd.C_drew ?_))); (case side4 => exact HC1_2.out); rintro e w9 ⟨v292, rfl, ho0, hb⟩; refine ⟨_, rfl, ?_⟩; have HO293 := Za.mk (Kd.S_lower ho0 (Zi (by repeat (first | (with_reducible first | exact HB.out | apply zc1 | apply zc2 | apply zc3 | refine zc4 ?_ (by assumption)) | exact HB.out)))); replace BK287 := Za.mk (Zh (g := gb287) (by (with_reducible repeat (first | apply zb3 | apply zb2 | apply zb1)); exact BK287.out) hb); replace BK288 := Za.mk (Zh (g := gb288) (by (with_reducible repeat (first | apply zb3 | apply zb2 | apply zb1)); exact BK288.out) hb); replace HB := Za.mk (Zn (by repeat (first | (with_reducible first | exact HB.out | apply zc1 | apply zc2 | apply zc3 | refine zc4 ?_ (by assumption)) | exact HB.out)) hb); (try clear hb); (try clear hb2); (try clear hk); (try clear hi); (try clear ho0)) | ((with_reducible refine Za1 (N := 6) rfl ?_); refine Zf1 ?hg (N := 6) ?hd (cs := #[.int .i64 0, .int .i64 0, .slice none 0 0, .int .i64 0, .int .u32 0]) (t := 35) ?hr ?_; (case hd => rfl); (case hg => rfl); (case hr => first | (go_simp; done) | (go_simp; rfl)); intro gb296 hg w10 hbox hb; replace HO293 := Za.mk (Kd.S_below (by (with_reducible repeat (first | apply Kd.S_alloc | apply Kd.S_drewN | apply Kd.S_drew)); exact HO293.out) hb); have BK296 := Za.mk (hbox); have GW296 := Za.mk ((by rw [hg]; exact (Zi (by repeat (first | (with_reducible first | exact HB.out | apply zc1 | apply zc2 | apply zc3 | refine zc4 ?_ (by assumption)) | exact HB.out))) : w.heap.size ≤ gb296)); have GE296 := Za.mk ((by rw [hg]; exact (Zi (by repeat (first | (with_reducible first | exact HB.out | apply zc1 | apply zc2 | apply zc3 | refine zc4 ?_ (by assumption)) | exact HB.out))) : w.heap.size ≤ gb296)); replace HB := Za.mk (Zn (by repeat (first | (with_reducible first | exact HB.out | apply zc1 | apply zc2 | apply zc3 | refine zc4 ?_ (by assumption)) | exact HB.out)) hb); have NB287_296 := Za.mk ((by rw [hg]; exact Nat.ne_of_lt (Zm (g := gb287) (o := .cells #[.int .i64 a0_0, .int .i64 a0_1, .slice A0_2 l0_2.length c0_2, .int .i64 a0_3, .int .u32 a0_4] 35 (0, 0)) (by (with_reducible repeat (first | apply zb3 | apply zb2 | apply zb1)); exact BK287.out)) : gb287 ≠ gb296)); have NB296_287 := Za.mk ((by rw [hg]; exact Nat.ne_of_gt (Zm (g := gb287) (o := .cells #[.int .i64 a0_0, .int .i64 a0_1, .slice A0_2 l0_2.length c0_2, .int .i64 a0_3, .int .u32 a0_4] 35 (0, 0)) (by (with_reducible repeat (first | apply zb3 | apply zb2 | apply zb1)); exact BK287.out)) : gb296 ≠ gb287)); replace BK287 := Za.mk (Zh (g := gb287) (by (with_reducible repeat (first | apply zb3 | apply zb2 | apply zb1)); exact BK287.out) hb); have NB288_296 := Za.mk ((by rw [hg]; exact Nat.ne_of_lt (Zm (g := gb288) (o := .cells #[.int .i64 a1_0, .int .i64 a1_1, .slice A1_2 l1_2.length c1_2, .int .i64 a1_3, .int .u32 a1_4] 35 (0, 0)) (by (with_reducible repeat (first | apply zb3 | apply zb2 | apply zb1)); exact BK288.out)) : gb288 ≠ gb296)); have NB296_288 := Za.mk ((by rw [hg]; exact Nat.ne_of_gt (Zm (g := gb288) (o := .cells #[.int .i64 a1_0, .int .i64 a1_1, .slice A1_2 l1_2.length c1_2, .int .i64 a1_3, .int .u32 a1_4] 35 (0, 0)) (by (with_reducible repeat (first | apply zb3 | apply zb2 | apply zb1)); exact BK288.out)) : gb296 ≠ gb288)); replace BK288 := Za.mk (Zh (g := gb288) (by (with_reducible repeat (first | apply zb3 | apply zb2 | apply zb1)); exact BK288.out) hb); clear hb hbox hg; have hnb11 := NB296_287.out; have hnc11 := NB287_296.out; have hnb12 := NB296_288.out; have hnc12 := NB288_296.out; have hcz13_0 : w10.cell? ⟨gb296, 0, none⟩ = some (.int .i64 0) := (Zb BK296.out 0).trans rfl; have hcz13_1 : w10.cell? ⟨gb296, 1, none⟩ = some (.int .i64 0) := (Zb BK296.out 1).trans rfl; have hcz13_2 : w10.cell? ⟨gb296, 2, none⟩ = some (.slice none 0 0) := (Zb BK296.out 2).trans rfl; have hcz13_3 : w10.cell? ⟨gb296, 3, none⟩ = some (.int .i64 0) := (Zb BK296.out 3).trans rfl; have hcz13_4 : w10.cell? ⟨gb296, 4, none⟩ = some (.int .u32 0) := (Zb BK296.out 4).trans rfl; have hfz13_0 := Zc BK296.out 0; have hfz13_1 := Zc BK296.out 1; have hfz13_2 := Zc BK296.out 2; have hfz13_3 := Zc BK296.out 3; have hfz13_4 := Zc BK296.out 4; obtain ⟨Ao14, co14, eo14⟩ := Kd.S_slice HO293.out; subst eo14; have hcz15_0 : w10.cell? ⟨gb287, 0, none⟩ = some (.int .i64 a0_0) := (Zb BK287.out 0).trans rfl; have hcz15_1 : w10.cell? ⟨gb287, 1, none⟩ = some (.int .i64 a0_1) := (Zb BK287.out 1).trans rfl; have hcz15_2 : w10.cell? ⟨gb287, 2, none⟩ = some (.slice A0_2 l0_2.length c0_2) := (Zb BK287.out 2).trans rfl; have hcz15_3 : w10.cell? ⟨gb287, 3, none⟩ = some (.int .i64 a0_3) := (Zb BK287.out 3).trans rfl; have hcz15_4 : w10.cell? ⟨gb287, 4, none⟩ = some (.int .u32 a0_4) := (Zb BK287.out 4).trans rfl; have hfz15_0 := Zc BK287.out 0; have hfz15_1 := Zc BK287.out 1; have hfz15_2 := Zc BK287.out 2; have hfz15_3 := Zc BK287.out 3; have hfz15_4 := Zc BK287.out 4; have hcz16_0 : w10.cell? ⟨gb288, 0, none⟩ = some (.int .i64 a1_0) := (Zb BK288.out 0).trans rfl; have hcz16_1 : w10.cell? ⟨gb288, 1, none⟩ = some (.int .i64 a1_1) := (Zb BK288.out 1).trans rfl; have hcz16_2 : w10.cell? ⟨gb288, 2, none⟩ = some (.slice A1_2 l1_2.length c1_2) := (Zb BK288.out 2).trans rfl; have hcz16_3 : w10.cell? ⟨gb288, 3, none⟩ = some (.int .i64 a1_3) := (Zb BK288.out 3).trans rfl; have hcz16_4 : w10.cell? ⟨gb288, 4, none⟩ = some (.int .u32 a1_4) := (Zb BK288.out 4).trans rfl; have hfz16_0 := Zc BK288.out 0; have hfz16_1 := Zc BK288.out 1; have hfz16_2 := Zc BK288.out 2; have hfz16_3 := Zc BK288.out 3; have hfz16_4 := Zc BK288.out 4))
 go_loopg [9] k (fun kq v9 w' => ∃ (x9_1 : Int), v9 = .int .i64 x9_1 ∧ Za (Zv.l0 kq a0_3 (wrap64 (a0_0 + a1_3)) x9_1 t289 t290 t291 t294 t295 = some (r1, r2)) ∧ Za (kq ≤ k) ∧ Za (Kd.S (Kd.slice 3 (Kd.int .i64)) 36 w' w.heap.size (fun _ => True) (.slice Ao14 t291.length co14) t291) ∧ Za (w'.heap[gb287]? = some (.cells #[.int .i64 a0_0, .int .i64 a0_1, (.slice A0_2 l0_2.length c0_2), .int .i64 a0_3, .int .u32 a0_4] 35 (0, 0))) ∧ Za (w'.heap[gb288]? = some (.cells #[.int .i64 a1_0, .int .i64 a1_1, (.slice A1_2 l1_2.length c1_2), .int .i64 a1_3, .int .u32 a1_4] 35 (0, 0))) ∧ Za (w'.heap[gb296]? = some (.cells #[.int .i64 t289, .int .i64 t290, (.slice Ao14 t291.length co14), .int .i64 t294, .int .u32 t295] 35 (0, 0))) ∧ Za (Below w.heap.size w w'))
 case atStart => exact ⟨(0), (by first | rfl | (simp; done) | (simp [*]; done)), H', ⟨Nat.le_refl _⟩, ⟨by (with_reducible repeat (first | apply Kd.S_alloc | apply Kd.S_drewN | apply Kd.S_drew)); exact Kd.S_mono (Kd.S_far (p := ⟨gb296, 4, none⟩) (Kd.S_far (p := ⟨gb296, 3, none⟩) (Kd.S_far (p := ⟨gb296, 2, none⟩) (Kd.S_far (p := ⟨gb296, 1, none⟩) (Kd.S_far (p := ⟨gb296, 0, none⟩) (Kd.S_types HO293.out BK296.out (by decide)) (fun _ hk => hk.2) (.int .i64 t289)) (fun _ hk => hk.2) (.int .i64 t290)) (fun _ hk => hk.2) (.slice Ao14 t291.length co14)) (fun _ hk => hk.2) (.int .i64 t294)) (fun _ hk => hk.2) (.int .u32 t295)) (fun _ hk => trivial)⟩, ⟨by (with_reducible repeat (first | refine Zl ?_ _ | refine Zg ?_ | refine Zj ?_ _)); refine Zo ?_ NB287_296.out _; (with_reducible repeat (first | refine Zl ?_ _ | refine Zg ?_ | refine Zj ?_ _)); refine Zo ?_ NB287_296.out _; (with_reducible repeat (first | refine Zl ?_ _ | refine Zg ?_ | refine Zj ?_ _)); refine Zo ?_ NB287_296.out _; (with_reducible repeat (first | refine Zl ?_ _ | refine Zg ?_ | refine Zj ?_ _)); refine Zo ?_ NB287_296.out _; (with_reducible repeat (first | refine Zl ?_ _ | refine Zg ?_ | refine Zj ?_ _)); refine Zo ?_ NB287_296.out _; (with_reducible repeat (first | apply zb3 | apply zb2 | apply zb1)); exact BK287.out⟩, ⟨by (with_reducible repeat (first | refine Zl ?_ _ | refine Zg ?_ | refine Zj ?_ _)); refine Zo ?_ NB288_296.out _; (with_reducible repeat (first | refine Zl ?_ _ | refine Zg ?_ | refine Zj ?_ _)); refine Zo ?_ NB288_296.out _; (with_reducible repeat (first | refine Zl ?_ _ | refine Zg ?_ | refine Zj ?_ _)); refine Zo ?_ NB288_296.out _; (with_reducible repeat (first | refine Zl ?_ _ | refine Zg ?_ | refine Zj ?_ _)); refine Zo ?_ NB288_296.out _; (with_reducible repeat (first | refine Zl ?_ _ | refine Zg ?_ | refine Zj ?_ _)); refine Zo ?_ NB288_296.out _; (with_reducible repeat (first | apply zb3 | apply zb2 | apply zb1)); exact BK288.out⟩, ⟨by (with_reducible repeat (first | refine Zl ?_ _ | refine Zg ?_ | refine Zj ?_ _)); refine Zc1 (cs := #[.int .i64 t289, .int .i64 t290, .slice Ao14 t291.length co14, .int .i64 t294, .int .u32 0]) ?_ 4 _ rfl; (with_reducible repeat (first | refine Zl ?_ _ | refine Zg ?_ | refine Zj ?_ _)); refine Zc1 (cs := #[.int .i64 t289, .int .i64 t290, .slice Ao14 t291.length co14, .int .i64 0, .int .u32 0]) ?_ 3 _ rfl; (with_reducible repeat (first | refine Zl ?_ _ | refine Zg ?_ | refine Zj ?_ _)); refine Zc1 (cs := #[.int .i64 t289, .int .i64 t290, .slice none 0 0, .int .i64 0, .int .u32 0]) ?_ 2 _ rfl; (with_reducible repeat (first | refine Zl ?_ _ | refine Zg ?_ | refine Zj ?_ _)); refine Zc1 (cs := #[.int .i64 t289, .int .i64 0, .slice none 0 0, .int .i64 0, .int .u32 0]) ?_ 1 _ rfl; (with_reducible repeat (first | refine Zl ?_ _ | refine Zg ?_ | refine Zj ?_ _)); refine Zc1 (cs := #[.int .i64 0, .int .i64 0, .slice none 0 0, .int .i64 0, .int .u32 0]) ?_ 0 _ rfl; (with_reducible repeat (first | apply zb3 | apply zb2 | apply zb1)); exact BK296.out⟩, ⟨by repeat (first | (with_reducible first | exact HB.out | apply zc1 | apply zc2 | apply zc3 | refine zc4 ?_ (by assumption)) | exact HB.out)⟩⟩
 case round =>
  (clear H'); (try clear c1); (try clear c2); (try clear p2); (try clear c3); (try clear c6); (try clear p6); (try clear c11); (try clear c12); (try clear hcz13_0 hcz13_1 hcz13_2 hcz13_3 hcz13_4 hcz15_0 hcz15_1 hcz15_2 hcz15_3 hcz15_4 hcz16_0 hcz16_1 hcz16_2 hcz16_3 hcz16_4 hcz7_0 hcz7_1 hcz7_2 hcz7_3 hcz7_4 hcz8_0 hcz8_1 hcz8_2 hcz8_3 hcz8_4 hfz13_0 hfz13_1 hfz13_2 hfz13_3 hfz13_4 hfz15_0 hfz15_1 hfz15_2 hfz15_3 hfz15_4 hfz16_0 hfz16_1 hfz16_2 hfz16_3 hfz16_4 hfz7_0 hfz7_1 hfz7_2 hfz7_3 hfz7_4 hfz8_0 hfz8_1 hfz8_2 hfz8_3 hfz8_4); (obtain ⟨x9_1, rfl, HA, HK1, HO_297002, BK287, BK288, BK296, HB⟩ := hrel)
  cases gk with
  | zero => exact absurd HA.out (by simp [Zv.l0])
  | succ k1 =>
   (have H := HA.out); (clear HA); (simp only [Zv.l0] at H); (replace H := Option.bind_eq_some_iff.mp H); (obtain ⟨t297, A170, H⟩ := H); (replace H : (if t297 = true then (Zv.l1 k1 a0_3 (wrap64 (a0_0 + a1_3)) x9_1 ([] : List Int) t289 t290 t291 t294 t295) else (if (wrap64 (x9_1 + 1)) > t289 then (some (([] : List Int), false)) else (Zv.l0 k1 a0_3 (wrap64 (a0_0 + a1_3)) (wrap64 (x9_1 + 1)) t289 t290 t291 t294 t295))) = some (r1, r2) := H); (have A17 := Za.mk A170); (clear A170)
   by_cases c18 : t297 = true
   rotate_left
   ·replace c18 := Bool.eq_false_iff.mpr c18
    (subst c18); (have H1 : (if (wrap64 (x9_1 + 1)) > t289 then (some (([] : List Int), false)) else (Zv.l0 k1 a0_3 (wrap64 (a0_0 + a1_3)) (wrap64 (x9_1 + 1)) t289 t290 t291 t294 t295)) = some (r1, r2) := by rw [if_neg (show ¬ (false = true) by decide)] at H; exact H); (clear H); (have H := H1); (clear H1)
    by_cases c42 : (wrap64 (x9_1 + 1)) > t289
    ·rw [if_pos c42] at H
     (have c42b0 : decide (t289 < (wrap64 (x9_1 + 1))) = true := decide_eq_true c42); (clear c42); (simp only [Option.some.injEq, Prod.mk.injEq] at H); (obtain ⟨rfl, rfl⟩ := H); (have hnb43 := NB296_287.out); (have hnc43 := NB287_296.out); (have hnb44 := NB296_288.out); (have hnc44 := NB288_296.out); (have hcz45_0 : wr.cell? ⟨gb296, 0, none⟩ = some (.int .i64 t289) := (Zb BK296.out 0).trans rfl); (have hcz45_1 : wr.cell? ⟨gb296, 1, none⟩ = some (.int .i64 t290) := (Zb BK296.out 1).trans rfl); (have hcz45_2 : wr.cell? ⟨gb296, 2, none⟩ = some (.slice Ao14 t291.length co14) := (Zb BK296.out 2).trans rfl); (have hcz45_3 : wr.cell? ⟨gb296, 3, none⟩ = some (.int .i64 t294) := (Zb BK296.out 3).trans rfl); (have hcz45_4 : wr.cell? ⟨gb296, 4, none⟩ = some (.int .u32 t295) := (Zb BK296.out 4).trans rfl); (have hfz45_0 := Zc BK296.out 0); (have hfz45_1 := Zc BK296.out 1); (have hfz45_2 := Zc BK296.out 2); (have hfz45_3 := Zc BK296.out 3); (have hfz45_4 := Zc BK296.out 4)
     go_wp2_with (first | ((with_reducible refine Zl1 (f := 34) rfl ?_); refine goesL_ (some 26) rfl rfl Try.func34 (by kernel_rfl) rfl #[.agg #[.int .i64 t289, .int .i64 t290, .slice Ao14 t291.length co14, .int .i64 t294, .int .u32 t295], .int .i64 x9_1, .int .i64 a0_3, .int .i64 (wrap64 (a0_0 + a1_3))] rfl (by (try simp only [List.map_toArray, List.map_cons, List.map_nil]); first | done | rfl | (simp only [List.length_drop, List.length_take]; rfl)) ?_; (with_reducible refine (Zk.calls k1 t289 t290 _ _ t291 t294 t295 x9_1 a0_3 (wrap64 (a0_0 + a1_3)) false _ ?side1 ?side2 A17.out).mono ?_); (case side1 => repeat (first | exact (Kd.S_reads' HO_297002.out).2.2 | (with_reducible refine Kd.C_alloc ?_ _) | (with_reducible refine Kd.C_drewN ?_ _) | (with_reducible refine Kd.C_drew ?_))); (case side2 => exact (Kd.S_reads' HO_297002.out).2.1); rintro e w46 ⟨rfl, hb⟩; refine ⟨_, rfl, ?_⟩; replace HO_297002 := Za.mk (Kd.S_below (by (with_reducible repeat (first | apply Kd.S_alloc | apply Kd.S_drewN | apply Kd.S_drew)); exact HO_297002.out) hb); replace BK287 := Za.mk (Zh (g := gb287) (by (with_reducible repeat (first | apply zb3 | apply zb2 | apply zb1)); exact BK287.out) hb); replace BK288 := Za.mk (Zh (g := gb288) (by (with_reducible repeat (first | apply zb3 | apply zb2 | apply zb1)); exact BK288.out) hb); replace BK296 := Za.mk (Zh (g := gb296) (by (with_reducible repeat (first | apply zb3 | apply zb2 | apply zb1)); exact BK296.out) hb); replace HB := Za.mk (Zn (by repeat (first | (with_reducible first | exact HB.out | apply zc1 | apply zc2 | apply zc3 | refine zc4 ?_ (by assumption)) | exact HB.out)) hb); (try clear hb); (try clear hb2); (try clear hk); (try clear hi); have hcz47_0 : w46.cell? ⟨gb296, 0, none⟩ = some (.int .i64 t289) := (Zb BK296.out 0).trans rfl; have hcz47_1 : w46.cell? ⟨gb296, 1, none⟩ = some (.int .i64 t290) := (Zb BK296.out 1).trans rfl; have hcz47_2 : w46.cell? ⟨gb296, 2, none⟩ = some (.slice Ao14 t291.length co14) := (Zb BK296.out 2).trans rfl; have hcz47_3 : w46.cell? ⟨gb296, 3, none⟩ = some (.int .i64 t294) := (Zb BK296.out 3).trans rfl; have hcz47_4 : w46.cell? ⟨gb296, 4, none⟩ = some (.int .u32 t295) := (Zb BK296.out 4).trans rfl; have hfz47_0 := Zc BK296.out 0; have hfz47_1 := Zc BK296.out 1; have hfz47_2 := Zc BK296.out 2; have hfz47_3 := Zc BK296.out 3; have hfz47_4 := Zc BK296.out 4))
     go_ret2
     exact ⟨_, by first | rfl | (simp [Zu, Zw] <;> rfl) | (simp [*, Zu, Zw] <;> rfl), by first | exact Kd.R_nil _ _ _ _ _ | exact Kd.N_nil _ _ _ _ _ | exact Kd.V_nil _ _ _ _ _ | exact Kd.Q_nil _ _ _ _ _ | exact Kd.S_nil _ _ _ _ _ | (go_simp; exact Kd.R_nil _ _ _ _ _), by repeat (first | (with_reducible first | exact HB.out | apply zc1 | apply zc2 | apply zc3 | refine zc4 ?_ (by assumption)) | exact HB.out)⟩
    (rw [if_neg c42] at H); (have c42b0 : decide (t289 < (wrap64 (x9_1 + 1))) = false := decide_eq_false c42); (clear c42); (have H' := Za.mk H); (clear H); (have hnb48 := NB296_287.out); (have hnc48 := NB287_296.out); (have hnb49 := NB296_288.out); (have hnc49 := NB288_296.out); (have hcz50_0 : wr.cell? ⟨gb296, 0, none⟩ = some (.int .i64 t289) := (Zb BK296.out 0).trans rfl); (have hcz50_1 : wr.cell? ⟨gb296, 1, none⟩ = some (.int .i64 t290) := (Zb BK296.out 1).trans rfl); (have hcz50_2 : wr.cell? ⟨gb296, 2, none⟩ = some (.slice Ao14 t291.length co14) := (Zb BK296.out 2).trans rfl); (have hcz50_3 : wr.cell? ⟨gb296, 3, none⟩ = some (.int .i64 t294) := (Zb BK296.out 3).trans rfl); (have hcz50_4 : wr.cell? ⟨gb296, 4, none⟩ = some (.int .u32 t295) := (Zb BK296.out 4).trans rfl); (have hfz50_0 := Zc BK296.out 0); (have hfz50_1 := Zc BK296.out 1); (have hfz50_2 := Zc BK296.out 2); (have hfz50_3 := Zc BK296.out 3); (have hfz50_4 := Zc BK296.out 4)
    go_wp2_with (first | ((with_reducible refine Zl1 (f := 34) rfl ?_); refine goesL_ (some 26) rfl rfl Try.func34 (by kernel_rfl) rfl #[.agg #[.int .i64 t289, .int .i64 t290, .slice Ao14 t291.length co14, .int .i64 t294, .int .u32 t295], .int .i64 x9_1, .int .i64 a0_3, .int .i64 (wrap64 (a0_0 + a1_3))] rfl (by (try simp only [List.map_toArray, List.map_cons, List.map_nil]); first | done | rfl | (simp only [List.length_drop, List.length_take]; rfl)) ?_; (with_reducible refine (Zk.calls k1 t289 t290 _ _ t291 t294 t295 x9_1 a0_3 (wrap64 (a0_0 + a1_3)) false _ ?side1 ?side2 A17.out).mono ?_); (case side1 => repeat (first | exact (Kd.S_reads' HO_297002.out).2.2 | (with_reducible refine Kd.C_alloc ?_ _) | (with_reducible refine Kd.C_drewN ?_ _) | (with_reducible refine Kd.C_drew ?_))); (case side2 => exact (Kd.S_reads' HO_297002.out).2.1); rintro e w51 ⟨rfl, hb⟩; refine ⟨_, rfl, ?_⟩; replace HO_297002 := Za.mk (Kd.S_below (by (with_reducible repeat (first | apply Kd.S_alloc | apply Kd.S_drewN | apply Kd.S_drew)); exact HO_297002.out) hb); replace BK287 := Za.mk (Zh (g := gb287) (by (with_reducible repeat (first | apply zb3 | apply zb2 | apply zb1)); exact BK287.out) hb); replace BK288 := Za.mk (Zh (g := gb288) (by (with_reducible repeat (first | apply zb3 | apply zb2 | apply zb1)); exact BK288.out) hb); replace BK296 := Za.mk (Zh (g := gb296) (by (with_reducible repeat (first | apply zb3 | apply zb2 | apply zb1)); exact BK296.out) hb); replace HB := Za.mk (Zn (by repeat (first | (with_reducible first | exact HB.out | apply zc1 | apply zc2 | apply zc3 | refine zc4 ?_ (by assumption)) | exact HB.out)) hb); (try clear hb); (try clear hb2); (try clear hk); (try clear hi); have hcz52_0 : w51.cell? ⟨gb296, 0, none⟩ = some (.int .i64 t289) := (Zb BK296.out 0).trans rfl; have hcz52_1 : w51.cell? ⟨gb296, 1, none⟩ = some (.int .i64 t290) := (Zb BK296.out 1).trans rfl; have hcz52_2 : w51.cell? ⟨gb296, 2, none⟩ = some (.slice Ao14 t291.length co14) := (Zb BK296.out 2).trans rfl; have hcz52_3 : w51.cell? ⟨gb296, 3, none⟩ = some (.int .i64 t294) := (Zb BK296.out 3).trans rfl; have hcz52_4 : w51.cell? ⟨gb296, 4, none⟩ = some (.int .u32 t295) := (Zb BK296.out 4).trans rfl; have hfz52_0 := Zc BK296.out 0; have hfz52_1 := Zc BK296.out 1; have hfz52_2 := Zc BK296.out 2; have hfz52_3 := Zc BK296.out 3; have hfz52_4 := Zc BK296.out 4))
    go_roundg k1
    case measure => have := HK1.out; omega
    case rel => exact ⟨(wrap64 (x9_1 + 1)), (by first | rfl | (simp; done) | (simp [*]; done)), H', ⟨by have := HK1.out; omega⟩, ⟨by (with_reducible repeat (first | apply Kd.S_alloc | apply Kd.S_drewN | apply Kd.S_drew)); exact HO_297002.out⟩, ⟨by (with_reducible repeat (first | apply zb3 | apply zb2 | apply zb1)); exact BK287.out⟩, ⟨by (with_reducible repeat (first | apply zb3 | apply zb2 | apply zb1)); exact BK288.out⟩, ⟨by (with_reducible repeat (first | apply zb3 | apply zb2 | apply zb1)); exact BK296.out⟩, ⟨by repeat (first | (with_reducible first | exact HB.out | apply zc1 | apply zc2 | apply zc3 | refine zc4 ?_ (by assumption)) | exact HB.out)⟩⟩
   (subst c18); (have H1 : (Zv.l1 k1 a0_3 (wrap64 (a0_0 + a1_3)) x9_1 ([] : List Int) t289 t290 t291 t294 t295) = some (r1, r2) := by rw [if_pos rfl] at H; exact H); (clear H); (have H := H1); (clear H1); (have H' := Za.mk H); (clear H); (have hnb19 := NB296_287.out); (have hnc19 := NB287_296.out); (have hnb20 := NB296_288.out); (have hnc20 := NB288_296.out); (have hcz21_0 : wr.cell? ⟨gb296, 0, none⟩ = some (.int .i64 t289) := (Zb BK296.out 0).trans rfl); (have hcz21_1 : wr.cell? ⟨gb296, 1, none⟩ = some (.int .i64 t290) := (Zb BK296.out 1).trans rfl); (have hcz21_2 : wr.cell? ⟨gb296, 2, none⟩ = some (.slice Ao14 t291.length co14) := (Zb BK296.out 2).trans rfl); (have hcz21_3 : wr.cell? ⟨gb296, 3, none⟩ = some (.int .i64 t294) := (Zb BK296.out 3).trans rfl); (have hcz21_4 : wr.cell? ⟨gb296, 4, none⟩ = some (.int .u32 t295) := (Zb BK296.out 4).trans rfl); (have hfz21_0 := Zc BK296.out 0); (have hfz21_1 := Zc BK296.out 1); (have hfz21_2 := Zc BK296.out 2); (have hfz21_3 := Zc BK296.out 3); (have hfz21_4 := Zc BK296.out 4)
   go_wp2_with (first | ((with_reducible refine Zl1 (f := 34) rfl ?_); refine goesL_ (some 26) rfl rfl Try.func34 (by kernel_rfl) rfl #[.agg #[.int .i64 t289, .int .i64 t290, .slice Ao14 t291.length co14, .int .i64 t294, .int .u32 t295], .int .i64 x9_1, .int .i64 a0_3, .int .i64 (wrap64 (a0_0 + a1_3))] rfl (by (try simp only [List.map_toArray, List.map_cons, List.map_nil]); first | done | rfl | (simp only [List.length_drop, List.length_take]; rfl)) ?_; (with_reducible refine (Zk.calls k1 t289 t290 _ _ t291 t294 t295 x9_1 a0_3 (wrap64 (a0_0 + a1_3)) true _ ?side1 ?side2 A17.out).mono ?_); (case side1 => repeat (first | exact (Kd.S_reads' HO_297002.out).2.2 | (with_reducible refine Kd.C_alloc ?_ _) | (with_reducible refine Kd.C_drewN ?_ _) | (with_reducible refine Kd.C_drew ?_))); (case side2 => exact (Kd.S_reads' HO_297002.out).2.1); rintro e w22 ⟨rfl, hb⟩; refine ⟨_, rfl, ?_⟩; replace HO_297002 := Za.mk (Kd.S_below (by (with_reducible repeat (first | apply Kd.S_alloc | apply Kd.S_drewN | apply Kd.S_drew)); exact HO_297002.out) hb); replace BK287 := Za.mk (Zh (g := gb287) (by (with_reducible repeat (first | apply zb3 | apply zb2 | apply zb1)); exact BK287.out) hb); replace BK288 := Za.mk (Zh (g := gb288) (by (with_reducible repeat (first | apply zb3 | apply zb2 | apply zb1)); exact BK288.out) hb); replace BK296 := Za.mk (Zh (g := gb296) (by (with_reducible repeat (first | apply zb3 | apply zb2 | apply zb1)); exact BK296.out) hb); replace HB := Za.mk (Zn (by repeat (first | (with_reducible first | exact HB.out | apply zc1 | apply zc2 | apply zc3 | refine zc4 ?_ (by assumption)) | exact HB.out)) hb); (try clear hb); (try clear hb2); (try clear hk); (try clear hi)))
   go_loopg [7, 8, 9, 10] k1 (fun kq v7 v8 v9 v10 w' => ∃ (x7_2 : Int) (x8_2 : Int) (x9_2 : Int) (x10_2 : List Int), v7 = .int .i64 x7_2 ∧ v8 = .int .i64 x8_2 ∧ v9 = .int .i64 x9_2 ∧ Za (Zv.l1 kq x7_2 x8_2 x9_2 x10_2 t289 t290 t291 t294 t295 = some (r1, r2)) ∧ Za (kq ≤ k1) ∧ Za (Kd.R (Kd.int .i64) 3 w' w.heap.size (fun _ => True) v10 x10_2) ∧ Za (Kd.S (Kd.slice 3 (Kd.int .i64)) 36 w' w.heap.size (fun k_ => some k_ ≠ (v10 : Value).ownBlock) (.slice Ao14 t291.length co14) t291) ∧ Za (w'.heap[gb287]? = some (.cells #[.int .i64 a0_0, .int .i64 a0_1, (.slice A0_2 l0_2.length c0_2), .int .i64 a0_3, .int .u32 a0_4] 35 (0, 0))) ∧ Za (w'.heap[gb288]? = some (.cells #[.int .i64 a1_0, .int .i64 a1_1, (.slice A1_2 l1_2.length c1_2), .int .i64 a1_3, .int .u32 a1_4] 35 (0, 0))) ∧ Za (w'.heap[gb296]? = some (.cells #[.int .i64 t289, .int .i64 t290, (.slice Ao14 t291.length co14), .int .i64 t294, .int .u32 t295] 35 (0, 0))) ∧ Za (Below w.heap.size w w'))
   case atStart => exact ⟨(a0_3), ((wrap64 (a0_0 + a1_3))), (x9_1), (([] : List Int)), (by first | rfl | (simp; done) | (simp [*]; done)), (by first | rfl | (simp; done) | (simp [*]; done)), (by first | rfl | (simp; done) | (simp [*]; done)), H', ⟨Nat.le_refl _⟩, ⟨by first | exact Kd.R_nil _ _ _ _ _ | exact Kd.N_nil _ _ _ _ _ | exact Kd.V_nil _ _ _ _ _ | exact Kd.Q_nil _ _ _ _ _ | exact Kd.S_nil _ _ _ _ _ | (go_simp; exact Kd.R_nil _ _ _ _ _)⟩, ⟨by (with_reducible repeat (first | apply Kd.S_alloc | apply Kd.S_drewN | apply Kd.S_drew)); exact Kd.S_mono HO_297002.out (fun _ hk => (by simp [Value.ownBlock]))⟩, ⟨by (with_reducible repeat (first | apply zb3 | apply zb2 | apply zb1)); exact BK287.out⟩, ⟨by (with_reducible repeat (first | apply zb3 | apply zb2 | apply zb1)); exact BK288.out⟩, ⟨by (with_reducible repeat (first | apply zb3 | apply zb2 | apply zb1)); exact BK296.out⟩, ⟨by repeat (first | (with_reducible first | exact HB.out | apply zc1 | apply zc2 | apply zc3 | refine zc4 ?_ (by assumption)) | exact HB.out)⟩⟩
   case round =>
    (clear H'); (try clear c1); (try clear c2); (try clear p2); (try clear c3); (try clear c6); (try clear p6); (try clear c11); (try clear c12); (try clear c18); (try clear c19); (try clear c20); (try clear c21); (try clear hcz13_0 hcz13_1 hcz13_2 hcz13_3 hcz13_4 hcz15_0 hcz15_1 hcz15_2 hcz15_3 hcz15_4 hcz16_0 hcz16_1 hcz16_2 hcz16_3 hcz16_4 hcz21_0 hcz21_1 hcz21_2 hcz21_3 hcz21_4 hcz7_0 hcz7_1 hcz7_2 hcz7_3 hcz7_4 hcz8_0 hcz8_1 hcz8_2 hcz8_3 hcz8_4 hfz13_0 hfz13_1 hfz13_2 hfz13_3 hfz13_4 hfz15_0 hfz15_1 hfz15_2 hfz15_3 hfz15_4 hfz16_0 hfz16_1 hfz16_2 hfz16_3 hfz16_4 hfz21_0 hfz21_1 hfz21_2 hfz21_3 hfz21_4 hfz7_0 hfz7_1 hfz7_2 hfz7_3 hfz7_4 hfz8_0 hfz8_1 hfz8_2 hfz8_3 hfz8_4); (try clear p2); (try clear p6); (obtain ⟨x7_2, x8_2, x9_2, x10_2, rfl, rfl, rfl, HA, HK2, HO_10, HO_297002, BK287, BK288, BK296, HB⟩ := hrel)
    cases gk with
    | zero => exact absurd HA.out (by simp [Zv.l1])
    | succ k2 =>
     (have H := HA.out); (clear HA); (simp only [Zv.l1] at H)
     by_cases c23 : x9_2 > 0
     rotate_left
     ·rw [if_neg c23] at H
      (have c23b0 : decide (0 < x9_2) = false := decide_eq_false c23); (clear c23); (simp only [Option.some.injEq, Prod.mk.injEq] at H); (obtain ⟨rfl, rfl⟩ := H)
      go_wp2
      go_ret2
      exact ⟨_, by first | rfl | (simp [Zu, Zw] <;> rfl) | (simp [*, Zu, Zw] <;> rfl), by (with_reducible repeat (first | apply Kd.R_alloc | apply Kd.R_drewN | apply Kd.R_drew)); exact HO_10.out, by repeat (first | (with_reducible first | exact HB.out | apply zc1 | apply zc2 | apply zc3 | refine zc4 ?_ (by assumption)) | exact HB.out)⟩
     (rw [if_pos c23] at H); (have c23b0 : decide (0 < x9_2) = true := decide_eq_true c23); (clear c23); (have H' := Za.mk H); (clear H)
     go_wp2
     go_loopg [11] k2 (fun kq v11 w' => ∃ (x11_3 : Int), v11 = .int .i64 x11_3 ∧ Za (Zv.l2 kq x7_2 x8_2 x9_2 x10_2 x11_3 t289 t290 t291 t294 t295 = some (r1, r2)) ∧ Za (kq ≤ k2) ∧ Za (Kd.R (Kd.int .i64) 3 w' w.heap.size (fun _ => True) u10 x10_2) ∧ Za (Kd.S (Kd.slice 3 (Kd.int .i64)) 36 w' w.heap.size (fun k_ => some k_ ≠ (u10 : Value).ownBlock) (.slice Ao14 t291.length co14) t291) ∧ Za (w'.heap[gb287]? = some (.cells #[.int .i64 a0_0, .int .i64 a0_1, (.slice A0_2 l0_2.length c0_2), .int .i64 a0_3, .int .u32 a0_4] 35 (0, 0))) ∧ Za (w'.heap[gb288]? = some (.cells #[.int .i64 a1_0, .int .i64 a1_1, (.slice A1_2 l1_2.length c1_2), .int .i64 a1_3, .int .u32 a1_4] 35 (0, 0))) ∧ Za (w'.heap[gb296]? = some (.cells #[.int .i64 t289, .int .i64 t290, (.slice Ao14 t291.length co14), .int .i64 t294, .int .u32 t295] 35 (0, 0))) ∧ Za (Below w.heap.size w w'))
     case atStart => exact ⟨(0), (by first | rfl | (simp; done) | (simp [*]; done)), H', ⟨Nat.le_refl _⟩, ⟨by (with_reducible repeat (first | apply Kd.R_alloc | apply Kd.R_drewN | apply Kd.R_drew)); exact HO_10.out⟩, ⟨by (with_reducible repeat (first | apply Kd.S_alloc | apply Kd.S_drewN | apply Kd.S_drew)); exact HO_297002.out⟩, ⟨by (with_reducible repeat (first | apply zb3 | apply zb2 | apply zb1)); exact BK287.out⟩, ⟨by (with_reducible repeat (first | apply zb3 | apply zb2 | apply zb1)); exact BK288.out⟩, ⟨by (with_reducible repeat (first | apply zb3 | apply zb2 | apply zb1)); exact BK296.out⟩, ⟨by repeat (first | (with_reducible first | exact HB.out | apply zc1 | apply zc2 | apply zc3 | refine zc4 ?_ (by assumption)) | exact HB.out)⟩⟩
     case round =>
      (clear H'); (try clear c1); (try clear c2); (try clear p2); (try clear c3); (try clear c6); (try clear p6); (try clear c11); (try clear c12); (try clear c18); (try clear c19); (try clear c20); (try clear c21); (try clear c23); (try clear c23b0); (try clear hcz13_0 hcz13_1 hcz13_2 hcz13_3 hcz13_4 hcz15_0 hcz15_1 hcz15_2 hcz15_3 hcz15_4 hcz16_0 hcz16_1 hcz16_2 hcz16_3 hcz16_4 hcz21_0 hcz21_1 hcz21_2 hcz21_3 hcz21_4 hcz7_0 hcz7_1 hcz7_2 hcz7_3 hcz7_4 hcz8_0 hcz8_1 hcz8_2 hcz8_3 hcz8_4 hfz13_0 hfz13_1 hfz13_2 hfz13_3 hfz13_4 hfz15_0 hfz15_1 hfz15_2 hfz15_3 hfz15_4 hfz16_0 hfz16_1 hfz16_2 hfz16_3 hfz16_4 hfz21_0 hfz21_1 hfz21_2 hfz21_3 hfz21_4 hfz7_0 hfz7_1 hfz7_2 hfz7_3 hfz7_4 hfz8_0 hfz8_1 hfz8_2 hfz8_3 hfz8_4); (try clear p2); (try clear p6); (obtain ⟨x11_3, rfl, HA, HK3, HO_10, HO_297002, BK287, BK288, BK296, HB⟩ := hrel)
      cases gk with
      | zero => exact absurd HA.out (by simp [Zv.l2])
      | succ k3 =>
       (have H := HA.out); (clear HA); (simp only [Zv.l2] at H)
       by_cases c24 : 0 ≤ x7_2
       rotate_left
       ·rw [if_neg c24] at H
        exact absurd H (by simp)
       (rw [if_pos c24] at H); (have c24b0 : decide (0 ≤ x7_2) = true := decide_eq_true c24); (clear c24)
       by_cases c25 : x7_2 < (t291.length : Int)
       rotate_left
       ·rw [if_neg c25] at H
        exact absurd H (by simp)
       (rw [if_pos c25] at H); (have c25b0 : decide (x7_2 < (t291.length : Int)) = true := decide_eq_true c25); (clear c25)
       by_cases c26 : 0 ≤ x11_3
       rotate_left
       ·rw [if_neg c26] at H
        exact absurd H (by simp)
       (rw [if_pos c26] at H); (have c26b0 : decide (0 ≤ x11_3) = true := decide_eq_true c26); (clear c26)
       by_cases c27 : x11_3 < ((Zd t291 x7_2).length : Int)
       rotate_left
       ·rw [if_neg c27] at H
        exact absurd H (by simp)
       (rw [if_pos c27] at H); (have c27b0 : decide (x11_3 < ((Zd t291 x7_2).length : Int)) = true := decide_eq_true c27); (clear c27)
       by_cases c28 : 0 ≤ x8_2
       rotate_left
       ·rw [if_neg c28] at H
        exact absurd H (by simp)
       (rw [if_pos c28] at H); (have c28b0 : decide (0 ≤ x8_2) = true := decide_eq_true c28); (clear c28)
       by_cases c29 : x8_2 < (t291.length : Int)
       rotate_left
       ·rw [if_neg c29] at H
        exact absurd H (by simp)
       (rw [if_pos c29] at H); (have c29b0 : decide (x8_2 < (t291.length : Int)) = true := decide_eq_true c29); (clear c29)
       by_cases c30 : x11_3 < ((Zd t291 x8_2).length : Int)
       rotate_left
       ·rw [if_neg c30] at H
        exact absurd H (by simp)
       (rw [if_pos c30] at H); (have c30b0 : decide (x11_3 < ((Zd t291 x8_2).length : Int)) = true := decide_eq_true c30); (clear c30); (replace H := Option.bind_eq_some_iff.mp H); (obtain ⟨t302, A310, H⟩ := H); (replace H : (if t302 = true then (if x10_2.length < 17592186044416 then (Zv.l1 k3 (rd (Zd t291 x7_2) x11_3) (rd (Zd t291 x8_2) x11_3) (wrap64 (x9_2 - 1)) (x10_2 ++ [x11_3]) t289 t290 t291 t294 t295) else (none)) else (Zv.l2 k3 x7_2 x8_2 x9_2 x10_2 (wrap64 (x11_3 + 1)) t289 t290 t291 t294 t295)) = some (r1, r2) := H); (have A31 := Za.mk A310); (clear A310)
       by_cases c32 : t302 = true
       rotate_left
       ·replace c32 := Bool.eq_false_iff.mpr c32
        (subst c32); (have H1 : (Zv.l2 k3 x7_2 x8_2 x9_2 x10_2 (wrap64 (x11_3 + 1)) t289 t290 t291 t294 t295) = some (r1, r2) := by rw [if_neg (show ¬ (false = true) by decide)] at H; exact H); (clear H); (have H := H1); (clear H1); (have H' := Za.mk H); (clear H)
        try go_wp2
        (replace HO_10 := Za.mk (Kd.R_drew HO_10.out)); (replace HO_297002 := Za.mk (Kd.S_drew HO_297002.out)); (replace BK287 := Za.mk (Zg BK287.out)); (replace BK288 := Za.mk (Zg BK288.out)); (replace BK296 := Za.mk (Zg BK296.out)); (replace HB := Za.mk (below_drew1 HB.out)); (have p298 : 0 ≤ (x7_2 : Int) := of_decide_eq_true (by assumption)); (have q298 : x7_2 < (t291.length : Int) := of_decide_eq_true (by assumption)); (obtain ⟨ad298, A298_0, c298_0, e298, hx298_0, hl298_0, hi298_0⟩ := at_L2 (Kd.S_reads' HO_297002.out).2.2 x7_2 p298 q298); (cases e298); (obtain ⟨ce298, hce298, hMe298, hcc298⟩ := Kd.S_get HO_297002.out [] x7_2 p298 (by first | exact q298 | exact of_decide_eq_true (by assumption) | (have e_ := (Kd.S_reads' HO_297002.out).1; omega))); (obtain ⟨ve298_0, rfl, ge298_0⟩ := hMe298); (have hv298_0 := hcc298 0 _ rfl); (rw [Nat.add_zero, show ((Kd.slice 3 (Kd.int .i64))).sz = 1 from rfl, Nat.mul_one] at hv298_0); (replace hv298_0 := Option.some.inj (hv298_0.symm.trans hx298_0)); (rw [hv298_0] at ge298_0); (have HL298_0 := Za.mk (show Kd.R (Kd.int .i64) 3 _ _ _ _ (Zd t291 x7_2) from ge298_0)); (clear hv298_0 ge298_0); (clear hcc298 hce298); (have HR298_0 := Za.mk hi298_0); (have HC298_0 := Za.mk hl298_0); (clear hi298_0 hl298_0); (replace p298 := eq_true p298); (replace q298 := eq_true q298); (have p299 : 0 ≤ (x11_3 : Int) := of_decide_eq_true (by assumption)); (have q299 : x11_3 < ((Zd t291 x7_2).length : Int) := of_decide_eq_true (by assumption)); (obtain ⟨ad299, e299, hx299_0⟩ := Kd.at_int (by repeat (first | (with_reducible exact HR298_0.out) | (with_reducible refine Kd.C_alloc ?_ _) | (with_reducible refine Kd.C_drewN ?_ _) | (with_reducible refine Kd.C_drew ?_) | exact HR298_0.out)) x11_3 p299 q299)
        (cases e299); (replace p299 := eq_true p299); (replace q299 := eq_true q299); (have p300 : 0 ≤ (x8_2 : Int) := of_decide_eq_true (by assumption)); (have q300 : x8_2 < (t291.length : Int) := of_decide_eq_true (by assumption)); (obtain ⟨ad300, A300_0, c300_0, e300, hx300_0, hl300_0, hi300_0⟩ := at_L2 (Kd.S_reads' HO_297002.out).2.2 x8_2 p300 q300); (obtain rfl : ad298 = ad300 := (by injection e300)); (obtain ⟨ce300, hce300, hMe300, hcc300⟩ := Kd.S_get HO_297002.out [] x8_2 p300 (by first | exact q300 | exact of_decide_eq_true (by assumption) | (have e_ := (Kd.S_reads' HO_297002.out).1; omega))); (obtain ⟨ve300_0, rfl, ge300_0⟩ := hMe300); (have hv300_0 := hcc300 0 _ rfl); (rw [Nat.add_zero, show ((Kd.slice 3 (Kd.int .i64))).sz = 1 from rfl, Nat.mul_one] at hv300_0); (replace hv300_0 := Option.some.inj (hv300_0.symm.trans hx300_0)); (rw [hv300_0] at ge300_0); (have HL300_0 := Za.mk (show Kd.R (Kd.int .i64) 3 _ _ _ _ (Zd t291 x8_2) from ge300_0)); (clear hv300_0 ge300_0); (clear hcc300 hce300); (have HR300_0 := Za.mk hi300_0); (have HC300_0 := Za.mk hl300_0); (clear hi300_0 hl300_0); (replace p300 := eq_true p300); (replace q300 := eq_true q300); (have p301 : 0 ≤ (x11_3 : Int) := of_decide_eq_true (by assumption)); (have q301 : x11_3 < ((Zd t291 x8_2).length : Int) := of_decide_eq_true (by assumption)); (obtain ⟨ad301, e301, hx301_0⟩ := Kd.at_int (by repeat (first | (with_reducible exact HR300_0.out) | (with_reducible refine Kd.C_alloc ?_ _) | (with_reducible refine Kd.C_drewN ?_ _) | (with_reducible refine Kd.C_drew ?_) | exact HR300_0.out)) x11_3 p301 q301)
        (cases e301); (replace p301 := eq_true p301); (replace q301 := eq_true q301)
        refine start_ (n := 21) (S := fun w' => w'.cell? ⟨gb296, 0, none⟩ = some (.int .i64 t289) ∧ w'.cell? ⟨gb296, 1, none⟩ = some (.int .i64 t290) ∧ w'.cell? ⟨gb296, 2, none⟩ = some (.slice (some ad298) t291.length co14) ∧ w'.cell? ⟨gb296, 3, none⟩ = some (.int .i64 t294) ∧ w'.cell? ⟨gb296, 4, none⟩ = some (.int .u32 t295) ∧ w'.cell? (ad298.add (x7_2).toNat) = some (.slice (some ad299) (Zd t291 x7_2).length c298_0) ∧ w'.cell? (ad299.add (x11_3).toNat) = some (.int .i64 (rd (Zd t291 x7_2) x11_3)) ∧ w'.cell? (ad298.add (x8_2).toNat) = some (.slice (some ad301) (Zd t291 x8_2).length c300_0) ∧ w'.cell? (ad301.add (x11_3).toNat) = some (.int .i64 (rd (Zd t291 x8_2) x11_3))) (ds := []) #[false, false, false, false, false, false, false, false, false, false, false, false, false, false, false, false, false, false, false, false, false] (by kernel_rfl) rfl rfl ⟨(Zb BK296.out 0).trans rfl, (Zb BK296.out 1).trans rfl, (Zb BK296.out 2).trans rfl, (Zb BK296.out 3).trans rfl, (Zb BK296.out 4).trans rfl, hx298_0, hx299_0, hx300_0, hx301_0⟩ (fun hHeld => ?_); refine with_tabW Zv.tab13 Zv.bits13 (fun HT_ HW_ => ?_)
        generalize wr.drew = w40 at HO_10 HO_297002 BK287 BK288 BK296 HB HL298_0 HL300_0 HR298_0 HR300_0 hx298_0 hx299_0 hx300_0 hx301_0 hHeld ⊢
        refine pure_ (i := 1) (N := some 39) (v := ?_) (a' := ?_) #[false, true, false, false, false, false, false, false, false, false, false, false, false, false, false, false, false, false, false, false, false] rfl rfl (Zp HT_.out (by kernel_rfl)) (fun _ _ _ h => h) (Or.inl ⟨by rfl, ?_⟩) ?_ ?_
        rotate_left
        ·intro w'
         go_simp
         with_reducible rfl
        rotate_left
        ·simp only [Act.put, List.setIfInBounds_toArray, List.set_cons_zero, List.set_cons_succ, Zf, Ze]
         rfl
        refine pure_ (i := 2) (N := some 40) (v := ?_) (a' := ?_) #[false, true, true, false, false, false, false, false, false, false, false, false, false, false, false, false, false, false, false, false, false] rfl rfl (Zp HT_.out (by kernel_rfl)) (fun _ _ _ h => h) (Or.inl ⟨by rfl, ?_⟩) ?_ ?_
        rotate_left
        ·intro w'
         go_simp
         with_reducible rfl
        rotate_left
        ·simp only [Act.put, List.setIfInBounds_toArray, List.set_cons_zero, List.set_cons_succ, Zf, Ze]
         rfl
        refine pure_ (i := 3) (N := some 41) (v := ?_) (a' := ?_) #[false, true, true, true, false, false, false, false, false, false, false, false, false, false, false, false, false, false, false, false, false] rfl rfl (Zp HT_.out (by kernel_rfl)) (fun _ _ _ h => h) (Or.inl ⟨by rfl, ?_⟩) ?_ ?_
        rotate_left
        ·intro w'
         go_simp
         with_reducible rfl
        rotate_left
        ·simp only [Act.put, List.setIfInBounds_toArray, List.set_cons_zero, List.set_cons_succ, Zf, Ze]
         rfl
        refine pure_ (i := 5) (N := some 43) (v := ?_) (a' := ?_) #[false, true, true, true, false, true, false, false, false, false, false, false, false, false, false, false, false, false, false, false, false] rfl rfl (Zp HT_.out (by kernel_rfl)) (fun _ _ _ h => h) (Or.inl ⟨by rfl, ?_⟩) ?_ ?_
        rotate_left
        ·intro w'
         go_simp
         with_reducible rfl
        rotate_left
        ·simp only [Act.put, List.setIfInBounds_toArray, List.set_cons_zero, List.set_cons_succ, Zf, Ze]
         rfl
        refine pure_ (i := 8) (N := some 46) (v := ?_) (a' := ?_) #[false, true, true, true, false, true, false, false, true, false, false, false, false, false, false, false, false, false, false, false, false] rfl rfl (Zp HT_.out (by kernel_rfl)) (fun _ _ _ h => h) (Or.inl ⟨by rfl, ?_⟩) ?_ ?_
        rotate_left
        ·intro w'
         go_simp
         with_reducible rfl
        rotate_left
        ·simp only [Act.put, List.setIfInBounds_toArray, List.set_cons_zero, List.set_cons_succ, Zf, Ze]
         rfl
        refine pure_ (i := 11) (N := some 49) (v := ?_) (a' := ?_) #[false, true, true, true, false, true, false, false, true, false, false, true, false, false, false, false, false, false, false, false, false] rfl rfl (Zp HT_.out (by kernel_rfl)) (fun _ _ _ h => h) (Or.inl ⟨by rfl, ?_⟩) ?_ ?_
        rotate_left
        ·intro w'
         go_simp
         with_reducible rfl
        rotate_left
        ·simp only [Act.put, List.setIfInBounds_toArray, List.set_cons_zero, List.set_cons_succ, Zf, Ze]
         rfl
        refine pure_ (i := 13) (N := some 51) (v := ?_) (a' := ?_) #[false, true, true, true, false, true, false, false, true, false, false, true, false, true, false, false, false, false, false, false, false] rfl rfl (Zp HT_.out (by kernel_rfl)) (fun _ _ _ h => h) (Or.inl ⟨by rfl, ?_⟩) ?_ ?_
        rotate_left
        ·intro w'
         go_simp
         with_reducible rfl
        rotate_left
        ·simp only [Act.put, List.setIfInBounds_toArray, List.set_cons_zero, List.set_cons_succ, Zf, Ze]
         rfl
        refine pure_ (i := 16) (N := some 54) (v := ?_) (a' := ?_) #[false, true, true, true, false, true, false, false, true, false, false, true, false, true, false, false, true, false, false, false, false] rfl rfl (Zp HT_.out (by kernel_rfl)) (fun _ _ _ h => h) (Or.inl ⟨by rfl, ?_⟩) ?_ ?_
        rotate_left
        ·intro w'
         go_simp
         with_reducible rfl
        rotate_left
        ·simp only [Act.put, List.setIfInBounds_toArray, List.set_cons_zero, List.set_cons_succ, Zf, Ze]
         rfl
        refine take_ (i := 0) (N := some 38) (v := ?_) (a' := ?_) #[true, true, true, true, false, true, false, false, true, false, false, true, false, true, false, false, true, false, false, false, false] rfl rfl (Zh1 HT_.out HW_.out (by kernel_rfl)) (fun _ _ _ h => h) (Or.inl ⟨by rfl, ?_⟩) hHeld ?_ ?_
        rotate_left
        ·rintro w' ⟨s0, s1, s2, s3, s4, s5, s6, s7, s8⟩
         go_simp
         with_reducible rfl
        rotate_left
        ·simp only [Act.put, List.setIfInBounds_toArray, List.set_cons_zero, List.set_cons_succ, Zf, Ze]
         rfl
        refine take_ (i := 4) (N := some 42) (v := ?_) (a' := ?_) #[true, true, true, true, true, true, false, false, true, false, false, true, false, true, false, false, true, false, false, false, false] rfl rfl (Zh1 HT_.out HW_.out (by kernel_rfl)) (fun _ _ _ h => h) (Or.inl ⟨by rfl, ?_⟩) hHeld ?_ ?_
        rotate_left
        ·rintro w' ⟨s0, s1, s2, s3, s4, s5, s6, s7, s8⟩
         go_simp
         with_reducible rfl
        rotate_left
        ·simp only [Act.put, List.setIfInBounds_toArray, List.set_cons_zero, List.set_cons_succ, Zf, Ze]
         rfl
        refine pure_ (i := 6) (N := some 44) (v := ?_) (a' := ?_) #[true, true, true, true, true, true, true, false, true, false, false, true, false, true, false, false, true, false, false, false, false] rfl rfl (Zp HT_.out (by kernel_rfl)) (fun _ _ _ h => h) (Or.inl ⟨by rfl, ?_⟩) ?_ ?_
        rotate_left
        ·intro w'
         go_simp
         with_reducible rfl
        rotate_left
        ·simp only [Act.put, List.setIfInBounds_toArray, List.set_cons_zero, List.set_cons_succ, Zf, Ze]
         rfl
        refine take_ (i := 7) (N := some 45) (v := ?_) (a' := ?_) #[true, true, true, true, true, true, true, true, true, false, false, true, false, true, false, false, true, false, false, false, false] rfl rfl (Zh1 HT_.out HW_.out (by kernel_rfl)) (fun _ _ _ h => h) (Or.inl ⟨by rfl, ?_⟩) hHeld ?_ ?_
        rotate_left
        ·rintro w' ⟨s0, s1, s2, s3, s4, s5, s6, s7, s8⟩
         go_simp
         with_reducible rfl
        rotate_left
        ·simp only [Act.put, List.setIfInBounds_toArray, List.set_cons_zero, List.set_cons_succ, Zf, Ze]
         rfl
        refine pure_ (i := 9) (N := some 47) (v := ?_) (a' := ?_) #[true, true, true, true, true, true, true, true, true, true, false, true, false, true, false, false, true, false, false, false, false] rfl rfl (Zp HT_.out (by kernel_rfl)) (fun _ _ _ h => h) (Or.inl ⟨by rfl, ?_⟩) ?_ ?_
        rotate_left
        ·intro w'
         go_simp
         with_reducible rfl
        rotate_left
        ·simp only [Act.put, List.setIfInBounds_toArray, List.set_cons_zero, List.set_cons_succ, Zf, Ze]
         rfl
        refine take_ (i := 10) (N := some 48) (v := ?_) (a' := ?_) #[true, true, true, true, true, true, true, true, true, true, true, true, false, true, false, false, true, false, false, false, false] rfl rfl (Zh1 HT_.out HW_.out (by kernel_rfl)) (fun _ _ _ h => h) (Or.inl ⟨by rfl, ?_⟩) hHeld ?_ ?_
        rotate_left
        ·rintro w' ⟨s0, s1, s2, s3, s4, s5, s6, s7, s8⟩
         go_simp
         with_reducible rfl
        rotate_left
        ·simp only [Act.put, List.setIfInBounds_toArray, List.set_cons_zero, List.set_cons_succ, Zf, Ze]
         rfl
        refine take_ (i := 12) (N := some 50) (v := ?_) (a' := ?_) #[true, true, true, true, true, true, true, true, true, true, true, true, true, true, false, false, true, false, false, false, false] rfl rfl (Zh1 HT_.out HW_.out (by kernel_rfl)) (fun _ _ _ h => h) (Or.inl ⟨by rfl, ?_⟩) hHeld ?_ ?_
        rotate_left
        ·rintro w' ⟨s0, s1, s2, s3, s4, s5, s6, s7, s8⟩
         go_simp
         with_reducible rfl
        rotate_left
        ·simp only [Act.put, List.setIfInBounds_toArray, List.set_cons_zero, List.set_cons_succ, Zf, Ze]
         rfl
        refine pure_ (i := 14) (N := some 52) (v := ?_) (a' := ?_) #[true, true, true, true, true, true, true, true, true, true, true, true, true, true, true, false, true, false, false, false, false] rfl rfl (Zp HT_.out (by kernel_rfl)) (fun _ _ _ h => h) (Or.inl ⟨by rfl, ?_⟩) ?_ ?_
        rotate_left
        ·intro w'
         go_simp
         with_reducible rfl
        rotate_left
        ·simp only [Act.put, List.setIfInBounds_toArray, List.set_cons_zero, List.set_cons_succ, Zf, Ze]
         rfl
        refine take_ (i := 15) (N := some 53) (v := ?_) (a' := ?_) #[true, true, true, true, true, true, true, true, true, true, true, true, true, true, true, true, true, false, false, false, false] rfl rfl (Zh1 HT_.out HW_.out (by kernel_rfl)) (fun _ _ _ h => h) (Or.inl ⟨by rfl, ?_⟩) hHeld ?_ ?_
        rotate_left
        ·rintro w' ⟨s0, s1, s2, s3, s4, s5, s6, s7, s8⟩
         go_simp
         with_reducible rfl
        rotate_left
        ·simp only [Act.put, List.setIfInBounds_toArray, List.set_cons_zero, List.set_cons_succ, Zf, Ze]
         rfl
        refine pure_ (i := 17) (N := some 55) (v := ?_) (a' := ?_) #[true, true, true, true, true, true, true, true, true, true, true, true, true, true, true, true, true, true, false, false, false] rfl rfl (Zp HT_.out (by kernel_rfl)) (fun _ _ _ h => h) (Or.inl ⟨by rfl, ?_⟩) ?_ ?_
        rotate_left
        ·intro w'
         go_simp
         with_reducible rfl
        rotate_left
        ·simp only [Act.put, List.setIfInBounds_toArray, List.set_cons_zero, List.set_cons_succ, Zf, Ze]
         rfl
        refine take_ (i := 18) (N := some 56) (v := ?_) (a' := ?_) #[true, true, true, true, true, true, true, true, true, true, true, true, true, true, true, true, true, true, true, false, false] rfl rfl (Zh1 HT_.out HW_.out (by kernel_rfl)) (fun _ _ _ h => h) (Or.inl ⟨by rfl, ?_⟩) hHeld ?_ ?_
        rotate_left
        ·rintro w' ⟨s0, s1, s2, s3, s4, s5, s6, s7, s8⟩
         go_simp
         with_reducible rfl
        rotate_left
        ·simp only [Act.put, List.setIfInBounds_toArray, List.set_cons_zero, List.set_cons_succ, Zf, Ze]
         rfl
        refine one_ (i := 19) (N := some 57) #[true, true, true, true, true, true, true, true, true, true, true, true, true, true, true, true, true, true, true, true, false] rfl rfl (one_of HT_.out (by kernel_rfl)) (by decide) (fun K hK => ?_)
        refine goes_ Try.func34 (by kernel_rfl) rfl #[.agg #[.int .i64 t289, .int .i64 t290, .slice (some ad298) t291.length co14, .int .i64 t294, .int .u32 t295], .int .i64 (wrap64 (x9_2 - 1)), .int .i64 (rd (Zd t291 x7_2) x11_3), .int .i64 (rd (Zd t291 x8_2) x11_3)] (by rfl) rfl rfl (by (try simp only [List.map_toArray, List.map_cons, List.map_nil]); first | done | rfl | (simp only [List.length_drop, List.length_take]; rfl)) ?_
        with_reducible refine (Zk.calls k3 t289 t290 _ _ t291 t294 t295 (wrap64 (x9_2 - 1)) (rd (Zd t291 x7_2) x11_3) (rd (Zd t291 x8_2) x11_3) false _ ?side1 ?side2 A31.out).mono ?_
        (case side1 => repeat (first | exact (Kd.S_reads' HO_297002.out).2.2 | (with_reducible refine Kd.C_alloc ?_ _) | (with_reducible refine Kd.C_drewN ?_ _) | (with_reducible refine Kd.C_drew ?_)))
        (case side2 => exact (Kd.S_reads' HO_297002.out).2.1)
        rintro e w41 ⟨rfl, hb⟩
        (have HS5_ := (hb.cell (World.block_lt_of_cell? _ _ (hHeld.2.2.2.2.2.1))).trans (hHeld.2.2.2.2.2.1)); (have HS6_ := (hb.cell (World.block_lt_of_cell? _ _ (hHeld.2.2.2.2.2.2.1))).trans (hHeld.2.2.2.2.2.2.1)); (have HS7_ := (hb.cell (World.block_lt_of_cell? _ _ (hHeld.2.2.2.2.2.2.2.1))).trans (hHeld.2.2.2.2.2.2.2.1)); (have HS8_ := (hb.cell (World.block_lt_of_cell? _ _ (hHeld.2.2.2.2.2.2.2.2))).trans (hHeld.2.2.2.2.2.2.2.2))
        refine ⟨_, rfl, ?_⟩
        (replace HO_10 := Za.mk (Kd.R_below (by (with_reducible repeat (first | apply Kd.R_alloc | apply Kd.R_drewN | apply Kd.R_drew)); exact HO_10.out) hb)); (replace HO_297002 := Za.mk (Kd.S_below (by (with_reducible repeat (first | apply Kd.S_alloc | apply Kd.S_drewN | apply Kd.S_drew)); exact HO_297002.out) hb)); (replace HL298_0 := Za.mk (Kd.R_below (by (with_reducible repeat (first | apply Kd.R_alloc | apply Kd.R_drewN | apply Kd.R_drew)); exact HL298_0.out) hb)); (replace HL300_0 := Za.mk (Kd.R_below (by (with_reducible repeat (first | apply Kd.R_alloc | apply Kd.R_drewN | apply Kd.R_drew)); exact HL300_0.out) hb)); (replace BK287 := Za.mk (Zh (g := gb287) (by (with_reducible repeat (first | apply zb3 | apply zb2 | apply zb1)); exact BK287.out) hb)); (replace BK288 := Za.mk (Zh (g := gb288) (by (with_reducible repeat (first | apply zb3 | apply zb2 | apply zb1)); exact BK288.out) hb)); (replace BK296 := Za.mk (Zh (g := gb296) (by (with_reducible repeat (first | apply zb3 | apply zb2 | apply zb1)); exact BK296.out) hb)); (replace HR298_0 := Za.mk (Kd.C_below (by repeat (first | (with_reducible exact HR298_0.out) | (with_reducible refine Kd.C_alloc ?_ _) | (with_reducible refine Kd.C_drewN ?_ _) | (with_reducible refine Kd.C_drew ?_) | exact HR298_0.out)) hb)); (replace HR300_0 := Za.mk (Kd.C_below (by repeat (first | (with_reducible exact HR300_0.out) | (with_reducible refine Kd.C_alloc ?_ _) | (with_reducible refine Kd.C_drewN ?_ _) | (with_reducible refine Kd.C_drew ?_) | exact HR300_0.out)) hb))
        (replace HB := Za.mk (Zn (by repeat (first | (with_reducible first | exact HB.out | apply zc1 | apply zc2 | apply zc3 | refine zc4 ?_ (by assumption)) | exact HB.out)) hb)); ((try clear hb)); ((try clear hb2)); ((try clear hk)); ((try clear hi))
        refine hK.out _ _ ⟨(Zb BK296.out 0).trans rfl, (Zb BK296.out 1).trans rfl, (Zb BK296.out 2).trans rfl, (Zb BK296.out 3).trans rfl, (Zb BK296.out 4).trans rfl, HS5_, HS6_, HS7_, HS8_⟩ (fun hHeld => ?_)
        clear hK K
        refine norm_ (a' := ?_) ?_ ?_
        rotate_left
        ·show Act.put _ (some 57) _ = _
         simp only [Act.put, List.setIfInBounds_toArray, List.set_cons_zero, List.set_cons_succ, Zf, Ze]
         rfl
        refine pure_ (i := 20) (N := some 58) (v := ?_) (a' := ?_) #[true, true, true, true, true, true, true, true, true, true, true, true, true, true, true, true, true, true, true, true, true] rfl rfl (Zp HT_.out (by kernel_rfl)) (fun _ _ _ h => h) (Or.inl ⟨by rfl, ?_⟩) ?_ ?_
        rotate_left
        ·intro w'
         go_simp
         with_reducible rfl
        rotate_left
        ·simp only [Act.put, List.setIfInBounds_toArray, List.set_cons_zero, List.set_cons_succ, Zf, Ze]
         rfl
        refine done_ (done_of HT_.out (by kernel_rfl)) ?_
        try go_wp2
        go_roundg k3
        case measure => have := HK1.out; have := HK2.out; have := HK3.out; omega
        case rel => exact ⟨(wrap64 (x11_3 + 1)), (by first | rfl | (simp; done) | (simp [*]; done)), H', ⟨by have := HK1.out; have := HK2.out; have := HK3.out; omega⟩, ⟨by (with_reducible repeat (first | apply Kd.R_alloc | apply Kd.R_drewN | apply Kd.R_drew)); exact HO_10.out⟩, ⟨by (with_reducible repeat (first | apply Kd.S_alloc | apply Kd.S_drewN | apply Kd.S_drew)); exact HO_297002.out⟩, ⟨by (with_reducible repeat (first | apply zb3 | apply zb2 | apply zb1)); exact BK287.out⟩, ⟨by (with_reducible repeat (first | apply zb3 | apply zb2 | apply zb1)); exact BK288.out⟩, ⟨by (with_reducible repeat (first | apply zb3 | apply zb2 | apply zb1)); exact BK296.out⟩, ⟨by repeat (first | (with_reducible first | exact HB.out | apply zc1 | apply zc2 | apply zc3 | refine zc4 ?_ (by assumption)) | exact HB.out)⟩⟩
       (subst c32); (have H1 : (if x10_2.length < 17592186044416 then (Zv.l1 k3 (rd (Zd t291 x7_2) x11_3) (rd (Zd t291 x8_2) x11_3) (wrap64 (x9_2 - 1)) (x10_2 ++ [x11_3]) t289 t290 t291 t294 t295) else (none)) = some (r1, r2) := by rw [if_pos rfl] at H; exact H); (clear H); (have H := H1); (clear H1)
       by_cases c33 : x10_2.length < 17592186044416
       rotate_left
       ·rw [if_neg c33] at H
        exact absurd H (by simp)
       (rw [if_pos c33] at H); (have LMc33 := Za.mk c33); (clear c33); (obtain ⟨y303, hy303⟩ : ∃ y_ : List Int, y_ = (x10_2 ++ [x11_3]) := ⟨_, rfl⟩); (replace H : (Zv.l1 k3 (rd (Zd t291 x7_2) x11_3) (rd (Zd t291 x8_2) x11_3) (wrap64 (x9_2 - 1)) y303 t289 t290 t291 t294 t295) = some (r1, r2) := by first | (rw [hy303]; with_reducible exact H) | (have H2_ := (Option.bind_some _ _).symm.trans H; rw [hy303]; with_reducible exact H2_) | (have H2_ := (Option.bind_some _ _).symm.trans H; with_reducible exact H2_) | with_reducible exact H | (rw [hy303]; exact H) | exact H); (have Ny303 := Za.mk hy303); (clear hy303); (have H' := Za.mk H); (clear H)
       try go_wp2
       (replace HO_10 := Za.mk (Kd.R_drew HO_10.out)); (replace HO_297002 := Za.mk (Kd.S_drew HO_297002.out)); (replace BK287 := Za.mk (Zg BK287.out)); (replace BK288 := Za.mk (Zg BK288.out)); (replace BK296 := Za.mk (Zg BK296.out)); (replace HB := Za.mk (below_drew1 HB.out)); (have p298 : 0 ≤ (x7_2 : Int) := of_decide_eq_true (by assumption)); (have q298 : x7_2 < (t291.length : Int) := of_decide_eq_true (by assumption)); (obtain ⟨ad298, A298_0, c298_0, e298, hx298_0, hl298_0, hi298_0⟩ := at_L2 (Kd.S_reads' HO_297002.out).2.2 x7_2 p298 q298); (cases e298); (obtain ⟨ce298, hce298, hMe298, hcc298⟩ := Kd.S_get HO_297002.out [] x7_2 p298 (by first | exact q298 | exact of_decide_eq_true (by assumption) | (have e_ := (Kd.S_reads' HO_297002.out).1; omega))); (obtain ⟨ve298_0, rfl, ge298_0⟩ := hMe298); (have hv298_0 := hcc298 0 _ rfl); (rw [Nat.add_zero, show ((Kd.slice 3 (Kd.int .i64))).sz = 1 from rfl, Nat.mul_one] at hv298_0); (replace hv298_0 := Option.some.inj (hv298_0.symm.trans hx298_0)); (rw [hv298_0] at ge298_0); (have HL298_0 := Za.mk (show Kd.R (Kd.int .i64) 3 _ _ _ _ (Zd t291 x7_2) from ge298_0)); (clear hv298_0 ge298_0); (clear hcc298 hce298); (have HR298_0 := Za.mk hi298_0); (have HC298_0 := Za.mk hl298_0); (clear hi298_0 hl298_0); (replace p298 := eq_true p298); (replace q298 := eq_true q298); (have p299 : 0 ≤ (x11_3 : Int) := of_decide_eq_true (by assumption)); (have q299 : x11_3 < ((Zd t291 x7_2).length : Int) := of_decide_eq_true (by assumption)); (obtain ⟨ad299, e299, hx299_0⟩ := Kd.at_int (by repeat (first | (with_reducible exact HR298_0.out) | (with_reducible refine Kd.C_alloc ?_ _) | (with_reducible refine Kd.C_drewN ?_ _) | (with_reducible refine Kd.C_drew ?_) | exact HR298_0.out)) x11_3 p299 q299)
       (cases e299); (replace p299 := eq_true p299); (replace q299 := eq_true q299); (have p300 : 0 ≤ (x8_2 : Int) := of_decide_eq_true (by assumption)); (have q300 : x8_2 < (t291.length : Int) := of_decide_eq_true (by assumption)); (obtain ⟨ad300, A300_0, c300_0, e300, hx300_0, hl300_0, hi300_0⟩ := at_L2 (Kd.S_reads' HO_297002.out).2.2 x8_2 p300 q300); (obtain rfl : ad298 = ad300 := (by injection e300)); (obtain ⟨ce300, hce300, hMe300, hcc300⟩ := Kd.S_get HO_297002.out [] x8_2 p300 (by first | exact q300 | exact of_decide_eq_true (by assumption) | (have e_ := (Kd.S_reads' HO_297002.out).1; omega))); (obtain ⟨ve300_0, rfl, ge300_0⟩ := hMe300); (have hv300_0 := hcc300 0 _ rfl); (rw [Nat.add_zero, show ((Kd.slice 3 (Kd.int .i64))).sz = 1 from rfl, Nat.mul_one] at hv300_0); (replace hv300_0 := Option.some.inj (hv300_0.symm.trans hx300_0)); (rw [hv300_0] at ge300_0); (have HL300_0 := Za.mk (show Kd.R (Kd.int .i64) 3 _ _ _ _ (Zd t291 x8_2) from ge300_0)); (clear hv300_0 ge300_0); (clear hcc300 hce300); (have HR300_0 := Za.mk hi300_0); (have HC300_0 := Za.mk hl300_0); (clear hi300_0 hl300_0); (replace p300 := eq_true p300); (replace q300 := eq_true q300); (have p301 : 0 ≤ (x11_3 : Int) := of_decide_eq_true (by assumption)); (have q301 : x11_3 < ((Zd t291 x8_2).length : Int) := of_decide_eq_true (by assumption)); (obtain ⟨ad301, e301, hx301_0⟩ := Kd.at_int (by repeat (first | (with_reducible exact HR300_0.out) | (with_reducible refine Kd.C_alloc ?_ _) | (with_reducible refine Kd.C_drewN ?_ _) | (with_reducible refine Kd.C_drew ?_) | exact HR300_0.out)) x11_3 p301 q301)
       (cases e301); (replace p301 := eq_true p301); (replace q301 := eq_true q301)
       refine start_ (n := 21) (S := fun w' => w'.cell? ⟨gb296, 0, none⟩ = some (.int .i64 t289) ∧ w'.cell? ⟨gb296, 1, none⟩ = some (.int .i64 t290) ∧ w'.cell? ⟨gb296, 2, none⟩ = some (.slice (some ad298) t291.length co14) ∧ w'.cell? ⟨gb296, 3, none⟩ = some (.int .i64 t294) ∧ w'.cell? ⟨gb296, 4, none⟩ = some (.int .u32 t295) ∧ w'.cell? (ad298.add (x7_2).toNat) = some (.slice (some ad299) (Zd t291 x7_2).length c298_0) ∧ w'.cell? (ad299.add (x11_3).toNat) = some (.int .i64 (rd (Zd t291 x7_2) x11_3)) ∧ w'.cell? (ad298.add (x8_2).toNat) = some (.slice (some ad301) (Zd t291 x8_2).length c300_0) ∧ w'.cell? (ad301.add (x11_3).toNat) = some (.int .i64 (rd (Zd t291 x8_2) x11_3))) (ds := []) #[false, false, false, false, false, false, false, false, false, false, false, false, false, false, false, false, false, false, false, false, false] (by kernel_rfl) rfl rfl ⟨(Zb BK296.out 0).trans rfl, (Zb BK296.out 1).trans rfl, (Zb BK296.out 2).trans rfl, (Zb BK296.out 3).trans rfl, (Zb BK296.out 4).trans rfl, hx298_0, hx299_0, hx300_0, hx301_0⟩ (fun hHeld => ?_); refine with_tabW Zv.tab13 Zv.bits13 (fun HT_ HW_ => ?_)
       generalize wr.drew = w34 at HO_10 HO_297002 BK287 BK288 BK296 HB HL298_0 HL300_0 HR298_0 HR300_0 hx298_0 hx299_0 hx300_0 hx301_0 hHeld ⊢
       refine pure_ (i := 1) (N := some 39) (v := ?_) (a' := ?_) #[false, true, false, false, false, false, false, false, false, false, false, false, false, false, false, false, false, false, false, false, false] rfl rfl (Zp HT_.out (by kernel_rfl)) (fun _ _ _ h => h) (Or.inl ⟨by rfl, ?_⟩) ?_ ?_
       rotate_left
       ·intro w'
        go_simp
        with_reducible rfl
       rotate_left
       ·simp only [Act.put, List.setIfInBounds_toArray, List.set_cons_zero, List.set_cons_succ, Zf, Ze]
        rfl
       refine pure_ (i := 2) (N := some 40) (v := ?_) (a' := ?_) #[false, true, true, false, false, false, false, false, false, false, false, false, false, false, false, false, false, false, false, false, false] rfl rfl (Zp HT_.out (by kernel_rfl)) (fun _ _ _ h => h) (Or.inl ⟨by rfl, ?_⟩) ?_ ?_
       rotate_left
       ·intro w'
        go_simp
        with_reducible rfl
       rotate_left
       ·simp only [Act.put, List.setIfInBounds_toArray, List.set_cons_zero, List.set_cons_succ, Zf, Ze]
        rfl
       refine pure_ (i := 3) (N := some 41) (v := ?_) (a' := ?_) #[false, true, true, true, false, false, false, false, false, false, false, false, false, false, false, false, false, false, false, false, false] rfl rfl (Zp HT_.out (by kernel_rfl)) (fun _ _ _ h => h) (Or.inl ⟨by rfl, ?_⟩) ?_ ?_
       rotate_left
       ·intro w'
        go_simp
        with_reducible rfl
       rotate_left
       ·simp only [Act.put, List.setIfInBounds_toArray, List.set_cons_zero, List.set_cons_succ, Zf, Ze]
        rfl
       refine pure_ (i := 5) (N := some 43) (v := ?_) (a' := ?_) #[false, true, true, true, false, true, false, false, false, false, false, false, false, false, false, false, false, false, false, false, false] rfl rfl (Zp HT_.out (by kernel_rfl)) (fun _ _ _ h => h) (Or.inl ⟨by rfl, ?_⟩) ?_ ?_
       rotate_left
       ·intro w'
        go_simp
        with_reducible rfl
       rotate_left
       ·simp only [Act.put, List.setIfInBounds_toArray, List.set_cons_zero, List.set_cons_succ, Zf, Ze]
        rfl
       refine pure_ (i := 8) (N := some 46) (v := ?_) (a' := ?_) #[false, true, true, true, false, true, false, false, true, false, false, false, false, false, false, false, false, false, false, false, false] rfl rfl (Zp HT_.out (by kernel_rfl)) (fun _ _ _ h => h) (Or.inl ⟨by rfl, ?_⟩) ?_ ?_
       rotate_left
       ·intro w'
        go_simp
        with_reducible rfl
       rotate_left
       ·simp only [Act.put, List.setIfInBounds_toArray, List.set_cons_zero, List.set_cons_succ, Zf, Ze]
        rfl
       refine pure_ (i := 11) (N := some 49) (v := ?_) (a' := ?_) #[false, true, true, true, false, true, false, false, true, false, false, true, false, false, false, false, false, false, false, false, false] rfl rfl (Zp HT_.out (by kernel_rfl)) (fun _ _ _ h => h) (Or.inl ⟨by rfl, ?_⟩) ?_ ?_
       rotate_left
       ·intro w'
        go_simp
        with_reducible rfl
       rotate_left
       ·simp only [Act.put, List.setIfInBounds_toArray, List.set_cons_zero, List.set_cons_succ, Zf, Ze]
        rfl
       refine pure_ (i := 13) (N := some 51) (v := ?_) (a' := ?_) #[false, true, true, true, false, true, false, false, true, false, false, true, false, true, false, false, false, false, false, false, false] rfl rfl (Zp HT_.out (by kernel_rfl)) (fun _ _ _ h => h) (Or.inl ⟨by rfl, ?_⟩) ?_ ?_
       rotate_left
       ·intro w'
        go_simp
        with_reducible rfl
       rotate_left
       ·simp only [Act.put, List.setIfInBounds_toArray, List.set_cons_zero, List.set_cons_succ, Zf, Ze]
        rfl
       refine pure_ (i := 16) (N := some 54) (v := ?_) (a' := ?_) #[false, true, true, true, false, true, false, false, true, false, false, true, false, true, false, false, true, false, false, false, false] rfl rfl (Zp HT_.out (by kernel_rfl)) (fun _ _ _ h => h) (Or.inl ⟨by rfl, ?_⟩) ?_ ?_
       rotate_left
       ·intro w'
        go_simp
        with_reducible rfl
       rotate_left
       ·simp only [Act.put, List.setIfInBounds_toArray, List.set_cons_zero, List.set_cons_succ, Zf, Ze]
        rfl
       refine take_ (i := 0) (N := some 38) (v := ?_) (a' := ?_) #[true, true, true, true, false, true, false, false, true, false, false, true, false, true, false, false, true, false, false, false, false] rfl rfl (Zh1 HT_.out HW_.out (by kernel_rfl)) (fun _ _ _ h => h) (Or.inl ⟨by rfl, ?_⟩) hHeld ?_ ?_
       rotate_left
       ·rintro w' ⟨s0, s1, s2, s3, s4, s5, s6, s7, s8⟩
        go_simp
        with_reducible rfl
       rotate_left
       ·simp only [Act.put, List.setIfInBounds_toArray, List.set_cons_zero, List.set_cons_succ, Zf, Ze]
        rfl
       refine take_ (i := 4) (N := some 42) (v := ?_) (a' := ?_) #[true, true, true, true, true, true, false, false, true, false, false, true, false, true, false, false, true, false, false, false, false] rfl rfl (Zh1 HT_.out HW_.out (by kernel_rfl)) (fun _ _ _ h => h) (Or.inl ⟨by rfl, ?_⟩) hHeld ?_ ?_
       rotate_left
       ·rintro w' ⟨s0, s1, s2, s3, s4, s5, s6, s7, s8⟩
        go_simp
        with_reducible rfl
       rotate_left
       ·simp only [Act.put, List.setIfInBounds_toArray, List.set_cons_zero, List.set_cons_succ, Zf, Ze]
        rfl
       refine pure_ (i := 6) (N := some 44) (v := ?_) (a' := ?_) #[true, true, true, true, true, true, true, false, true, false, false, true, false, true, false, false, true, false, false, false, false] rfl rfl (Zp HT_.out (by kernel_rfl)) (fun _ _ _ h => h) (Or.inl ⟨by rfl, ?_⟩) ?_ ?_
       rotate_left
       ·intro w'
        go_simp
        with_reducible rfl
       rotate_left
       ·simp only [Act.put, List.setIfInBounds_toArray, List.set_cons_zero, List.set_cons_succ, Zf, Ze]
        rfl
       refine take_ (i := 7) (N := some 45) (v := ?_) (a' := ?_) #[true, true, true, true, true, true, true, true, true, false, false, true, false, true, false, false, true, false, false, false, false] rfl rfl (Zh1 HT_.out HW_.out (by kernel_rfl)) (fun _ _ _ h => h) (Or.inl ⟨by rfl, ?_⟩) hHeld ?_ ?_
       rotate_left
       ·rintro w' ⟨s0, s1, s2, s3, s4, s5, s6, s7, s8⟩
        go_simp
        with_reducible rfl
       rotate_left
       ·simp only [Act.put, List.setIfInBounds_toArray, List.set_cons_zero, List.set_cons_succ, Zf, Ze]
        rfl
       refine pure_ (i := 9) (N := some 47) (v := ?_) (a' := ?_) #[true, true, true, true, true, true, true, true, true, true, false, true, false, true, false, false, true, false, false, false, false] rfl rfl (Zp HT_.out (by kernel_rfl)) (fun _ _ _ h => h) (Or.inl ⟨by rfl, ?_⟩) ?_ ?_
       rotate_left
       ·intro w'
        go_simp
        with_reducible rfl
       rotate_left
       ·simp only [Act.put, List.setIfInBounds_toArray, List.set_cons_zero, List.set_cons_succ, Zf, Ze]
        rfl
       refine take_ (i := 10) (N := some 48) (v := ?_) (a' := ?_) #[true, true, true, true, true, true, true, true, true, true, true, true, false, true, false, false, true, false, false, false, false] rfl rfl (Zh1 HT_.out HW_.out (by kernel_rfl)) (fun _ _ _ h => h) (Or.inl ⟨by rfl, ?_⟩) hHeld ?_ ?_
       rotate_left
       ·rintro w' ⟨s0, s1, s2, s3, s4, s5, s6, s7, s8⟩
        go_simp
        with_reducible rfl
       rotate_left
       ·simp only [Act.put, List.setIfInBounds_toArray, List.set_cons_zero, List.set_cons_succ, Zf, Ze]
        rfl
       refine take_ (i := 12) (N := some 50) (v := ?_) (a' := ?_) #[true, true, true, true, true, true, true, true, true, true, true, true, true, true, false, false, true, false, false, false, false] rfl rfl (Zh1 HT_.out HW_.out (by kernel_rfl)) (fun _ _ _ h => h) (Or.inl ⟨by rfl, ?_⟩) hHeld ?_ ?_
       rotate_left
       ·rintro w' ⟨s0, s1, s2, s3, s4, s5, s6, s7, s8⟩
        go_simp
        with_reducible rfl
       rotate_left
       ·simp only [Act.put, List.setIfInBounds_toArray, List.set_cons_zero, List.set_cons_succ, Zf, Ze]
        rfl
       refine pure_ (i := 14) (N := some 52) (v := ?_) (a' := ?_) #[true, true, true, true, true, true, true, true, true, true, true, true, true, true, true, false, true, false, false, false, false] rfl rfl (Zp HT_.out (by kernel_rfl)) (fun _ _ _ h => h) (Or.inl ⟨by rfl, ?_⟩) ?_ ?_
       rotate_left
       ·intro w'
        go_simp
        with_reducible rfl
       rotate_left
       ·simp only [Act.put, List.setIfInBounds_toArray, List.set_cons_zero, List.set_cons_succ, Zf, Ze]
        rfl
       refine take_ (i := 15) (N := some 53) (v := ?_) (a' := ?_) #[true, true, true, true, true, true, true, true, true, true, true, true, true, true, true, true, true, false, false, false, false] rfl rfl (Zh1 HT_.out HW_.out (by kernel_rfl)) (fun _ _ _ h => h) (Or.inl ⟨by rfl, ?_⟩) hHeld ?_ ?_
       rotate_left
       ·rintro w' ⟨s0, s1, s2, s3, s4, s5, s6, s7, s8⟩
        go_simp
        with_reducible rfl
       rotate_left
       ·simp only [Act.put, List.setIfInBounds_toArray, List.set_cons_zero, List.set_cons_succ, Zf, Ze]
        rfl
       refine pure_ (i := 17) (N := some 55) (v := ?_) (a' := ?_) #[true, true, true, true, true, true, true, true, true, true, true, true, true, true, true, true, true, true, false, false, false] rfl rfl (Zp HT_.out (by kernel_rfl)) (fun _ _ _ h => h) (Or.inl ⟨by rfl, ?_⟩) ?_ ?_
       rotate_left
       ·intro w'
        go_simp
        with_reducible rfl
       rotate_left
       ·simp only [Act.put, List.setIfInBounds_toArray, List.set_cons_zero, List.set_cons_succ, Zf, Ze]
        rfl
       refine take_ (i := 18) (N := some 56) (v := ?_) (a' := ?_) #[true, true, true, true, true, true, true, true, true, true, true, true, true, true, true, true, true, true, true, false, false] rfl rfl (Zh1 HT_.out HW_.out (by kernel_rfl)) (fun _ _ _ h => h) (Or.inl ⟨by rfl, ?_⟩) hHeld ?_ ?_
       rotate_left
       ·rintro w' ⟨s0, s1, s2, s3, s4, s5, s6, s7, s8⟩
        go_simp
        with_reducible rfl
       rotate_left
       ·simp only [Act.put, List.setIfInBounds_toArray, List.set_cons_zero, List.set_cons_succ, Zf, Ze]
        rfl
       refine one_ (i := 19) (N := some 57) #[true, true, true, true, true, true, true, true, true, true, true, true, true, true, true, true, true, true, true, true, false] rfl rfl (one_of HT_.out (by kernel_rfl)) (by decide) (fun K hK => ?_)
       refine goes_ Try.func34 (by kernel_rfl) rfl #[.agg #[.int .i64 t289, .int .i64 t290, .slice (some ad298) t291.length co14, .int .i64 t294, .int .u32 t295], .int .i64 (wrap64 (x9_2 - 1)), .int .i64 (rd (Zd t291 x7_2) x11_3), .int .i64 (rd (Zd t291 x8_2) x11_3)] (by rfl) rfl rfl (by (try simp only [List.map_toArray, List.map_cons, List.map_nil]); first | done | rfl | (simp only [List.length_drop, List.length_take]; rfl)) ?_
       with_reducible refine (Zk.calls k3 t289 t290 _ _ t291 t294 t295 (wrap64 (x9_2 - 1)) (rd (Zd t291 x7_2) x11_3) (rd (Zd t291 x8_2) x11_3) true _ ?side1 ?side2 A31.out).mono ?_
       (case side1 => repeat (first | exact (Kd.S_reads' HO_297002.out).2.2 | (with_reducible refine Kd.C_alloc ?_ _) | (with_reducible refine Kd.C_drewN ?_ _) | (with_reducible refine Kd.C_drew ?_)))
       (case side2 => exact (Kd.S_reads' HO_297002.out).2.1)
       rintro e w35 ⟨rfl, hb⟩
       (have HS5_ := (hb.cell (World.block_lt_of_cell? _ _ (hHeld.2.2.2.2.2.1))).trans (hHeld.2.2.2.2.2.1)); (have HS6_ := (hb.cell (World.block_lt_of_cell? _ _ (hHeld.2.2.2.2.2.2.1))).trans (hHeld.2.2.2.2.2.2.1)); (have HS7_ := (hb.cell (World.block_lt_of_cell? _ _ (hHeld.2.2.2.2.2.2.2.1))).trans (hHeld.2.2.2.2.2.2.2.1)); (have HS8_ := (hb.cell (World.block_lt_of_cell? _ _ (hHeld.2.2.2.2.2.2.2.2))).trans (hHeld.2.2.2.2.2.2.2.2))
       refine ⟨_, rfl, ?_⟩
       (replace HO_10 := Za.mk (Kd.R_below (by (with_reducible repeat (first | apply Kd.R_alloc | apply Kd.R_drewN | apply Kd.R_drew)); exact HO_10.out) hb)); (replace HO_297002 := Za.mk (Kd.S_below (by (with_reducible repeat (first | apply Kd.S_alloc | apply Kd.S_drewN | apply Kd.S_drew)); exact HO_297002.out) hb)); (replace HL298_0 := Za.mk (Kd.R_below (by (with_reducible repeat (first | apply Kd.R_alloc | apply Kd.R_drewN | apply Kd.R_drew)); exact HL298_0.out) hb)); (replace HL300_0 := Za.mk (Kd.R_below (by (with_reducible repeat (first | apply Kd.R_alloc | apply Kd.R_drewN | apply Kd.R_drew)); exact HL300_0.out) hb)); (replace BK287 := Za.mk (Zh (g := gb287) (by (with_reducible repeat (first | apply zb3 | apply zb2 | apply zb1)); exact BK287.out) hb)); (replace BK288 := Za.mk (Zh (g := gb288) (by (with_reducible repeat (first | apply zb3 | apply zb2 | apply zb1)); exact BK288.out) hb)); (replace BK296 := Za.mk (Zh (g := gb296) (by (with_reducible repeat (first | apply zb3 | apply zb2 | apply zb1)); exact BK296.out) hb)); (replace HR298_0 := Za.mk (Kd.C_below (by repeat (first | (with_reducible exact HR298_0.out) | (with_reducible refine Kd.C_alloc ?_ _) | (with_reducible refine Kd.C_drewN ?_ _) | (with_reducible refine Kd.C_drew ?_) | exact HR298_0.out)) hb)); (replace HR300_0 := Za.mk (Kd.C_below (by repeat (first | (with_reducible exact HR300_0.out) | (with_reducible refine Kd.C_alloc ?_ _) | (with_reducible refine Kd.C_drewN ?_ _) | (with_reducible refine Kd.C_drew ?_) | exact HR300_0.out)) hb))
       (replace HB := Za.mk (Zn (by repeat (first | (with_reducible first | exact HB.out | apply zc1 | apply zc2 | apply zc3 | refine zc4 ?_ (by assumption)) | exact HB.out)) hb)); ((try clear hb)); ((try clear hb2)); ((try clear hk)); ((try clear hi))
       refine hK.out _ _ ⟨(Zb BK296.out 0).trans rfl, (Zb BK296.out 1).trans rfl, (Zb BK296.out 2).trans rfl, (Zb BK296.out 3).trans rfl, (Zb BK296.out 4).trans rfl, HS5_, HS6_, HS7_, HS8_⟩ (fun hHeld => ?_)
       clear hK K
       refine norm_ (a' := ?_) ?_ ?_
       rotate_left
       ·show Act.put _ (some 57) _ = _
        simp only [Act.put, List.setIfInBounds_toArray, List.set_cons_zero, List.set_cons_succ, Zf, Ze]
        rfl
       refine pure_ (i := 20) (N := some 58) (v := ?_) (a' := ?_) #[true, true, true, true, true, true, true, true, true, true, true, true, true, true, true, true, true, true, true, true, true] rfl rfl (Zp HT_.out (by kernel_rfl)) (fun _ _ _ h => h) (Or.inl ⟨by rfl, ?_⟩) ?_ ?_
       rotate_left
       ·intro w'
        go_simp
        with_reducible rfl
       rotate_left
       ·simp only [Act.put, List.setIfInBounds_toArray, List.set_cons_zero, List.set_cons_succ, Zf, Ze]
        rfl
       refine done_ (done_of HT_.out (by kernel_rfl)) ?_
       try go_wp2_with (first | ((with_reducible refine gate_builtin (b := .append) (xs := #[.tmp 61, .tmp 63]) rfl ?_); at_builtin; refine Kd.R_append (Kd.int .i64) (w0 := w) w.heap.size rfl (.tmp 61) (.tmp 63) 36 3 (.int .i64 0) 8 rfl Try.underlying36 info3 rfl (by decide) (by omega) u10 x10_2 x11_3 [.int .i64 x11_3] (fun _ => True) (fun _ => False) rfl rfl ?aP (fun _ hk => hk.elim) ?aF ?aO ?aB ?aS ?aL ?_; (case aP => exact rfl); (case aB => exact (by repeat (first | (with_reducible first | exact HB.out | apply zc1 | apply zc2 | apply zc3 | refine zc4 ?_ (by assumption)) | exact HB.out))); (case aF => exact (fun _ _ => trivial)); (case aO => exact (by (with_reducible repeat (first | apply Kd.R_alloc | apply Kd.R_drewN | apply Kd.R_drew)); exact HO_10.out)); (case aS => exact (Zi (by repeat (first | (with_reducible first | exact HB.out | apply zc1 | apply zc2 | apply zc3 | refine zc4 ?_ (by assumption)) | exact HB.out)))); (case aL => have := LMc33.out; omega); intro v304 w36 ho hb hg hat; rw [← Ny303.out] at ho; replace HO_297002 := Za.mk (Kd.S_after (ok := (fun _ => True)) (by (with_reducible repeat (first | apply Kd.S_alloc | apply Kd.S_drewN | apply Kd.S_drew)); exact Kd.S_mono HO_297002.out (fun _ hk => ⟨trivial, hk⟩)) hg hat); replace BK287 := Za.mk (Zb1 (g := gb287) (by (with_reducible repeat (first | apply zb3 | apply zb2 | apply zb1)); exact BK287.out) hg (Kd.R_ne HO_10.out BK287.out (by decide))); replace BK288 := Za.mk (Zb1 (g := gb288) (by (with_reducible repeat (first | apply zb3 | apply zb2 | apply zb1)); exact BK288.out) hg (Kd.R_ne HO_10.out BK288.out (by decide))); replace BK296 := Za.mk (Zb1 (g := gb296) (by (with_reducible repeat (first | apply zb3 | apply zb2 | apply zb1)); exact BK296.out) hg (Kd.R_ne HO_10.out BK296.out (by decide))); replace HL298_0 := Za.mk (Kd.R_after (ok := (fun k_ => some k_ ≠ (.slice (some ad298) t291.length co14 : Value).ownBlock)) (by (with_reducible repeat (first | apply Kd.R_alloc | apply Kd.R_drewN | apply Kd.R_drew)); exact Kd.R_mono HL298_0.out (fun _ hk => ⟨hk.2, hk.1⟩)) hg hat); replace HL300_0 := Za.mk (Kd.R_after (ok := (fun k_ => some k_ ≠ (.slice (some ad298) t291.length co14 : Value).ownBlock)) (by (with_reducible repeat (first | apply Kd.R_alloc | apply Kd.R_drewN | apply Kd.R_drew)); exact Kd.R_mono HL300_0.out (fun _ hk => ⟨hk.2, hk.1⟩)) hg hat); replace HB := Za.mk (hb); have HO305 := Za.mk (ho); clear HO_10; clear ho hb hg hat; have hnb37 := NB296_287.out; have hnc37 := NB287_296.out; have hnb38 := NB296_288.out; have hnc38 := NB288_296.out; have hcz39_0 : w36.cell? ⟨gb296, 0, none⟩ = some (.int .i64 t289) := (Zb BK296.out 0).trans rfl; have hcz39_1 : w36.cell? ⟨gb296, 1, none⟩ = some (.int .i64 t290) := (Zb BK296.out 1).trans rfl; have hcz39_2 : w36.cell? ⟨gb296, 2, none⟩ = some (.slice (some ad298) t291.length co14) := (Zb BK296.out 2).trans rfl; have hcz39_3 : w36.cell? ⟨gb296, 3, none⟩ = some (.int .i64 t294) := (Zb BK296.out 3).trans rfl; have hcz39_4 : w36.cell? ⟨gb296, 4, none⟩ = some (.int .u32 t295) := (Zb BK296.out 4).trans rfl; have hfz39_0 := Zc BK296.out 0; have hfz39_1 := Zc BK296.out 1; have hfz39_2 := Zc BK296.out 2; have hfz39_3 := Zc BK296.out 3; have hfz39_4 := Zc BK296.out 4; have p306 : 0 ≤ (x7_2 : Int) := of_decide_eq_true (by assumption); have q306 : x7_2 < (t291.length : Int) := of_decide_eq_true (by assumption); obtain ⟨ad306, A306_0, c306_0, e306, hx306_0, hl306_0, hi306_0⟩ := at_L2 (Kd.S_reads' HO_297002.out).2.2 x7_2 p306 q306; obtain rfl : ad298 = ad306 := (by injection e306); obtain ⟨ce306, hce306, hMe306, hcc306⟩ := Kd.S_get HO_297002.out [] x7_2 p306 (by first | exact q306 | exact of_decide_eq_true (by assumption) | (have e_ := (Kd.S_reads' HO_297002.out).1; omega)); obtain ⟨ve306_0, rfl, ge306_0⟩ := hMe306; have hv306_0 := hcc306 0 _ rfl; rw [Nat.add_zero, show ((Kd.slice 3 (Kd.int .i64))).sz = 1 from rfl, Nat.mul_one] at hv306_0; replace hv306_0 := Option.some.inj (hv306_0.symm.trans hx306_0); rw [hv306_0] at ge306_0; have HL306_0 := Za.mk (show Kd.R (Kd.int .i64) 3 _ _ _ _ (Zd t291 x7_2) from ge306_0); clear hv306_0 ge306_0; clear hcc306 hce306; have HR306_0 := Za.mk hi306_0; have HC306_0 := Za.mk hl306_0; clear hi306_0 hl306_0; replace p306 := eq_true p306; replace q306 := eq_true q306; have p307 : 0 ≤ (x11_3 : Int) := of_decide_eq_true (by assumption); have q307 : x11_3 < ((Zd t291 x7_2).length : Int) := of_decide_eq_true (by assumption); obtain ⟨ad307, e307, hx307_0⟩ := Kd.at_int (by repeat (first | (with_reducible exact HR306_0.out) | (with_reducible refine Kd.C_alloc ?_ _) | (with_reducible refine Kd.C_drewN ?_ _) | (with_reducible refine Kd.C_drew ?_) | exact HR306_0.out)) x11_3 p307 q307; cases e307; replace p307 := eq_true p307; replace q307 := eq_true q307; have p308 : 0 ≤ (x8_2 : Int) := of_decide_eq_true (by assumption); have q308 : x8_2 < (t291.length : Int) := of_decide_eq_true (by assumption); obtain ⟨ad308, A308_0, c308_0, e308, hx308_0, hl308_0, hi308_0⟩ := at_L2 (Kd.S_reads' HO_297002.out).2.2 x8_2 p308 q308; obtain rfl : ad298 = ad308 := (by injection e308); obtain ⟨ce308, hce308, hMe308, hcc308⟩ := Kd.S_get HO_297002.out [] x8_2 p308 (by first | exact q308 | exact of_decide_eq_true (by assumption) | (have e_ := (Kd.S_reads' HO_297002.out).1; omega)); obtain ⟨ve308_0, rfl, ge308_0⟩ := hMe308; have hv308_0 := hcc308 0 _ rfl; rw [Nat.add_zero, show ((Kd.slice 3 (Kd.int .i64))).sz = 1 from rfl, Nat.mul_one] at hv308_0; replace hv308_0 := Option.some.inj (hv308_0.symm.trans hx308_0); rw [hv308_0] at ge308_0; have HL308_0 := Za.mk (show Kd.R (Kd.int .i64) 3 _ _ _ _ (Zd t291 x8_2) from ge308_0); clear hv308_0 ge308_0; clear hcc308 hce308; have HR308_0 := Za.mk hi308_0; have HC308_0 := Za.mk hl308_0; clear hi308_0 hl308_0; replace p308 := eq_true p308; replace q308 := eq_true q308; have p309 : 0 ≤ (x11_3 : Int) := of_decide_eq_true (by assumption); have q309 : x11_3 < ((Zd t291 x8_2).length : Int) := of_decide_eq_true (by assumption); obtain ⟨ad309, e309, hx309_0⟩ := Kd.at_int (by repeat (first | (with_reducible exact HR308_0.out) | (with_reducible refine Kd.C_alloc ?_ _) | (with_reducible refine Kd.C_drewN ?_ _) | (with_reducible refine Kd.C_drew ?_) | exact HR308_0.out)) x11_3 p309 q309; cases e309; replace p309 := eq_true p309; replace q309 := eq_true q309))
       go_roundg k3
       case measure => have := HK1.out; have := HK2.out; have := HK3.out; omega
       case rel => exact ⟨(rd (Zd t291 x7_2) x11_3), (rd (Zd t291 x8_2) x11_3), (wrap64 (x9_2 - 1)), (y303), (by first | rfl | (simp; done) | (simp [*]; done)), (by first | rfl | (simp; done) | (simp [*]; done)), (by first | rfl | (simp; done) | (simp [*]; done)), H', ⟨by have := HK1.out; have := HK2.out; have := HK3.out; omega⟩, ⟨by (with_reducible repeat (first | apply Kd.R_alloc | apply Kd.R_drewN | apply Kd.R_drew)); exact HO305.out⟩, ⟨by (with_reducible repeat (first | apply Kd.S_alloc | apply Kd.S_drewN | apply Kd.S_drew)); exact Kd.S_mono HO_297002.out (fun _ hk => hk.2)⟩, ⟨by (with_reducible repeat (first | apply zb3 | apply zb2 | apply zb1)); exact BK287.out⟩, ⟨by (with_reducible repeat (first | apply zb3 | apply zb2 | apply zb1)); exact BK288.out⟩, ⟨by (with_reducible repeat (first | apply zb3 | apply zb2 | apply zb1)); exact BK296.out⟩, ⟨by repeat (first | (with_reducible first | exact HB.out | apply zc1 | apply zc2 | apply zc3 | refine zc4 ?_ (by assumption)) | exact HB.out)⟩⟩
end Go.Proofs.Ytcfodnildhhocaa.PLeastSames
