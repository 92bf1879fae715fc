-- Printed by a turn of a template of the kit, and shortened: remarks and what nothing here uses are left out.
import Derived.Test.YtdoenjnjpenboaaQPLeastApartsx0
import Derived.Test.YtdoenjnjpenboaaQPLeastApartsx7
import Derived.Test.YtdoenjnjpenboaaQPLeastApartsx8
namespace Go.Proofs.Ytdoenjnjpenboaa.PLeastAparts
open Go.RowKit Go.Proofs.YtdoenjnjpenboaaW.PrintWords Go.Proofs.YtdoenjnjpenboaaW.PrintLast Go.Proofs.YtdoenjnjpenboaaW.PrintMore
attribute [local go_sem] max2_int min2_int max_two min_two max_three min_three max_four min_four
set_option linter.unusedVariables false
set_option linter.unusedSimpArgs false
mutual
def Zu.l0 : Nat → Int → Int → Int → Int → Int → List (List Int) → Int → Int → Option (List Int × Bool)
  | 0, _, _, _, _, _, _, _, _ => none
  | k + 1, x7, x8, x9, x232000, x232001, x232002, x232003, x232004 => (Zh.f k x232000 x232001 x232002 x232003 x232004 x9 x7 x8).bind fun t232 => (if t232 = true then (Zu.l1 k x7 x8 x9 ([] : List Int) x232000 x232001 x232002 x232003 x232004) else (if (wrap64 (x9 + 1)) > x232000 then (some (([] : List Int), false)) else (Zu.l0 k x7 x8 (wrap64 (x9 + 1)) x232000 x232001 x232002 x232003 x232004)))
def Zu.l1 : Nat → Int → Int → Int → List Int → Int → Int → List (List Int) → Int → Int → Option (List Int × Bool)
  | 0, _, _, _, _, _, _, _, _, _ => none
  | k + 1, x7, x8, x9, x10, x232000, x232001, x232002, x232003, x232004 => if x9 > 0 then (Zu.l2 k x7 x8 x9 x10 0 x232000 x232001 x232002 x232003 x232004) else (some (x10, true))
def Zu.l2 : Nat → Int → Int → Int → List Int → Int → Int → Int → List (List Int) → Int → Int → Option (List Int × Bool)
  | 0, _, _, _, _, _, _, _, _, _, _ => none
  | k + 1, x7, x8, x9, x10, x11, x232000, x232001, x232002, x232003, x232004 => if 0 ≤ x7 then (if x7 < (x232002.length : Int) then (if 0 ≤ x11 then (if x11 < ((Zd x232002 x7).length : Int) then (if 0 ≤ x8 then (if x8 < (x232002.length : Int) then (if x11 < ((Zd x232002 x8).length : Int) then ((Zh.f k x232000 x232001 x232002 x232003 x232004 (wrap64 (x9 - 1)) (rd (Zd x232002 x7) x11) (rd (Zd x232002 x8) x11)).bind fun t237 => (if t237 = true then (if x10.length < 17592186044416 then (Zu.l1 k (rd (Zd x232002 x7) x11) (rd (Zd x232002 x8) x11) (wrap64 (x9 - 1)) (x10 ++ [x11]) x232000 x232001 x232002 x232003 x232004) else (none)) else (Zu.l2 k x7 x8 x9 x10 (wrap64 (x11 + 1)) x232000 x232001 x232002 x232003 x232004))) else (none)) else (none)) else (none)) else (none)) else (none)) else (none)) else (none)
end
def Zu.f (k : Nat) (a0_0 : Int) (a0_1 : Int) (l0_2 : List (List Int)) (a0_3 : Int) (a0_4 : Int) (a1_0 : Int) (a1_1 : Int) (l1_2 : List (List Int)) (a1_3 : Int) (a1_4 : Int) : Option (List Int × Bool) := (Zx.f k a0_0 a0_1 l0_2 a0_3 a0_4 a1_0 a1_1 l1_2 a1_3 a1_4).bind fun bt224 => (Zu.l0 k a0_3 (wrap64 (a0_0 + a1_3)) 0 bt224.1 bt224.2.1 bt224.2.2.1 bt224.2.2.2.1 bt224.2.2.2.2)
theorem Zu.mono_l : ∀ k, (∀ y0 y1 y2 y3 y4 y5 y6 y7, LeO (Zu.l0 k y0 y1 y2 y3 y4 y5 y6 y7) (Zu.l0 (k + 1) y0 y1 y2 y3 y4 y5 y6 y7)) ∧ (∀ y0 y1 y2 y3 y4 y5 y6 y7 y8, LeO (Zu.l1 k y0 y1 y2 y3 y4 y5 y6 y7 y8) (Zu.l1 (k + 1) y0 y1 y2 y3 y4 y5 y6 y7 y8)) ∧ (∀ y0 y1 y2 y3 y4 y5 y6 y7 y8 y9, LeO (Zu.l2 k y0 y1 y2 y3 y4 y5 y6 y7 y8 y9) (Zu.l2 (k + 1) y0 y1 y2 y3 y4 y5 y6 y7 y8 y9))
  | 0 => ⟨fun _ _ _ _ _ _ _ _ r h => by simp [Zu.l0] at h, fun _ _ _ _ _ _ _ _ _ r h => by simp [Zu.l1] at h, fun _ _ _ _ _ _ _ _ _ _ r h => by simp [Zu.l2] at h⟩
  | k + 1 => by
    obtain ⟨ih0, ih1, ih2⟩ := Zu.mono_l k
    refine ⟨?_, ?_, ?_⟩
    · intro y0 y1 y2 y3 y4 y5 y6 y7
      unfold Zu.l0
      repeat' first
      | (with_reducible exact ih0 _ _ _ _ _ _ _ _)
      | (with_reducible exact ih1 _ _ _ _ _ _ _ _ _)
      | (with_reducible exact ih2 _ _ _ _ _ _ _ _ _ _)
      | (with_reducible exact Zx.mono _ _ _ _ _ _ _ _ _ _ _)
      | (with_reducible exact Zh.mono _ _ _ _ _ _ _ _ _)
      | (with_reducible exact LeO.refl _)
      | (with_reducible exact LeO.none _)
      | (with_reducible refine LeO.ite ?_ ?_)
      | (with_reducible refine LeO.bind ?_ (fun _ => ?_))
      | exact ih0 _ _ _ _ _ _ _ _
      | exact ih1 _ _ _ _ _ _ _ _ _
      | exact ih2 _ _ _ _ _ _ _ _ _ _
      | exact Zx.mono _ _ _ _ _ _ _ _ _ _ _
      | exact Zh.mono _ _ _ _ _ _ _ _ _
      | exact LeO.none _
      | refine LeO.ite ?_ ?_
      | refine LeO.bind ?_ (fun _ => ?_)
    · intro y0 y1 y2 y3 y4 y5 y6 y7 y8
      unfold Zu.l1
      repeat' first
      | (with_reducible exact ih0 _ _ _ _ _ _ _ _)
      | (with_reducible exact ih1 _ _ _ _ _ _ _ _ _)
      | (with_reducible exact ih2 _ _ _ _ _ _ _ _ _ _)
      | (with_reducible exact Zx.mono _ _ _ _ _ _ _ _ _ _ _)
      | (with_reducible exact Zh.mono _ _ _ _ _ _ _ _ _)
      | (with_reducible exact LeO.refl _)
      | (with_reducible exact LeO.none _)
      | (with_reducible refine LeO.ite ?_ ?_)
      | (with_reducible refine LeO.bind ?_ (fun _ => ?_))
      | exact ih0 _ _ _ _ _ _ _ _
      | exact ih1 _ _ _ _ _ _ _ _ _
      | exact ih2 _ _ _ _ _ _ _ _ _ _
      | exact Zx.mono _ _ _ _ _ _ _ _ _ _ _
      | exact Zh.mono _ _ _ _ _ _ _ _ _
      | exact LeO.none _
      | refine LeO.ite ?_ ?_
      | refine LeO.bind ?_ (fun _ => ?_)
    · intro y0 y1 y2 y3 y4 y5 y6 y7 y8 y9
      unfold Zu.l2
      repeat' first
      | (with_reducible exact ih0 _ _ _ _ _ _ _ _)
      | (with_reducible exact ih1 _ _ _ _ _ _ _ _ _)
      | (with_reducible exact ih2 _ _ _ _ _ _ _ _ _ _)
      | (with_reducible exact Zx.mono _ _ _ _ _ _ _ _ _ _ _)
      | (with_reducible exact Zh.mono _ _ _ _ _ _ _ _ _)
      | (with_reducible exact LeO.refl _)
      | (with_reducible exact LeO.none _)
      | (with_reducible refine LeO.ite ?_ ?_)
      | (with_reducible refine LeO.bind ?_ (fun _ => ?_))
      | exact ih0 _ _ _ _ _ _ _ _
      | exact ih1 _ _ _ _ _ _ _ _ _
      | exact ih2 _ _ _ _ _ _ _ _ _ _
      | exact Zx.mono _ _ _ _ _ _ _ _ _ _ _
      | exact Zh.mono _ _ _ _ _ _ _ _ _
      | exact LeO.none _
      | refine LeO.ite ?_ ?_
      | refine LeO.bind ?_ (fun _ => ?_)
theorem Zu.mono : ∀ a0 a1 a2 a3 a4 a5 a6 a7 a8 a9 k, LeO (Zu.f k a0 a1 a2 a3 a4 a5 a6 a7 a8 a9) (Zu.f (k + 1) a0 a1 a2 a3 a4 a5 a6 a7 a8 a9) := by
  intro a0 a1 a2 a3 a4 a5 a6 a7 a8 a9 k
  obtain ⟨ih0, ih1, ih2⟩ := Zu.mono_l k
  unfold Zu.f
  repeat' first
      | (with_reducible exact ih0 _ _ _ _ _ _ _ _)
      | (with_reducible exact ih1 _ _ _ _ _ _ _ _ _)
      | (with_reducible exact ih2 _ _ _ _ _ _ _ _ _ _)
      | (with_reducible exact Zx.mono _ _ _ _ _ _ _ _ _ _ _)
      | (with_reducible exact Zh.mono _ _ _ _ _ _ _ _ _)
      | (with_reducible exact LeO.refl _)
      | (with_reducible exact LeO.none _)
      | (with_reducible refine LeO.ite ?_ ?_)
      | (with_reducible refine LeO.bind ?_ (fun _ => ?_))
      | exact ih0 _ _ _ _ _ _ _ _
      | exact ih1 _ _ _ _ _ _ _ _ _
      | exact ih2 _ _ _ _ _ _ _ _ _ _
      | exact Zx.mono _ _ _ _ _ _ _ _ _ _ _
      | exact Zh.mono _ _ _ _ _ _ _ _ _
      | exact LeO.none _
      | refine LeO.ite ?_ ?_
      | refine LeO.bind ?_ (fun _ => ?_)
def Zu.T13 : Bool × List (List Nat × List Nat) := (true, [([], []), ([], []), ([1], [1]), ([], []), ([3], [3]), ([], []), ([4, 5], [4, 5]), ([6], [6]), ([], []), ([7, 8], [7, 8]), ([9], [9]), ([], []), ([11], [11]), ([], []), ([12, 13], [12, 13]), ([14], [14]), ([], []), ([15, 16], [15, 16]), ([17], [17]), ([0, 2, 10, 18], [0, 2, 10, 18]), ([19], [19])])
def Zu.B13 : List Nat := [0, 0, 2, 0, 8, 0, 56, 120, 0, 504, 1016, 0, 2048, 0, 14336, 30720, 0, 129024, 260096, 524287, 1048575]
theorem Zu.tab13 : rtab .any (opsOf Try.f6 13) = Zu.T13 := by kernel_rfl
theorem Zu.bits13 : waitsOk Zu.T13.2 Zu.B13 = true := by kernel_rfl
set_option maxHeartbeats 8000000 in
set_option maxRecDepth 100000 in
theorem Zu.calls (k : Nat) (a0_0 : Int) (a0_1 : Int) (A0_2 : Option Addr) (c0_2 : Nat) (l0_2 : List (List Int)) (a0_3 : Int) (a0_4 : Int) (a1_0 : Int) (a1_1 : Int) (A1_2 : Option Addr) (c1_2 : Nat) (l1_2 : List (List Int)) (a1_3 : Int) (a1_4 : Int) (r1 : List Int) (r2 : Bool) (w : World) (hr0_2 : Kd.C (Kd.slice 3 (Kd.int .i64)) w A0_2 l0_2.length l0_2) (hc0_2 : l0_2.length ≤ c0_2) (hr1_2 : Kd.C (Kd.slice 3 (Kd.int .i64)) w A1_2 l1_2.length l1_2) (hc1_2 : l1_2.length ≤ c1_2) (h : Zu.f k a0_0 a0_1 l0_2 a0_3 a0_4 a1_0 a1_1 l1_2 a1_3 a1_4 = some (r1, r2)) :
    Calls Try.prog 6 #[.agg #[.int .i64 a0_0, .int .i64 a0_1, .slice A0_2 l0_2.length c0_2, .int .i64 a0_3, .int .u32 a0_4], .agg #[.int .i64 a1_0, .int .i64 a1_1, .slice A1_2 l1_2.length c1_2, .int .i64 a1_3, .int .u32 a1_4]] w fun e w' => ∃ v0_ : Value, e = .returned (.tuple #[v0_, .bool r2]) ∧ Kd.R (Kd.int .i64) 3 w' w.heap.size (fun _ => True) v0_ r1 ∧ Below w.heap.size w w' := by
 (have hu25 := Try.underlying25); (have hu26 := Try.underlying26); (have HR0_2 := Za.mk hr0_2); (have HC0_2 := Za.mk hc0_2); (clear hr0_2 hc0_2); (have HR1_2 := Za.mk hr1_2); (have HC1_2 := Za.mk hc1_2); (clear hr1_2 hc1_2); (have HB := Za.mk (Below.refl w.heap.size w)); (have H : ((Zx.f k a0_0 a0_1 l0_2 a0_3 a0_4 a1_0 a1_1 l1_2 a1_3 a1_4).bind fun bt224 => (Zu.l0 k a0_3 (wrap64 (a0_0 + a1_3)) 0 bt224.1 bt224.2.1 bt224.2.2.1 bt224.2.2.2.1 bt224.2.2.2.2)) = some (r1, r2) := h); (clear h); (replace H := Option.bind_eq_some_iff.mp H); (obtain ⟨⟨t224, t225, t226, t229, t230⟩, A30, H⟩ := H); (replace H : (Zu.l0 k a0_3 (wrap64 (a0_0 + a1_3)) 0 t224 t225 t226 t229 t230) = some (r1, r2) := H); (have A3 := Za.mk A30); (clear A30); (have H' := Za.mk H); (clear H)
 go_enter Try.func6, Try.ntmps6
 go_wp2_with (first | ((with_reducible refine Zc1 (N := 2) rfl ?_); refine Zd1 ?hg (N := 2) ?hd (cs := #[.int .i64 a0_0, .int .i64 a0_1, .slice A0_2 l0_2.length c0_2, .int .i64 a0_3, .int .u32 a0_4]) (t := 25) ?hr ?_; (case hd => rfl); (case hg => rfl); (case hr => first | (go_simp; done) | (go_simp; rfl)); intro gb222 hg w4 hbox hb; have BK222 := Za.mk (hbox); have GW222 := Za.mk ((by rw [hg]; exact (Zk (by repeat (first | (with_reducible first | exact HB.out | apply zc1 | apply zc2 | apply zc3) | exact HB.out))) : w.heap.size ≤ gb222)); have GE222 := Za.mk ((by rw [hg]; exact (Zk (by repeat (first | (with_reducible first | exact HB.out | apply zc1 | apply zc2 | apply zc3) | exact HB.out))) : w.heap.size ≤ gb222)); replace HB := Za.mk (Zm (by repeat (first | (with_reducible first | exact HB.out | apply zc1 | apply zc2 | apply zc3) | exact HB.out)) hb); clear hb hbox hg) | ((with_reducible refine Zc1 (N := 3) rfl ?_); refine Zd1 ?hg (N := 3) ?hd (cs := #[.int .i64 a1_0, .int .i64 a1_1, .slice A1_2 l1_2.length c1_2, .int .i64 a1_3, .int .u32 a1_4]) (t := 25) ?hr ?_; (case hd => rfl); (case hg => rfl); (case hr => first | (go_simp; done) | (go_simp; rfl)); intro gb223 hg w5 hbox hb; have BK223 := Za.mk (hbox); have GW223 := Za.mk ((by rw [hg]; exact (Zk (by repeat (first | (with_reducible first | exact HB.out | apply zc1 | apply zc2 | apply zc3 | refine zc4 ?_ (by assumption)) | exact HB.out))) : w.heap.size ≤ gb223)); have GE223 := Za.mk ((by rw [hg]; exact (Zk (by repeat (first | (with_reducible first | exact HB.out | apply zc1 | apply zc2 | apply zc3 | refine zc4 ?_ (by assumption)) | exact HB.out))) : w.heap.size ≤ gb223)); replace HB := Za.mk (Zm (by repeat (first | (with_reducible first | exact HB.out | apply zc1 | apply zc2 | apply zc3 | refine zc4 ?_ (by assumption)) | exact HB.out)) hb); have NB222_223 := Za.mk ((by rw [hg]; exact Nat.ne_of_lt (Zs (g := gb222) (o := .cells #[.int .i64 a0_0, .int .i64 a0_1, .slice A0_2 l0_2.length c0_2, .int .i64 a0_3, .int .u32 a0_4] 25 (0, 0)) (by (with_reducible repeat (first | apply zb3 | apply zb2 | apply zb1)); exact BK222.out)) : gb222 ≠ gb223)); have NB223_222 := Za.mk ((by rw [hg]; exact Nat.ne_of_gt (Zs (g := gb222) (o := .cells #[.int .i64 a0_0, .int .i64 a0_1, .slice A0_2 l0_2.length c0_2, .int .i64 a0_3, .int .u32 a0_4] 25 (0, 0)) (by (with_reducible repeat (first | apply zb3 | apply zb2 | apply zb1)); exact BK222.out)) : gb223 ≠ gb222)); replace BK222 := Za.mk (Zi (g := gb222) (by (with_reducible repeat (first | apply zb3 | apply zb2 | apply zb1)); exact BK222.out) hb); clear hb hbox hg; have hnb6 := NB222_223.out; have hnc6 := NB223_222.out; have hcz7_0 : w5.cell? ⟨gb222, 0, none⟩ = some (.int .i64 a0_0) := (Zb BK222.out 0).trans rfl; have hcz7_1 : w5.cell? ⟨gb222, 1, none⟩ = some (.int .i64 a0_1) := (Zb BK222.out 1).trans rfl; have hcz7_2 : w5.cell? ⟨gb222, 2, none⟩ = some (.slice A0_2 l0_2.length c0_2) := (Zb BK222.out 2).trans rfl; have hcz7_3 : w5.cell? ⟨gb222, 3, none⟩ = some (.int .i64 a0_3) := (Zb BK222.out 3).trans rfl; have hcz7_4 : w5.cell? ⟨gb222, 4, none⟩ = some (.int .u32 a0_4) := (Zb BK222.out 4).trans rfl; have hfz7_0 := Zc BK222.out 0; have hfz7_1 := Zc BK222.out 1; have hfz7_2 := Zc BK222.out 2; have hfz7_3 := Zc BK222.out 3; have hfz7_4 := Zc BK222.out 4; have hcz8_0 : w5.cell? ⟨gb223, 0, none⟩ = some (.int .i64 a1_0) := (Zb BK223.out 0).trans rfl; have hcz8_1 : w5.cell? ⟨gb223, 1, none⟩ = some (.int .i64 a1_1) := (Zb BK223.out 1).trans rfl; have hcz8_2 : w5.cell? ⟨gb223, 2, none⟩ = some (.slice A1_2 l1_2.length c1_2) := (Zb BK223.out 2).trans rfl; have hcz8_3 : w5.cell? ⟨gb223, 3, none⟩ = some (.int .i64 a1_3) := (Zb BK223.out 3).trans rfl; have hcz8_4 : w5.cell? ⟨gb223, 4, none⟩ = some (.int .u32 a1_4) := (Zb BK223.out 4).trans rfl; have hfz8_0 := Zc BK223.out 0; have hfz8_1 := Zc BK223.out 1; have hfz8_2 := Zc BK223.out 2; have hfz8_3 := Zc BK223.out 3; have hfz8_4 := Zc BK223.out 4) | ((with_reducible refine Ze1 (f := 11) rfl ?_); refine goesL_ (some 14) rfl rfl Try.func11 (by kernel_rfl) rfl #[.agg #[.int .i64 a0_0, .int .i64 a0_1, .slice A0_2 l0_2.length c0_2, .int .i64 a0_3, .int .u32 a0_4], .agg #[.int .i64 a1_0, .int .i64 a1_1, .slice A1_2 l1_2.length c1_2, .int .i64 a1_3, .int .u32 a1_4]] rfl (by (try simp only [List.map_toArray, List.map_cons, List.map_nil]); first | done | rfl | (simp only [List.length_drop, List.length_take]; rfl)) ?_; (with_reducible refine (Zx.calls k a0_0 a0_1 _ _ l0_2 a0_3 a0_4 a1_0 a1_1 _ _ l1_2 a1_3 a1_4 t224 t225 t226 t229 t230 _ ?side1 ?side2 ?side3 ?side4 A3.out).mono ?_); (case side1 => repeat (first | exact (Kd.C_below HR0_2.out HB.out) | (with_reducible refine Kd.C_alloc ?_ _) | (with_reducible refine Kd.C_drewN ?_ _) | (with_reducible refine Kd.C_drew ?_))); (case side2 => exact HC0_2.out); (case side3 => repeat (first | exact (Kd.C_below HR1_2.out HB.out) | (with_reducible refine Kd.C_alloc ?_ _) | (with_reducible refine Kd.C_drewN ?_ _) | (with_reducible refine Kd.C_drew ?_))); (case side4 => exact HC1_2.out); rintro e w9 ⟨v227, rfl, ho0, hb⟩; refine ⟨_, rfl, ?_⟩; have HO228 := Za.mk (Kd.S_lower ho0 (Zk (by repeat (first | (with_reducible first | exact HB.out | apply zc1 | apply zc2 | apply zc3 | refine zc4 ?_ (by assumption)) | exact HB.out)))); replace BK222 := Za.mk (Zi (g := gb222) (by (with_reducible repeat (first | apply zb3 | apply zb2 | apply zb1)); exact BK222.out) hb); replace BK223 := Za.mk (Zi (g := gb223) (by (with_reducible repeat (first | apply zb3 | apply zb2 | apply zb1)); exact BK223.out) hb); replace HB := Za.mk (Zm (by repeat (first | (with_reducible first | exact HB.out | apply zc1 | apply zc2 | apply zc3 | refine zc4 ?_ (by assumption)) | exact HB.out)) hb); (try clear hb); (try clear hb2); (try clear hk); (try clear hi); (try clear ho0)) | ((with_reducible refine Zc1 (N := 6) rfl ?_); refine Zd1 ?hg (N := 6) ?hd (cs := #[.int .i64 0, .int .i64 0, .slice none 0 0, .int .i64 0, .int .u32 0]) (t := 25) ?hr ?_; (case hd => rfl); (case hg => rfl); (case hr => first | (go_simp; done) | (go_simp; rfl)); intro gb231 hg w10 hbox hb; replace HO228 := Za.mk (Kd.S_below (by (with_reducible repeat (first | apply Kd.S_alloc | apply Kd.S_drewN | apply Kd.S_drew)); exact HO228.out) hb); have BK231 := Za.mk (hbox); have GW231 := Za.mk ((by rw [hg]; exact (Zk (by repeat (first | (with_reducible first | exact HB.out | apply zc1 | apply zc2 | apply zc3 | refine zc4 ?_ (by assumption)) | exact HB.out))) : w.heap.size ≤ gb231)); have GE231 := Za.mk ((by rw [hg]; exact (Zk (by repeat (first | (with_reducible first | exact HB.out | apply zc1 | apply zc2 | apply zc3 | refine zc4 ?_ (by assumption)) | exact HB.out))) : w.heap.size ≤ gb231)); replace HB := Za.mk (Zm (by repeat (first | (with_reducible first | exact HB.out | apply zc1 | apply zc2 | apply zc3 | refine zc4 ?_ (by assumption)) | exact HB.out)) hb); have NB222_231 := Za.mk ((by rw [hg]; exact Nat.ne_of_lt (Zs (g := gb222) (o := .cells #[.int .i64 a0_0, .int .i64 a0_1, .slice A0_2 l0_2.length c0_2, .int .i64 a0_3, .int .u32 a0_4] 25 (0, 0)) (by (with_reducible repeat (first | apply zb3 | apply zb2 | apply zb1)); exact BK222.out)) : gb222 ≠ gb231)); have NB231_222 := Za.mk ((by rw [hg]; exact Nat.ne_of_gt (Zs (g := gb222) (o := .cells #[.int .i64 a0_0, .int .i64 a0_1, .slice A0_2 l0_2.length c0_2, .int .i64 a0_3, .int .u32 a0_4] 25 (0, 0)) (by (with_reducible repeat (first | apply zb3 | apply zb2 | apply zb1)); exact BK222.out)) : gb231 ≠ gb222)); replace BK222 := Za.mk (Zi (g := gb222) (by (with_reducible repeat (first | apply zb3 | apply zb2 | apply zb1)); exact BK222.out) hb); have NB223_231 := Za.mk ((by rw [hg]; exact Nat.ne_of_lt (Zs (g := gb223) (o := .cells #[.int .i64 a1_0, .int .i64 a1_1, .slice A1_2 l1_2.length c1_2, .int .i64 a1_3, .int .u32 a1_4] 25 (0, 0)) (by (with_reducible repeat (first | apply zb3 | apply zb2 | apply zb1)); exact BK223.out)) : gb223 ≠ gb231)); have NB231_223 := Za.mk ((by rw [hg]; exact Nat.ne_of_gt (Zs (g := gb223) (o := .cells #[.int .i64 a1_0, .int .i64 a1_1, .slice A1_2 l1_2.length c1_2, .int .i64 a1_3, .int .u32 a1_4] 25 (0, 0)) (by (with_reducible repeat (first | apply zb3 | apply zb2 | apply zb1)); exact BK223.out)) : gb231 ≠ gb223)); replace BK223 := Za.mk (Zi (g := gb223) (by (with_reducible repeat (first | apply zb3 | apply zb2 | apply zb1)); exact BK223.out) hb); clear hb hbox hg; have hnb11 := NB231_222.out; have hnc11 := NB222_231.out; have hnb12 := NB231_223.out; have hnc12 := NB223_231.out; have hcz13_0 : w10.cell? ⟨gb231, 0, none⟩ = some (.int .i64 0) := (Zb BK231.out 0).trans rfl; have hcz13_1 : w10.cell? ⟨gb231, 1, none⟩ = some (.int .i64 0) := (Zb BK231.out 1).trans rfl; have hcz13_2 : w10.cell? ⟨gb231, 2, none⟩ = some (.slice none 0 0) := (Zb BK231.out 2).trans rfl; have hcz13_3 : w10.cell? ⟨gb231, 3, none⟩ = some (.int .i64 0) := (Zb BK231.out 3).trans rfl; have hcz13_4 : w10.cell? ⟨gb231, 4, none⟩ = some (.int .u32 0) := (Zb BK231.out 4).trans rfl; have hfz13_0 := Zc BK231.out 0; have hfz13_1 := Zc BK231.out 1; have hfz13_2 := Zc BK231.out 2; have hfz13_3 := Zc BK231.out 3; have hfz13_4 := Zc BK231.out 4; obtain ⟨Ao14, co14, eo14⟩ := Kd.S_slice HO228.out; subst eo14; have hcz15_0 : w10.cell? ⟨gb222, 0, none⟩ = some (.int .i64 a0_0) := (Zb BK222.out 0).trans rfl; have hcz15_1 : w10.cell? ⟨gb222, 1, none⟩ = some (.int .i64 a0_1) := (Zb BK222.out 1).trans rfl; have hcz15_2 : w10.cell? ⟨gb222, 2, none⟩ = some (.slice A0_2 l0_2.length c0_2) := (Zb BK222.out 2).trans rfl; have hcz15_3 : w10.cell? ⟨gb222, 3, none⟩ = some (.int .i64 a0_3) := (Zb BK222.out 3).trans rfl; have hcz15_4 : w10.cell? ⟨gb222, 4, none⟩ = some (.int .u32 a0_4) := (Zb BK222.out 4).trans rfl; have hfz15_0 := Zc BK222.out 0; have hfz15_1 := Zc BK222.out 1; have hfz15_2 := Zc BK222.out 2; have hfz15_3 := Zc BK222.out 3; have hfz15_4 := Zc BK222.out 4; have hcz16_0 : w10.cell? ⟨gb223, 0, none⟩ = some (.int .i64 a1_0) := (Zb BK223.out 0).trans rfl; have hcz16_1 : w10.cell? ⟨gb223, 1, none⟩ = some (.int .i64 a1_1) := (Zb BK223.out 1).trans rfl; have hcz16_2 : w10.cell? ⟨gb223, 2, none⟩ = some (.slice A1_2 l1_2.length c1_2) := (Zb BK223.out 2).trans rfl; have hcz16_3 : w10.cell? ⟨gb223, 3, none⟩ = some (.int .i64 a1_3) := (Zb BK223.out 3).trans rfl; have hcz16_4 : w10.cell? ⟨gb223, 4, none⟩ = some (.int .u32 a1_4) := (Zb BK223.out 4).trans rfl; have hfz16_0 := Zc BK223.out 0; have hfz16_1 := Zc BK223.out 1; have hfz16_2 := Zc BK223.out 2; have hfz16_3 := Zc BK223.out 3; have hfz16_4 := Zc BK223.out 4))
 go_loopg [9] k (fun kq v9 w' => ∃ (x9_1 : Int), v9 = .int .i64 x9_1 ∧ Za (Zu.l0 kq a0_3 (wrap64 (a0_0 + a1_3)) x9_1 t224 t225 t226 t229 t230 = some (r1, r2)) ∧ Za (kq ≤ k) ∧ Za (Kd.S (Kd.slice 3 (Kd.int .i64)) 26 w' w.heap.size (fun _ => True) (.slice Ao14 t226.length co14) t226) ∧ Za (w'.heap[gb222]? = some (.cells #[.int .i64 a0_0, .int .i64 a0_1, (.slice A0_2 l0_2.length c0_2), .int .i64 a0_3, .int .u32 a0_4] 25 (0, 0))) ∧ Za (w'.heap[gb223]? = some (.cells #[.int .i64 a1_0, .int .i64 a1_1, (.slice A1_2 l1_2.length c1_2), .int .i64 a1_3, .int .u32 a1_4] 25 (0, 0))) ∧ Za (w'.heap[gb231]? = some (.cells #[.int .i64 t224, .int .i64 t225, (.slice Ao14 t226.length co14), .int .i64 t229, .int .u32 t230] 25 (0, 0))) ∧ Za (Below w.heap.size w w'))
 case atStart => exact ⟨(0), (by first | rfl | (simp; done) | (simp [*]; done)), H', ⟨Nat.le_refl _⟩, ⟨by (with_reducible repeat (first | apply Kd.S_alloc | apply Kd.S_drewN | apply Kd.S_drew)); exact Kd.S_mono (Kd.S_far (p := ⟨gb231, 4, none⟩) (Kd.S_far (p := ⟨gb231, 3, none⟩) (Kd.S_far (p := ⟨gb231, 2, none⟩) (Kd.S_far (p := ⟨gb231, 1, none⟩) (Kd.S_far (p := ⟨gb231, 0, none⟩) (Kd.S_types HO228.out BK231.out (by decide)) (fun _ hk => hk.2) (.int .i64 t224)) (fun _ hk => hk.2) (.int .i64 t225)) (fun _ hk => hk.2) (.slice Ao14 t226.length co14)) (fun _ hk => hk.2) (.int .i64 t229)) (fun _ hk => hk.2) (.int .u32 t230)) (fun _ hk => trivial)⟩, ⟨by (with_reducible repeat (first | refine Zq ?_ _ | refine Zl ?_ | refine Zn ?_ _)); refine Za1 ?_ NB222_231.out _; (with_reducible repeat (first | refine Zq ?_ _ | refine Zl ?_ | refine Zn ?_ _)); refine Za1 ?_ NB222_231.out _; (with_reducible repeat (first | refine Zq ?_ _ | refine Zl ?_ | refine Zn ?_ _)); refine Za1 ?_ NB222_231.out _; (with_reducible repeat (first | refine Zq ?_ _ | refine Zl ?_ | refine Zn ?_ _)); refine Za1 ?_ NB222_231.out _; (with_reducible repeat (first | refine Zq ?_ _ | refine Zl ?_ | refine Zn ?_ _)); refine Za1 ?_ NB222_231.out _; (with_reducible repeat (first | apply zb3 | apply zb2 | apply zb1)); exact BK222.out⟩, ⟨by (with_reducible repeat (first | refine Zq ?_ _ | refine Zl ?_ | refine Zn ?_ _)); refine Za1 ?_ NB223_231.out _; (with_reducible repeat (first | refine Zq ?_ _ | refine Zl ?_ | refine Zn ?_ _)); refine Za1 ?_ NB223_231.out _; (with_reducible repeat (first | refine Zq ?_ _ | refine Zl ?_ | refine Zn ?_ _)); refine Za1 ?_ NB223_231.out _; (with_reducible repeat (first | refine Zq ?_ _ | refine Zl ?_ | refine Zn ?_ _)); refine Za1 ?_ NB223_231.out _; (with_reducible repeat (first | refine Zq ?_ _ | refine Zl ?_ | refine Zn ?_ _)); refine Za1 ?_ NB223_231.out _; (with_reducible repeat (first | apply zb3 | apply zb2 | apply zb1)); exact BK223.out⟩, ⟨by (with_reducible repeat (first | refine Zq ?_ _ | refine Zl ?_ | refine Zn ?_ _)); refine blk_put (cs := #[.int .i64 t224, .int .i64 t225, .slice Ao14 t226.length co14, .int .i64 t229, .int .u32 0]) ?_ 4 _ rfl; (with_reducible repeat (first | refine Zq ?_ _ | refine Zl ?_ | refine Zn ?_ _)); refine blk_put (cs := #[.int .i64 t224, .int .i64 t225, .slice Ao14 t226.length co14, .int .i64 0, .int .u32 0]) ?_ 3 _ rfl; (with_reducible repeat (first | refine Zq ?_ _ | refine Zl ?_ | refine Zn ?_ _)); refine blk_put (cs := #[.int .i64 t224, .int .i64 t225, .slice none 0 0, .int .i64 0, .int .u32 0]) ?_ 2 _ rfl; (with_reducible repeat (first | refine Zq ?_ _ | refine Zl ?_ | refine Zn ?_ _)); refine blk_put (cs := #[.int .i64 t224, .int .i64 0, .slice none 0 0, .int .i64 0, .int .u32 0]) ?_ 1 _ rfl; (with_reducible repeat (first | refine Zq ?_ _ | refine Zl ?_ | refine Zn ?_ _)); refine blk_put (cs := #[.int .i64 0, .int .i64 0, .slice none 0 0, .int .i64 0, .int .u32 0]) ?_ 0 _ rfl; (with_reducible repeat (first | apply zb3 | apply zb2 | apply zb1)); exact BK231.out⟩, ⟨by repeat (first | (with_reducible first | exact HB.out | apply zc1 | apply zc2 | apply zc3 | refine zc4 ?_ (by assumption)) | exact HB.out)⟩⟩
 case round =>
  (clear H'); (try clear c1); (try clear p2); (try clear c6); (try clear p6); (try clear c11); (try clear c12); (try clear hcz13_0 hcz13_1 hcz13_2 hcz13_3 hcz13_4 hcz15_0 hcz15_1 hcz15_2 hcz15_3 hcz15_4 hcz16_0 hcz16_1 hcz16_2 hcz16_3 hcz16_4 hcz7_0 hcz7_1 hcz7_2 hcz7_3 hcz7_4 hcz8_0 hcz8_1 hcz8_2 hcz8_3 hcz8_4 hfz13_0 hfz13_1 hfz13_2 hfz13_3 hfz13_4 hfz15_0 hfz15_1 hfz15_2 hfz15_3 hfz15_4 hfz16_0 hfz16_1 hfz16_2 hfz16_3 hfz16_4 hfz7_0 hfz7_1 hfz7_2 hfz7_3 hfz7_4 hfz8_0 hfz8_1 hfz8_2 hfz8_3 hfz8_4); (obtain ⟨x9_1, rfl, HA, HK1, HO_232002, BK222, BK223, BK231, HB⟩ := hrel)
  cases gk with
  | zero => exact absurd HA.out (by simp [Zu.l0])
  | succ k1 =>
   (have H := HA.out); (clear HA); (simp only [Zu.l0] at H); (replace H := Option.bind_eq_some_iff.mp H); (obtain ⟨t232, A170, H⟩ := H); (replace H : (if t232 = true then (Zu.l1 k1 a0_3 (wrap64 (a0_0 + a1_3)) x9_1 ([] : List Int) t224 t225 t226 t229 t230) else (if (wrap64 (x9_1 + 1)) > t224 then (some (([] : List Int), false)) else (Zu.l0 k1 a0_3 (wrap64 (a0_0 + a1_3)) (wrap64 (x9_1 + 1)) t224 t225 t226 t229 t230))) = some (r1, r2) := H); (have A17 := Za.mk A170); (clear A170)
   by_cases c18 : t232 = true
   rotate_left
   ·replace c18 := Bool.eq_false_iff.mpr c18
    (subst c18); (have H1 : (if (wrap64 (x9_1 + 1)) > t224 then (some (([] : List Int), false)) else (Zu.l0 k1 a0_3 (wrap64 (a0_0 + a1_3)) (wrap64 (x9_1 + 1)) t224 t225 t226 t229 t230)) = some (r1, r2) := by rw [if_neg (show ¬ (false = true) by decide)] at H; exact H); (clear H); (have H := H1); (clear H1)
    by_cases c42 : (wrap64 (x9_1 + 1)) > t224
    ·rw [if_pos c42] at H
     (have c42b0 : decide (t224 < (wrap64 (x9_1 + 1))) = true := decide_eq_true c42); (clear c42); (simp only [Option.some.injEq, Prod.mk.injEq] at H); (obtain ⟨rfl, rfl⟩ := H); (have hnb43 := NB231_222.out); (have hnc43 := NB222_231.out); (have hnb44 := NB231_223.out); (have hnc44 := NB223_231.out); (have hcz45_0 : wr.cell? ⟨gb231, 0, none⟩ = some (.int .i64 t224) := (Zb BK231.out 0).trans rfl); (have hcz45_1 : wr.cell? ⟨gb231, 1, none⟩ = some (.int .i64 t225) := (Zb BK231.out 1).trans rfl); (have hcz45_2 : wr.cell? ⟨gb231, 2, none⟩ = some (.slice Ao14 t226.length co14) := (Zb BK231.out 2).trans rfl); (have hcz45_3 : wr.cell? ⟨gb231, 3, none⟩ = some (.int .i64 t229) := (Zb BK231.out 3).trans rfl); (have hcz45_4 : wr.cell? ⟨gb231, 4, none⟩ = some (.int .u32 t230) := (Zb BK231.out 4).trans rfl); (have hfz45_0 := Zc BK231.out 0); (have hfz45_1 := Zc BK231.out 1); (have hfz45_2 := Zc BK231.out 2); (have hfz45_3 := Zc BK231.out 3); (have hfz45_4 := Zc BK231.out 4)
     go_wp2_with (first | ((with_reducible refine Ze1 (f := 12) rfl ?_); refine goesL_ (some 26) rfl rfl Try.func12 (by kernel_rfl) rfl #[.agg #[.int .i64 t224, .int .i64 t225, .slice Ao14 t226.length co14, .int .i64 t229, .int .u32 t230], .int .i64 x9_1, .int .i64 a0_3, .int .i64 (wrap64 (a0_0 + a1_3))] rfl (by (try simp only [List.map_toArray, List.map_cons, List.map_nil]); first | done | rfl | (simp only [List.length_drop, List.length_take]; rfl)) ?_; (with_reducible refine (Zh.calls k1 t224 t225 _ _ t226 t229 t230 x9_1 a0_3 (wrap64 (a0_0 + a1_3)) false _ ?side1 ?side2 A17.out).mono ?_); (case side1 => repeat (first | exact (Kd.S_reads' HO_232002.out).2.2 | (with_reducible refine Kd.C_alloc ?_ _) | (with_reducible refine Kd.C_drewN ?_ _) | (with_reducible refine Kd.C_drew ?_))); (case side2 => exact (Kd.S_reads' HO_232002.out).2.1); rintro e w46 ⟨rfl, hb⟩; refine ⟨_, rfl, ?_⟩; replace HO_232002 := Za.mk (Kd.S_below (by (with_reducible repeat (first | apply Kd.S_alloc | apply Kd.S_drewN | apply Kd.S_drew)); exact HO_232002.out) hb); replace BK222 := Za.mk (Zi (g := gb222) (by (with_reducible repeat (first | apply zb3 | apply zb2 | apply zb1)); exact BK222.out) hb); replace BK223 := Za.mk (Zi (g := gb223) (by (with_reducible repeat (first | apply zb3 | apply zb2 | apply zb1)); exact BK223.out) hb); replace BK231 := Za.mk (Zi (g := gb231) (by (with_reducible repeat (first | apply zb3 | apply zb2 | apply zb1)); exact BK231.out) hb); replace HB := Za.mk (Zm (by repeat (first | (with_reducible first | exact HB.out | apply zc1 | apply zc2 | apply zc3 | refine zc4 ?_ (by assumption)) | exact HB.out)) hb); (try clear hb); (try clear hb2); (try clear hk); (try clear hi); have hcz47_0 : w46.cell? ⟨gb231, 0, none⟩ = some (.int .i64 t224) := (Zb BK231.out 0).trans rfl; have hcz47_1 : w46.cell? ⟨gb231, 1, none⟩ = some (.int .i64 t225) := (Zb BK231.out 1).trans rfl; have hcz47_2 : w46.cell? ⟨gb231, 2, none⟩ = some (.slice Ao14 t226.length co14) := (Zb BK231.out 2).trans rfl; have hcz47_3 : w46.cell? ⟨gb231, 3, none⟩ = some (.int .i64 t229) := (Zb BK231.out 3).trans rfl; have hcz47_4 : w46.cell? ⟨gb231, 4, none⟩ = some (.int .u32 t230) := (Zb BK231.out 4).trans rfl; have hfz47_0 := Zc BK231.out 0; have hfz47_1 := Zc BK231.out 1; have hfz47_2 := Zc BK231.out 2; have hfz47_3 := Zc BK231.out 3; have hfz47_4 := Zc BK231.out 4))
     go_ret2
     exact ⟨_, by first | rfl | (simp [Zv, Zw] <;> rfl) | (simp [*, Zv, Zw] <;> rfl), by first | exact Kd.R_nil _ _ _ _ _ | exact Kd.N_nil _ _ _ _ _ | exact Kd.V_nil _ _ _ _ _ | exact Kd.Q_nil _ _ _ _ _ | exact Kd.S_nil _ _ _ _ _ | (go_simp; exact Kd.R_nil _ _ _ _ _), by repeat (first | (with_reducible first | exact HB.out | apply zc1 | apply zc2 | apply zc3 | refine zc4 ?_ (by assumption)) | exact HB.out)⟩
    (rw [if_neg c42] at H); (have c42b0 : decide (t224 < (wrap64 (x9_1 + 1))) = false := decide_eq_false c42); (clear c42); (have H' := Za.mk H); (clear H); (have hnb48 := NB231_222.out); (have hnc48 := NB222_231.out); (have hnb49 := NB231_223.out); (have hnc49 := NB223_231.out); (have hcz50_0 : wr.cell? ⟨gb231, 0, none⟩ = some (.int .i64 t224) := (Zb BK231.out 0).trans rfl); (have hcz50_1 : wr.cell? ⟨gb231, 1, none⟩ = some (.int .i64 t225) := (Zb BK231.out 1).trans rfl); (have hcz50_2 : wr.cell? ⟨gb231, 2, none⟩ = some (.slice Ao14 t226.length co14) := (Zb BK231.out 2).trans rfl); (have hcz50_3 : wr.cell? ⟨gb231, 3, none⟩ = some (.int .i64 t229) := (Zb BK231.out 3).trans rfl); (have hcz50_4 : wr.cell? ⟨gb231, 4, none⟩ = some (.int .u32 t230) := (Zb BK231.out 4).trans rfl); (have hfz50_0 := Zc BK231.out 0); (have hfz50_1 := Zc BK231.out 1); (have hfz50_2 := Zc BK231.out 2); (have hfz50_3 := Zc BK231.out 3); (have hfz50_4 := Zc BK231.out 4)
    go_wp2_with (first | ((with_reducible refine Ze1 (f := 12) rfl ?_); refine goesL_ (some 26) rfl rfl Try.func12 (by kernel_rfl) rfl #[.agg #[.int .i64 t224, .int .i64 t225, .slice Ao14 t226.length co14, .int .i64 t229, .int .u32 t230], .int .i64 x9_1, .int .i64 a0_3, .int .i64 (wrap64 (a0_0 + a1_3))] rfl (by (try simp only [List.map_toArray, List.map_cons, List.map_nil]); first | done | rfl | (simp only [List.length_drop, List.length_take]; rfl)) ?_; (with_reducible refine (Zh.calls k1 t224 t225 _ _ t226 t229 t230 x9_1 a0_3 (wrap64 (a0_0 + a1_3)) false _ ?side1 ?side2 A17.out).mono ?_); (case side1 => repeat (first | exact (Kd.S_reads' HO_232002.out).2.2 | (with_reducible refine Kd.C_alloc ?_ _) | (with_reducible refine Kd.C_drewN ?_ _) | (with_reducible refine Kd.C_drew ?_))); (case side2 => exact (Kd.S_reads' HO_232002.out).2.1); rintro e w51 ⟨rfl, hb⟩; refine ⟨_, rfl, ?_⟩; replace HO_232002 := Za.mk (Kd.S_below (by (with_reducible repeat (first | apply Kd.S_alloc | apply Kd.S_drewN | apply Kd.S_drew)); exact HO_232002.out) hb); replace BK222 := Za.mk (Zi (g := gb222) (by (with_reducible repeat (first | apply zb3 | apply zb2 | apply zb1)); exact BK222.out) hb); replace BK223 := Za.mk (Zi (g := gb223) (by (with_reducible repeat (first | apply zb3 | apply zb2 | apply zb1)); exact BK223.out) hb); replace BK231 := Za.mk (Zi (g := gb231) (by (with_reducible repeat (first | apply zb3 | apply zb2 | apply zb1)); exact BK231.out) hb); replace HB := Za.mk (Zm (by repeat (first | (with_reducible first | exact HB.out | apply zc1 | apply zc2 | apply zc3 | refine zc4 ?_ (by assumption)) | exact HB.out)) hb); (try clear hb); (try clear hb2); (try clear hk); (try clear hi); have hcz52_0 : w51.cell? ⟨gb231, 0, none⟩ = some (.int .i64 t224) := (Zb BK231.out 0).trans rfl; have hcz52_1 : w51.cell? ⟨gb231, 1, none⟩ = some (.int .i64 t225) := (Zb BK231.out 1).trans rfl; have hcz52_2 : w51.cell? ⟨gb231, 2, none⟩ = some (.slice Ao14 t226.length co14) := (Zb BK231.out 2).trans rfl; have hcz52_3 : w51.cell? ⟨gb231, 3, none⟩ = some (.int .i64 t229) := (Zb BK231.out 3).trans rfl; have hcz52_4 : w51.cell? ⟨gb231, 4, none⟩ = some (.int .u32 t230) := (Zb BK231.out 4).trans rfl; have hfz52_0 := Zc BK231.out 0; have hfz52_1 := Zc BK231.out 1; have hfz52_2 := Zc BK231.out 2; have hfz52_3 := Zc BK231.out 3; have hfz52_4 := Zc BK231.out 4))
    go_roundg k1
    case measure => have := HK1.out; omega
    case rel => exact ⟨(wrap64 (x9_1 + 1)), (by first | rfl | (simp; done) | (simp [*]; done)), H', ⟨by have := HK1.out; omega⟩, ⟨by (with_reducible repeat (first | apply Kd.S_alloc | apply Kd.S_drewN | apply Kd.S_drew)); exact HO_232002.out⟩, ⟨by (with_reducible repeat (first | apply zb3 | apply zb2 | apply zb1)); exact BK222.out⟩, ⟨by (with_reducible repeat (first | apply zb3 | apply zb2 | apply zb1)); exact BK223.out⟩, ⟨by (with_reducible repeat (first | apply zb3 | apply zb2 | apply zb1)); exact BK231.out⟩, ⟨by repeat (first | (with_reducible first | exact HB.out | apply zc1 | apply zc2 | apply zc3 | refine zc4 ?_ (by assumption)) | exact HB.out)⟩⟩
   (subst c18); (have H1 : (Zu.l1 k1 a0_3 (wrap64 (a0_0 + a1_3)) x9_1 ([] : List Int) t224 t225 t226 t229 t230) = some (r1, r2) := by rw [if_pos rfl] at H; exact H); (clear H); (have H := H1); (clear H1); (have H' := Za.mk H); (clear H); (have hnb19 := NB231_222.out); (have hnc19 := NB222_231.out); (have hnb20 := NB231_223.out); (have hnc20 := NB223_231.out); (have hcz21_0 : wr.cell? ⟨gb231, 0, none⟩ = some (.int .i64 t224) := (Zb BK231.out 0).trans rfl); (have hcz21_1 : wr.cell? ⟨gb231, 1, none⟩ = some (.int .i64 t225) := (Zb BK231.out 1).trans rfl); (have hcz21_2 : wr.cell? ⟨gb231, 2, none⟩ = some (.slice Ao14 t226.length co14) := (Zb BK231.out 2).trans rfl); (have hcz21_3 : wr.cell? ⟨gb231, 3, none⟩ = some (.int .i64 t229) := (Zb BK231.out 3).trans rfl); (have hcz21_4 : wr.cell? ⟨gb231, 4, none⟩ = some (.int .u32 t230) := (Zb BK231.out 4).trans rfl); (have hfz21_0 := Zc BK231.out 0); (have hfz21_1 := Zc BK231.out 1); (have hfz21_2 := Zc BK231.out 2); (have hfz21_3 := Zc BK231.out 3); (have hfz21_4 := Zc BK231.out 4)
   go_wp2_with (first | ((with_reducible refine Ze1 (f := 12) rfl ?_); refine goesL_ (some 26) rfl rfl Try.func12 (by kernel_rfl) rfl #[.agg #[.int .i64 t224, .int .i64 t225, .slice Ao14 t226.length co14, .int .i64 t229, .int .u32 t230], .int .i64 x9_1, .int .i64 a0_3, .int .i64 (wrap64 (a0_0 + a1_3))] rfl (by (try simp only [List.map_toArray, List.map_cons, List.map_nil]); first | done | rfl | (simp only [List.length_drop, List.length_take]; rfl)) ?_; (with_reducible refine (Zh.calls k1 t224 t225 _ _ t226 t229 t230 x9_1 a0_3 (wrap64 (a0_0 + a1_3)) true _ ?side1 ?side2 A17.out).mono ?_); (case side1 => repeat (first | exact (Kd.S_reads' HO_232002.out).2.2 | (with_reducible refine Kd.C_alloc ?_ _) | (with_reducible refine Kd.C_drewN ?_ _) | (with_reducible refine Kd.C_drew ?_))); (case side2 => exact (Kd.S_reads' HO_232002.out).2.1); rintro e w22 ⟨rfl, hb⟩; refine ⟨_, rfl, ?_⟩; replace HO_232002 := Za.mk (Kd.S_below (by (with_reducible repeat (first | apply Kd.S_alloc | apply Kd.S_drewN | apply Kd.S_drew)); exact HO_232002.out) hb); replace BK222 := Za.mk (Zi (g := gb222) (by (with_reducible repeat (first | apply zb3 | apply zb2 | apply zb1)); exact BK222.out) hb); replace BK223 := Za.mk (Zi (g := gb223) (by (with_reducible repeat (first | apply zb3 | apply zb2 | apply zb1)); exact BK223.out) hb); replace BK231 := Za.mk (Zi (g := gb231) (by (with_reducible repeat (first | apply zb3 | apply zb2 | apply zb1)); exact BK231.out) hb); replace HB := Za.mk (Zm (by repeat (first | (with_reducible first | exact HB.out | apply zc1 | apply zc2 | apply zc3 | refine zc4 ?_ (by assumption)) | exact HB.out)) hb); (try clear hb); (try clear hb2); (try clear hk); (try clear hi)))
   go_loopg [7, 8, 9, 10] k1 (fun kq v7 v8 v9 v10 w' => ∃ (x7_2 : Int) (x8_2 : Int) (x9_2 : Int) (x10_2 : List Int), v7 = .int .i64 x7_2 ∧ v8 = .int .i64 x8_2 ∧ v9 = .int .i64 x9_2 ∧ Za (Zu.l1 kq x7_2 x8_2 x9_2 x10_2 t224 t225 t226 t229 t230 = some (r1, r2)) ∧ Za (kq ≤ k1) ∧ Za (Kd.R (Kd.int .i64) 3 w' w.heap.size (fun _ => True) v10 x10_2) ∧ Za (Kd.S (Kd.slice 3 (Kd.int .i64)) 26 w' w.heap.size (fun k_ => some k_ ≠ (v10 : Value).ownBlock) (.slice Ao14 t226.length co14) t226) ∧ Za (w'.heap[gb222]? = some (.cells #[.int .i64 a0_0, .int .i64 a0_1, (.slice A0_2 l0_2.length c0_2), .int .i64 a0_3, .int .u32 a0_4] 25 (0, 0))) ∧ Za (w'.heap[gb223]? = some (.cells #[.int .i64 a1_0, .int .i64 a1_1, (.slice A1_2 l1_2.length c1_2), .int .i64 a1_3, .int .u32 a1_4] 25 (0, 0))) ∧ Za (w'.heap[gb231]? = some (.cells #[.int .i64 t224, .int .i64 t225, (.slice Ao14 t226.length co14), .int .i64 t229, .int .u32 t230] 25 (0, 0))) ∧ Za (Below w.heap.size w w'))
   case atStart => exact ⟨(a0_3), ((wrap64 (a0_0 + a1_3))), (x9_1), (([] : List Int)), (by first | rfl | (simp; done) | (simp [*]; done)), (by first | rfl | (simp; done) | (simp [*]; done)), (by first | rfl | (simp; done) | (simp [*]; done)), H', ⟨Nat.le_refl _⟩, ⟨by first | exact Kd.R_nil _ _ _ _ _ | exact Kd.N_nil _ _ _ _ _ | exact Kd.V_nil _ _ _ _ _ | exact Kd.Q_nil _ _ _ _ _ | exact Kd.S_nil _ _ _ _ _ | (go_simp; exact Kd.R_nil _ _ _ _ _)⟩, ⟨by (with_reducible repeat (first | apply Kd.S_alloc | apply Kd.S_drewN | apply Kd.S_drew)); exact Kd.S_mono HO_232002.out (fun _ hk => (by simp [Value.ownBlock]))⟩, ⟨by (with_reducible repeat (first | apply zb3 | apply zb2 | apply zb1)); exact BK222.out⟩, ⟨by (with_reducible repeat (first | apply zb3 | apply zb2 | apply zb1)); exact BK223.out⟩, ⟨by (with_reducible repeat (first | apply zb3 | apply zb2 | apply zb1)); exact BK231.out⟩, ⟨by repeat (first | (with_reducible first | exact HB.out | apply zc1 | apply zc2 | apply zc3 | refine zc4 ?_ (by assumption)) | exact HB.out)⟩⟩
   case round =>
    (clear H'); (try clear c1); (try clear c2); (try clear p2); (try clear c6); (try clear p6); (try clear c11); (try clear c12); (try clear c18); (try clear c19); (try clear c20); (try clear hcz13_0 hcz13_1 hcz13_2 hcz13_3 hcz13_4 hcz15_0 hcz15_1 hcz15_2 hcz15_3 hcz15_4 hcz16_0 hcz16_1 hcz16_2 hcz16_3 hcz16_4 hcz21_0 hcz21_1 hcz21_2 hcz21_3 hcz21_4 hcz7_0 hcz7_1 hcz7_2 hcz7_3 hcz7_4 hcz8_0 hcz8_1 hcz8_2 hcz8_3 hcz8_4 hfz13_0 hfz13_1 hfz13_2 hfz13_3 hfz13_4 hfz15_0 hfz15_1 hfz15_2 hfz15_3 hfz15_4 hfz16_0 hfz16_1 hfz16_2 hfz16_3 hfz16_4 hfz21_0 hfz21_1 hfz21_2 hfz21_3 hfz21_4 hfz7_0 hfz7_1 hfz7_2 hfz7_3 hfz7_4 hfz8_0 hfz8_1 hfz8_2 hfz8_3 hfz8_4); (try clear p2); (try clear p6); (obtain ⟨x7_2, x8_2, x9_2, x10_2, rfl, rfl, rfl, HA, HK2, HO_10, HO_232002, BK222, BK223, BK231, HB⟩ := hrel)
    cases gk with
    | zero => exact absurd HA.out (by simp [Zu.l1])
    | succ k2 =>
     (have H := HA.out); (clear HA); (simp only [Zu.l1] at H)
     by_cases c23 : x9_2 > 0
     rotate_left
     ·rw [if_neg c23] at H
      (have c23b0 : decide (0 < x9_2) = false := decide_eq_false c23); (clear c23); (simp only [Option.some.injEq, Prod.mk.injEq] at H); (obtain ⟨rfl, rfl⟩ := H)
      go_wp2
      go_ret2
      exact ⟨_, by first | rfl | (simp [Zv, Zw] <;> rfl) | (simp [*, Zv, Zw] <;> rfl), by (with_reducible repeat (first | apply Kd.R_alloc | apply Kd.R_drewN | apply Kd.R_drew)); exact HO_10.out, by repeat (first | (with_reducible first | exact HB.out | apply zc1 | apply zc2 | apply zc3 | refine zc4 ?_ (by assumption)) | exact HB.out)⟩
     (rw [if_pos c23] at H); (have c23b0 : decide (0 < x9_2) = true := decide_eq_true c23); (clear c23); (have H' := Za.mk H); (clear H)
     go_wp2
     go_loopg [11] k2 (fun kq v11 w' => ∃ (x11_3 : Int), v11 = .int .i64 x11_3 ∧ Za (Zu.l2 kq x7_2 x8_2 x9_2 x10_2 x11_3 t224 t225 t226 t229 t230 = some (r1, r2)) ∧ Za (kq ≤ k2) ∧ Za (Kd.R (Kd.int .i64) 3 w' w.heap.size (fun _ => True) u10 x10_2) ∧ Za (Kd.S (Kd.slice 3 (Kd.int .i64)) 26 w' w.heap.size (fun k_ => some k_ ≠ (u10 : Value).ownBlock) (.slice Ao14 t226.length co14) t226) ∧ Za (w'.heap[gb222]? = some (.cells #[.int .i64 a0_0, .int .i64 a0_1, (.slice A0_2 l0_2.length c0_2), .int .i64 a0_3, .int .u32 a0_4] 25 (0, 0))) ∧ Za (w'.heap[gb223]? = some (.cells #[.int .i64 a1_0, .int .i64 a1_1, (.slice A1_2 l1_2.length c1_2), .int .i64 a1_3, .int .u32 a1_4] 25 (0, 0))) ∧ Za (w'.heap[gb231]? = some (.cells #[.int .i64 t224, .int .i64 t225, (.slice Ao14 t226.length co14), .int .i64 t229, .int .u32 t230] 25 (0, 0))) ∧ Za (Below w.heap.size w w'))
     case atStart => exact ⟨(0), (by first | rfl | (simp; done) | (simp [*]; done)), H', ⟨Nat.le_refl _⟩, ⟨by (with_reducible repeat (first | apply Kd.R_alloc | apply Kd.R_drewN | apply Kd.R_drew)); exact HO_10.out⟩, ⟨by (with_reducible repeat (first | apply Kd.S_alloc | apply Kd.S_drewN | apply Kd.S_drew)); exact HO_232002.out⟩, ⟨by (with_reducible repeat (first | apply zb3 | apply zb2 | apply zb1)); exact BK222.out⟩, ⟨by (with_reducible repeat (first | apply zb3 | apply zb2 | apply zb1)); exact BK223.out⟩, ⟨by (with_reducible repeat (first | apply zb3 | apply zb2 | apply zb1)); exact BK231.out⟩, ⟨by repeat (first | (with_reducible first | exact HB.out | apply zc1 | apply zc2 | apply zc3 | refine zc4 ?_ (by assumption)) | exact HB.out)⟩⟩
     case round =>
      (clear H'); (try clear c1); (try clear c2); (try clear p2); (try clear c6); (try clear p6); (try clear c11); (try clear c12); (try clear c18); (try clear c19); (try clear c20); (try clear c23); (try clear c23b0); (try clear hcz13_0 hcz13_1 hcz13_2 hcz13_3 hcz13_4 hcz15_0 hcz15_1 hcz15_2 hcz15_3 hcz15_4 hcz16_0 hcz16_1 hcz16_2 hcz16_3 hcz16_4 hcz21_0 hcz21_1 hcz21_2 hcz21_3 hcz21_4 hcz7_0 hcz7_1 hcz7_2 hcz7_3 hcz7_4 hcz8_0 hcz8_1 hcz8_2 hcz8_3 hcz8_4 hfz13_0 hfz13_1 hfz13_2 hfz13_3 hfz13_4 hfz15_0 hfz15_1 hfz15_2 hfz15_3 hfz15_4 hfz16_0 hfz16_1 hfz16_2 hfz16_3 hfz16_4 hfz21_0 hfz21_1 hfz21_2 hfz21_3 hfz21_4 hfz7_0 hfz7_1 hfz7_2 hfz7_3 hfz7_4 hfz8_0 hfz8_1 hfz8_2 hfz8_3 hfz8_4); (try clear p2); (try clear p6); (obtain ⟨x11_3, rfl, HA, HK3, HO_10, HO_232002, BK222, BK223, BK231, HB⟩ := hrel)
      cases gk with
      | zero => exact absurd HA.out (by simp [Zu.l2])
      | succ k3 =>
       (have H := HA.out); (clear HA); (simp only [Zu.l2] at H)
       by_cases c24 : 0 ≤ x7_2
       rotate_left
       ·rw [if_neg c24] at H
        exact absurd H (by simp)
       (rw [if_pos c24] at H); (have c24b0 : decide (0 ≤ x7_2) = true := decide_eq_true c24); (clear c24)
       by_cases c25 : x7_2 < (t226.length : Int)
       rotate_left
       ·rw [if_neg c25] at H
        exact absurd H (by simp)
       (rw [if_pos c25] at H); (have c25b0 : decide (x7_2 < (t226.length : Int)) = true := decide_eq_true c25); (clear c25)
       by_cases c26 : 0 ≤ x11_3
       rotate_left
       ·rw [if_neg c26] at H
        exact absurd H (by simp)
       (rw [if_pos c26] at H); (have c26b0 : decide (0 ≤ x11_3) = true := decide_eq_true c26); (clear c26)
       by_cases c27 : x11_3 < ((Zd t226 x7_2).length : Int)
       rotate_left
       ·rw [if_neg c27] at H
        exact absurd H (by simp)
       (rw [if_pos c27] at H); (have c27b0 : decide (x11_3 < ((Zd t226 x7_2).length : Int)) = true := decide_eq_true c27); (clear c27)
       by_cases c28 : 0 ≤ x8_2
       rotate_left
       ·rw [if_neg c28] at H
        exact absurd H (by simp)
       (rw [if_pos c28] at H); (have c28b0 : decide (0 ≤ x8_2) = true := decide_eq_true c28); (clear c28)
       by_cases c29 : x8_2 < (t226.length : Int)
       rotate_left
       ·rw [if_neg c29] at H
        exact absurd H (by simp)
       (rw [if_pos c29] at H); (have c29b0 : decide (x8_2 < (t226.length : Int)) = true := decide_eq_true c29); (clear c29)
       by_cases c30 : x11_3 < ((Zd t226 x8_2).length : Int)
       rotate_left
       ·rw [if_neg c30] at H
        exact absurd H (by simp)
       (rw [if_pos c30] at H); (have c30b0 : decide (x11_3 < ((Zd t226 x8_2).length : Int)) = true := decide_eq_true c30); (clear c30); (replace H := Option.bind_eq_some_iff.mp H); (obtain ⟨t237, A310, H⟩ := H); (replace H : (if t237 = true then (if x10_2.length < 17592186044416 then (Zu.l1 k3 (rd (Zd t226 x7_2) x11_3) (rd (Zd t226 x8_2) x11_3) (wrap64 (x9_2 - 1)) (x10_2 ++ [x11_3]) t224 t225 t226 t229 t230) else (none)) else (Zu.l2 k3 x7_2 x8_2 x9_2 x10_2 (wrap64 (x11_3 + 1)) t224 t225 t226 t229 t230)) = some (r1, r2) := H); (have A31 := Za.mk A310); (clear A310)
       by_cases c32 : t237 = true
       rotate_left
       ·replace c32 := Bool.eq_false_iff.mpr c32
        (subst c32); (have H1 : (Zu.l2 k3 x7_2 x8_2 x9_2 x10_2 (wrap64 (x11_3 + 1)) t224 t225 t226 t229 t230) = some (r1, r2) := by rw [if_neg (show ¬ (false = true) by decide)] at H; exact H); (clear H); (have H := H1); (clear H1); (have H' := Za.mk H); (clear H)
        try go_wp2
        (replace HO_10 := Za.mk (Kd.R_drew HO_10.out)); (replace HO_232002 := Za.mk (Kd.S_drew HO_232002.out)); (replace BK222 := Za.mk (Zl BK222.out)); (replace BK223 := Za.mk (Zl BK223.out)); (replace BK231 := Za.mk (Zl BK231.out)); (replace HB := Za.mk (below_drew1 HB.out)); (have p233 : 0 ≤ (x7_2 : Int) := of_decide_eq_true (by assumption)); (have q233 : x7_2 < (t226.length : Int) := of_decide_eq_true (by assumption)); (obtain ⟨ad233, A233_0, c233_0, e233, hx233_0, hl233_0, hi233_0⟩ := at_L1 (Kd.S_reads' HO_232002.out).2.2 x7_2 p233 q233); (cases e233); (obtain ⟨ce233, hce233, hMe233, hcc233⟩ := Kd.S_get HO_232002.out [] x7_2 p233 (by first | exact q233 | exact of_decide_eq_true (by assumption) | (have e_ := (Kd.S_reads' HO_232002.out).1; omega))); (obtain ⟨ve233_0, rfl, ge233_0⟩ := hMe233); (have hv233_0 := hcc233 0 _ rfl); (rw [Nat.add_zero, show ((Kd.slice 3 (Kd.int .i64))).sz = 1 from rfl, Nat.mul_one] at hv233_0); (replace hv233_0 := Option.some.inj (hv233_0.symm.trans hx233_0)); (rw [hv233_0] at ge233_0); (have HL233_0 := Za.mk (show Kd.R (Kd.int .i64) 3 _ _ _ _ (Zd t226 x7_2) from ge233_0)); (clear hv233_0 ge233_0); (clear hcc233 hce233); (have HR233_0 := Za.mk hi233_0); (have HC233_0 := Za.mk hl233_0); (clear hi233_0 hl233_0); (replace p233 := eq_true p233); (replace q233 := eq_true q233); (have p234 : 0 ≤ (x11_3 : Int) := of_decide_eq_true (by assumption)); (have q234 : x11_3 < ((Zd t226 x7_2).length : Int) := of_decide_eq_true (by assumption)); (obtain ⟨ad234, e234, hx234_0⟩ := Kd.at_int (by repeat (first | (with_reducible exact HR233_0.out) | (with_reducible refine Kd.C_alloc ?_ _) | (with_reducible refine Kd.C_drewN ?_ _) | (with_reducible refine Kd.C_drew ?_) | exact HR233_0.out)) x11_3 p234 q234)
        (cases e234); (replace p234 := eq_true p234); (replace q234 := eq_true q234); (have p235 : 0 ≤ (x8_2 : Int) := of_decide_eq_true (by assumption)); (have q235 : x8_2 < (t226.length : Int) := of_decide_eq_true (by assumption)); (obtain ⟨ad235, A235_0, c235_0, e235, hx235_0, hl235_0, hi235_0⟩ := at_L1 (Kd.S_reads' HO_232002.out).2.2 x8_2 p235 q235); (obtain rfl : ad233 = ad235 := (by injection e235)); (obtain ⟨ce235, hce235, hMe235, hcc235⟩ := Kd.S_get HO_232002.out [] x8_2 p235 (by first | exact q235 | exact of_decide_eq_true (by assumption) | (have e_ := (Kd.S_reads' HO_232002.out).1; omega))); (obtain ⟨ve235_0, rfl, ge235_0⟩ := hMe235); (have hv235_0 := hcc235 0 _ rfl); (rw [Nat.add_zero, show ((Kd.slice 3 (Kd.int .i64))).sz = 1 from rfl, Nat.mul_one] at hv235_0); (replace hv235_0 := Option.some.inj (hv235_0.symm.trans hx235_0)); (rw [hv235_0] at ge235_0); (have HL235_0 := Za.mk (show Kd.R (Kd.int .i64) 3 _ _ _ _ (Zd t226 x8_2) from ge235_0)); (clear hv235_0 ge235_0); (clear hcc235 hce235); (have HR235_0 := Za.mk hi235_0); (have HC235_0 := Za.mk hl235_0); (clear hi235_0 hl235_0); (replace p235 := eq_true p235); (replace q235 := eq_true q235); (have p236 : 0 ≤ (x11_3 : Int) := of_decide_eq_true (by assumption)); (have q236 : x11_3 < ((Zd t226 x8_2).length : Int) := of_decide_eq_true (by assumption)); (obtain ⟨ad236, e236, hx236_0⟩ := Kd.at_int (by repeat (first | (with_reducible exact HR235_0.out) | (with_reducible refine Kd.C_alloc ?_ _) | (with_reducible refine Kd.C_drewN ?_ _) | (with_reducible refine Kd.C_drew ?_) | exact HR235_0.out)) x11_3 p236 q236)
        (cases e236); (replace p236 := eq_true p236); (replace q236 := eq_true q236)
        refine start_ (n := 21) (S := fun w' => w'.cell? ⟨gb231, 0, none⟩ = some (.int .i64 t224) ∧ w'.cell? ⟨gb231, 1, none⟩ = some (.int .i64 t225) ∧ w'.cell? ⟨gb231, 2, none⟩ = some (.slice (some ad233) t226.length co14) ∧ w'.cell? ⟨gb231, 3, none⟩ = some (.int .i64 t229) ∧ w'.cell? ⟨gb231, 4, none⟩ = some (.int .u32 t230) ∧ w'.cell? (ad233.add (x7_2).toNat) = some (.slice (some ad234) (Zd t226 x7_2).length c233_0) ∧ w'.cell? (ad234.add (x11_3).toNat) = some (.int .i64 (rd (Zd t226 x7_2) x11_3)) ∧ w'.cell? (ad233.add (x8_2).toNat) = some (.slice (some ad236) (Zd t226 x8_2).length c235_0) ∧ w'.cell? (ad236.add (x11_3).toNat) = some (.int .i64 (rd (Zd t226 x8_2) x11_3))) (ds := []) #[false, false, false, false, false, false, false, false, false, false, false, false, false, false, false, false, false, false, false, false, false] (by kernel_rfl) rfl rfl ⟨(Zb BK231.out 0).trans rfl, (Zb BK231.out 1).trans rfl, (Zb BK231.out 2).trans rfl, (Zb BK231.out 3).trans rfl, (Zb BK231.out 4).trans rfl, hx233_0, hx234_0, hx235_0, hx236_0⟩ (fun hHeld => ?_); refine with_tabW Zu.tab13 Zu.bits13 (fun HT_ HW_ => ?_)
        generalize wr.drew = w40 at HO_10 HO_232002 BK222 BK223 BK231 HB HL233_0 HL235_0 HR233_0 HR235_0 hx233_0 hx234_0 hx235_0 hx236_0 hHeld ⊢
        refine pure_ (i := 1) (N := some 39) (v := ?_) (a' := ?_) #[false, true, false, false, false, false, false, false, false, false, false, false, false, false, false, false, false, false, false, false, false] rfl rfl (Zj HT_.out (by kernel_rfl)) (fun _ _ _ h => h) (Or.inl ⟨by rfl, ?_⟩) ?_ ?_
        rotate_left
        ·intro w'
         go_simp
         with_reducible rfl
        rotate_left
        ·simp only [Act.put, List.setIfInBounds_toArray, List.set_cons_zero, List.set_cons_succ, Zg, Zf]
         rfl
        refine pure_ (i := 2) (N := some 40) (v := ?_) (a' := ?_) #[false, true, true, false, false, false, false, false, false, false, false, false, false, false, false, false, false, false, false, false, false] rfl rfl (Zj HT_.out (by kernel_rfl)) (fun _ _ _ h => h) (Or.inl ⟨by rfl, ?_⟩) ?_ ?_
        rotate_left
        ·intro w'
         go_simp
         with_reducible rfl
        rotate_left
        ·simp only [Act.put, List.setIfInBounds_toArray, List.set_cons_zero, List.set_cons_succ, Zg, Zf]
         rfl
        refine pure_ (i := 3) (N := some 41) (v := ?_) (a' := ?_) #[false, true, true, true, false, false, false, false, false, false, false, false, false, false, false, false, false, false, false, false, false] rfl rfl (Zj HT_.out (by kernel_rfl)) (fun _ _ _ h => h) (Or.inl ⟨by rfl, ?_⟩) ?_ ?_
        rotate_left
        ·intro w'
         go_simp
         with_reducible rfl
        rotate_left
        ·simp only [Act.put, List.setIfInBounds_toArray, List.set_cons_zero, List.set_cons_succ, Zg, Zf]
         rfl
        refine pure_ (i := 5) (N := some 43) (v := ?_) (a' := ?_) #[false, true, true, true, false, true, false, false, false, false, false, false, false, false, false, false, false, false, false, false, false] rfl rfl (Zj HT_.out (by kernel_rfl)) (fun _ _ _ h => h) (Or.inl ⟨by rfl, ?_⟩) ?_ ?_
        rotate_left
        ·intro w'
         go_simp
         with_reducible rfl
        rotate_left
        ·simp only [Act.put, List.setIfInBounds_toArray, List.set_cons_zero, List.set_cons_succ, Zg, Zf]
         rfl
        refine pure_ (i := 8) (N := some 46) (v := ?_) (a' := ?_) #[false, true, true, true, false, true, false, false, true, false, false, false, false, false, false, false, false, false, false, false, false] rfl rfl (Zj HT_.out (by kernel_rfl)) (fun _ _ _ h => h) (Or.inl ⟨by rfl, ?_⟩) ?_ ?_
        rotate_left
        ·intro w'
         go_simp
         with_reducible rfl
        rotate_left
        ·simp only [Act.put, List.setIfInBounds_toArray, List.set_cons_zero, List.set_cons_succ, Zg, Zf]
         rfl
        refine pure_ (i := 11) (N := some 49) (v := ?_) (a' := ?_) #[false, true, true, true, false, true, false, false, true, false, false, true, false, false, false, false, false, false, false, false, false] rfl rfl (Zj HT_.out (by kernel_rfl)) (fun _ _ _ h => h) (Or.inl ⟨by rfl, ?_⟩) ?_ ?_
        rotate_left
        ·intro w'
         go_simp
         with_reducible rfl
        rotate_left
        ·simp only [Act.put, List.setIfInBounds_toArray, List.set_cons_zero, List.set_cons_succ, Zg, Zf]
         rfl
        refine pure_ (i := 13) (N := some 51) (v := ?_) (a' := ?_) #[false, true, true, true, false, true, false, false, true, false, false, true, false, true, false, false, false, false, false, false, false] rfl rfl (Zj HT_.out (by kernel_rfl)) (fun _ _ _ h => h) (Or.inl ⟨by rfl, ?_⟩) ?_ ?_
        rotate_left
        ·intro w'
         go_simp
         with_reducible rfl
        rotate_left
        ·simp only [Act.put, List.setIfInBounds_toArray, List.set_cons_zero, List.set_cons_succ, Zg, Zf]
         rfl
        refine pure_ (i := 16) (N := some 54) (v := ?_) (a' := ?_) #[false, true, true, true, false, true, false, false, true, false, false, true, false, true, false, false, true, false, false, false, false] rfl rfl (Zj HT_.out (by kernel_rfl)) (fun _ _ _ h => h) (Or.inl ⟨by rfl, ?_⟩) ?_ ?_
        rotate_left
        ·intro w'
         go_simp
         with_reducible rfl
        rotate_left
        ·simp only [Act.put, List.setIfInBounds_toArray, List.set_cons_zero, List.set_cons_succ, Zg, Zf]
         rfl
        refine take_ (i := 0) (N := some 38) (v := ?_) (a' := ?_) #[true, true, true, true, false, true, false, false, true, false, false, true, false, true, false, false, true, false, false, false, false] rfl rfl (Zz HT_.out HW_.out (by kernel_rfl)) (fun _ _ _ h => h) (Or.inl ⟨by rfl, ?_⟩) hHeld ?_ ?_
        rotate_left
        ·rintro w' ⟨s0, s1, s2, s3, s4, s5, s6, s7, s8⟩
         go_simp
         with_reducible rfl
        rotate_left
        ·simp only [Act.put, List.setIfInBounds_toArray, List.set_cons_zero, List.set_cons_succ, Zg, Zf]
         rfl
        refine take_ (i := 4) (N := some 42) (v := ?_) (a' := ?_) #[true, true, true, true, true, true, false, false, true, false, false, true, false, true, false, false, true, false, false, false, false] rfl rfl (Zz HT_.out HW_.out (by kernel_rfl)) (fun _ _ _ h => h) (Or.inl ⟨by rfl, ?_⟩) hHeld ?_ ?_
        rotate_left
        ·rintro w' ⟨s0, s1, s2, s3, s4, s5, s6, s7, s8⟩
         go_simp
         with_reducible rfl
        rotate_left
        ·simp only [Act.put, List.setIfInBounds_toArray, List.set_cons_zero, List.set_cons_succ, Zg, Zf]
         rfl
        refine pure_ (i := 6) (N := some 44) (v := ?_) (a' := ?_) #[true, true, true, true, true, true, true, false, true, false, false, true, false, true, false, false, true, false, false, false, false] rfl rfl (Zj HT_.out (by kernel_rfl)) (fun _ _ _ h => h) (Or.inl ⟨by rfl, ?_⟩) ?_ ?_
        rotate_left
        ·intro w'
         go_simp
         with_reducible rfl
        rotate_left
        ·simp only [Act.put, List.setIfInBounds_toArray, List.set_cons_zero, List.set_cons_succ, Zg, Zf]
         rfl
        refine take_ (i := 7) (N := some 45) (v := ?_) (a' := ?_) #[true, true, true, true, true, true, true, true, true, false, false, true, false, true, false, false, true, false, false, false, false] rfl rfl (Zz HT_.out HW_.out (by kernel_rfl)) (fun _ _ _ h => h) (Or.inl ⟨by rfl, ?_⟩) hHeld ?_ ?_
        rotate_left
        ·rintro w' ⟨s0, s1, s2, s3, s4, s5, s6, s7, s8⟩
         go_simp
         with_reducible rfl
        rotate_left
        ·simp only [Act.put, List.setIfInBounds_toArray, List.set_cons_zero, List.set_cons_succ, Zg, Zf]
         rfl
        refine pure_ (i := 9) (N := some 47) (v := ?_) (a' := ?_) #[true, true, true, true, true, true, true, true, true, true, false, true, false, true, false, false, true, false, false, false, false] rfl rfl (Zj HT_.out (by kernel_rfl)) (fun _ _ _ h => h) (Or.inl ⟨by rfl, ?_⟩) ?_ ?_
        rotate_left
        ·intro w'
         go_simp
         with_reducible rfl
        rotate_left
        ·simp only [Act.put, List.setIfInBounds_toArray, List.set_cons_zero, List.set_cons_succ, Zg, Zf]
         rfl
        refine take_ (i := 10) (N := some 48) (v := ?_) (a' := ?_) #[true, true, true, true, true, true, true, true, true, true, true, true, false, true, false, false, true, false, false, false, false] rfl rfl (Zz HT_.out HW_.out (by kernel_rfl)) (fun _ _ _ h => h) (Or.inl ⟨by rfl, ?_⟩) hHeld ?_ ?_
        rotate_left
        ·rintro w' ⟨s0, s1, s2, s3, s4, s5, s6, s7, s8⟩
         go_simp
         with_reducible rfl
        rotate_left
        ·simp only [Act.put, List.setIfInBounds_toArray, List.set_cons_zero, List.set_cons_succ, Zg, Zf]
         rfl
        refine take_ (i := 12) (N := some 50) (v := ?_) (a' := ?_) #[true, true, true, true, true, true, true, true, true, true, true, true, true, true, false, false, true, false, false, false, false] rfl rfl (Zz HT_.out HW_.out (by kernel_rfl)) (fun _ _ _ h => h) (Or.inl ⟨by rfl, ?_⟩) hHeld ?_ ?_
        rotate_left
        ·rintro w' ⟨s0, s1, s2, s3, s4, s5, s6, s7, s8⟩
         go_simp
         with_reducible rfl
        rotate_left
        ·simp only [Act.put, List.setIfInBounds_toArray, List.set_cons_zero, List.set_cons_succ, Zg, Zf]
         rfl
        refine pure_ (i := 14) (N := some 52) (v := ?_) (a' := ?_) #[true, true, true, true, true, true, true, true, true, true, true, true, true, true, true, false, true, false, false, false, false] rfl rfl (Zj HT_.out (by kernel_rfl)) (fun _ _ _ h => h) (Or.inl ⟨by rfl, ?_⟩) ?_ ?_
        rotate_left
        ·intro w'
         go_simp
         with_reducible rfl
        rotate_left
        ·simp only [Act.put, List.setIfInBounds_toArray, List.set_cons_zero, List.set_cons_succ, Zg, Zf]
         rfl
        refine take_ (i := 15) (N := some 53) (v := ?_) (a' := ?_) #[true, true, true, true, true, true, true, true, true, true, true, true, true, true, true, true, true, false, false, false, false] rfl rfl (Zz HT_.out HW_.out (by kernel_rfl)) (fun _ _ _ h => h) (Or.inl ⟨by rfl, ?_⟩) hHeld ?_ ?_
        rotate_left
        ·rintro w' ⟨s0, s1, s2, s3, s4, s5, s6, s7, s8⟩
         go_simp
         with_reducible rfl
        rotate_left
        ·simp only [Act.put, List.setIfInBounds_toArray, List.set_cons_zero, List.set_cons_succ, Zg, Zf]
         rfl
        refine pure_ (i := 17) (N := some 55) (v := ?_) (a' := ?_) #[true, true, true, true, true, true, true, true, true, true, true, true, true, true, true, true, true, true, false, false, false] rfl rfl (Zj HT_.out (by kernel_rfl)) (fun _ _ _ h => h) (Or.inl ⟨by rfl, ?_⟩) ?_ ?_
        rotate_left
        ·intro w'
         go_simp
         with_reducible rfl
        rotate_left
        ·simp only [Act.put, List.setIfInBounds_toArray, List.set_cons_zero, List.set_cons_succ, Zg, Zf]
         rfl
        refine take_ (i := 18) (N := some 56) (v := ?_) (a' := ?_) #[true, true, true, true, true, true, true, true, true, true, true, true, true, true, true, true, true, true, true, false, false] rfl rfl (Zz HT_.out HW_.out (by kernel_rfl)) (fun _ _ _ h => h) (Or.inl ⟨by rfl, ?_⟩) hHeld ?_ ?_
        rotate_left
        ·rintro w' ⟨s0, s1, s2, s3, s4, s5, s6, s7, s8⟩
         go_simp
         with_reducible rfl
        rotate_left
        ·simp only [Act.put, List.setIfInBounds_toArray, List.set_cons_zero, List.set_cons_succ, Zg, Zf]
         rfl
        refine one_ (i := 19) (N := some 57) #[true, true, true, true, true, true, true, true, true, true, true, true, true, true, true, true, true, true, true, true, false] rfl rfl (one_of HT_.out (by kernel_rfl)) (by decide) (fun K hK => ?_)
        refine goes_ Try.func12 (by kernel_rfl) rfl #[.agg #[.int .i64 t224, .int .i64 t225, .slice (some ad233) t226.length co14, .int .i64 t229, .int .u32 t230], .int .i64 (wrap64 (x9_2 - 1)), .int .i64 (rd (Zd t226 x7_2) x11_3), .int .i64 (rd (Zd t226 x8_2) x11_3)] (by rfl) rfl rfl (by (try simp only [List.map_toArray, List.map_cons, List.map_nil]); first | done | rfl | (simp only [List.length_drop, List.length_take]; rfl)) ?_
        with_reducible refine (Zh.calls k3 t224 t225 _ _ t226 t229 t230 (wrap64 (x9_2 - 1)) (rd (Zd t226 x7_2) x11_3) (rd (Zd t226 x8_2) x11_3) false _ ?side1 ?side2 A31.out).mono ?_
        (case side1 => repeat (first | exact (Kd.S_reads' HO_232002.out).2.2 | (with_reducible refine Kd.C_alloc ?_ _) | (with_reducible refine Kd.C_drewN ?_ _) | (with_reducible refine Kd.C_drew ?_)))
        (case side2 => exact (Kd.S_reads' HO_232002.out).2.1)
        rintro e w41 ⟨rfl, hb⟩
        (have HS5_ := (hb.cell (World.block_lt_of_cell? _ _ (hHeld.2.2.2.2.2.1))).trans (hHeld.2.2.2.2.2.1)); (have HS6_ := (hb.cell (World.block_lt_of_cell? _ _ (hHeld.2.2.2.2.2.2.1))).trans (hHeld.2.2.2.2.2.2.1)); (have HS7_ := (hb.cell (World.block_lt_of_cell? _ _ (hHeld.2.2.2.2.2.2.2.1))).trans (hHeld.2.2.2.2.2.2.2.1)); (have HS8_ := (hb.cell (World.block_lt_of_cell? _ _ (hHeld.2.2.2.2.2.2.2.2))).trans (hHeld.2.2.2.2.2.2.2.2))
        refine ⟨_, rfl, ?_⟩
        (replace HO_10 := Za.mk (Kd.R_below (by (with_reducible repeat (first | apply Kd.R_alloc | apply Kd.R_drewN | apply Kd.R_drew)); exact HO_10.out) hb)); (replace HO_232002 := Za.mk (Kd.S_below (by (with_reducible repeat (first | apply Kd.S_alloc | apply Kd.S_drewN | apply Kd.S_drew)); exact HO_232002.out) hb)); (replace HL233_0 := Za.mk (Kd.R_below (by (with_reducible repeat (first | apply Kd.R_alloc | apply Kd.R_drewN | apply Kd.R_drew)); exact HL233_0.out) hb)); (replace HL235_0 := Za.mk (Kd.R_below (by (with_reducible repeat (first | apply Kd.R_alloc | apply Kd.R_drewN | apply Kd.R_drew)); exact HL235_0.out) hb)); (replace BK222 := Za.mk (Zi (g := gb222) (by (with_reducible repeat (first | apply zb3 | apply zb2 | apply zb1)); exact BK222.out) hb)); (replace BK223 := Za.mk (Zi (g := gb223) (by (with_reducible repeat (first | apply zb3 | apply zb2 | apply zb1)); exact BK223.out) hb)); (replace BK231 := Za.mk (Zi (g := gb231) (by (with_reducible repeat (first | apply zb3 | apply zb2 | apply zb1)); exact BK231.out) hb)); (replace HR233_0 := Za.mk (Kd.C_below (by repeat (first | (with_reducible exact HR233_0.out) | (with_reducible refine Kd.C_alloc ?_ _) | (with_reducible refine Kd.C_drewN ?_ _) | (with_reducible refine Kd.C_drew ?_) | exact HR233_0.out)) hb)); (replace HR235_0 := Za.mk (Kd.C_below (by repeat (first | (with_reducible exact HR235_0.out) | (with_reducible refine Kd.C_alloc ?_ _) | (with_reducible refine Kd.C_drewN ?_ _) | (with_reducible refine Kd.C_drew ?_) | exact HR235_0.out)) hb))
        (replace HB := Za.mk (Zm (by repeat (first | (with_reducible first | exact HB.out | apply zc1 | apply zc2 | apply zc3 | refine zc4 ?_ (by assumption)) | exact HB.out)) hb)); ((try clear hb)); ((try clear hb2)); ((try clear hk)); ((try clear hi))
        refine hK.out _ _ ⟨(Zb BK231.out 0).trans rfl, (Zb BK231.out 1).trans rfl, (Zb BK231.out 2).trans rfl, (Zb BK231.out 3).trans rfl, (Zb BK231.out 4).trans rfl, HS5_, HS6_, HS7_, HS8_⟩ (fun hHeld => ?_)
        clear hK K
        refine norm_ (a' := ?_) ?_ ?_
        rotate_left
        ·show Act.put _ (some 57) _ = _
         simp only [Act.put, List.setIfInBounds_toArray, List.set_cons_zero, List.set_cons_succ, Zg, Zf]
         rfl
        refine pure_ (i := 20) (N := some 58) (v := ?_) (a' := ?_) #[true, true, true, true, true, true, true, true, true, true, true, true, true, true, true, true, true, true, true, true, true] rfl rfl (Zj HT_.out (by kernel_rfl)) (fun _ _ _ h => h) (Or.inl ⟨by rfl, ?_⟩) ?_ ?_
        rotate_left
        ·intro w'
         go_simp
         with_reducible rfl
        rotate_left
        ·simp only [Act.put, List.setIfInBounds_toArray, List.set_cons_zero, List.set_cons_succ, Zg, Zf]
         rfl
        refine done_ (done_of HT_.out (by kernel_rfl)) ?_
        try go_wp2
        go_roundg k3
        case measure => have := HK1.out; have := HK2.out; have := HK3.out; omega
        case rel => exact ⟨(wrap64 (x11_3 + 1)), (by first | rfl | (simp; done) | (simp [*]; done)), H', ⟨by have := HK1.out; have := HK2.out; have := HK3.out; omega⟩, ⟨by (with_reducible repeat (first | apply Kd.R_alloc | apply Kd.R_drewN | apply Kd.R_drew)); exact HO_10.out⟩, ⟨by (with_reducible repeat (first | apply Kd.S_alloc | apply Kd.S_drewN | apply Kd.S_drew)); exact HO_232002.out⟩, ⟨by (with_reducible repeat (first | apply zb3 | apply zb2 | apply zb1)); exact BK222.out⟩, ⟨by (with_reducible repeat (first | apply zb3 | apply zb2 | apply zb1)); exact BK223.out⟩, ⟨by (with_reducible repeat (first | apply zb3 | apply zb2 | apply zb1)); exact BK231.out⟩, ⟨by repeat (first | (with_reducible first | exact HB.out | apply zc1 | apply zc2 | apply zc3 | refine zc4 ?_ (by assumption)) | exact HB.out)⟩⟩
       (subst c32); (have H1 : (if x10_2.length < 17592186044416 then (Zu.l1 k3 (rd (Zd t226 x7_2) x11_3) (rd (Zd t226 x8_2) x11_3) (wrap64 (x9_2 - 1)) (x10_2 ++ [x11_3]) t224 t225 t226 t229 t230) else (none)) = some (r1, r2) := by rw [if_pos rfl] at H; exact H); (clear H); (have H := H1); (clear H1)
       by_cases c33 : x10_2.length < 17592186044416
       rotate_left
       ·rw [if_neg c33] at H
        exact absurd H (by simp)
       (rw [if_pos c33] at H); (have LMc33 := Za.mk c33); (clear c33); (obtain ⟨y238, hy238⟩ : ∃ y_ : List Int, y_ = (x10_2 ++ [x11_3]) := ⟨_, rfl⟩); (replace H : (Zu.l1 k3 (rd (Zd t226 x7_2) x11_3) (rd (Zd t226 x8_2) x11_3) (wrap64 (x9_2 - 1)) y238 t224 t225 t226 t229 t230) = some (r1, r2) := by first | (rw [hy238]; with_reducible exact H) | (have H2_ := (Option.bind_some _ _).symm.trans H; rw [hy238]; with_reducible exact H2_) | (have H2_ := (Option.bind_some _ _).symm.trans H; with_reducible exact H2_) | with_reducible exact H | (rw [hy238]; exact H) | exact H); (have Ny238 := Za.mk hy238); (clear hy238); (have H' := Za.mk H); (clear H)
       try go_wp2
       (replace HO_10 := Za.mk (Kd.R_drew HO_10.out)); (replace HO_232002 := Za.mk (Kd.S_drew HO_232002.out)); (replace BK222 := Za.mk (Zl BK222.out)); (replace BK223 := Za.mk (Zl BK223.out)); (replace BK231 := Za.mk (Zl BK231.out)); (replace HB := Za.mk (below_drew1 HB.out)); (have p233 : 0 ≤ (x7_2 : Int) := of_decide_eq_true (by assumption)); (have q233 : x7_2 < (t226.length : Int) := of_decide_eq_true (by assumption)); (obtain ⟨ad233, A233_0, c233_0, e233, hx233_0, hl233_0, hi233_0⟩ := at_L1 (Kd.S_reads' HO_232002.out).2.2 x7_2 p233 q233); (cases e233); (obtain ⟨ce233, hce233, hMe233, hcc233⟩ := Kd.S_get HO_232002.out [] x7_2 p233 (by first | exact q233 | exact of_decide_eq_true (by assumption) | (have e_ := (Kd.S_reads' HO_232002.out).1; omega))); (obtain ⟨ve233_0, rfl, ge233_0⟩ := hMe233); (have hv233_0 := hcc233 0 _ rfl); (rw [Nat.add_zero, show ((Kd.slice 3 (Kd.int .i64))).sz = 1 from rfl, Nat.mul_one] at hv233_0); (replace hv233_0 := Option.some.inj (hv233_0.symm.trans hx233_0)); (rw [hv233_0] at ge233_0); (have HL233_0 := Za.mk (show Kd.R (Kd.int .i64) 3 _ _ _ _ (Zd t226 x7_2) from ge233_0)); (clear hv233_0 ge233_0); (clear hcc233 hce233); (have HR233_0 := Za.mk hi233_0); (have HC233_0 := Za.mk hl233_0); (clear hi233_0 hl233_0); (replace p233 := eq_true p233); (replace q233 := eq_true q233); (have p234 : 0 ≤ (x11_3 : Int) := of_decide_eq_true (by assumption)); (have q234 : x11_3 < ((Zd t226 x7_2).length : Int) := of_decide_eq_true (by assumption)); (obtain ⟨ad234, e234, hx234_0⟩ := Kd.at_int (by repeat (first | (with_reducible exact HR233_0.out) | (with_reducible refine Kd.C_alloc ?_ _) | (with_reducible refine Kd.C_drewN ?_ _) | (with_reducible refine Kd.C_drew ?_) | exact HR233_0.out)) x11_3 p234 q234)
       (cases e234); (replace p234 := eq_true p234); (replace q234 := eq_true q234); (have p235 : 0 ≤ (x8_2 : Int) := of_decide_eq_true (by assumption)); (have q235 : x8_2 < (t226.length : Int) := of_decide_eq_true (by assumption)); (obtain ⟨ad235, A235_0, c235_0, e235, hx235_0, hl235_0, hi235_0⟩ := at_L1 (Kd.S_reads' HO_232002.out).2.2 x8_2 p235 q235); (obtain rfl : ad233 = ad235 := (by injection e235)); (obtain ⟨ce235, hce235, hMe235, hcc235⟩ := Kd.S_get HO_232002.out [] x8_2 p235 (by first | exact q235 | exact of_decide_eq_true (by assumption) | (have e_ := (Kd.S_reads' HO_232002.out).1; omega))); (obtain ⟨ve235_0, rfl, ge235_0⟩ := hMe235); (have hv235_0 := hcc235 0 _ rfl); (rw [Nat.add_zero, show ((Kd.slice 3 (Kd.int .i64))).sz = 1 from rfl, Nat.mul_one] at hv235_0); (replace hv235_0 := Option.some.inj (hv235_0.symm.trans hx235_0)); (rw [hv235_0] at ge235_0); (have HL235_0 := Za.mk (show Kd.R (Kd.int .i64) 3 _ _ _ _ (Zd t226 x8_2) from ge235_0)); (clear hv235_0 ge235_0); (clear hcc235 hce235); (have HR235_0 := Za.mk hi235_0); (have HC235_0 := Za.mk hl235_0); (clear hi235_0 hl235_0); (replace p235 := eq_true p235); (replace q235 := eq_true q235); (have p236 : 0 ≤ (x11_3 : Int) := of_decide_eq_true (by assumption)); (have q236 : x11_3 < ((Zd t226 x8_2).length : Int) := of_decide_eq_true (by assumption)); (obtain ⟨ad236, e236, hx236_0⟩ := Kd.at_int (by repeat (first | (with_reducible exact HR235_0.out) | (with_reducible refine Kd.C_alloc ?_ _) | (with_reducible refine Kd.C_drewN ?_ _) | (with_reducible refine Kd.C_drew ?_) | exact HR235_0.out)) x11_3 p236 q236)
       (cases e236); (replace p236 := eq_true p236); (replace q236 := eq_true q236)
       refine start_ (n := 21) (S := fun w' => w'.cell? ⟨gb231, 0, none⟩ = some (.int .i64 t224) ∧ w'.cell? ⟨gb231, 1, none⟩ = some (.int .i64 t225) ∧ w'.cell? ⟨gb231, 2, none⟩ = some (.slice (some ad233) t226.length co14) ∧ w'.cell? ⟨gb231, 3, none⟩ = some (.int .i64 t229) ∧ w'.cell? ⟨gb231, 4, none⟩ = some (.int .u32 t230) ∧ w'.cell? (ad233.add (x7_2).toNat) = some (.slice (some ad234) (Zd t226 x7_2).length c233_0) ∧ w'.cell? (ad234.add (x11_3).toNat) = some (.int .i64 (rd (Zd t226 x7_2) x11_3)) ∧ w'.cell? (ad233.add (x8_2).toNat) = some (.slice (some ad236) (Zd t226 x8_2).length c235_0) ∧ w'.cell? (ad236.add (x11_3).toNat) = some (.int .i64 (rd (Zd t226 x8_2) x11_3))) (ds := []) #[false, false, false, false, false, false, false, false, false, false, false, false, false, false, false, false, false, false, false, false, false] (by kernel_rfl) rfl rfl ⟨(Zb BK231.out 0).trans rfl, (Zb BK231.out 1).trans rfl, (Zb BK231.out 2).trans rfl, (Zb BK231.out 3).trans rfl, (Zb BK231.out 4).trans rfl, hx233_0, hx234_0, hx235_0, hx236_0⟩ (fun hHeld => ?_); refine with_tabW Zu.tab13 Zu.bits13 (fun HT_ HW_ => ?_)
       generalize wr.drew = w34 at HO_10 HO_232002 BK222 BK223 BK231 HB HL233_0 HL235_0 HR233_0 HR235_0 hx233_0 hx234_0 hx235_0 hx236_0 hHeld ⊢
       refine pure_ (i := 1) (N := some 39) (v := ?_) (a' := ?_) #[false, true, false, false, false, false, false, false, false, false, false, false, false, false, false, false, false, false, false, false, false] rfl rfl (Zj HT_.out (by kernel_rfl)) (fun _ _ _ h => h) (Or.inl ⟨by rfl, ?_⟩) ?_ ?_
       rotate_left
       ·intro w'
        go_simp
        with_reducible rfl
       rotate_left
       ·simp only [Act.put, List.setIfInBounds_toArray, List.set_cons_zero, List.set_cons_succ, Zg, Zf]
        rfl
       refine pure_ (i := 2) (N := some 40) (v := ?_) (a' := ?_) #[false, true, true, false, false, false, false, false, false, false, false, false, false, false, false, false, false, false, false, false, false] rfl rfl (Zj HT_.out (by kernel_rfl)) (fun _ _ _ h => h) (Or.inl ⟨by rfl, ?_⟩) ?_ ?_
       rotate_left
       ·intro w'
        go_simp
        with_reducible rfl
       rotate_left
       ·simp only [Act.put, List.setIfInBounds_toArray, List.set_cons_zero, List.set_cons_succ, Zg, Zf]
        rfl
       refine pure_ (i := 3) (N := some 41) (v := ?_) (a' := ?_) #[false, true, true, true, false, false, false, false, false, false, false, false, false, false, false, false, false, false, false, false, false] rfl rfl (Zj HT_.out (by kernel_rfl)) (fun _ _ _ h => h) (Or.inl ⟨by rfl, ?_⟩) ?_ ?_
       rotate_left
       ·intro w'
        go_simp
        with_reducible rfl
       rotate_left
       ·simp only [Act.put, List.setIfInBounds_toArray, List.set_cons_zero, List.set_cons_succ, Zg, Zf]
        rfl
       refine pure_ (i := 5) (N := some 43) (v := ?_) (a' := ?_) #[false, true, true, true, false, true, false, false, false, false, false, false, false, false, false, false, false, false, false, false, false] rfl rfl (Zj HT_.out (by kernel_rfl)) (fun _ _ _ h => h) (Or.inl ⟨by rfl, ?_⟩) ?_ ?_
       rotate_left
       ·intro w'
        go_simp
        with_reducible rfl
       rotate_left
       ·simp only [Act.put, List.setIfInBounds_toArray, List.set_cons_zero, List.set_cons_succ, Zg, Zf]
        rfl
       refine pure_ (i := 8) (N := some 46) (v := ?_) (a' := ?_) #[false, true, true, true, false, true, false, false, true, false, false, false, false, false, false, false, false, false, false, false, false] rfl rfl (Zj HT_.out (by kernel_rfl)) (fun _ _ _ h => h) (Or.inl ⟨by rfl, ?_⟩) ?_ ?_
       rotate_left
       ·intro w'
        go_simp
        with_reducible rfl
       rotate_left
       ·simp only [Act.put, List.setIfInBounds_toArray, List.set_cons_zero, List.set_cons_succ, Zg, Zf]
        rfl
       refine pure_ (i := 11) (N := some 49) (v := ?_) (a' := ?_) #[false, true, true, true, false, true, false, false, true, false, false, true, false, false, false, false, false, false, false, false, false] rfl rfl (Zj HT_.out (by kernel_rfl)) (fun _ _ _ h => h) (Or.inl ⟨by rfl, ?_⟩) ?_ ?_
       rotate_left
       ·intro w'
        go_simp
        with_reducible rfl
       rotate_left
       ·simp only [Act.put, List.setIfInBounds_toArray, List.set_cons_zero, List.set_cons_succ, Zg, Zf]
        rfl
       refine pure_ (i := 13) (N := some 51) (v := ?_) (a' := ?_) #[false, true, true, true, false, true, false, false, true, false, false, true, false, true, false, false, false, false, false, false, false] rfl rfl (Zj HT_.out (by kernel_rfl)) (fun _ _ _ h => h) (Or.inl ⟨by rfl, ?_⟩) ?_ ?_
       rotate_left
       ·intro w'
        go_simp
        with_reducible rfl
       rotate_left
       ·simp only [Act.put, List.setIfInBounds_toArray, List.set_cons_zero, List.set_cons_succ, Zg, Zf]
        rfl
       refine pure_ (i := 16) (N := some 54) (v := ?_) (a' := ?_) #[false, true, true, true, false, true, false, false, true, false, false, true, false, true, false, false, true, false, false, false, false] rfl rfl (Zj HT_.out (by kernel_rfl)) (fun _ _ _ h => h) (Or.inl ⟨by rfl, ?_⟩) ?_ ?_
       rotate_left
       ·intro w'
        go_simp
        with_reducible rfl
       rotate_left
       ·simp only [Act.put, List.setIfInBounds_toArray, List.set_cons_zero, List.set_cons_succ, Zg, Zf]
        rfl
       refine take_ (i := 0) (N := some 38) (v := ?_) (a' := ?_) #[true, true, true, true, false, true, false, false, true, false, false, true, false, true, false, false, true, false, false, false, false] rfl rfl (Zz HT_.out HW_.out (by kernel_rfl)) (fun _ _ _ h => h) (Or.inl ⟨by rfl, ?_⟩) hHeld ?_ ?_
       rotate_left
       ·rintro w' ⟨s0, s1, s2, s3, s4, s5, s6, s7, s8⟩
        go_simp
        with_reducible rfl
       rotate_left
       ·simp only [Act.put, List.setIfInBounds_toArray, List.set_cons_zero, List.set_cons_succ, Zg, Zf]
        rfl
       refine take_ (i := 4) (N := some 42) (v := ?_) (a' := ?_) #[true, true, true, true, true, true, false, false, true, false, false, true, false, true, false, false, true, false, false, false, false] rfl rfl (Zz HT_.out HW_.out (by kernel_rfl)) (fun _ _ _ h => h) (Or.inl ⟨by rfl, ?_⟩) hHeld ?_ ?_
       rotate_left
       ·rintro w' ⟨s0, s1, s2, s3, s4, s5, s6, s7, s8⟩
        go_simp
        with_reducible rfl
       rotate_left
       ·simp only [Act.put, List.setIfInBounds_toArray, List.set_cons_zero, List.set_cons_succ, Zg, Zf]
        rfl
       refine pure_ (i := 6) (N := some 44) (v := ?_) (a' := ?_) #[true, true, true, true, true, true, true, false, true, false, false, true, false, true, false, false, true, false, false, false, false] rfl rfl (Zj HT_.out (by kernel_rfl)) (fun _ _ _ h => h) (Or.inl ⟨by rfl, ?_⟩) ?_ ?_
       rotate_left
       ·intro w'
        go_simp
        with_reducible rfl
       rotate_left
       ·simp only [Act.put, List.setIfInBounds_toArray, List.set_cons_zero, List.set_cons_succ, Zg, Zf]
        rfl
       refine take_ (i := 7) (N := some 45) (v := ?_) (a' := ?_) #[true, true, true, true, true, true, true, true, true, false, false, true, false, true, false, false, true, false, false, false, false] rfl rfl (Zz HT_.out HW_.out (by kernel_rfl)) (fun _ _ _ h => h) (Or.inl ⟨by rfl, ?_⟩) hHeld ?_ ?_
       rotate_left
       ·rintro w' ⟨s0, s1, s2, s3, s4, s5, s6, s7, s8⟩
        go_simp
        with_reducible rfl
       rotate_left
       ·simp only [Act.put, List.setIfInBounds_toArray, List.set_cons_zero, List.set_cons_succ, Zg, Zf]
        rfl
       refine pure_ (i := 9) (N := some 47) (v := ?_) (a' := ?_) #[true, true, true, true, true, true, true, true, true, true, false, true, false, true, false, false, true, false, false, false, false] rfl rfl (Zj HT_.out (by kernel_rfl)) (fun _ _ _ h => h) (Or.inl ⟨by rfl, ?_⟩) ?_ ?_
       rotate_left
       ·intro w'
        go_simp
        with_reducible rfl
       rotate_left
       ·simp only [Act.put, List.setIfInBounds_toArray, List.set_cons_zero, List.set_cons_succ, Zg, Zf]
        rfl
       refine take_ (i := 10) (N := some 48) (v := ?_) (a' := ?_) #[true, true, true, true, true, true, true, true, true, true, true, true, false, true, false, false, true, false, false, false, false] rfl rfl (Zz HT_.out HW_.out (by kernel_rfl)) (fun _ _ _ h => h) (Or.inl ⟨by rfl, ?_⟩) hHeld ?_ ?_
       rotate_left
       ·rintro w' ⟨s0, s1, s2, s3, s4, s5, s6, s7, s8⟩
        go_simp
        with_reducible rfl
       rotate_left
       ·simp only [Act.put, List.setIfInBounds_toArray, List.set_cons_zero, List.set_cons_succ, Zg, Zf]
        rfl
       refine take_ (i := 12) (N := some 50) (v := ?_) (a' := ?_) #[true, true, true, true, true, true, true, true, true, true, true, true, true, true, false, false, true, false, false, false, false] rfl rfl (Zz HT_.out HW_.out (by kernel_rfl)) (fun _ _ _ h => h) (Or.inl ⟨by rfl, ?_⟩) hHeld ?_ ?_
       rotate_left
       ·rintro w' ⟨s0, s1, s2, s3, s4, s5, s6, s7, s8⟩
        go_simp
        with_reducible rfl
       rotate_left
       ·simp only [Act.put, List.setIfInBounds_toArray, List.set_cons_zero, List.set_cons_succ, Zg, Zf]
        rfl
       refine pure_ (i := 14) (N := some 52) (v := ?_) (a' := ?_) #[true, true, true, true, true, true, true, true, true, true, true, true, true, true, true, false, true, false, false, false, false] rfl rfl (Zj HT_.out (by kernel_rfl)) (fun _ _ _ h => h) (Or.inl ⟨by rfl, ?_⟩) ?_ ?_
       rotate_left
       ·intro w'
        go_simp
        with_reducible rfl
       rotate_left
       ·simp only [Act.put, List.setIfInBounds_toArray, List.set_cons_zero, List.set_cons_succ, Zg, Zf]
        rfl
       refine take_ (i := 15) (N := some 53) (v := ?_) (a' := ?_) #[true, true, true, true, true, true, true, true, true, true, true, true, true, true, true, true, true, false, false, false, false] rfl rfl (Zz HT_.out HW_.out (by kernel_rfl)) (fun _ _ _ h => h) (Or.inl ⟨by rfl, ?_⟩) hHeld ?_ ?_
       rotate_left
       ·rintro w' ⟨s0, s1, s2, s3, s4, s5, s6, s7, s8⟩
        go_simp
        with_reducible rfl
       rotate_left
       ·simp only [Act.put, List.setIfInBounds_toArray, List.set_cons_zero, List.set_cons_succ, Zg, Zf]
        rfl
       refine pure_ (i := 17) (N := some 55) (v := ?_) (a' := ?_) #[true, true, true, true, true, true, true, true, true, true, true, true, true, true, true, true, true, true, false, false, false] rfl rfl (Zj HT_.out (by kernel_rfl)) (fun _ _ _ h => h) (Or.inl ⟨by rfl, ?_⟩) ?_ ?_
       rotate_left
       ·intro w'
        go_simp
        with_reducible rfl
       rotate_left
       ·simp only [Act.put, List.setIfInBounds_toArray, List.set_cons_zero, List.set_cons_succ, Zg, Zf]
        rfl
       refine take_ (i := 18) (N := some 56) (v := ?_) (a' := ?_) #[true, true, true, true, true, true, true, true, true, true, true, true, true, true, true, true, true, true, true, false, false] rfl rfl (Zz HT_.out HW_.out (by kernel_rfl)) (fun _ _ _ h => h) (Or.inl ⟨by rfl, ?_⟩) hHeld ?_ ?_
       rotate_left
       ·rintro w' ⟨s0, s1, s2, s3, s4, s5, s6, s7, s8⟩
        go_simp
        with_reducible rfl
       rotate_left
       ·simp only [Act.put, List.setIfInBounds_toArray, List.set_cons_zero, List.set_cons_succ, Zg, Zf]
        rfl
       refine one_ (i := 19) (N := some 57) #[true, true, true, true, true, true, true, true, true, true, true, true, true, true, true, true, true, true, true, true, false] rfl rfl (one_of HT_.out (by kernel_rfl)) (by decide) (fun K hK => ?_)
       refine goes_ Try.func12 (by kernel_rfl) rfl #[.agg #[.int .i64 t224, .int .i64 t225, .slice (some ad233) t226.length co14, .int .i64 t229, .int .u32 t230], .int .i64 (wrap64 (x9_2 - 1)), .int .i64 (rd (Zd t226 x7_2) x11_3), .int .i64 (rd (Zd t226 x8_2) x11_3)] (by rfl) rfl rfl (by (try simp only [List.map_toArray, List.map_cons, List.map_nil]); first | done | rfl | (simp only [List.length_drop, List.length_take]; rfl)) ?_
       with_reducible refine (Zh.calls k3 t224 t225 _ _ t226 t229 t230 (wrap64 (x9_2 - 1)) (rd (Zd t226 x7_2) x11_3) (rd (Zd t226 x8_2) x11_3) true _ ?side1 ?side2 A31.out).mono ?_
       (case side1 => repeat (first | exact (Kd.S_reads' HO_232002.out).2.2 | (with_reducible refine Kd.C_alloc ?_ _) | (with_reducible refine Kd.C_drewN ?_ _) | (with_reducible refine Kd.C_drew ?_)))
       (case side2 => exact (Kd.S_reads' HO_232002.out).2.1)
       rintro e w35 ⟨rfl, hb⟩
       (have HS5_ := (hb.cell (World.block_lt_of_cell? _ _ (hHeld.2.2.2.2.2.1))).trans (hHeld.2.2.2.2.2.1)); (have HS6_ := (hb.cell (World.block_lt_of_cell? _ _ (hHeld.2.2.2.2.2.2.1))).trans (hHeld.2.2.2.2.2.2.1)); (have HS7_ := (hb.cell (World.block_lt_of_cell? _ _ (hHeld.2.2.2.2.2.2.2.1))).trans (hHeld.2.2.2.2.2.2.2.1)); (have HS8_ := (hb.cell (World.block_lt_of_cell? _ _ (hHeld.2.2.2.2.2.2.2.2))).trans (hHeld.2.2.2.2.2.2.2.2))
       refine ⟨_, rfl, ?_⟩
       (replace HO_10 := Za.mk (Kd.R_below (by (with_reducible repeat (first | apply Kd.R_alloc | apply Kd.R_drewN | apply Kd.R_drew)); exact HO_10.out) hb)); (replace HO_232002 := Za.mk (Kd.S_below (by (with_reducible repeat (first | apply Kd.S_alloc | apply Kd.S_drewN | apply Kd.S_drew)); exact HO_232002.out) hb)); (replace HL233_0 := Za.mk (Kd.R_below (by (with_reducible repeat (first | apply Kd.R_alloc | apply Kd.R_drewN | apply Kd.R_drew)); exact HL233_0.out) hb)); (replace HL235_0 := Za.mk (Kd.R_below (by (with_reducible repeat (first | apply Kd.R_alloc | apply Kd.R_drewN | apply Kd.R_drew)); exact HL235_0.out) hb)); (replace BK222 := Za.mk (Zi (g := gb222) (by (with_reducible repeat (first | apply zb3 | apply zb2 | apply zb1)); exact BK222.out) hb)); (replace BK223 := Za.mk (Zi (g := gb223) (by (with_reducible repeat (first | apply zb3 | apply zb2 | apply zb1)); exact BK223.out) hb)); (replace BK231 := Za.mk (Zi (g := gb231) (by (with_reducible repeat (first | apply zb3 | apply zb2 | apply zb1)); exact BK231.out) hb)); (replace HR233_0 := Za.mk (Kd.C_below (by repeat (first | (with_reducible exact HR233_0.out) | (with_reducible refine Kd.C_alloc ?_ _) | (with_reducible refine Kd.C_drewN ?_ _) | (with_reducible refine Kd.C_drew ?_) | exact HR233_0.out)) hb)); (replace HR235_0 := Za.mk (Kd.C_below (by repeat (first | (with_reducible exact HR235_0.out) | (with_reducible refine Kd.C_alloc ?_ _) | (with_reducible refine Kd.C_drewN ?_ _) | (with_reducible refine Kd.C_drew ?_) | exact HR235_0.out)) hb))
       (replace HB := Za.mk (Zm (by repeat (first | (with_reducible first | exact HB.out | apply zc1 | apply zc2 | apply zc3 | refine zc4 ?_ (by assumption)) | exact HB.out)) hb)); ((try clear hb)); ((try clear hb2)); ((try clear hk)); ((try clear hi))
       refine hK.out _ _ ⟨(Zb BK231.out 0).trans rfl, (Zb BK231.out 1).trans rfl, (Zb BK231.out 2).trans rfl, (Zb BK231.out 3).trans rfl, (Zb BK231.out 4).trans rfl, HS5_, HS6_, HS7_, HS8_⟩ (fun hHeld => ?_)
       clear hK K
       refine norm_ (a' := ?_) ?_ ?_
       rotate_left
       ·show Act.put _ (some 57) _ = _
        simp only [Act.put, List.setIfInBounds_toArray, List.set_cons_zero, List.set_cons_succ, Zg, Zf]
        rfl
       refine pure_ (i := 20) (N := some 58) (v := ?_) (a' := ?_) #[true, true, true, true, true, true, true, true, true, true, true, true, true, true, true, true, true, true, true, true, true] rfl rfl (Zj HT_.out (by kernel_rfl)) (fun _ _ _ h => h) (Or.inl ⟨by rfl, ?_⟩) ?_ ?_
       rotate_left
       ·intro w'
        go_simp
        with_reducible rfl
       rotate_left
       ·simp only [Act.put, List.setIfInBounds_toArray, List.set_cons_zero, List.set_cons_succ, Zg, Zf]
        rfl
       refine done_ (done_of HT_.out (by kernel_rfl)) ?_
       try go_wp2_with (first | ((with_reducible refine gate_builtin (b := .append) (xs := #[.tmp 61, .tmp 63]) rfl ?_); at_builtin; refine Kd.R_append (Kd.int .i64) (w0 := w) w.heap.size rfl (.tmp 61) (.tmp 63) 26 3 (.int .i64 0) 8 rfl Try.underlying26 info3 rfl (by decide) (by omega) u10 x10_2 x11_3 [.int .i64 x11_3] (fun _ => True) (fun _ => False) rfl rfl ?aP (fun _ hk => hk.elim) ?aF ?aO ?aB ?aS ?aL ?_; (case aP => exact rfl); (case aB => exact (by repeat (first | (with_reducible first | exact HB.out | apply zc1 | apply zc2 | apply zc3 | refine zc4 ?_ (by assumption)) | exact HB.out))); (case aF => exact (fun _ _ => trivial)); (case aO => exact (by (with_reducible repeat (first | apply Kd.R_alloc | apply Kd.R_drewN | apply Kd.R_drew)); exact HO_10.out)); (case aS => exact (Zk (by repeat (first | (with_reducible first | exact HB.out | apply zc1 | apply zc2 | apply zc3 | refine zc4 ?_ (by assumption)) | exact HB.out)))); (case aL => have := LMc33.out; omega); intro v239 w36 ho hb hg hat; rw [← Ny238.out] at ho; replace HO_232002 := Za.mk (Kd.S_after (ok := (fun _ => True)) (by (with_reducible repeat (first | apply Kd.S_alloc | apply Kd.S_drewN | apply Kd.S_drew)); exact Kd.S_mono HO_232002.out (fun _ hk => ⟨trivial, hk⟩)) hg hat); replace BK222 := Za.mk (Zf1 (g := gb222) (by (with_reducible repeat (first | apply zb3 | apply zb2 | apply zb1)); exact BK222.out) hg (Kd.R_ne HO_10.out BK222.out (by decide))); replace BK223 := Za.mk (Zf1 (g := gb223) (by (with_reducible repeat (first | apply zb3 | apply zb2 | apply zb1)); exact BK223.out) hg (Kd.R_ne HO_10.out BK223.out (by decide))); replace BK231 := Za.mk (Zf1 (g := gb231) (by (with_reducible repeat (first | apply zb3 | apply zb2 | apply zb1)); exact BK231.out) hg (Kd.R_ne HO_10.out BK231.out (by decide))); replace HL233_0 := Za.mk (Kd.R_after (ok := (fun k_ => some k_ ≠ (.slice (some ad233) t226.length co14 : Value).ownBlock)) (by (with_reducible repeat (first | apply Kd.R_alloc | apply Kd.R_drewN | apply Kd.R_drew)); exact Kd.R_mono HL233_0.out (fun _ hk => ⟨hk.2, hk.1⟩)) hg hat); replace HL235_0 := Za.mk (Kd.R_after (ok := (fun k_ => some k_ ≠ (.slice (some ad233) t226.length co14 : Value).ownBlock)) (by (with_reducible repeat (first | apply Kd.R_alloc | apply Kd.R_drewN | apply Kd.R_drew)); exact Kd.R_mono HL235_0.out (fun _ hk => ⟨hk.2, hk.1⟩)) hg hat); replace HB := Za.mk (hb); have HO240 := Za.mk (ho); clear HO_10; clear ho hb hg hat; have hnb37 := NB231_222.out; have hnc37 := NB222_231.out; have hnb38 := NB231_223.out; have hnc38 := NB223_231.out; have hcz39_0 : w36.cell? ⟨gb231, 0, none⟩ = some (.int .i64 t224) := (Zb BK231.out 0).trans rfl; have hcz39_1 : w36.cell? ⟨gb231, 1, none⟩ = some (.int .i64 t225) := (Zb BK231.out 1).trans rfl; have hcz39_2 : w36.cell? ⟨gb231, 2, none⟩ = some (.slice (some ad233) t226.length co14) := (Zb BK231.out 2).trans rfl; have hcz39_3 : w36.cell? ⟨gb231, 3, none⟩ = some (.int .i64 t229) := (Zb BK231.out 3).trans rfl; have hcz39_4 : w36.cell? ⟨gb231, 4, none⟩ = some (.int .u32 t230) := (Zb BK231.out 4).trans rfl; have hfz39_0 := Zc BK231.out 0; have hfz39_1 := Zc BK231.out 1; have hfz39_2 := Zc BK231.out 2; have hfz39_3 := Zc BK231.out 3; have hfz39_4 := Zc BK231.out 4; have p241 : 0 ≤ (x7_2 : Int) := of_decide_eq_true (by assumption); have q241 : x7_2 < (t226.length : Int) := of_decide_eq_true (by assumption); obtain ⟨ad241, A241_0, c241_0, e241, hx241_0, hl241_0, hi241_0⟩ := at_L1 (Kd.S_reads' HO_232002.out).2.2 x7_2 p241 q241; obtain rfl : ad233 = ad241 := (by injection e241); obtain ⟨ce241, hce241, hMe241, hcc241⟩ := Kd.S_get HO_232002.out [] x7_2 p241 (by first | exact q241 | exact of_decide_eq_true (by assumption) | (have e_ := (Kd.S_reads' HO_232002.out).1; omega)); obtain ⟨ve241_0, rfl, ge241_0⟩ := hMe241; have hv241_0 := hcc241 0 _ rfl; rw [Nat.add_zero, show ((Kd.slice 3 (Kd.int .i64))).sz = 1 from rfl, Nat.mul_one] at hv241_0; replace hv241_0 := Option.some.inj (hv241_0.symm.trans hx241_0); rw [hv241_0] at ge241_0; have HL241_0 := Za.mk (show Kd.R (Kd.int .i64) 3 _ _ _ _ (Zd t226 x7_2) from ge241_0); clear hv241_0 ge241_0; clear hcc241 hce241; have HR241_0 := Za.mk hi241_0; have HC241_0 := Za.mk hl241_0; clear hi241_0 hl241_0; replace p241 := eq_true p241; replace q241 := eq_true q241; have p242 : 0 ≤ (x11_3 : Int) := of_decide_eq_true (by assumption); have q242 : x11_3 < ((Zd t226 x7_2).length : Int) := of_decide_eq_true (by assumption); obtain ⟨ad242, e242, hx242_0⟩ := Kd.at_int (by repeat (first | (with_reducible exact HR241_0.out) | (with_reducible refine Kd.C_alloc ?_ _) | (with_reducible refine Kd.C_drewN ?_ _) | (with_reducible refine Kd.C_drew ?_) | exact HR241_0.out)) x11_3 p242 q242; cases e242; replace p242 := eq_true p242; replace q242 := eq_true q242; have p243 : 0 ≤ (x8_2 : Int) := of_decide_eq_true (by assumption); have q243 : x8_2 < (t226.length : Int) := of_decide_eq_true (by assumption); obtain ⟨ad243, A243_0, c243_0, e243, hx243_0, hl243_0, hi243_0⟩ := at_L1 (Kd.S_reads' HO_232002.out).2.2 x8_2 p243 q243; obtain rfl : ad233 = ad243 := (by injection e243); obtain ⟨ce243, hce243, hMe243, hcc243⟩ := Kd.S_get HO_232002.out [] x8_2 p243 (by first | exact q243 | exact of_decide_eq_true (by assumption) | (have e_ := (Kd.S_reads' HO_232002.out).1; omega)); obtain ⟨ve243_0, rfl, ge243_0⟩ := hMe243; have hv243_0 := hcc243 0 _ rfl; rw [Nat.add_zero, show ((Kd.slice 3 (Kd.int .i64))).sz = 1 from rfl, Nat.mul_one] at hv243_0; replace hv243_0 := Option.some.inj (hv243_0.symm.trans hx243_0); rw [hv243_0] at ge243_0; have HL243_0 := Za.mk (show Kd.R (Kd.int .i64) 3 _ _ _ _ (Zd t226 x8_2) from ge243_0); clear hv243_0 ge243_0; clear hcc243 hce243; have HR243_0 := Za.mk hi243_0; have HC243_0 := Za.mk hl243_0; clear hi243_0 hl243_0; replace p243 := eq_true p243; replace q243 := eq_true q243; have p244 : 0 ≤ (x11_3 : Int) := of_decide_eq_true (by assumption); have q244 : x11_3 < ((Zd t226 x8_2).length : Int) := of_decide_eq_true (by assumption); obtain ⟨ad244, e244, hx244_0⟩ := Kd.at_int (by repeat (first | (with_reducible exact HR243_0.out) | (with_reducible refine Kd.C_alloc ?_ _) | (with_reducible refine Kd.C_drewN ?_ _) | (with_reducible refine Kd.C_drew ?_) | exact HR243_0.out)) x11_3 p244 q244; cases e244; replace p244 := eq_true p244; replace q244 := eq_true q244))
       go_roundg k3
       case measure => have := HK1.out; have := HK2.out; have := HK3.out; omega
       case rel => exact ⟨(rd (Zd t226 x7_2) x11_3), (rd (Zd t226 x8_2) x11_3), (wrap64 (x9_2 - 1)), (y238), (by first | rfl | (simp; done) | (simp [*]; done)), (by first | rfl | (simp; done) | (simp [*]; done)), (by first | rfl | (simp; done) | (simp [*]; done)), H', ⟨by have := HK1.out; have := HK2.out; have := HK3.out; omega⟩, ⟨by (with_reducible repeat (first | apply Kd.R_alloc | apply Kd.R_drewN | apply Kd.R_drew)); exact HO240.out⟩, ⟨by (with_reducible repeat (first | apply Kd.S_alloc | apply Kd.S_drewN | apply Kd.S_drew)); exact Kd.S_mono HO_232002.out (fun _ hk => hk.2)⟩, ⟨by (with_reducible repeat (first | apply zb3 | apply zb2 | apply zb1)); exact BK222.out⟩, ⟨by (with_reducible repeat (first | apply zb3 | apply zb2 | apply zb1)); exact BK223.out⟩, ⟨by (with_reducible repeat (first | apply zb3 | apply zb2 | apply zb1)); exact BK231.out⟩, ⟨by repeat (first | (with_reducible first | exact HB.out | apply zc1 | apply zc2 | apply zc3 | refine zc4 ?_ (by assumption)) | exact HB.out)⟩⟩
end Go.Proofs.Ytdoenjnjpenboaa.PLeastAparts
