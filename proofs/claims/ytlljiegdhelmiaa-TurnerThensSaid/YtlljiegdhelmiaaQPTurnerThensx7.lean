-- Printed by a turn of a template of the kit, and shortened: remarks and what nothing here uses are left out.
import Derived.Test.YtlljiegdhelmiaaQPTurnerThensx0
import Derived.Test.YtlljiegdhelmiaaQPTurnerThensx6
namespace Go.Proofs.Ytlljiegdhelmiaa.PTurnerThens
open Go.RowKit Go.Proofs.YtlljiegdhelmiaaW.PrintWords Go.Proofs.YtlljiegdhelmiaaW.PrintLast Go.Proofs.YtlljiegdhelmiaaW.PrintMore
attribute [local go_sem] max2_int min2_int max_two min_two max_three min_three max_four min_four
set_option linter.unusedVariables false
set_option linter.unusedSimpArgs false
mutual
def Zv.l0 : Nat → Int → Int → Int → Int → List (List Int) → List (List (List Int)) → Int → Int → Int → Int → List (List Int) → List (List (List Int)) → Int → Int → Int → Int → List (List Int) → List (List (List Int)) → Int → Option (Int × Int × Int × (List (List Int)) × (List (List (List Int))) × Int × Bool)
  | 0, _, _, _, _, _, _, _, _, _, _, _, _, _, _, _, _, _, _, _ => none
  | k + 1, x7, x207000, x207001, x207002, x207003, x207004, x207005, x208000, x208001, x208002, x208003, x208004, x208005, x210000, x210001, x210002, x210003, x210004, x210005 => if x7 < x210000 then (Zv.l1 k x7 ([] : List Int) ([] : List (List Int)) 0 x207000 x207001 x207002 x207003 x207004 x207005 x208000 x208001 x208002 x208003 x208004 x208005 x210000 x210001 x210002 x210003 x210004 x210005) else (some (x210000, x210001, x210002, x210003, x210004, x210005, true))
def Zv.l1 : Nat → Int → List Int → List (List Int) → Int → Int → Int → Int → List (List Int) → List (List (List Int)) → Int → Int → Int → Int → List (List Int) → List (List (List Int)) → Int → Int → Int → Int → List (List Int) → List (List (List Int)) → Int → Option (Int × Int × Int × (List (List Int)) × (List (List (List Int))) × Int × Bool)
  | 0, _, _, _, _, _, _, _, _, _, _, _, _, _, _, _, _, _, _, _, _, _, _ => none
  | k + 1, x7, x8, x9, x10, x207000, x207001, x207002, x207003, x207004, x207005, x208000, x208001, x208002, x208003, x208004, x208005, x210000, x210001, x210002, x210003, x210004, x210005 => if x10 < x207001 then (if x208000 = 0 then (none) else (if 0 ≤ (wrap64 (Int.tdiv x7 x208000)) then (if (wrap64 (Int.tdiv x7 x208000)) < (x207004.length : Int) then (if 0 ≤ x10 then (if x10 < ((Zm x207004 (wrap64 (Int.tdiv x7 x208000))).length : Int) then ((Zh1.f k x208000 x208001 x208002 x208003 x208004 x208005 (Int.tmod x7 x208000) (Zj (Zm x207004 (wrap64 (Int.tdiv x7 x208000))) x10)).bind fun bt212 => (if (bt212.1.length : Int) > 4 then (some (0, 0, 0, ([] : List (List Int)), ([] : List (List (List Int))), 0, false)) else (if (wrap64 (Int.tdiv x7 x208000)) < (x207003.length : Int) then (if x10 < ((Zj x207003 (wrap64 (Int.tdiv x7 x208000))).length : Int) then (if x8.length < 17592186044416 then (if x9.length < 5864062014805 then (Zv.l1 k x7 (x8 ++ [wrap64 ((wrap64 ((rd (Zj x207003 (wrap64 (Int.tdiv x7 x208000))) x10) * x208000)) + bt212.2)]) (x9 ++ [bt212.1]) (wrap64 (x10 + 1)) x207000 x207001 x207002 x207003 x207004 x207005 x208000 x208001 x208002 x208003 x208004 x208005 x210000 x210001 x210002 x210003 x210004 x210005) else (none)) else (none)) else (none)) else (none)))) else (none)) else (none)) else (none)) else (none))) else (if x210003.length < 5864062014805 then (if x210004.length < 5864062014805 then (Zv.l0 k (wrap64 (x7 + 1)) x207000 x207001 x207002 x207003 x207004 x207005 x208000 x208001 x208002 x208003 x208004 x208005 x210000 x210001 x210002 (x210003 ++ [x8]) (x210004 ++ [x9]) x210005) else (none)) else (none))
end
def Zv.f (k : Nat) (a0_0 : Int) (a0_1 : Int) (a0_2 : Int) (l0_3 : List (List Int)) (l0_4 : List (List (List Int))) (a0_5 : Int) (a1_0 : Int) (a1_1 : Int) (a1_2 : Int) (l1_3 : List (List Int)) (l1_4 : List (List (List Int))) (a1_5 : Int) : Option (Int × Int × Int × (List (List Int)) × (List (List (List Int))) × Int × Bool) := Zv.l0 k 0 a0_0 a0_1 a0_2 l0_3 l0_4 a0_5 a1_0 a1_1 a1_2 l1_3 l1_4 a1_5 (wrap64 (a0_0 * a1_0)) a0_1 a1_2 ([] : List (List Int)) ([] : List (List (List Int))) (wrap64 ((wrap64 (a0_5 * a1_0)) + a1_5))
theorem Zv.mono_l : ∀ k, (∀ y0 y1 y2 y3 y4 y5 y6 y7 y8 y9 y10 y11 y12 y13 y14 y15 y16 y17 y18, LeO (Zv.l0 k y0 y1 y2 y3 y4 y5 y6 y7 y8 y9 y10 y11 y12 y13 y14 y15 y16 y17 y18) (Zv.l0 (k + 1) y0 y1 y2 y3 y4 y5 y6 y7 y8 y9 y10 y11 y12 y13 y14 y15 y16 y17 y18)) ∧ (∀ y0 y1 y2 y3 y4 y5 y6 y7 y8 y9 y10 y11 y12 y13 y14 y15 y16 y17 y18 y19 y20 y21, LeO (Zv.l1 k y0 y1 y2 y3 y4 y5 y6 y7 y8 y9 y10 y11 y12 y13 y14 y15 y16 y17 y18 y19 y20 y21) (Zv.l1 (k + 1) y0 y1 y2 y3 y4 y5 y6 y7 y8 y9 y10 y11 y12 y13 y14 y15 y16 y17 y18 y19 y20 y21))
  | 0 => ⟨fun _ _ _ _ _ _ _ _ _ _ _ _ _ _ _ _ _ _ _ r h => by simp [Zv.l0] at h, fun _ _ _ _ _ _ _ _ _ _ _ _ _ _ _ _ _ _ _ _ _ _ r h => by simp [Zv.l1] at h⟩
  | k + 1 => by
    obtain ⟨ih0, ih1⟩ := Zv.mono_l k
    refine ⟨?_, ?_⟩
    · intro y0 y1 y2 y3 y4 y5 y6 y7 y8 y9 y10 y11 y12 y13 y14 y15 y16 y17 y18
      unfold Zv.l0
      repeat' first
      | (with_reducible exact ih0 _ _ _ _ _ _ _ _ _ _ _ _ _ _ _ _ _ _ _)
      | (with_reducible exact ih1 _ _ _ _ _ _ _ _ _ _ _ _ _ _ _ _ _ _ _ _ _ _)
      | (with_reducible exact Zh1.mono _ _ _ _ _ _ _ _ _)
      | (with_reducible exact LeO.refl _)
      | (with_reducible exact LeO.none _)
      | (with_reducible refine LeO.ite ?_ ?_)
      | (with_reducible refine LeO.bind ?_ (fun _ => ?_))
      | exact ih0 _ _ _ _ _ _ _ _ _ _ _ _ _ _ _ _ _ _ _
      | exact ih1 _ _ _ _ _ _ _ _ _ _ _ _ _ _ _ _ _ _ _ _ _ _
      | exact Zh1.mono _ _ _ _ _ _ _ _ _
      | exact LeO.none _
      | refine LeO.ite ?_ ?_
      | refine LeO.bind ?_ (fun _ => ?_)
    · intro y0 y1 y2 y3 y4 y5 y6 y7 y8 y9 y10 y11 y12 y13 y14 y15 y16 y17 y18 y19 y20 y21
      unfold Zv.l1
      repeat' first
      | (with_reducible exact ih0 _ _ _ _ _ _ _ _ _ _ _ _ _ _ _ _ _ _ _)
      | (with_reducible exact ih1 _ _ _ _ _ _ _ _ _ _ _ _ _ _ _ _ _ _ _ _ _ _)
      | (with_reducible exact Zh1.mono _ _ _ _ _ _ _ _ _)
      | (with_reducible exact LeO.refl _)
      | (with_reducible exact LeO.none _)
      | (with_reducible refine LeO.ite ?_ ?_)
      | (with_reducible refine LeO.bind ?_ (fun _ => ?_))
      | exact ih0 _ _ _ _ _ _ _ _ _ _ _ _ _ _ _ _ _ _ _
      | exact ih1 _ _ _ _ _ _ _ _ _ _ _ _ _ _ _ _ _ _ _ _ _ _
      | exact Zh1.mono _ _ _ _ _ _ _ _ _
      | exact LeO.none _
      | refine LeO.ite ?_ ?_
      | refine LeO.bind ?_ (fun _ => ?_)
theorem Zv.mono : ∀ a0 a1 a2 a3 a4 a5 a6 a7 a8 a9 a10 a11 k, LeO (Zv.f k a0 a1 a2 a3 a4 a5 a6 a7 a8 a9 a10 a11) (Zv.f (k + 1) a0 a1 a2 a3 a4 a5 a6 a7 a8 a9 a10 a11) := by
  intro a0 a1 a2 a3 a4 a5 a6 a7 a8 a9 a10 a11 k
  obtain ⟨ih0, ih1⟩ := Zv.mono_l k
  unfold Zv.f
  repeat' first
      | (with_reducible exact ih0 _ _ _ _ _ _ _ _ _ _ _ _ _ _ _ _ _ _ _)
      | (with_reducible exact ih1 _ _ _ _ _ _ _ _ _ _ _ _ _ _ _ _ _ _ _ _ _ _)
      | (with_reducible exact Zh1.mono _ _ _ _ _ _ _ _ _)
      | (with_reducible exact LeO.refl _)
      | (with_reducible exact LeO.none _)
      | (with_reducible refine LeO.ite ?_ ?_)
      | (with_reducible refine LeO.bind ?_ (fun _ => ?_))
      | exact ih0 _ _ _ _ _ _ _ _ _ _ _ _ _ _ _ _ _ _ _
      | exact ih1 _ _ _ _ _ _ _ _ _ _ _ _ _ _ _ _ _ _ _ _ _ _
      | exact Zh1.mono _ _ _ _ _ _ _ _ _
      | exact LeO.none _
      | refine LeO.ite ?_ ?_
      | refine LeO.bind ?_ (fun _ => ?_)
def Zv.T10 : Bool × List (List Nat × List Nat) := (true, [([], []), ([], []), ([], []), ([2], [2]), ([1, 3], [1, 3]), ([], []), ([5], [5]), ([], []), ([], []), ([8], [8]), ([7, 9], [7, 9]), ([6, 10], [6, 10]), ([11], [11]), ([], []), ([12, 13], [12, 13]), ([14], [14]), ([0, 4, 15], [0, 4, 15]), ([16], [16]), ([17], [17]), ([17], [17]), ([18, 16, 0, 1, 2, 3, 4, 5, 6, 7, 8, 9, 10, 11, 12, 13, 14, 15, 16, 17, 18], [18]), ([19, 20, 0, 1, 2, 3, 4, 5, 6, 7, 8, 9, 10, 11, 12, 13, 14, 15, 16, 17, 18, 19, 20], [19])])
def Zv.B10 : List Nat := [0, 0, 0, 4, 14, 0, 32, 0, 0, 256, 896, 2016, 4064, 0, 16352, 32736, 65535, 131071, 262143, 262143, 524287, 2097151]
theorem Zv.tab10 : rtab .any (opsOf Try.f6 10) = Zv.T10 := by kernel_rfl
theorem Zv.bits10 : waitsOk Zv.T10.2 Zv.B10 = true := by kernel_rfl
def Zv.T13 : Bool × List (List Nat × List Nat) := (true, [([], []), ([], []), ([1], [1]), ([], []), ([], []), ([4], [4]), ([3, 5], [3, 5]), ([2, 6], [2, 6]), ([7], [7]), ([], []), ([8, 9], [8, 9]), ([10], [10]), ([], []), ([12], [12]), ([11, 13], [11, 13]), ([], []), ([14, 15], [14, 15]), ([16], [16]), ([0, 17], [0, 17]), ([18, 18, 0, 1, 2, 3, 4, 5, 6, 7, 8, 9, 10, 11, 12, 13, 14, 15, 16, 17, 18], [0, 18])])
def Zv.B13 : List Nat := [0, 0, 2, 0, 0, 16, 56, 126, 254, 0, 1022, 2046, 0, 4096, 16382, 0, 65534, 131070, 262143, 524287]
theorem Zv.tab13 : rtab .any (opsOf Try.f6 13) = Zv.T13 := by kernel_rfl
theorem Zv.bits13 : waitsOk Zv.T13.2 Zv.B13 = true := by kernel_rfl
set_option maxHeartbeats 8000000 in
set_option maxRecDepth 100000 in
theorem Zv.calls (k : Nat) (a0_0 : Int) (a0_1 : Int) (a0_2 : Int) (A0_3 : Option Addr) (c0_3 : Nat) (l0_3 : List (List Int)) (A0_4 : Option Addr) (c0_4 : Nat) (l0_4 : List (List (List Int))) (a0_5 : Int) (a1_0 : Int) (a1_1 : Int) (a1_2 : Int) (A1_3 : Option Addr) (c1_3 : Nat) (l1_3 : List (List Int)) (A1_4 : Option Addr) (c1_4 : Nat) (l1_4 : List (List (List Int))) (a1_5 : Int) (r1 : Int) (r2 : Int) (r3 : Int) (r4 : List (List Int)) (r5 : List (List (List Int))) (r6 : Int) (r7 : Bool) (w : World) (hr0_3 : Kd.C (Kd.slice 3 (Kd.int .i64)) w A0_3 l0_3.length l0_3) (hc0_3 : l0_3.length ≤ c0_3) (hr0_4 : Kd.C (Kd.slice 33 (Kd.slice 3 (Kd.int .i64))) w A0_4 l0_4.length l0_4) (hc0_4 : l0_4.length ≤ c0_4) (hr1_3 : Kd.C (Kd.slice 3 (Kd.int .i64)) w A1_3 l1_3.length l1_3) (hc1_3 : l1_3.length ≤ c1_3) (hr1_4 : Kd.C (Kd.slice 33 (Kd.slice 3 (Kd.int .i64))) w A1_4 l1_4.length l1_4) (hc1_4 : l1_4.length ≤ c1_4) (h : Zv.f k a0_0 a0_1 a0_2 l0_3 l0_4 a0_5 a1_0 a1_1 a1_2 l1_3 l1_4 a1_5 = some (r1, r2, r3, r4, r5, r6, r7)) :
    Calls Try.prog 6 #[.agg #[.int .i64 a0_0, .int .i64 a0_1, .int .i64 a0_2, .slice A0_3 l0_3.length c0_3, .slice A0_4 l0_4.length c0_4, .int .i64 a0_5], .agg #[.int .i64 a1_0, .int .i64 a1_1, .int .i64 a1_2, .slice A1_3 l1_3.length c1_3, .slice A1_4 l1_4.length c1_4, .int .i64 a1_5]] w fun e w' => ∃ v3_ v4_ : Value, e = .returned (.tuple #[.agg #[.int .i64 r1, .int .i64 r2, .int .i64 r3, v3_, v4_, .int .i64 r6], .bool r7]) ∧ Kd.S (Kd.slice 3 (Kd.int .i64)) 33 w' w.heap.size (fun _ => True) v3_ r4 ∧ Kd.R (Kd.slice 33 (Kd.slice 3 (Kd.int .i64))) 22 w' w.heap.size (fun k_ => some k_ ≠ (v3_ : Value).ownBlock) v4_ r5 ∧ Below w.heap.size w w' := by
 (have hu25 := Try.underlying25); (have HR0_3 := Za.mk hr0_3); (have HC0_3 := Za.mk hc0_3); (clear hr0_3 hc0_3); (have HR0_4 := Za.mk hr0_4); (have HC0_4 := Za.mk hc0_4); (clear hr0_4 hc0_4); (have HR1_3 := Za.mk hr1_3); (have HC1_3 := Za.mk hc1_3); (clear hr1_3 hc1_3); (have HR1_4 := Za.mk hr1_4); (have HC1_4 := Za.mk hc1_4); (clear hr1_4 hc1_4); (have HB := Za.mk (Below.refl w.heap.size w)); (have H : (Zv.l0 k 0 a0_0 a0_1 a0_2 l0_3 l0_4 a0_5 a1_0 a1_1 a1_2 l1_3 l1_4 a1_5 (wrap64 (a0_0 * a1_0)) a0_1 a1_2 ([] : List (List Int)) ([] : List (List (List Int))) (wrap64 ((wrap64 (a0_5 * a1_0)) + a1_5))) = some (r1, r2, r3, r4, r5, r6, r7) := h); (clear h); (have H' := Za.mk H); (clear H)
 go_enter Try.func6, Try.ntmps6
 go_wp2_with (first | ((with_reducible refine Ze1 (N := 2) rfl ?_); refine Zf1 ?hg (N := 2) ?hd (cs := #[.int .i64 a0_0, .int .i64 a0_1, .int .i64 a0_2, .slice A0_3 l0_3.length c0_3, .slice A0_4 l0_4.length c0_4, .int .i64 a0_5]) (t := 25) ?hr ?_; (case hd => rfl); (case hg => rfl); (case hr => first | (go_simp; done) | (go_simp; rfl)); intro gb206 hg w3 hbox hb; have BK206 := Za.mk (hbox); have GW206 := Za.mk ((by rw [hg]; exact (Zo (by repeat (first | (with_reducible first | exact HB.out | apply zc1 | apply zc2 | apply zc3) | exact HB.out))) : w.heap.size ≤ gb206)); have GE206 := Za.mk ((by rw [hg]; exact (Zo (by repeat (first | (with_reducible first | exact HB.out | apply zc1 | apply zc2 | apply zc3) | exact HB.out))) : w.heap.size ≤ gb206)); replace HB := Za.mk (Zu (by repeat (first | (with_reducible first | exact HB.out | apply zc1 | apply zc2 | apply zc3) | exact HB.out)) hb); clear hb hbox hg) | ((with_reducible refine Ze1 (N := 3) rfl ?_); refine Zf1 ?hg (N := 3) ?hd (cs := #[.int .i64 a1_0, .int .i64 a1_1, .int .i64 a1_2, .slice A1_3 l1_3.length c1_3, .slice A1_4 l1_4.length c1_4, .int .i64 a1_5]) (t := 25) ?hr ?_; (case hd => rfl); (case hg => rfl); (case hr => first | (go_simp; done) | (go_simp; rfl)); intro gb207 hg w4 hbox hb; have BK207 := Za.mk (hbox); have GW207 := Za.mk ((by rw [hg]; exact (Zo (by repeat (first | (with_reducible first | exact HB.out | apply zc1 | apply zc2 | apply zc3 | refine zc4 ?_ (by assumption)) | exact HB.out))) : w.heap.size ≤ gb207)); have GE207 := Za.mk ((by rw [hg]; exact (Zo (by repeat (first | (with_reducible first | exact HB.out | apply zc1 | apply zc2 | apply zc3 | refine zc4 ?_ (by assumption)) | exact HB.out))) : w.heap.size ≤ gb207)); replace HB := Za.mk (Zu (by repeat (first | (with_reducible first | exact HB.out | apply zc1 | apply zc2 | apply zc3 | refine zc4 ?_ (by assumption)) | exact HB.out)) hb); have NB206_207 := Za.mk ((by rw [hg]; exact Nat.ne_of_lt (Zr (g := gb206) (o := .cells #[.int .i64 a0_0, .int .i64 a0_1, .int .i64 a0_2, .slice A0_3 l0_3.length c0_3, .slice A0_4 l0_4.length c0_4, .int .i64 a0_5] 25 (0, 0)) (by (with_reducible repeat (first | apply zb3 | apply zb2 | apply zb1)); exact BK206.out)) : gb206 ≠ gb207)); have NB207_206 := Za.mk ((by rw [hg]; exact Nat.ne_of_gt (Zr (g := gb206) (o := .cells #[.int .i64 a0_0, .int .i64 a0_1, .int .i64 a0_2, .slice A0_3 l0_3.length c0_3, .slice A0_4 l0_4.length c0_4, .int .i64 a0_5] 25 (0, 0)) (by (with_reducible repeat (first | apply zb3 | apply zb2 | apply zb1)); exact BK206.out)) : gb207 ≠ gb206)); replace BK206 := Za.mk (Zk (g := gb206) (by (with_reducible repeat (first | apply zb3 | apply zb2 | apply zb1)); exact BK206.out) hb); clear hb hbox hg) | ((with_reducible refine Ze1 (N := 4) rfl ?_); refine Zf1 ?hg (N := 4) ?hd (cs := #[.int .i64 0, .int .i64 0, .int .i64 0, .slice none 0 0, .slice none 0 0, .int .i64 0]) (t := 25) ?hr ?_; (case hd => rfl); (case hg => rfl); (case hr => first | (go_simp; done) | (go_simp; rfl)); intro gb208 hg w5 hbox hb; have BK208 := Za.mk (hbox); have GW208 := Za.mk ((by rw [hg]; exact (Zo (by repeat (first | (with_reducible first | exact HB.out | apply zc1 | apply zc2 | apply zc3 | refine zc4 ?_ (by assumption)) | exact HB.out))) : w.heap.size ≤ gb208)); have GE208 := Za.mk ((by rw [hg]; exact (Zo (by repeat (first | (with_reducible first | exact HB.out | apply zc1 | apply zc2 | apply zc3 | refine zc4 ?_ (by assumption)) | exact HB.out))) : w.heap.size ≤ gb208)); replace HB := Za.mk (Zu (by repeat (first | (with_reducible first | exact HB.out | apply zc1 | apply zc2 | apply zc3 | refine zc4 ?_ (by assumption)) | exact HB.out)) hb); have NB206_208 := Za.mk ((by rw [hg]; exact Nat.ne_of_lt (Zr (g := gb206) (o := .cells #[.int .i64 a0_0, .int .i64 a0_1, .int .i64 a0_2, .slice A0_3 l0_3.length c0_3, .slice A0_4 l0_4.length c0_4, .int .i64 a0_5] 25 (0, 0)) (by (with_reducible repeat (first | apply zb3 | apply zb2 | apply zb1)); exact BK206.out)) : gb206 ≠ gb208)); have NB208_206 := Za.mk ((by rw [hg]; exact Nat.ne_of_gt (Zr (g := gb206) (o := .cells #[.int .i64 a0_0, .int .i64 a0_1, .int .i64 a0_2, .slice A0_3 l0_3.length c0_3, .slice A0_4 l0_4.length c0_4, .int .i64 a0_5] 25 (0, 0)) (by (with_reducible repeat (first | apply zb3 | apply zb2 | apply zb1)); exact BK206.out)) : gb208 ≠ gb206)); replace BK206 := Za.mk (Zk (g := gb206) (by (with_reducible repeat (first | apply zb3 | apply zb2 | apply zb1)); exact BK206.out) hb); have NB207_208 := Za.mk ((by rw [hg]; exact Nat.ne_of_lt (Zr (g := gb207) (o := .cells #[.int .i64 a1_0, .int .i64 a1_1, .int .i64 a1_2, .slice A1_3 l1_3.length c1_3, .slice A1_4 l1_4.length c1_4, .int .i64 a1_5] 25 (0, 0)) (by (with_reducible repeat (first | apply zb3 | apply zb2 | apply zb1)); exact BK207.out)) : gb207 ≠ gb208)); have NB208_207 := Za.mk ((by rw [hg]; exact Nat.ne_of_gt (Zr (g := gb207) (o := .cells #[.int .i64 a1_0, .int .i64 a1_1, .int .i64 a1_2, .slice A1_3 l1_3.length c1_3, .slice A1_4 l1_4.length c1_4, .int .i64 a1_5] 25 (0, 0)) (by (with_reducible repeat (first | apply zb3 | apply zb2 | apply zb1)); exact BK207.out)) : gb208 ≠ gb207)); replace BK207 := Za.mk (Zk (g := gb207) (by (with_reducible repeat (first | apply zb3 | apply zb2 | apply zb1)); exact BK207.out) hb); clear hb hbox hg; have hnb6 := NB206_207.out; have hnc6 := NB207_206.out; have hnb7 := NB206_208.out; have hnc7 := NB208_206.out; have hcz8_0 : w5.cell? ⟨gb206, 0, none⟩ = some (.int .i64 a0_0) := (Zb BK206.out 0).trans rfl; have hcz8_1 : w5.cell? ⟨gb206, 1, none⟩ = some (.int .i64 a0_1) := (Zb BK206.out 1).trans rfl; have hcz8_2 : w5.cell? ⟨gb206, 2, none⟩ = some (.int .i64 a0_2) := (Zb BK206.out 2).trans rfl; have hcz8_3 : w5.cell? ⟨gb206, 3, none⟩ = some (.slice A0_3 l0_3.length c0_3) := (Zb BK206.out 3).trans rfl; have hcz8_4 : w5.cell? ⟨gb206, 4, none⟩ = some (.slice A0_4 l0_4.length c0_4) := (Zb BK206.out 4).trans rfl; have hcz8_5 : w5.cell? ⟨gb206, 5, none⟩ = some (.int .i64 a0_5) := (Zb BK206.out 5).trans rfl; have hfz8_0 := Zc BK206.out 0; have hfz8_1 := Zc BK206.out 1; have hfz8_2 := Zc BK206.out 2; have hfz8_3 := Zc BK206.out 3; have hfz8_4 := Zc BK206.out 4; have hfz8_5 := Zc BK206.out 5; have hnb9 := NB207_208.out; have hnc9 := NB208_207.out; have hcz10_0 : w5.cell? ⟨gb207, 0, none⟩ = some (.int .i64 a1_0) := (Zb BK207.out 0).trans rfl; have hcz10_1 : w5.cell? ⟨gb207, 1, none⟩ = some (.int .i64 a1_1) := (Zb BK207.out 1).trans rfl; have hcz10_2 : w5.cell? ⟨gb207, 2, none⟩ = some (.int .i64 a1_2) := (Zb BK207.out 2).trans rfl; have hcz10_3 : w5.cell? ⟨gb207, 3, none⟩ = some (.slice A1_3 l1_3.length c1_3) := (Zb BK207.out 3).trans rfl; have hcz10_4 : w5.cell? ⟨gb207, 4, none⟩ = some (.slice A1_4 l1_4.length c1_4) := (Zb BK207.out 4).trans rfl; have hcz10_5 : w5.cell? ⟨gb207, 5, none⟩ = some (.int .i64 a1_5) := (Zb BK207.out 5).trans rfl; have hfz10_0 := Zc BK207.out 0; have hfz10_1 := Zc BK207.out 1; have hfz10_2 := Zc BK207.out 2; have hfz10_3 := Zc BK207.out 3; have hfz10_4 := Zc BK207.out 4; have hfz10_5 := Zc BK207.out 5) | ((with_reducible refine Ze1 (N := 6) rfl ?_); refine Zf1 ?hg (N := 6) ?hd (cs := #[.int .i64 0, .int .i64 0, .int .i64 0, .slice none 0 0, .slice none 0 0, .int .i64 0]) (t := 25) ?hr ?_; (case hd => rfl); (case hg => rfl); (case hr => first | (go_simp; done) | (go_simp; rfl)); intro gb209 hg w11 hbox hb; have BK209 := Za.mk (hbox); have GW209 := Za.mk ((by rw [hg]; exact (Zo (by repeat (first | (with_reducible first | exact HB.out | apply zc1 | apply zc2 | apply zc3 | refine zc4 ?_ (by assumption)) | exact HB.out))) : w.heap.size ≤ gb209)); have GE209 := Za.mk ((by rw [hg]; exact (Zo (by repeat (first | (with_reducible first | exact HB.out | apply zc1 | apply zc2 | apply zc3 | refine zc4 ?_ (by assumption)) | exact HB.out))) : w.heap.size ≤ gb209)); replace HB := Za.mk (Zu (by repeat (first | (with_reducible first | exact HB.out | apply zc1 | apply zc2 | apply zc3 | refine zc4 ?_ (by assumption)) | exact HB.out)) hb); have NB206_209 := Za.mk ((by rw [hg]; exact Nat.ne_of_lt (Zr (g := gb206) (o := .cells #[.int .i64 a0_0, .int .i64 a0_1, .int .i64 a0_2, .slice A0_3 l0_3.length c0_3, .slice A0_4 l0_4.length c0_4, .int .i64 a0_5] 25 (0, 0)) (by (with_reducible repeat (first | apply zb3 | apply zb2 | apply zb1)); exact BK206.out)) : gb206 ≠ gb209)); have NB209_206 := Za.mk ((by rw [hg]; exact Nat.ne_of_gt (Zr (g := gb206) (o := .cells #[.int .i64 a0_0, .int .i64 a0_1, .int .i64 a0_2, .slice A0_3 l0_3.length c0_3, .slice A0_4 l0_4.length c0_4, .int .i64 a0_5] 25 (0, 0)) (by (with_reducible repeat (first | apply zb3 | apply zb2 | apply zb1)); exact BK206.out)) : gb209 ≠ gb206)); replace BK206 := Za.mk (Zk (g := gb206) (by (with_reducible repeat (first | apply zb3 | apply zb2 | apply zb1)); exact BK206.out) hb); have NB207_209 := Za.mk ((by rw [hg]; exact Nat.ne_of_lt (Zr (g := gb207) (o := .cells #[.int .i64 a1_0, .int .i64 a1_1, .int .i64 a1_2, .slice A1_3 l1_3.length c1_3, .slice A1_4 l1_4.length c1_4, .int .i64 a1_5] 25 (0, 0)) (by (with_reducible repeat (first | apply zb3 | apply zb2 | apply zb1)); exact BK207.out)) : gb207 ≠ gb209)); have NB209_207 := Za.mk ((by rw [hg]; exact Nat.ne_of_gt (Zr (g := gb207) (o := .cells #[.int .i64 a1_0, .int .i64 a1_1, .int .i64 a1_2, .slice A1_3 l1_3.length c1_3, .slice A1_4 l1_4.length c1_4, .int .i64 a1_5] 25 (0, 0)) (by (with_reducible repeat (first | apply zb3 | apply zb2 | apply zb1)); exact BK207.out)) : gb209 ≠ gb207)); replace BK207 := Za.mk (Zk (g := gb207) (by (with_reducible repeat (first | apply zb3 | apply zb2 | apply zb1)); exact BK207.out) hb); have NB208_209 := Za.mk ((by rw [hg]; exact Nat.ne_of_lt (Zr (g := gb208) (o := .cells #[.int .i64 0, .int .i64 0, .int .i64 0, .slice none 0 0, .slice none 0 0, .int .i64 0] 25 (0, 0)) (by (with_reducible repeat (first | apply zb3 | apply zb2 | apply zb1)); exact BK208.out)) : gb208 ≠ gb209)); have NB209_208 := Za.mk ((by rw [hg]; exact Nat.ne_of_gt (Zr (g := gb208) (o := .cells #[.int .i64 0, .int .i64 0, .int .i64 0, .slice none 0 0, .slice none 0 0, .int .i64 0] 25 (0, 0)) (by (with_reducible repeat (first | apply zb3 | apply zb2 | apply zb1)); exact BK208.out)) : gb209 ≠ gb208)); replace BK208 := Za.mk (Zk (g := gb208) (by (with_reducible repeat (first | apply zb3 | apply zb2 | apply zb1)); exact BK208.out) hb); clear hb hbox hg; have hnb12 := NB209_206.out; have hnc12 := NB206_209.out; have hnb13 := NB209_207.out; have hnc13 := NB207_209.out; have hnb14 := NB209_208.out; have hnc14 := NB208_209.out; have hcz15_0 : w11.cell? ⟨gb209, 0, none⟩ = some (.int .i64 0) := (Zb BK209.out 0).trans rfl; have hcz15_1 : w11.cell? ⟨gb209, 1, none⟩ = some (.int .i64 0) := (Zb BK209.out 1).trans rfl; have hcz15_2 : w11.cell? ⟨gb209, 2, none⟩ = some (.int .i64 0) := (Zb BK209.out 2).trans rfl; have hcz15_3 : w11.cell? ⟨gb209, 3, none⟩ = some (.slice none 0 0) := (Zb BK209.out 3).trans rfl; have hcz15_4 : w11.cell? ⟨gb209, 4, none⟩ = some (.slice none 0 0) := (Zb BK209.out 4).trans rfl; have hcz15_5 : w11.cell? ⟨gb209, 5, none⟩ = some (.int .i64 0) := (Zb BK209.out 5).trans rfl; have hfz15_0 := Zc BK209.out 0; have hfz15_1 := Zc BK209.out 1; have hfz15_2 := Zc BK209.out 2; have hfz15_3 := Zc BK209.out 3; have hfz15_4 := Zc BK209.out 4; have hfz15_5 := Zc BK209.out 5))
 go_loopg [7] k (fun kq v7 w' => ∃ (x7_1 : Int) (x209000_1 : Int) (x209001_1 : Int) (x209002_1 : Int) (x209005_1 : Int) (x210003_1 : List (List Int)) (x210004_1 : List (List (List Int))) (u210003 : Value) (u210004 : Value), v7 = .int .i64 x7_1 ∧ Za (Zv.l0 kq x7_1 a0_0 a0_1 a0_2 l0_3 l0_4 a0_5 a1_0 a1_1 a1_2 l1_3 l1_4 a1_5 (wrap64 (a0_0 * a1_0)) a0_1 a1_2 x210003_1 x210004_1 (wrap64 ((wrap64 (a0_5 * a1_0)) + a1_5)) = some (r1, r2, r3, r4, r5, r6, r7)) ∧ Za (kq ≤ k) ∧ Za (Kd.S (Kd.slice 3 (Kd.int .i64)) 33 w' w.heap.size (fun _ => True) u210003 x210003_1) ∧ Za (Kd.R (Kd.slice 33 (Kd.slice 3 (Kd.int .i64))) 22 w' w.heap.size (fun k_ => some k_ ≠ (u210003 : Value).ownBlock) u210004 x210004_1) ∧ Za (w'.heap[gb206]? = some (.cells #[.int .i64 a0_0, .int .i64 a0_1, .int .i64 a0_2, (.slice A0_3 l0_3.length c0_3), (.slice A0_4 l0_4.length c0_4), .int .i64 a0_5] 25 (0, 0))) ∧ Za (w'.heap[gb207]? = some (.cells #[.int .i64 a1_0, .int .i64 a1_1, .int .i64 a1_2, (.slice A1_3 l1_3.length c1_3), (.slice A1_4 l1_4.length c1_4), .int .i64 a1_5] 25 (0, 0))) ∧ Za (w'.heap[gb208]? = some (.cells #[.int .i64 x209000_1, .int .i64 x209001_1, .int .i64 x209002_1, (.slice none 0 0), (.slice none 0 0), .int .i64 x209005_1] 25 (0, 0))) ∧ Za (w'.heap[gb209]? = some (.cells #[.int .i64 (wrap64 (a0_0 * a1_0)), .int .i64 a0_1, .int .i64 a1_2, u210003, u210004, .int .i64 (wrap64 ((wrap64 (a0_5 * a1_0)) + a1_5))] 25 (0, 0))) ∧ Za (Below w.heap.size w w'))
 case atStart => exact ⟨(0), (0), (0), (0), (0), (([] : List (List Int))), (([] : List (List (List Int)))), (.slice none 0 0), (.slice none 0 0), (by first | rfl | (simp; done) | (simp [*]; done)), H', ⟨Nat.le_refl _⟩, ⟨by first | exact Kd.S_nil _ _ _ _ _ | exact Kd.N_nil _ _ _ _ _ | exact Kd.V_nil _ _ _ _ _ | exact Kd.Q_nil _ _ _ _ _ | exact Kd.R_nil _ _ _ _ _ | (go_simp; exact Kd.S_nil _ _ _ _ _)⟩, ⟨by first | exact Kd.R_nil _ _ _ _ _ | exact Kd.N_nil _ _ _ _ _ | exact Kd.V_nil _ _ _ _ _ | exact Kd.Q_nil _ _ _ _ _ | exact Kd.S_nil _ _ _ _ _ | (go_simp; exact Kd.R_nil _ _ _ _ _)⟩, ⟨by (with_reducible repeat (first | refine Zf ?_ _ | refine Zd ?_ | refine Ze ?_ _)); refine Zg ?_ NB206_209.out _; (with_reducible repeat (first | refine Zf ?_ _ | refine Zd ?_ | refine Ze ?_ _)); refine Zg ?_ NB206_209.out _; (with_reducible repeat (first | refine Zf ?_ _ | refine Zd ?_ | refine Ze ?_ _)); refine Zg ?_ NB206_209.out _; (with_reducible repeat (first | refine Zf ?_ _ | refine Zd ?_ | refine Ze ?_ _)); refine Zg ?_ NB206_209.out _; (with_reducible repeat (first | refine Zf ?_ _ | refine Zd ?_ | refine Ze ?_ _)); refine Zg ?_ NB206_209.out _; (with_reducible repeat (first | refine Zf ?_ _ | refine Zd ?_ | refine Ze ?_ _)); refine Zg ?_ NB206_209.out _; (with_reducible repeat (first | apply zb3 | apply zb2 | apply zb1)); exact BK206.out⟩, ⟨by (with_reducible repeat (first | refine Zf ?_ _ | refine Zd ?_ | refine Ze ?_ _)); refine Zg ?_ NB207_209.out _; (with_reducible repeat (first | refine Zf ?_ _ | refine Zd ?_ | refine Ze ?_ _)); refine Zg ?_ NB207_209.out _; (with_reducible repeat (first | refine Zf ?_ _ | refine Zd ?_ | refine Ze ?_ _)); refine Zg ?_ NB207_209.out _; (with_reducible repeat (first | refine Zf ?_ _ | refine Zd ?_ | refine Ze ?_ _)); refine Zg ?_ NB207_209.out _; (with_reducible repeat (first | refine Zf ?_ _ | refine Zd ?_ | refine Ze ?_ _)); refine Zg ?_ NB207_209.out _; (with_reducible repeat (first | refine Zf ?_ _ | refine Zd ?_ | refine Ze ?_ _)); refine Zg ?_ NB207_209.out _; (with_reducible repeat (first | apply zb3 | apply zb2 | apply zb1)); exact BK207.out⟩, ⟨by (with_reducible repeat (first | refine Zf ?_ _ | refine Zd ?_ | refine Ze ?_ _)); refine Zg ?_ NB208_209.out _; (with_reducible repeat (first | refine Zf ?_ _ | refine Zd ?_ | refine Ze ?_ _)); refine Zg ?_ NB208_209.out _; (with_reducible repeat (first | refine Zf ?_ _ | refine Zd ?_ | refine Ze ?_ _)); refine Zg ?_ NB208_209.out _; (with_reducible repeat (first | refine Zf ?_ _ | refine Zd ?_ | refine Ze ?_ _)); refine Zg ?_ NB208_209.out _; (with_reducible repeat (first | refine Zf ?_ _ | refine Zd ?_ | refine Ze ?_ _)); refine Zg ?_ NB208_209.out _; (with_reducible repeat (first | refine Zf ?_ _ | refine Zd ?_ | refine Ze ?_ _)); refine Zg ?_ NB208_209.out _; (with_reducible repeat (first | apply zb3 | apply zb2 | apply zb1)); exact BK208.out⟩, ⟨by (with_reducible repeat (first | refine Zf ?_ _ | refine Zd ?_ | refine Ze ?_ _)); refine Zn (cs := #[.int .i64 (wrap64 (a0_0 * a1_0)), .int .i64 a0_1, .int .i64 a1_2, .slice none 0 0, .slice none 0 0, .int .i64 0]) ?_ 5 _ rfl; (with_reducible repeat (first | refine Zf ?_ _ | refine Zd ?_ | refine Ze ?_ _)); refine Zn (cs := #[.int .i64 (wrap64 (a0_0 * a1_0)), .int .i64 a0_1, .int .i64 a1_2, .slice none 0 0, .slice none 0 0, .int .i64 0]) ?_ 4 _ rfl; (with_reducible repeat (first | refine Zf ?_ _ | refine Zd ?_ | refine Ze ?_ _)); refine Zn (cs := #[.int .i64 (wrap64 (a0_0 * a1_0)), .int .i64 a0_1, .int .i64 a1_2, .slice none 0 0, .slice none 0 0, .int .i64 0]) ?_ 3 _ rfl; (with_reducible repeat (first | refine Zf ?_ _ | refine Zd ?_ | refine Ze ?_ _)); refine Zn (cs := #[.int .i64 (wrap64 (a0_0 * a1_0)), .int .i64 a0_1, .int .i64 0, .slice none 0 0, .slice none 0 0, .int .i64 0]) ?_ 2 _ rfl; (with_reducible repeat (first | refine Zf ?_ _ | refine Zd ?_ | refine Ze ?_ _)); refine Zn (cs := #[.int .i64 (wrap64 (a0_0 * a1_0)), .int .i64 0, .int .i64 0, .slice none 0 0, .slice none 0 0, .int .i64 0]) ?_ 1 _ rfl; (with_reducible repeat (first | refine Zf ?_ _ | refine Zd ?_ | refine Ze ?_ _)); refine Zn (cs := #[.int .i64 0, .int .i64 0, .int .i64 0, .slice none 0 0, .slice none 0 0, .int .i64 0]) ?_ 0 _ rfl; (with_reducible repeat (first | apply zb3 | apply zb2 | apply zb1)); exact BK209.out⟩, ⟨by repeat (first | (with_reducible first | exact HB.out | apply zc1 | apply zc2 | apply zc3 | refine zc4 ?_ (by assumption)) | exact HB.out)⟩⟩
 case round =>
  (clear H'); (try clear c1); (try clear p2); (try clear c6); (try clear p6); (try clear c7); (try clear c9); (try clear c12); (try clear c13); (try clear c14); (try clear hcz10_0 hcz10_1 hcz10_2 hcz10_3 hcz10_4 hcz10_5 hcz15_0 hcz15_1 hcz15_2 hcz15_3 hcz15_4 hcz15_5 hcz8_0 hcz8_1 hcz8_2 hcz8_3 hcz8_4 hcz8_5 hfz10_0 hfz10_1 hfz10_2 hfz10_3 hfz10_4 hfz10_5 hfz15_0 hfz15_1 hfz15_2 hfz15_3 hfz15_4 hfz15_5 hfz8_0 hfz8_1 hfz8_2 hfz8_3 hfz8_4 hfz8_5); (obtain ⟨x7_1, x209000_1, x209001_1, x209002_1, x209005_1, x210003_1, x210004_1, u210003, u210004, rfl, HA, HK1, HO_210003, HO_210004, BK206, BK207, BK208, BK209, HB⟩ := hrel)
  cases gk with
  | zero => exact absurd HA.out (by simp [Zv.l0])
  | succ k1 =>
   (have H := HA.out); (clear HA); (simp only [Zv.l0] at H)
   by_cases c16 : x7_1 < (wrap64 (a0_0 * a1_0))
   rotate_left
   ·rw [if_neg c16] at H
    (have c16b0 : decide (x7_1 < (wrap64 (a0_0 * a1_0))) = false := decide_eq_false c16); (clear c16); (simp only [Option.some.injEq, Prod.mk.injEq] at H); (obtain ⟨rfl, rfl, rfl, rfl, rfl, rfl, rfl⟩ := H); (have hnb73 := NB209_206.out); (have hnc73 := NB206_209.out); (have hnb74 := NB209_207.out); (have hnc74 := NB207_209.out); (have hnb75 := NB209_208.out); (have hnc75 := NB208_209.out); (have hcz76_0 : wr.cell? ⟨gb209, 0, none⟩ = some (.int .i64 (wrap64 (a0_0 * a1_0))) := (Zb BK209.out 0).trans rfl); (have hcz76_1 : wr.cell? ⟨gb209, 1, none⟩ = some (.int .i64 a0_1) := (Zb BK209.out 1).trans rfl); (have hcz76_2 : wr.cell? ⟨gb209, 2, none⟩ = some (.int .i64 a1_2) := (Zb BK209.out 2).trans rfl); (have hcz76_3 : wr.cell? ⟨gb209, 3, none⟩ = some (u210003) := (Zb BK209.out 3).trans rfl); (have hcz76_4 : wr.cell? ⟨gb209, 4, none⟩ = some (u210004) := (Zb BK209.out 4).trans rfl); (have hcz76_5 : wr.cell? ⟨gb209, 5, none⟩ = some (.int .i64 (wrap64 ((wrap64 (a0_5 * a1_0)) + a1_5))) := (Zb BK209.out 5).trans rfl); (have hfz76_0 := Zc BK209.out 0); (have hfz76_1 := Zc BK209.out 1); (have hfz76_2 := Zc BK209.out 2); (have hfz76_3 := Zc BK209.out 3); (have hfz76_4 := Zc BK209.out 4); (have hfz76_5 := Zc BK209.out 5); (have hnb77 := NB208_206.out); (have hnc77 := NB206_208.out); (have hnb78 := NB208_207.out); (have hnc78 := NB207_208.out); (have hcz79_0 : wr.cell? ⟨gb208, 0, none⟩ = some (.int .i64 x209000_1) := (Zb BK208.out 0).trans rfl); (have hcz79_1 : wr.cell? ⟨gb208, 1, none⟩ = some (.int .i64 x209001_1) := (Zb BK208.out 1).trans rfl)
    (have hcz79_2 : wr.cell? ⟨gb208, 2, none⟩ = some (.int .i64 x209002_1) := (Zb BK208.out 2).trans rfl); (have hcz79_3 : wr.cell? ⟨gb208, 3, none⟩ = some (.slice none 0 0) := (Zb BK208.out 3).trans rfl); (have hcz79_4 : wr.cell? ⟨gb208, 4, none⟩ = some (.slice none 0 0) := (Zb BK208.out 4).trans rfl); (have hcz79_5 : wr.cell? ⟨gb208, 5, none⟩ = some (.int .i64 x209005_1) := (Zb BK208.out 5).trans rfl); (have hfz79_0 := Zc BK208.out 0); (have hfz79_1 := Zc BK208.out 1); (have hfz79_2 := Zc BK208.out 2); (have hfz79_3 := Zc BK208.out 3); (have hfz79_4 := Zc BK208.out 4); (have hfz79_5 := Zc BK208.out 5); (obtain ⟨Ao80, co80, eo80⟩ := Kd.S_slice HO_210003.out); (subst eo80); (obtain ⟨Ao81, co81, eo81⟩ := Kd.R_slice HO_210004.out); (subst eo81)
    go_wp2
    refine bodyPost_ret (results_ct rfl _ _ gb208 25 #[.int .i64 (wrap64 (a0_0 * a1_0)), .int .i64 a0_1, .int .i64 a1_2, .slice Ao80 x210003_1.length co80, .slice Ao81 x210004_1.length co81, .int .i64 (wrap64 ((wrap64 (a0_5 * a1_0)) + a1_5))] (0, 0) _ rfl (by (with_reducible repeat (first | refine Zf ?_ _ | refine Zd ?_ | refine Ze ?_ _)); refine Zn (cs := #[.int .i64 (wrap64 (a0_0 * a1_0)), .int .i64 a0_1, .int .i64 a1_2, .slice Ao80 x210003_1.length co80, .slice Ao81 x210004_1.length co81, .int .i64 x209005_1]) ?_ 5 _ rfl; (with_reducible repeat (first | refine Zf ?_ _ | refine Zd ?_ | refine Ze ?_ _)); refine Zn (cs := #[.int .i64 (wrap64 (a0_0 * a1_0)), .int .i64 a0_1, .int .i64 a1_2, .slice Ao80 x210003_1.length co80, .slice none 0 0, .int .i64 x209005_1]) ?_ 4 _ rfl; (with_reducible repeat (first | refine Zf ?_ _ | refine Zd ?_ | refine Ze ?_ _)); refine Zn (cs := #[.int .i64 (wrap64 (a0_0 * a1_0)), .int .i64 a0_1, .int .i64 a1_2, .slice none 0 0, .slice none 0 0, .int .i64 x209005_1]) ?_ 3 _ rfl; (with_reducible repeat (first | refine Zf ?_ _ | refine Zd ?_ | refine Ze ?_ _)); refine Zn (cs := #[.int .i64 (wrap64 (a0_0 * a1_0)), .int .i64 a0_1, .int .i64 x209002_1, .slice none 0 0, .slice none 0 0, .int .i64 x209005_1]) ?_ 2 _ rfl; (with_reducible repeat (first | refine Zf ?_ _ | refine Zd ?_ | refine Ze ?_ _)); refine Zn (cs := #[.int .i64 (wrap64 (a0_0 * a1_0)), .int .i64 x209001_1, .int .i64 x209002_1, .slice none 0 0, .slice none 0 0, .int .i64 x209005_1]) ?_ 1 _ rfl; (with_reducible repeat (first | refine Zf ?_ _ | refine Zd ?_ | refine Ze ?_ _)); refine Zn (cs := #[.int .i64 x209000_1, .int .i64 x209001_1, .int .i64 x209002_1, .slice none 0 0, .slice none 0 0, .int .i64 x209005_1]) ?_ 0 _ rfl; (with_reducible repeat (first | apply zb3 | apply zb2 | apply zb1)); exact BK208.out) Try.underlying25 rfl (by kernel_rfl)) rfl ?_
    exact ⟨_, _, by first | rfl | (simp [Zx, Zw] <;> rfl) | (simp [*, Zx, Zw] <;> rfl), by (with_reducible repeat (first | apply Kd.S_alloc | apply Kd.S_drewN | apply Kd.S_drew)); exact Kd.S_mono (Kd.S_far (p := ⟨gb208, 5, none⟩) (Kd.S_far (p := ⟨gb208, 4, none⟩) (Kd.S_far (p := ⟨gb208, 3, none⟩) (Kd.S_far (p := ⟨gb208, 2, none⟩) (Kd.S_far (p := ⟨gb208, 1, none⟩) (Kd.S_far (p := ⟨gb208, 0, none⟩) (Kd.S_types HO_210003.out BK208.out (by decide)) (fun _ hk => hk.2) (.int .i64 (wrap64 (a0_0 * a1_0)))) (fun _ hk => hk.2) (.int .i64 a0_1)) (fun _ hk => hk.2) (.int .i64 a1_2)) (fun _ hk => hk.2) (.slice Ao80 x210003_1.length co80)) (fun _ hk => hk.2) (.slice Ao81 x210004_1.length co81)) (fun _ hk => hk.2) (.int .i64 (wrap64 ((wrap64 (a0_5 * a1_0)) + a1_5)))) (fun _ hk => trivial), by (with_reducible repeat (first | apply Kd.R_alloc | apply Kd.R_drewN | apply Kd.R_drew)); exact Kd.R_mono (Kd.R_far (p := ⟨gb208, 5, none⟩) (Kd.R_far (p := ⟨gb208, 4, none⟩) (Kd.R_far (p := ⟨gb208, 3, none⟩) (Kd.R_far (p := ⟨gb208, 2, none⟩) (Kd.R_far (p := ⟨gb208, 1, none⟩) (Kd.R_far (p := ⟨gb208, 0, none⟩) (Kd.R_types HO_210004.out BK208.out (by decide)) (fun _ hk => hk.2) (.int .i64 (wrap64 (a0_0 * a1_0)))) (fun _ hk => hk.2) (.int .i64 a0_1)) (fun _ hk => hk.2) (.int .i64 a1_2)) (fun _ hk => hk.2) (.slice Ao80 x210003_1.length co80)) (fun _ hk => hk.2) (.slice Ao81 x210004_1.length co81)) (fun _ hk => hk.2) (.int .i64 (wrap64 ((wrap64 (a0_5 * a1_0)) + a1_5)))) (fun _ hk => hk.1), by repeat (first | (with_reducible first | exact HB.out | apply zc1 | apply zc2 | apply zc3 | refine zc4 ?_ (by assumption)) | exact HB.out)⟩
   (rw [if_pos c16] at H); (have c16b0 : decide (x7_1 < (wrap64 (a0_0 * a1_0))) = true := decide_eq_true c16); (clear c16); (have H' := Za.mk H); (clear H); (have hnb17 := NB209_206.out); (have hnc17 := NB206_209.out); (have hnb18 := NB209_207.out); (have hnc18 := NB207_209.out); (have hnb19 := NB209_208.out); (have hnc19 := NB208_209.out); (have hcz20_0 : wr.cell? ⟨gb209, 0, none⟩ = some (.int .i64 (wrap64 (a0_0 * a1_0))) := (Zb BK209.out 0).trans rfl); (have hcz20_1 : wr.cell? ⟨gb209, 1, none⟩ = some (.int .i64 a0_1) := (Zb BK209.out 1).trans rfl); (have hcz20_2 : wr.cell? ⟨gb209, 2, none⟩ = some (.int .i64 a1_2) := (Zb BK209.out 2).trans rfl); (have hcz20_3 : wr.cell? ⟨gb209, 3, none⟩ = some (u210003) := (Zb BK209.out 3).trans rfl); (have hcz20_4 : wr.cell? ⟨gb209, 4, none⟩ = some (u210004) := (Zb BK209.out 4).trans rfl); (have hcz20_5 : wr.cell? ⟨gb209, 5, none⟩ = some (.int .i64 (wrap64 ((wrap64 (a0_5 * a1_0)) + a1_5))) := (Zb BK209.out 5).trans rfl); (have hfz20_0 := Zc BK209.out 0); (have hfz20_1 := Zc BK209.out 1); (have hfz20_2 := Zc BK209.out 2); (have hfz20_3 := Zc BK209.out 3); (have hfz20_4 := Zc BK209.out 4); (have hfz20_5 := Zc BK209.out 5)
   go_wp2
   go_loopg [8, 9, 10] k1 (fun kq v8 v9 v10 w' => ∃ (x8_2 : List Int) (x9_2 : List (List Int)) (x10_2 : Int) (x209000_2 : Int) (x209001_2 : Int) (x209002_2 : Int) (x209005_2 : Int), v10 = .int .i64 x10_2 ∧ Za (Zv.l1 kq x7_1 x8_2 x9_2 x10_2 a0_0 a0_1 a0_2 l0_3 l0_4 a0_5 a1_0 a1_1 a1_2 l1_3 l1_4 a1_5 (wrap64 (a0_0 * a1_0)) a0_1 a1_2 x210003_1 x210004_1 (wrap64 ((wrap64 (a0_5 * a1_0)) + a1_5)) = some (r1, r2, r3, r4, r5, r6, r7)) ∧ Za (kq ≤ k1) ∧ Za (Kd.R (Kd.int .i64) 3 w' w.heap.size (fun _ => True) v8 x8_2) ∧ Za (Kd.S (Kd.slice 3 (Kd.int .i64)) 33 w' w.heap.size (fun k_ => some k_ ≠ (v8 : Value).ownBlock ∧ some k_ ≠ (u210003 : Value).ownBlock) v9 x9_2) ∧ Za (Kd.S (Kd.slice 3 (Kd.int .i64)) 33 w' w.heap.size (fun k_ => some k_ ≠ (v8 : Value).ownBlock ∧ some k_ ≠ (v9 : Value).ownBlock) u210003 x210003_1) ∧ Za (Kd.R (Kd.slice 33 (Kd.slice 3 (Kd.int .i64))) 22 w' w.heap.size (fun k_ => some k_ ≠ (v8 : Value).ownBlock ∧ some k_ ≠ (v9 : Value).ownBlock ∧ some k_ ≠ (u210003 : Value).ownBlock) u210004 x210004_1) ∧ Za (w'.heap[gb206]? = some (.cells #[.int .i64 a0_0, .int .i64 a0_1, .int .i64 a0_2, (.slice A0_3 l0_3.length c0_3), (.slice A0_4 l0_4.length c0_4), .int .i64 a0_5] 25 (0, 0))) ∧ Za (w'.heap[gb207]? = some (.cells #[.int .i64 a1_0, .int .i64 a1_1, .int .i64 a1_2, (.slice A1_3 l1_3.length c1_3), (.slice A1_4 l1_4.length c1_4), .int .i64 a1_5] 25 (0, 0))) ∧ Za (w'.heap[gb208]? = some (.cells #[.int .i64 x209000_2, .int .i64 x209001_2, .int .i64 x209002_2, (.slice none 0 0), (.slice none 0 0), .int .i64 x209005_2] 25 (0, 0))) ∧ Za (w'.heap[gb209]? = some (.cells #[.int .i64 (wrap64 (a0_0 * a1_0)), .int .i64 a0_1, .int .i64 a1_2, u210003, u210004, .int .i64 (wrap64 ((wrap64 (a0_5 * a1_0)) + a1_5))] 25 (0, 0))) ∧ Za (Below w.heap.size w w'))
   case atStart => exact ⟨(([] : List Int)), (([] : List (List Int))), (0), (x209000_1), (x209001_1), (x209002_1), (x209005_1), (by first | rfl | (simp; done) | (simp [*]; done)), H', ⟨Nat.le_refl _⟩, ⟨by first | exact Kd.R_nil _ _ _ _ _ | exact Kd.N_nil _ _ _ _ _ | exact Kd.V_nil _ _ _ _ _ | exact Kd.Q_nil _ _ _ _ _ | exact Kd.S_nil _ _ _ _ _ | (go_simp; exact Kd.R_nil _ _ _ _ _)⟩, ⟨by first | exact Kd.S_nil _ _ _ _ _ | exact Kd.N_nil _ _ _ _ _ | exact Kd.V_nil _ _ _ _ _ | exact Kd.Q_nil _ _ _ _ _ | exact Kd.R_nil _ _ _ _ _ | (go_simp; exact Kd.S_nil _ _ _ _ _)⟩, ⟨by (with_reducible repeat (first | apply Kd.S_alloc | apply Kd.S_drewN | apply Kd.S_drew)); exact Kd.S_mono HO_210003.out (fun _ hk => ⟨(by simp [Value.ownBlock]), (by simp [Value.ownBlock])⟩)⟩, ⟨by (with_reducible repeat (first | apply Kd.R_alloc | apply Kd.R_drewN | apply Kd.R_drew)); exact Kd.R_mono HO_210004.out (fun _ hk => ⟨(by simp [Value.ownBlock]), ⟨(by simp [Value.ownBlock]), hk⟩⟩)⟩, ⟨by (with_reducible repeat (first | apply zb3 | apply zb2 | apply zb1)); exact BK206.out⟩, ⟨by (with_reducible repeat (first | apply zb3 | apply zb2 | apply zb1)); exact BK207.out⟩, ⟨by (with_reducible repeat (first | apply zb3 | apply zb2 | apply zb1)); exact BK208.out⟩, ⟨by (with_reducible repeat (first | apply zb3 | apply zb2 | apply zb1)); exact BK209.out⟩, ⟨by repeat (first | (with_reducible first | exact HB.out | apply zc1 | apply zc2 | apply zc3 | refine zc4 ?_ (by assumption)) | exact HB.out)⟩⟩
   case round =>
    (clear H'); (try clear c1); (try clear p2); (try clear c6); (try clear p6); (try clear c7); (try clear c9); (try clear c12); (try clear c13); (try clear c14); (try clear c16); (try clear c16b0); (try clear c17); (try clear c18); (try clear c19); (try clear hcz10_0 hcz10_1 hcz10_2 hcz10_3 hcz10_4 hcz10_5 hcz15_0 hcz15_1 hcz15_2 hcz15_3 hcz15_4 hcz15_5 hcz20_0 hcz20_1 hcz20_2 hcz20_3 hcz20_4 hcz20_5 hcz8_0 hcz8_1 hcz8_2 hcz8_3 hcz8_4 hcz8_5 hfz10_0 hfz10_1 hfz10_2 hfz10_3 hfz10_4 hfz10_5 hfz15_0 hfz15_1 hfz15_2 hfz15_3 hfz15_4 hfz15_5 hfz20_0 hfz20_1 hfz20_2 hfz20_3 hfz20_4 hfz20_5 hfz8_0 hfz8_1 hfz8_2 hfz8_3 hfz8_4 hfz8_5); (try clear p2); (try clear p6); (obtain ⟨x8_2, x9_2, x10_2, x209000_2, x209001_2, x209002_2, x209005_2, rfl, HA, HK2, HO_8, HO_9, HO_210003, HO_210004, BK206, BK207, BK208, BK209, HB⟩ := hrel)
    cases gk with
    | zero => exact absurd HA.out (by simp [Zv.l1])
    | succ k2 =>
     (have H := HA.out); (clear HA); (simp only [Zv.l1] at H)
     by_cases c21 : x10_2 < a0_1
     rotate_left
     ·rw [if_neg c21] at H
      (have c21b0 : decide (x10_2 < a0_1) = false := decide_eq_false c21); (clear c21)
      by_cases c54 : x210003_1.length < 5864062014805
      rotate_left
      ·rw [if_neg c54] at H
       exact absurd H (by simp)
      (rw [if_pos c54] at H); (have LMc54 := Za.mk c54); (clear c54); (obtain ⟨y224, hy224⟩ : ∃ y_ : List (List Int), y_ = (x210003_1 ++ [x8_2]) := ⟨_, rfl⟩); (replace H : (if x210004_1.length < 5864062014805 then (Zv.l0 k2 (wrap64 (x7_1 + 1)) a0_0 a0_1 a0_2 l0_3 l0_4 a0_5 a1_0 a1_1 a1_2 l1_3 l1_4 a1_5 (wrap64 (a0_0 * a1_0)) a0_1 a1_2 y224 (x210004_1 ++ [x9_2]) (wrap64 ((wrap64 (a0_5 * a1_0)) + a1_5))) else (none)) = some (r1, r2, r3, r4, r5, r6, r7) := by first | (rw [hy224]; with_reducible exact H) | (have H2_ := (Option.bind_some _ _).symm.trans H; rw [hy224]; with_reducible exact H2_) | (have H2_ := (Option.bind_some _ _).symm.trans H; with_reducible exact H2_) | with_reducible exact H | (rw [hy224]; exact H) | exact H); (have Ny224 := Za.mk hy224); (clear hy224)
      by_cases c55 : x210004_1.length < 5864062014805
      rotate_left
      ·rw [if_neg c55] at H
       exact absurd H (by simp)
      (rw [if_pos c55] at H); (have LMc55 := Za.mk c55); (clear c55); (obtain ⟨y227, hy227⟩ : ∃ y_ : List (List (List Int)), y_ = (x210004_1 ++ [x9_2]) := ⟨_, rfl⟩); (replace H : (Zv.l0 k2 (wrap64 (x7_1 + 1)) a0_0 a0_1 a0_2 l0_3 l0_4 a0_5 a1_0 a1_1 a1_2 l1_3 l1_4 a1_5 (wrap64 (a0_0 * a1_0)) a0_1 a1_2 y224 y227 (wrap64 ((wrap64 (a0_5 * a1_0)) + a1_5))) = some (r1, r2, r3, r4, r5, r6, r7) := by first | (rw [hy227]; with_reducible exact H) | (have H2_ := (Option.bind_some _ _).symm.trans H; rw [hy227]; with_reducible exact H2_) | (have H2_ := (Option.bind_some _ _).symm.trans H; with_reducible exact H2_) | with_reducible exact H | (rw [hy227]; exact H) | exact H); (have Ny227 := Za.mk hy227); (clear hy227); (have H' := Za.mk H); (clear H); (have hnb56 := NB206_207.out); (have hnc56 := NB207_206.out); (have hnb57 := NB206_208.out); (have hnc57 := NB208_206.out); (have hnb58 := NB206_209.out); (have hnc58 := NB209_206.out); (have hcz59_0 : wr.cell? ⟨gb206, 0, none⟩ = some (.int .i64 a0_0) := (Zb BK206.out 0).trans rfl); (have hcz59_1 : wr.cell? ⟨gb206, 1, none⟩ = some (.int .i64 a0_1) := (Zb BK206.out 1).trans rfl); (have hcz59_2 : wr.cell? ⟨gb206, 2, none⟩ = some (.int .i64 a0_2) := (Zb BK206.out 2).trans rfl); (have hcz59_3 : wr.cell? ⟨gb206, 3, none⟩ = some (.slice A0_3 l0_3.length c0_3) := (Zb BK206.out 3).trans rfl); (have hcz59_4 : wr.cell? ⟨gb206, 4, none⟩ = some (.slice A0_4 l0_4.length c0_4) := (Zb BK206.out 4).trans rfl); (have hcz59_5 : wr.cell? ⟨gb206, 5, none⟩ = some (.int .i64 a0_5) := (Zb BK206.out 5).trans rfl)
      (have hfz59_0 := Zc BK206.out 0); (have hfz59_1 := Zc BK206.out 1); (have hfz59_2 := Zc BK206.out 2); (have hfz59_3 := Zc BK206.out 3); (have hfz59_4 := Zc BK206.out 4); (have hfz59_5 := Zc BK206.out 5); (have hnb60 := NB209_207.out); (have hnc60 := NB207_209.out); (have hnb61 := NB209_208.out); (have hnc61 := NB208_209.out); (have hcz62_0 : wr.cell? ⟨gb209, 0, none⟩ = some (.int .i64 (wrap64 (a0_0 * a1_0))) := (Zb BK209.out 0).trans rfl); (have hcz62_1 : wr.cell? ⟨gb209, 1, none⟩ = some (.int .i64 a0_1) := (Zb BK209.out 1).trans rfl); (have hcz62_2 : wr.cell? ⟨gb209, 2, none⟩ = some (.int .i64 a1_2) := (Zb BK209.out 2).trans rfl); (have hcz62_3 : wr.cell? ⟨gb209, 3, none⟩ = some (u210003) := (Zb BK209.out 3).trans rfl); (have hcz62_4 : wr.cell? ⟨gb209, 4, none⟩ = some (u210004) := (Zb BK209.out 4).trans rfl); (have hcz62_5 : wr.cell? ⟨gb209, 5, none⟩ = some (.int .i64 (wrap64 ((wrap64 (a0_5 * a1_0)) + a1_5))) := (Zb BK209.out 5).trans rfl); (have hfz62_0 := Zc BK209.out 0); (have hfz62_1 := Zc BK209.out 1); (have hfz62_2 := Zc BK209.out 2); (have hfz62_3 := Zc BK209.out 3); (have hfz62_4 := Zc BK209.out 4); (have hfz62_5 := Zc BK209.out 5); (obtain ⟨Ao64, co64, eo64⟩ := Kd.R_slice HO_8.out); (subst eo64)
      go_wp2_with (first | ((with_reducible refine gate_builtin (b := .append) (xs := #[.tmp 91, .tmp 93]) rfl ?_); at_builtin; refine Kd.S_append (Kd.slice 3 (Kd.int .i64)) (w0 := w) w.heap.size rfl (.tmp 91) (.tmp 93) 22 33 (.slice none 0 0) 24 rfl Try.underlying22 info33 rfl (by decide) (by omega) u210003 x210003_1 x8_2 [.slice Ao64 x8_2.length co64] (fun k_ => some k_ ≠ (u9 : Value).ownBlock) (fun k_ => some k_ = (.slice Ao64 x8_2.length co64 : Value).ownBlock) rfl rfl ?aP (fun k_ hk_ => ((Kd.R_mono (ok' := fun k_ => ((fun k_ => some k_ ≠ (u9 : Value).ownBlock)) k_ ∧ some k_ ≠ (u210003 : Value).ownBlock) (Kd.R_apart' (Kd.R_apart' (HO_8.out) (Kd.S_typed HO_9.out) (by decide)) (Kd.S_typed HO_210003.out) (by decide)) (fun k_ hk => ⟨hk.1.2, hk.2⟩))).1 k_ hk_.symm) ?aF ?aO ?aB ?aS ?aL ?_; (case aP => exact Kd.M_row (Kd.R_mono (Kd.R_tight rfl (Kd.R_mono (ok' := fun k_ => ((fun k_ => some k_ ≠ (u9 : Value).ownBlock)) k_ ∧ some k_ ≠ (u210003 : Value).ownBlock) (Kd.R_apart' (Kd.R_apart' (HO_8.out) (Kd.S_typed HO_9.out) (by decide)) (Kd.S_typed HO_210003.out) (by decide)) (fun k_ hk => ⟨hk.1.2, hk.2⟩))) (fun _ h_ => h_))); (case aB => exact (by repeat (first | (with_reducible first | exact HB.out | apply zc1 | apply zc2 | apply zc3 | refine zc4 ?_ (by assumption)) | exact HB.out))); (case aF => exact (fun k_ hk => Kd.fresh' (Kd.S_lt (by (with_reducible repeat (first | apply Kd.S_alloc | apply Kd.S_drewN | apply Kd.S_drew)); exact HO_9.out)) k_ hk)); (case aO => exact (by (with_reducible repeat (first | apply Kd.S_alloc | apply Kd.S_drewN | apply Kd.S_drew)); exact Kd.S_mono HO_210003.out (fun k_ hk => ⟨hk.2, fun e_ => hk.1 e_⟩))); (case aS => exact (Zo (by repeat (first | (with_reducible first | exact HB.out | apply zc1 | apply zc2 | apply zc3 | refine zc4 ?_ (by assumption)) | exact HB.out)))); (case aL => have := LMc54.out; omega); intro v225 w63 ho hb hg hat; rw [← Ny224.out] at ho; replace HO_9 := Za.mk (Kd.S_after (ok := (fun k_ => some k_ ≠ (.slice Ao64 x8_2.length co64 : Value).ownBlock)) (by (with_reducible repeat (first | apply Kd.S_alloc | apply Kd.S_drewN | apply Kd.S_drew)); exact HO_9.out) hg hat); replace HO_210004 := Za.mk (Kd.R_after (ok := (fun k_ => some k_ ≠ (.slice Ao64 x8_2.length co64 : Value).ownBlock ∧ some k_ ≠ (u9 : Value).ownBlock)) (by (with_reducible repeat (first | apply Kd.R_alloc | apply Kd.R_drewN | apply Kd.R_drew)); exact Kd.R_mono HO_210004.out (fun _ hk => ⟨⟨hk.1, hk.2.1⟩, hk.2.2⟩)) hg hat); replace BK206 := Za.mk (Zb1 (g := gb206) (by (with_reducible repeat (first | apply zb3 | apply zb2 | apply zb1)); exact BK206.out) hg (Kd.S_ne HO_210003.out BK206.out (by decide))); replace BK207 := Za.mk (Zb1 (g := gb207) (by (with_reducible repeat (first | apply zb3 | apply zb2 | apply zb1)); exact BK207.out) hg (Kd.S_ne HO_210003.out BK207.out (by decide))); replace BK208 := Za.mk (Zb1 (g := gb208) (by (with_reducible repeat (first | apply zb3 | apply zb2 | apply zb1)); exact BK208.out) hg (Kd.S_ne HO_210003.out BK208.out (by decide))); replace BK209 := Za.mk (Zb1 (g := gb209) (by (with_reducible repeat (first | apply zb3 | apply zb2 | apply zb1)); exact BK209.out) hg (Kd.S_ne HO_210003.out BK209.out (by decide))); replace HB := Za.mk (hb); have HO226 := Za.mk (ho); clear HO_210003 HO_8; clear ho hb hg hat; obtain ⟨Ao65, co65, eo65⟩ := Kd.S_slice HO226.out; subst eo65; have hcz66_0 : w63.cell? ⟨gb209, 0, none⟩ = some (.int .i64 (wrap64 (a0_0 * a1_0))) := (Zb BK209.out 0).trans rfl; have hcz66_1 : w63.cell? ⟨gb209, 1, none⟩ = some (.int .i64 a0_1) := (Zb BK209.out 1).trans rfl; have hcz66_2 : w63.cell? ⟨gb209, 2, none⟩ = some (.int .i64 a1_2) := (Zb BK209.out 2).trans rfl; have hcz66_3 : w63.cell? ⟨gb209, 3, none⟩ = some (u210003) := (Zb BK209.out 3).trans rfl; have hcz66_4 : w63.cell? ⟨gb209, 4, none⟩ = some (u210004) := (Zb BK209.out 4).trans rfl; have hcz66_5 : w63.cell? ⟨gb209, 5, none⟩ = some (.int .i64 (wrap64 ((wrap64 (a0_5 * a1_0)) + a1_5))) := (Zb BK209.out 5).trans rfl; have hfz66_0 := Zc BK209.out 0; have hfz66_1 := Zc BK209.out 1; have hfz66_2 := Zc BK209.out 2; have hfz66_3 := Zc BK209.out 3; have hfz66_4 := Zc BK209.out 4; have hfz66_5 := Zc BK209.out 5) | ((with_reducible refine gate_store (t := 22) (p := 95) rfl ?_); refine store_event (t := 22) (p := 95) (v := ?vo_w67) (w1 := (w63.setCell ⟨gb209, 3, none⟩ (.slice Ao65 y224.length co65))) ?hg ?ho ?hn ?hr ?_; (case ho => rfl); (case hg => rfl); (case hn => rfl); (case hr => first | (go_simp; done) | (go_simp; rfl)); intro w67 hw; have n0_ : Za (Kd.S (Kd.slice 3 (Kd.int .i64)) 33 w67 w.heap.size (fun k_ => some k_ ≠ (.slice Ao65 y224.length co65 : Value).ownBlock) u9 x9_2) := ⟨(by rw [hw]; exact (by (with_reducible repeat (first | apply Kd.S_alloc | apply Kd.S_drewN | apply Kd.S_drew)); exact Kd.S_mono (Kd.S_far (p := ⟨gb209, 3, none⟩) (Kd.S_types HO_9.out BK209.out (by decide)) (fun _ hk => hk.2) (.slice Ao65 y224.length co65)) (fun _ hk => hk.1.2)))⟩; have n1_ : Za (Kd.R (Kd.slice 33 (Kd.slice 3 (Kd.int .i64))) 22 w67 w.heap.size (fun k_ => some k_ ≠ (u9 : Value).ownBlock ∧ some k_ ≠ (.slice Ao65 y224.length co65 : Value).ownBlock) u210004 x210004_1) := ⟨(by rw [hw]; exact (by (with_reducible repeat (first | apply Kd.R_alloc | apply Kd.R_drewN | apply Kd.R_drew)); exact Kd.R_mono (Kd.R_far (p := ⟨gb209, 3, none⟩) (Kd.R_types HO_210004.out BK209.out (by decide)) (fun _ hk => hk.2) (.slice Ao65 y224.length co65)) (fun _ hk => ⟨hk.1.1.2, hk.1.2⟩)))⟩; have n2_ : Za (Kd.S (Kd.slice 3 (Kd.int .i64)) 33 w67 w.heap.size (fun k_ => some k_ ≠ (u9 : Value).ownBlock) (.slice Ao65 y224.length co65) y224) := ⟨(by rw [hw]; exact (by (with_reducible repeat (first | apply Kd.S_alloc | apply Kd.S_drewN | apply Kd.S_drew)); exact Kd.S_mono (Kd.S_far (p := ⟨gb209, 3, none⟩) (Kd.S_types HO226.out BK209.out (by decide)) (fun _ hk => hk.2) (.slice Ao65 y224.length co65)) (fun _ hk => hk.1)))⟩; have n3_ : Za (w67.heap[gb206]? = some (.cells #[.int .i64 a0_0, .int .i64 a0_1, .int .i64 a0_2, .slice A0_3 l0_3.length c0_3, .slice A0_4 l0_4.length c0_4, .int .i64 a0_5] 25 (0, 0))) := ⟨(by rw [hw]; exact (by (with_reducible repeat (first | refine Zf ?_ _ | refine Zd ?_ | refine Ze ?_ _)); refine Zg ?_ NB206_209.out _; (with_reducible repeat (first | apply zb3 | apply zb2 | apply zb1)); exact BK206.out))⟩; have n4_ : Za (w67.heap[gb207]? = some (.cells #[.int .i64 a1_0, .int .i64 a1_1, .int .i64 a1_2, .slice A1_3 l1_3.length c1_3, .slice A1_4 l1_4.length c1_4, .int .i64 a1_5] 25 (0, 0))) := ⟨(by rw [hw]; exact (by (with_reducible repeat (first | refine Zf ?_ _ | refine Zd ?_ | refine Ze ?_ _)); refine Zg ?_ NB207_209.out _; (with_reducible repeat (first | apply zb3 | apply zb2 | apply zb1)); exact BK207.out))⟩; have n5_ : Za (w67.heap[gb208]? = some (.cells #[.int .i64 x209000_2, .int .i64 x209001_2, .int .i64 x209002_2, .slice none 0 0, .slice none 0 0, .int .i64 x209005_2] 25 (0, 0))) := ⟨(by rw [hw]; exact (by (with_reducible repeat (first | refine Zf ?_ _ | refine Zd ?_ | refine Ze ?_ _)); refine Zg ?_ NB208_209.out _; (with_reducible repeat (first | apply zb3 | apply zb2 | apply zb1)); exact BK208.out))⟩; have n6_ : Za (w67.heap[gb209]? = some (.cells #[.int .i64 (wrap64 (a0_0 * a1_0)), .int .i64 a0_1, .int .i64 a1_2, .slice Ao65 y224.length co65, u210004, .int .i64 (wrap64 ((wrap64 (a0_5 * a1_0)) + a1_5))] 25 (0, 0))) := ⟨(by rw [hw]; exact (by (with_reducible repeat (first | refine Zf ?_ _ | refine Zd ?_ | refine Ze ?_ _)); refine Zn (cs := #[.int .i64 (wrap64 (a0_0 * a1_0)), .int .i64 a0_1, .int .i64 a1_2, u210003, u210004, .int .i64 (wrap64 ((wrap64 (a0_5 * a1_0)) + a1_5))]) ?_ 3 _ rfl; (with_reducible repeat (first | apply zb3 | apply zb2 | apply zb1)); exact BK209.out))⟩; have n7_ : Za (Below w.heap.size w w67) := ⟨(by rw [hw]; exact (by repeat (first | (with_reducible first | exact HB.out | apply zc1 | apply zc2 | apply zc3 | refine zc4 ?_ (by assumption)) | exact HB.out)))⟩; clear hw; clear HO_9; clear HO_210004; clear HO226; clear BK206; clear BK207; clear BK208; clear BK209; clear HB; have HO_9 := n0_; have HO_210004 := n1_; have HO226 := n2_; have BK206 := n3_; have BK207 := n4_; have BK208 := n5_; have BK209 := n6_; have HB := n7_; clear n0_ n1_ n2_ n3_ n4_ n5_ n6_ n7_; have hcz68_0 : w67.cell? ⟨gb209, 0, none⟩ = some (.int .i64 (wrap64 (a0_0 * a1_0))) := (Zb BK209.out 0).trans rfl; have hcz68_1 : w67.cell? ⟨gb209, 1, none⟩ = some (.int .i64 a0_1) := (Zb BK209.out 1).trans rfl; have hcz68_2 : w67.cell? ⟨gb209, 2, none⟩ = some (.int .i64 a1_2) := (Zb BK209.out 2).trans rfl; have hcz68_3 : w67.cell? ⟨gb209, 3, none⟩ = some (.slice Ao65 y224.length co65) := (Zb BK209.out 3).trans rfl; have hcz68_4 : w67.cell? ⟨gb209, 4, none⟩ = some (u210004) := (Zb BK209.out 4).trans rfl; have hcz68_5 : w67.cell? ⟨gb209, 5, none⟩ = some (.int .i64 (wrap64 ((wrap64 (a0_5 * a1_0)) + a1_5))) := (Zb BK209.out 5).trans rfl; have hfz68_0 := Zc BK209.out 0; have hfz68_1 := Zc BK209.out 1; have hfz68_2 := Zc BK209.out 2; have hfz68_3 := Zc BK209.out 3; have hfz68_4 := Zc BK209.out 4; have hfz68_5 := Zc BK209.out 5; obtain ⟨Ao70, co70, eo70⟩ := Kd.S_slice HO_9.out; subst eo70) | ((with_reducible refine gate_builtin (b := .append) (xs := #[.tmp 97, .tmp 99]) rfl ?_); at_builtin; refine Kd.R_append (Kd.slice 33 (Kd.slice 3 (Kd.int .i64))) (w0 := w) w.heap.size rfl (.tmp 97) (.tmp 99) 23 22 (.slice none 0 0) 24 rfl Try.underlying23 info22 rfl (by decide) (by omega) u210004 x210004_1 x9_2 [.slice Ao70 x9_2.length co70] (fun k_ => some k_ ≠ (.slice Ao65 y224.length co65 : Value).ownBlock) (fun k_ => ((fun k_ => some k_ ≠ (.slice Ao65 y224.length co65 : Value).ownBlock)) k_ ∧ some k_ ≠ (u210004 : Value).ownBlock) rfl rfl ?aP (fun _ hk => hk) ?aF ?aO ?aB ?aS ?aL ?_; (case aP => exact Kd.M_row (Kd.R_mono (Kd.R_apart' ((Kd.S_R HO_9.out)) (Kd.R_typed HO_210004.out) (by decide)) (fun k_ hk => ⟨hk.1, hk.2⟩))); (case aB => exact (by repeat (first | (with_reducible first | exact HB.out | apply zc1 | apply zc2 | apply zc3 | refine zc4 ?_ (by assumption)) | exact HB.out))); (case aF => exact (fun k_ hk => Kd.fresh' (Kd.S_lt (by (with_reducible repeat (first | apply Kd.S_alloc | apply Kd.S_drewN | apply Kd.S_drew)); exact HO226.out)) k_ hk)); (case aO => exact (by (with_reducible repeat (first | apply Kd.R_alloc | apply Kd.R_drewN | apply Kd.R_drew)); exact Kd.R_mono HO_210004.out (fun _ hk => hk.2))); (case aS => exact (Zo (by repeat (first | (with_reducible first | exact HB.out | apply zc1 | apply zc2 | apply zc3 | refine zc4 ?_ (by assumption)) | exact HB.out)))); (case aL => have := LMc55.out; omega); intro v228 w69 ho hb hg hat; rw [← Ny227.out] at ho; replace BK206 := Za.mk (Zb1 (g := gb206) (by (with_reducible repeat (first | apply zb3 | apply zb2 | apply zb1)); exact BK206.out) hg (Kd.R_ne HO_210004.out BK206.out (by decide))); replace BK207 := Za.mk (Zb1 (g := gb207) (by (with_reducible repeat (first | apply zb3 | apply zb2 | apply zb1)); exact BK207.out) hg (Kd.R_ne HO_210004.out BK207.out (by decide))); replace BK208 := Za.mk (Zb1 (g := gb208) (by (with_reducible repeat (first | apply zb3 | apply zb2 | apply zb1)); exact BK208.out) hg (Kd.R_ne HO_210004.out BK208.out (by decide))); replace BK209 := Za.mk (Zb1 (g := gb209) (by (with_reducible repeat (first | apply zb3 | apply zb2 | apply zb1)); exact BK209.out) hg (Kd.R_ne HO_210004.out BK209.out (by decide))); replace HO226 := Za.mk (Kd.S_over' (by (with_reducible repeat (first | apply Kd.S_alloc | apply Kd.S_drewN | apply Kd.S_drew)); exact HO226.out) (Kd.R_typed (by (with_reducible repeat (first | apply Kd.R_alloc | apply Kd.R_drewN | apply Kd.R_drew)); exact HO_210004.out)) (by decide) hg); replace HB := Za.mk (hb); have HO229 := Za.mk (ho); clear HO_210004 HO_9; clear ho hb hg hat; obtain ⟨Ao71, co71, eo71⟩ := Kd.R_slice HO229.out; subst eo71; have hcz72_0 : w69.cell? ⟨gb209, 0, none⟩ = some (.int .i64 (wrap64 (a0_0 * a1_0))) := (Zb BK209.out 0).trans rfl; have hcz72_1 : w69.cell? ⟨gb209, 1, none⟩ = some (.int .i64 a0_1) := (Zb BK209.out 1).trans rfl; have hcz72_2 : w69.cell? ⟨gb209, 2, none⟩ = some (.int .i64 a1_2) := (Zb BK209.out 2).trans rfl; have hcz72_3 : w69.cell? ⟨gb209, 3, none⟩ = some (.slice Ao65 y224.length co65) := (Zb BK209.out 3).trans rfl; have hcz72_4 : w69.cell? ⟨gb209, 4, none⟩ = some (u210004) := (Zb BK209.out 4).trans rfl; have hcz72_5 : w69.cell? ⟨gb209, 5, none⟩ = some (.int .i64 (wrap64 ((wrap64 (a0_5 * a1_0)) + a1_5))) := (Zb BK209.out 5).trans rfl; have hfz72_0 := Zc BK209.out 0; have hfz72_1 := Zc BK209.out 1; have hfz72_2 := Zc BK209.out 2; have hfz72_3 := Zc BK209.out 3; have hfz72_4 := Zc BK209.out 4; have hfz72_5 := Zc BK209.out 5))
      go_roundg k2
      case measure => have := HK1.out; have := HK2.out; omega
      case rel => exact ⟨(wrap64 (x7_1 + 1)), (x209000_2), (x209001_2), (x209002_2), (x209005_2), (y224), (y227), (.slice Ao65 y224.length co65), (.slice Ao71 y227.length co71), (by first | rfl | (simp; done) | (simp [*]; done)), H', ⟨by have := HK1.out; have := HK2.out; omega⟩, ⟨by (with_reducible repeat (first | apply Kd.S_alloc | apply Kd.S_drewN | apply Kd.S_drew)); exact Kd.S_mono (Kd.S_far (p := ⟨gb209, 4, none⟩) (Kd.S_types HO226.out BK209.out (by decide)) (fun _ hk => hk.2) (.slice Ao71 y227.length co71)) (fun _ hk => trivial)⟩, ⟨by (with_reducible repeat (first | apply Kd.R_alloc | apply Kd.R_drewN | apply Kd.R_drew)); exact Kd.R_mono (Kd.R_far (p := ⟨gb209, 4, none⟩) (Kd.R_types HO229.out BK209.out (by decide)) (fun _ hk => hk.2) (.slice Ao71 y227.length co71)) (fun _ hk => hk.1)⟩, ⟨by (with_reducible repeat (first | refine Zf ?_ _ | refine Zd ?_ | refine Ze ?_ _)); refine Zg ?_ NB206_209.out _; (with_reducible repeat (first | apply zb3 | apply zb2 | apply zb1)); exact BK206.out⟩, ⟨by (with_reducible repeat (first | refine Zf ?_ _ | refine Zd ?_ | refine Ze ?_ _)); refine Zg ?_ NB207_209.out _; (with_reducible repeat (first | apply zb3 | apply zb2 | apply zb1)); exact BK207.out⟩, ⟨by (with_reducible repeat (first | refine Zf ?_ _ | refine Zd ?_ | refine Ze ?_ _)); refine Zg ?_ NB208_209.out _; (with_reducible repeat (first | apply zb3 | apply zb2 | apply zb1)); exact BK208.out⟩, ⟨by (with_reducible repeat (first | refine Zf ?_ _ | refine Zd ?_ | refine Ze ?_ _)); refine Zn (cs := #[.int .i64 (wrap64 (a0_0 * a1_0)), .int .i64 a0_1, .int .i64 a1_2, .slice Ao65 y224.length co65, u210004, .int .i64 (wrap64 ((wrap64 (a0_5 * a1_0)) + a1_5))]) ?_ 4 _ rfl; (with_reducible repeat (first | apply zb3 | apply zb2 | apply zb1)); exact BK209.out⟩, ⟨by repeat (first | (with_reducible first | exact HB.out | apply zc1 | apply zc2 | apply zc3 | refine zc4 ?_ (by assumption)) | exact HB.out)⟩⟩
     (rw [if_pos c21] at H); (have c21b0 : decide (x10_2 < a0_1) = true := decide_eq_true c21); (clear c21)
     by_cases c22 : a1_0 = 0
     ·rw [if_pos c22] at H
      exact absurd H (by simp)
     (rw [if_neg c22] at H); (have c22b0 : (a1_0 == 0) = false := beq_eq_false_iff_ne.mpr c22); (have c22b1 : (a1_0 != 0) = true := bne_iff_ne.mpr c22); (obtain ⟨ji23, hji23⟩ : ∃ j_ : Int, (wrap64 (Int.tdiv x7_1 a1_0)) = j_ := ⟨_, rfl⟩); (replace H : (if 0 ≤ (ji23) then (if (ji23) < (l0_4.length : Int) then (if 0 ≤ x10_2 then (if x10_2 < ((Zm l0_4 (ji23)).length : Int) then ((Zh1.f k2 a1_0 a1_1 a1_2 l1_3 l1_4 a1_5 (Int.tmod x7_1 a1_0) (Zj (Zm l0_4 (ji23)) x10_2)).bind fun bt212 => (if (bt212.1.length : Int) > 4 then (some (0, 0, 0, ([] : List (List Int)), ([] : List (List (List Int))), 0, false)) else (if (ji23) < (l0_3.length : Int) then (if x10_2 < ((Zj l0_3 (ji23)).length : Int) then (if x8_2.length < 17592186044416 then (if x9_2.length < 5864062014805 then (Zv.l1 k2 x7_1 (x8_2 ++ [wrap64 ((wrap64 ((rd (Zj l0_3 (ji23)) x10_2) * a1_0)) + bt212.2)]) (x9_2 ++ [bt212.1]) (wrap64 (x10_2 + 1)) a0_0 a0_1 a0_2 l0_3 l0_4 a0_5 a1_0 a1_1 a1_2 l1_3 l1_4 a1_5 (wrap64 (a0_0 * a1_0)) a0_1 a1_2 x210003_1 x210004_1 (wrap64 ((wrap64 (a0_5 * a1_0)) + a1_5))) else (none)) else (none)) else (none)) else (none)))) else (none)) else (none)) else (none)) else (none)) = some (r1, r2, r3, r4, r5, r6, r7) := by first | (rw [hji23] at H; exact H) | (simp only [hji23] at H ⊢; exact H)); (have hji23w : (IntKind.i64.wrap (Int.tdiv x7_1 a1_0)) = ji23 := (Zh _).trans hji23)
     by_cases c24 : 0 ≤ (ji23)
     rotate_left
     ·rw [if_neg c24] at H
      exact absurd H (by simp)
     (rw [if_pos c24] at H); (have c24b0 : decide (0 ≤ (ji23)) = true := decide_eq_true c24); (clear c24)
     by_cases c25 : (ji23) < (l0_4.length : Int)
     rotate_left
     ·rw [if_neg c25] at H
      exact absurd H (by simp)
     (rw [if_pos c25] at H); (have c25b0 : decide ((ji23) < (l0_4.length : Int)) = true := decide_eq_true c25); (clear c25)
     by_cases c26 : 0 ≤ x10_2
     rotate_left
     ·rw [if_neg c26] at H
      exact absurd H (by simp)
     (rw [if_pos c26] at H); (have c26b0 : decide (0 ≤ x10_2) = true := decide_eq_true c26); (clear c26)
     by_cases c27 : x10_2 < ((Zm l0_4 (ji23)).length : Int)
     rotate_left
     ·rw [if_neg c27] at H
      exact absurd H (by simp)
     (rw [if_pos c27] at H); (have c27b0 : decide (x10_2 < ((Zm l0_4 (ji23)).length : Int)) = true := decide_eq_true c27); (clear c27); (replace H := Option.bind_eq_some_iff.mp H); (obtain ⟨⟨t212, t215⟩, A280, H⟩ := H); (replace H : (if (t212.length : Int) > 4 then (some (0, 0, 0, ([] : List (List Int)), ([] : List (List (List Int))), 0, false)) else (if (ji23) < (l0_3.length : Int) then (if x10_2 < ((Zj l0_3 (ji23)).length : Int) then (if x8_2.length < 17592186044416 then (if x9_2.length < 5864062014805 then (Zv.l1 k2 x7_1 (x8_2 ++ [wrap64 ((wrap64 ((rd (Zj l0_3 (ji23)) x10_2) * a1_0)) + t215)]) (x9_2 ++ [t212]) (wrap64 (x10_2 + 1)) a0_0 a0_1 a0_2 l0_3 l0_4 a0_5 a1_0 a1_1 a1_2 l1_3 l1_4 a1_5 (wrap64 (a0_0 * a1_0)) a0_1 a1_2 x210003_1 x210004_1 (wrap64 ((wrap64 (a0_5 * a1_0)) + a1_5))) else (none)) else (none)) else (none)) else (none))) = some (r1, r2, r3, r4, r5, r6, r7) := H); (have A28 := Za.mk A280); (clear A280)
     by_cases c29 : (t212.length : Int) > 4
     ·rw [if_pos c29] at H
      (have c29b0 : decide (4 < (t212.length : Int)) = true := decide_eq_true c29); (have c29b1 : decide (4 < t212.length) = true := decide_eq_true (by omega)); (clear c29); (simp only [Option.some.injEq, Prod.mk.injEq] at H); (obtain ⟨rfl, rfl, rfl, rfl, rfl, rfl, rfl⟩ := H); (have hnb30 := NB206_207.out); (have hnc30 := NB207_206.out); (have hnb31 := NB206_208.out); (have hnc31 := NB208_206.out); (have hnb32 := NB206_209.out); (have hnc32 := NB209_206.out); (have hcz33_0 : wr.cell? ⟨gb206, 0, none⟩ = some (.int .i64 a0_0) := (Zb BK206.out 0).trans rfl); (have hcz33_1 : wr.cell? ⟨gb206, 1, none⟩ = some (.int .i64 a0_1) := (Zb BK206.out 1).trans rfl); (have hcz33_2 : wr.cell? ⟨gb206, 2, none⟩ = some (.int .i64 a0_2) := (Zb BK206.out 2).trans rfl); (have hcz33_3 : wr.cell? ⟨gb206, 3, none⟩ = some (.slice A0_3 l0_3.length c0_3) := (Zb BK206.out 3).trans rfl); (have hcz33_4 : wr.cell? ⟨gb206, 4, none⟩ = some (.slice A0_4 l0_4.length c0_4) := (Zb BK206.out 4).trans rfl); (have hcz33_5 : wr.cell? ⟨gb206, 5, none⟩ = some (.int .i64 a0_5) := (Zb BK206.out 5).trans rfl); (have hfz33_0 := Zc BK206.out 0); (have hfz33_1 := Zc BK206.out 1); (have hfz33_2 := Zc BK206.out 2); (have hfz33_3 := Zc BK206.out 3); (have hfz33_4 := Zc BK206.out 4); (have hfz33_5 := Zc BK206.out 5)
      try go_wp2
      (replace HO_8 := Za.mk (Kd.R_drew HO_8.out)); (replace HO_9 := Za.mk (Kd.S_drew HO_9.out)); (replace HO_210003 := Za.mk (Kd.S_drew HO_210003.out)); (replace HO_210004 := Za.mk (Kd.R_drew HO_210004.out)); (replace BK206 := Za.mk (Zd BK206.out)); (replace BK207 := Za.mk (Zd BK207.out)); (replace BK208 := Za.mk (Zd BK208.out)); (replace BK209 := Za.mk (Zd BK209.out)); (replace HB := Za.mk (below_drew1 HB.out)); (have p210 : 0 ≤ ((ji23) : Int) := of_decide_eq_true (by assumption)); (have q210 : (ji23) < (l0_4.length : Int) := of_decide_eq_true (by assumption)); (obtain ⟨ad210, A210_0, c210_0, e210, hx210_0, hl210_0, hi210_0⟩ := at_L2 HR0_4.out (ji23) p210 q210); (have hw210_0 := hx210_0); (cases e210); (replace hx210_0 := (HB.out.cell (World.block_lt_of_cell? w _ hx210_0)).trans hx210_0); (have HR210_0 := Za.mk hi210_0); (have HC210_0 := Za.mk hl210_0); (clear hi210_0 hl210_0); (replace p210 := eq_true p210); (replace q210 := eq_true q210); (have p211 : 0 ≤ (x10_2 : Int) := of_decide_eq_true (by assumption)); (have q211 : x10_2 < ((Zm l0_4 (ji23)).length : Int) := of_decide_eq_true (by assumption)); (obtain ⟨ad211, A211_0, c211_0, e211, hx211_0, hl211_0, hi211_0⟩ := at_L1 HR210_0.out x10_2 p211 q211); (have hw211_0 := hx211_0); (cases e211); (replace hx211_0 := (HB.out.cell (World.block_lt_of_cell? w _ hx211_0)).trans hx211_0); (have HR211_0 := Za.mk hi211_0); (have HC211_0 := Za.mk hl211_0); (clear hi211_0 hl211_0); (replace p211 := eq_true p211); (replace q211 := eq_true q211)
      refine start_ (n := 22) (S := fun w' => w'.cell? ⟨gb207, 0, none⟩ = some (.int .i64 a1_0) ∧ w'.cell? ⟨gb207, 1, none⟩ = some (.int .i64 a1_1) ∧ w'.cell? ⟨gb207, 2, none⟩ = some (.int .i64 a1_2) ∧ w'.cell? ⟨gb207, 3, none⟩ = some (.slice A1_3 l1_3.length c1_3) ∧ w'.cell? ⟨gb207, 4, none⟩ = some (.slice A1_4 l1_4.length c1_4) ∧ w'.cell? ⟨gb207, 5, none⟩ = some (.int .i64 a1_5) ∧ w'.cell? ⟨gb206, 0, none⟩ = some (.int .i64 a0_0) ∧ w'.cell? ⟨gb206, 1, none⟩ = some (.int .i64 a0_1) ∧ w'.cell? ⟨gb206, 2, none⟩ = some (.int .i64 a0_2) ∧ w'.cell? ⟨gb206, 3, none⟩ = some (.slice A0_3 l0_3.length c0_3) ∧ w'.cell? ⟨gb206, 4, none⟩ = some (.slice (some ad210) l0_4.length c0_4) ∧ w'.cell? ⟨gb206, 5, none⟩ = some (.int .i64 a0_5) ∧ w'.cell? (ad210.add ((ji23)).toNat) = some (.slice (some ad211) (Zm l0_4 (ji23)).length c210_0) ∧ w'.cell? (ad211.add (x10_2).toNat) = some (.slice A211_0 (Zj (Zm l0_4 (ji23)) x10_2).length c211_0)) (ds := []) #[false, false, false, false, false, false, false, false, false, false, false, false, false, false, false, false, false, false, false, false, false, false] (by kernel_rfl) rfl rfl ⟨(Zb BK207.out 0).trans rfl, (Zb BK207.out 1).trans rfl, (Zb BK207.out 2).trans rfl, (Zb BK207.out 3).trans rfl, (Zb BK207.out 4).trans rfl, (Zb BK207.out 5).trans rfl, (Zb BK206.out 0).trans rfl, (Zb BK206.out 1).trans rfl, (Zb BK206.out 2).trans rfl, (Zb BK206.out 3).trans rfl, (Zb BK206.out 4).trans rfl, (Zb BK206.out 5).trans rfl, ((HB.out.cell (World.block_lt_of_cell? w _ hw210_0)).trans hw210_0), ((HB.out.cell (World.block_lt_of_cell? w _ hw211_0)).trans hw211_0)⟩ (fun hHeld => ?_); refine with_tabW Zv.tab10 Zv.bits10 (fun HT_ HW_ => ?_)
      generalize wr.drew = w34 at HO_8 HO_9 HO_210003 HO_210004 BK206 BK207 BK208 BK209 HB HR210_0 HR211_0 hx210_0 hx211_0 hHeld ⊢
      refine pure_ (i := 1) (N := some 45) (v := ?_) (a' := ?_) #[false, true, false, false, false, false, false, false, false, false, false, false, false, false, false, false, false, false, false, false, false, false] rfl rfl (Zq HT_.out (by kernel_rfl)) (fun _ _ _ h => h) (Or.inl ⟨by rfl, ?_⟩) ?_ ?_
      rotate_left
      ·intro w'
       go_simp
       with_reducible rfl
      rotate_left
      ·simp only [Act.put, List.setIfInBounds_toArray, List.set_cons_zero, List.set_cons_succ, Zh, Zi]
       rfl
      refine pure_ (i := 2) (N := some 46) (v := ?_) (a' := ?_) #[false, true, true, false, false, false, false, false, false, false, false, false, false, false, false, false, false, false, false, false, false, false] rfl rfl (Zq HT_.out (by kernel_rfl)) (fun _ _ _ h => h) (Or.inl ⟨by rfl, ?_⟩) ?_ ?_
      rotate_left
      ·intro w'
       go_simp
       with_reducible rfl
      rotate_left
      ·simp only [Act.put, List.setIfInBounds_toArray, List.set_cons_zero, List.set_cons_succ, Zh, Zi]
       rfl
      refine pure_ (i := 5) (N := some 49) (v := ?_) (a' := ?_) #[false, true, true, false, false, true, false, false, false, false, false, false, false, false, false, false, false, false, false, false, false, false] rfl rfl (Zq HT_.out (by kernel_rfl)) (fun _ _ _ h => h) (Or.inl ⟨by rfl, ?_⟩) ?_ ?_
      rotate_left
      ·intro w'
       go_simp
       with_reducible rfl
      rotate_left
      ·simp only [Act.put, List.setIfInBounds_toArray, List.set_cons_zero, List.set_cons_succ, Zh, Zi]
       rfl
      refine pure_ (i := 7) (N := some 51) (v := ?_) (a' := ?_) #[false, true, true, false, false, true, false, true, false, false, false, false, false, false, false, false, false, false, false, false, false, false] rfl rfl (Zq HT_.out (by kernel_rfl)) (fun _ _ _ h => h) (Or.inl ⟨by rfl, ?_⟩) ?_ ?_
      rotate_left
      ·intro w'
       go_simp
       with_reducible rfl
      rotate_left
      ·simp only [Act.put, List.setIfInBounds_toArray, List.set_cons_zero, List.set_cons_succ, Zh, Zi]
       rfl
      refine pure_ (i := 8) (N := some 52) (v := ?_) (a' := ?_) #[false, true, true, false, false, true, false, true, true, false, false, false, false, false, false, false, false, false, false, false, false, false] rfl rfl (Zq HT_.out (by kernel_rfl)) (fun _ _ _ h => h) (Or.inl ⟨by rfl, ?_⟩) ?_ ?_
      rotate_left
      ·intro w'
       go_simp
       with_reducible rfl
      rotate_left
      ·simp only [Act.put, List.setIfInBounds_toArray, List.set_cons_zero, List.set_cons_succ, Zh, Zi]
       rfl
      refine pure_ (i := 13) (N := some 57) (v := ?_) (a' := ?_) #[false, true, true, false, false, true, false, true, true, false, false, false, false, true, false, false, false, false, false, false, false, false] rfl rfl (Zq HT_.out (by kernel_rfl)) (fun _ _ _ h => h) (Or.inl ⟨by rfl, ?_⟩) ?_ ?_
      rotate_left
      ·intro w'
       go_simp
       with_reducible rfl
      rotate_left
      ·simp only [Act.put, List.setIfInBounds_toArray, List.set_cons_zero, List.set_cons_succ, Zh, Zi]
       rfl
      refine take_ (i := 0) (N := some 44) (v := ?_) (a' := ?_) #[true, true, true, false, false, true, false, true, true, false, false, false, false, true, false, false, false, false, false, false, false, false] rfl rfl (Zc1 HT_.out HW_.out (by kernel_rfl)) (fun _ _ _ h => h) (Or.inl ⟨by rfl, ?_⟩) hHeld ?_ ?_
      rotate_left
      ·rintro w' ⟨s0, s1, s2, s3, s4, s5, s6, s7, s8, s9, s10, s11, s12, s13⟩
       go_simp
       with_reducible rfl
      rotate_left
      ·simp only [Act.put, List.setIfInBounds_toArray, List.set_cons_zero, List.set_cons_succ, Zh, Zi]
       rfl
      refine take_ (i := 3) (N := some 47) (v := ?_) (a' := ?_) #[true, true, true, true, false, true, false, true, true, false, false, false, false, true, false, false, false, false, false, false, false, false] rfl rfl (Zc1 HT_.out HW_.out (by kernel_rfl)) (fun _ _ _ h => h) (Or.inl ⟨by rfl, ?_⟩) hHeld ?_ ?_
      rotate_left
      ·rintro w' ⟨s0, s1, s2, s3, s4, s5, s6, s7, s8, s9, s10, s11, s12, s13⟩
       go_simp
       with_reducible rfl
      rotate_left
      ·simp only [Act.put, List.setIfInBounds_toArray, List.set_cons_zero, List.set_cons_succ, Zh, Zi]
       rfl
      refine pure_ (i := 4) (N := some 48) (v := ?_) (a' := ?_) #[true, true, true, true, true, true, false, true, true, false, false, false, false, true, false, false, false, false, false, false, false, false] rfl rfl (Zq HT_.out (by kernel_rfl)) (fun _ _ _ h => h) (Or.inl ⟨by rfl, ?_⟩) ?_ ?_
      rotate_left
      ·intro w'
       go_simp
       with_reducible rfl
      rotate_left
      ·simp only [Act.put, List.setIfInBounds_toArray, List.set_cons_zero, List.set_cons_succ, Zh, Zi]
       rfl
      refine take_ (i := 6) (N := some 50) (v := ?_) (a' := ?_) #[true, true, true, true, true, true, true, true, true, false, false, false, false, true, false, false, false, false, false, false, false, false] rfl rfl (Zc1 HT_.out HW_.out (by kernel_rfl)) (fun _ _ _ h => h) (Or.inl ⟨by rfl, ?_⟩) hHeld ?_ ?_
      rotate_left
      ·rintro w' ⟨s0, s1, s2, s3, s4, s5, s6, s7, s8, s9, s10, s11, s12, s13⟩
       go_simp
       with_reducible rfl
      rotate_left
      ·simp only [Act.put, List.setIfInBounds_toArray, List.set_cons_zero, List.set_cons_succ, Zh, Zi]
       rfl
      refine take_ (i := 9) (N := some 53) (v := ?_) (a' := ?_) #[true, true, true, true, true, true, true, true, true, true, false, false, false, true, false, false, false, false, false, false, false, false] rfl rfl (Zc1 HT_.out HW_.out (by kernel_rfl)) (fun _ _ _ h => h) (Or.inl ⟨by rfl, ?_⟩) hHeld ?_ ?_
      rotate_left
      ·rintro w' ⟨s0, s1, s2, s3, s4, s5, s6, s7, s8, s9, s10, s11, s12, s13⟩
       go_simp
       with_reducible rfl
      rotate_left
      ·simp only [Act.put, List.setIfInBounds_toArray, List.set_cons_zero, List.set_cons_succ, Zh, Zi]
       rfl
      refine pure_ (i := 10) (N := some 54) (v := ?_) (a' := ?_) #[true, true, true, true, true, true, true, true, true, true, true, false, false, true, false, false, false, false, false, false, false, false] rfl rfl (Zq HT_.out (by kernel_rfl)) (fun _ _ _ h => h) (Or.inl ⟨by rfl, ?_⟩) ?_ ?_
      rotate_left
      ·intro w'
       go_simp
       with_reducible rfl
      rotate_left
      ·simp only [Act.put, List.setIfInBounds_toArray, List.set_cons_zero, List.set_cons_succ, Zh, Zi]
       rfl
      refine pure_ (i := 11) (N := some 55) (v := ?_) (a' := ?_) #[true, true, true, true, true, true, true, true, true, true, true, true, false, true, false, false, false, false, false, false, false, false] rfl rfl (Zq HT_.out (by kernel_rfl)) (fun _ _ _ h => h) (Or.inl ⟨by rfl, ?_⟩) ?_ ?_
      rotate_left
      ·intro w'
       go_simp
       with_reducible rfl
      rotate_left
      ·simp only [Act.put, List.setIfInBounds_toArray, List.set_cons_zero, List.set_cons_succ, Zh, Zi]
       rfl
      refine take_ (i := 12) (N := some 56) (v := ?_) (a' := ?_) #[true, true, true, true, true, true, true, true, true, true, true, true, true, true, false, false, false, false, false, false, false, false] rfl rfl (Zc1 HT_.out HW_.out (by kernel_rfl)) (fun _ _ _ h => h) (Or.inl ⟨by rfl, ?_⟩) hHeld ?_ ?_
      rotate_left
      ·rintro w' ⟨s0, s1, s2, s3, s4, s5, s6, s7, s8, s9, s10, s11, s12, s13⟩
       go_simp
       with_reducible rfl
      rotate_left
      ·simp only [Act.put, List.setIfInBounds_toArray, List.set_cons_zero, List.set_cons_succ, Zh, Zi]
       rfl
      refine pure_ (i := 14) (N := some 58) (v := ?_) (a' := ?_) #[true, true, true, true, true, true, true, true, true, true, true, true, true, true, true, false, false, false, false, false, false, false] rfl rfl (Zq HT_.out (by kernel_rfl)) (fun _ _ _ h => h) (Or.inl ⟨by rfl, ?_⟩) ?_ ?_
      rotate_left
      ·intro w'
       go_simp
       with_reducible rfl
      rotate_left
      ·simp only [Act.put, List.setIfInBounds_toArray, List.set_cons_zero, List.set_cons_succ, Zh, Zi]
       rfl
      refine take_ (i := 15) (N := some 59) (v := ?_) (a' := ?_) #[true, true, true, true, true, true, true, true, true, true, true, true, true, true, true, true, false, false, false, false, false, false] rfl rfl (Zc1 HT_.out HW_.out (by kernel_rfl)) (fun _ _ _ h => h) (Or.inl ⟨by rfl, ?_⟩) hHeld ?_ ?_
      rotate_left
      ·rintro w' ⟨s0, s1, s2, s3, s4, s5, s6, s7, s8, s9, s10, s11, s12, s13⟩
       go_simp
       with_reducible rfl
      rotate_left
      ·simp only [Act.put, List.setIfInBounds_toArray, List.set_cons_zero, List.set_cons_succ, Zh, Zi]
       rfl
      refine one_ (i := 16) (N := some 60) #[true, true, true, true, true, true, true, true, true, true, true, true, true, true, true, true, true, false, false, false, false, false] rfl rfl (one_of HT_.out (by kernel_rfl)) (by decide) (fun K hK => ?_)
      refine goes_ Try.func10 (by kernel_rfl) rfl #[.agg #[.int .i64 a1_0, .int .i64 a1_1, .int .i64 a1_2, .slice A1_3 l1_3.length c1_3, .slice A1_4 l1_4.length c1_4, .int .i64 a1_5], .int .i64 (Int.tmod x7_1 a1_0), .slice A211_0 (Zj (Zm l0_4 (ji23)) x10_2).length c211_0] (by rfl) rfl rfl (by (try simp only [List.map_toArray, List.map_cons, List.map_nil]); first | done | (simp only [hji23]; rfl) | rfl | (simp only [List.length_drop, List.length_take]; rfl)) ?_
      with_reducible refine (Zh1.calls k2 a1_0 a1_1 a1_2 _ _ l1_3 _ _ l1_4 a1_5 (Int.tmod x7_1 a1_0) _ _ (Zj (Zm l0_4 (ji23)) x10_2) t212 t215 _ ?side1 ?side2 ?side3 ?side4 ?side5 ?side6 A28.out).mono ?_
      (case side1 => repeat (first | exact (Kd.C_below HR1_3.out HB.out) | (with_reducible refine Kd.C_alloc ?_ _) | (with_reducible refine Kd.C_drewN ?_ _) | (with_reducible refine Kd.C_drew ?_)))
      (case side2 => exact HC1_3.out)
      (case side3 => repeat (first | exact (Kd.C_below HR1_4.out HB.out) | (with_reducible refine Kd.C_alloc ?_ _) | (with_reducible refine Kd.C_drewN ?_ _) | (with_reducible refine Kd.C_drew ?_)))
      (case side4 => exact HC1_4.out)
      (case side5 => repeat (first | exact (Kd.C_below HR211_0.out HB.out) | (with_reducible refine Kd.C_alloc ?_ _) | (with_reducible refine Kd.C_drewN ?_ _) | (with_reducible refine Kd.C_drew ?_)))
      (case side6 => exact HC211_0.out)
      rintro e w35 ⟨v213, rfl, ho0, hb⟩
      refine ⟨_, rfl, ?_⟩
      (replace HO_9 := Za.mk (Kd.S_elder' (by (with_reducible repeat (first | apply Kd.S_alloc | apply Kd.S_drewN | apply Kd.S_drew)); exact HO_9.out) (Kd.R_base ho0) hb)); (replace HO_210003 := Za.mk (Kd.S_elder' (by (with_reducible repeat (first | apply Kd.S_alloc | apply Kd.S_drewN | apply Kd.S_drew)); exact HO_210003.out) (Kd.R_base ho0) hb)); (replace HO_210004 := Za.mk (Kd.R_elder' (by (with_reducible repeat (first | apply Kd.R_alloc | apply Kd.R_drewN | apply Kd.R_drew)); exact HO_210004.out) (Kd.R_base ho0) hb)); (have HO214 := Za.mk (Kd.R_lower (Kd.R_new' ho0 (Kd.R_lt (by (with_reducible repeat (first | apply Kd.R_alloc | apply Kd.R_drewN | apply Kd.R_drew)); exact HO_8.out))) (Zo (by repeat (first | (with_reducible first | exact HB.out | apply zc1 | apply zc2 | apply zc3 | refine zc4 ?_ (by assumption)) | exact HB.out))))); (replace HO_8 := Za.mk (Kd.R_elder' (by (with_reducible repeat (first | apply Kd.R_alloc | apply Kd.R_drewN | apply Kd.R_drew)); exact HO_8.out) (Kd.R_base ho0) hb)); (replace BK206 := Za.mk (Zk (g := gb206) (by (with_reducible repeat (first | apply zb3 | apply zb2 | apply zb1)); exact BK206.out) hb)); (replace BK207 := Za.mk (Zk (g := gb207) (by (with_reducible repeat (first | apply zb3 | apply zb2 | apply zb1)); exact BK207.out) hb)); (replace BK208 := Za.mk (Zk (g := gb208) (by (with_reducible repeat (first | apply zb3 | apply zb2 | apply zb1)); exact BK208.out) hb)); (replace BK209 := Za.mk (Zk (g := gb209) (by (with_reducible repeat (first | apply zb3 | apply zb2 | apply zb1)); exact BK209.out) hb))
      (replace HB := Za.mk (Zu (by repeat (first | (with_reducible first | exact HB.out | apply zc1 | apply zc2 | apply zc3 | refine zc4 ?_ (by assumption)) | exact HB.out)) hb)); ((try clear hb)); ((try clear hb2)); ((try clear hk)); ((try clear hi)); ((try clear ho0))
      refine hK.out _ _ ⟨(Zb BK207.out 0).trans rfl, (Zb BK207.out 1).trans rfl, (Zb BK207.out 2).trans rfl, (Zb BK207.out 3).trans rfl, (Zb BK207.out 4).trans rfl, (Zb BK207.out 5).trans rfl, (Zb BK206.out 0).trans rfl, (Zb BK206.out 1).trans rfl, (Zb BK206.out 2).trans rfl, (Zb BK206.out 3).trans rfl, (Zb BK206.out 4).trans rfl, (Zb BK206.out 5).trans rfl, ((HB.out.cell (World.block_lt_of_cell? w _ hw210_0)).trans hw210_0), ((HB.out.cell (World.block_lt_of_cell? w _ hw211_0)).trans hw211_0)⟩ (fun hHeld => ?_)
      clear hK K
      refine norm_ (a' := ?_) ?_ ?_
      rotate_left
      ·show Act.put _ (some 60) _ = _
       simp only [Act.put, List.setIfInBounds_toArray, List.set_cons_zero, List.set_cons_succ, Zh, Zi]
       rfl
      refine pure_ (i := 17) (N := some 43) (v := ?_) (a' := ?_) #[true, true, true, true, true, true, true, true, true, true, true, true, true, true, true, true, true, true, false, false, false, false] rfl rfl (Zq HT_.out (by kernel_rfl)) (fun _ _ _ h => h) (Or.inl ⟨by rfl, ?_⟩) ?_ ?_
      rotate_left
      ·intro w'
       go_simp
       with_reducible rfl
      rotate_left
      ·simp only [Act.put, List.setIfInBounds_toArray, List.set_cons_zero, List.set_cons_succ, Zh, Zi]
       rfl
      refine pure_ (i := 18) (N := some 61) (v := ?_) (a' := ?_) #[true, true, true, true, true, true, true, true, true, true, true, true, true, true, true, true, true, true, true, false, false, false] rfl rfl (Zq HT_.out (by kernel_rfl)) (fun _ _ _ h => h) (Or.inl ⟨by rfl, ?_⟩) ?_ ?_
      rotate_left
      ·intro w'
       go_simp
       with_reducible rfl
      rotate_left
      ·simp only [Act.put, List.setIfInBounds_toArray, List.set_cons_zero, List.set_cons_succ, Zh, Zi]
       rfl
      refine pure_ (i := 19) (N := some 62) (v := ?_) (a' := ?_) #[true, true, true, true, true, true, true, true, true, true, true, true, true, true, true, true, true, true, true, true, false, false] rfl rfl (Zq HT_.out (by kernel_rfl)) (fun _ _ _ h => h) (Or.inl ⟨by rfl, ?_⟩) ?_ ?_
      rotate_left
      ·intro w'
       go_simp
       with_reducible rfl
      rotate_left
      ·simp only [Act.put, List.setIfInBounds_toArray, List.set_cons_zero, List.set_cons_succ, Zh, Zi]
       rfl
      refine pure_ (i := 20) (N := some 11) (v := ?_) (a' := ?_) #[true, true, true, true, true, true, true, true, true, true, true, true, true, true, true, true, true, true, true, true, true, false] rfl rfl (Zq HT_.out (by kernel_rfl)) (fun _ _ _ h => h) (Or.inl ⟨by rfl, ?_⟩) ?_ ?_
      rotate_left
      ·intro w'
       go_simp
       with_reducible rfl
      rotate_left
      ·simp only [Act.put, List.setIfInBounds_toArray, List.set_cons_zero, List.set_cons_succ, Zh, Zi]
       rfl
      refine pure_ (i := 21) (N := some 12) (v := ?_) (a' := ?_) #[true, true, true, true, true, true, true, true, true, true, true, true, true, true, true, true, true, true, true, true, true, true] rfl rfl (Zq HT_.out (by kernel_rfl)) (fun _ _ _ h => h) (Or.inl ⟨by rfl, ?_⟩) ?_ ?_
      rotate_left
      ·intro w'
       go_simp
       with_reducible rfl
      rotate_left
      ·simp only [Act.put, List.setIfInBounds_toArray, List.set_cons_zero, List.set_cons_succ, Zh, Zi]
       rfl
      refine done_ (done_of HT_.out (by kernel_rfl)) ?_
      (obtain ⟨Ao36, co36, eo36⟩ := Kd.R_slice HO214.out); (subst eo36); (have hnb37 := NB208_207.out); (have hnc37 := NB207_208.out); (have hnb38 := NB208_209.out); (have hnc38 := NB209_208.out); (have hcz39_0 : w35.cell? ⟨gb208, 0, none⟩ = some (.int .i64 x209000_2) := (Zb BK208.out 0).trans rfl); (have hcz39_1 : w35.cell? ⟨gb208, 1, none⟩ = some (.int .i64 x209001_2) := (Zb BK208.out 1).trans rfl); (have hcz39_2 : w35.cell? ⟨gb208, 2, none⟩ = some (.int .i64 x209002_2) := (Zb BK208.out 2).trans rfl); (have hcz39_3 : w35.cell? ⟨gb208, 3, none⟩ = some (.slice none 0 0) := (Zb BK208.out 3).trans rfl); (have hcz39_4 : w35.cell? ⟨gb208, 4, none⟩ = some (.slice none 0 0) := (Zb BK208.out 4).trans rfl); (have hcz39_5 : w35.cell? ⟨gb208, 5, none⟩ = some (.int .i64 x209005_2) := (Zb BK208.out 5).trans rfl); (have hfz39_0 := Zc BK208.out 0); (have hfz39_1 := Zc BK208.out 1); (have hfz39_2 := Zc BK208.out 2); (have hfz39_3 := Zc BK208.out 3); (have hfz39_4 := Zc BK208.out 4); (have hfz39_5 := Zc BK208.out 5)
      try go_wp2
      refine bodyPost_ret (results_ct rfl _ _ gb208 25 #[.int .i64 0, .int .i64 0, .int .i64 0, .slice none 0 0, .slice none 0 0, .int .i64 0] (0, 0) _ rfl (by (with_reducible repeat (first | refine Zf ?_ _ | refine Zd ?_ | refine Ze ?_ _)); refine Zn (cs := #[.int .i64 0, .int .i64 0, .int .i64 0, .slice none 0 0, .slice none 0 0, .int .i64 x209005_2]) ?_ 5 _ rfl; (with_reducible repeat (first | refine Zf ?_ _ | refine Zd ?_ | refine Ze ?_ _)); refine Zn (cs := #[.int .i64 0, .int .i64 0, .int .i64 0, .slice none 0 0, .slice none 0 0, .int .i64 x209005_2]) ?_ 4 _ rfl; (with_reducible repeat (first | refine Zf ?_ _ | refine Zd ?_ | refine Ze ?_ _)); refine Zn (cs := #[.int .i64 0, .int .i64 0, .int .i64 0, .slice none 0 0, .slice none 0 0, .int .i64 x209005_2]) ?_ 3 _ rfl; (with_reducible repeat (first | refine Zf ?_ _ | refine Zd ?_ | refine Ze ?_ _)); refine Zn (cs := #[.int .i64 0, .int .i64 0, .int .i64 x209002_2, .slice none 0 0, .slice none 0 0, .int .i64 x209005_2]) ?_ 2 _ rfl; (with_reducible repeat (first | refine Zf ?_ _ | refine Zd ?_ | refine Ze ?_ _)); refine Zn (cs := #[.int .i64 0, .int .i64 x209001_2, .int .i64 x209002_2, .slice none 0 0, .slice none 0 0, .int .i64 x209005_2]) ?_ 1 _ rfl; (with_reducible repeat (first | refine Zf ?_ _ | refine Zd ?_ | refine Ze ?_ _)); refine Zn (cs := #[.int .i64 x209000_2, .int .i64 x209001_2, .int .i64 x209002_2, .slice none 0 0, .slice none 0 0, .int .i64 x209005_2]) ?_ 0 _ rfl; (with_reducible repeat (first | apply zb3 | apply zb2 | apply zb1)); exact BK208.out) Try.underlying25 rfl (by kernel_rfl)) rfl ?_
      exact ⟨_, _, by first | rfl | (simp [Zx, Zw] <;> rfl) | (simp only [← hji23]; first | rfl | (simp [Zx, Zw] <;> rfl)) | (simp [*, Zx, Zw] <;> rfl), by first | exact Kd.S_nil _ _ _ _ _ | exact Kd.N_nil _ _ _ _ _ | exact Kd.V_nil _ _ _ _ _ | exact Kd.Q_nil _ _ _ _ _ | exact Kd.R_nil _ _ _ _ _ | (go_simp; exact Kd.S_nil _ _ _ _ _), by first | exact Kd.R_nil _ _ _ _ _ | exact Kd.N_nil _ _ _ _ _ | exact Kd.V_nil _ _ _ _ _ | exact Kd.Q_nil _ _ _ _ _ | exact Kd.S_nil _ _ _ _ _ | (go_simp; exact Kd.R_nil _ _ _ _ _), by repeat (first | (with_reducible first | exact HB.out | apply zc1 | apply zc2 | apply zc3 | refine zc4 ?_ (by assumption)) | exact HB.out)⟩
     (rw [if_neg c29] at H); (have c29b0 : decide (4 < (t212.length : Int)) = false := decide_eq_false c29); (have c29b1 : decide (4 < t212.length) = false := decide_eq_false (by omega)); (clear c29)
     by_cases c40 : (ji23) < (l0_3.length : Int)
     rotate_left
     ·rw [if_neg c40] at H
      exact absurd H (by simp)
     (rw [if_pos c40] at H); (have c40b0 : decide ((ji23) < (l0_3.length : Int)) = true := decide_eq_true c40); (clear c40)
     by_cases c41 : x10_2 < ((Zj l0_3 (ji23)).length : Int)
     rotate_left
     ·rw [if_neg c41] at H
      exact absurd H (by simp)
     (rw [if_pos c41] at H); (have c41b0 : decide (x10_2 < ((Zj l0_3 (ji23)).length : Int)) = true := decide_eq_true c41); (clear c41)
     by_cases c42 : x8_2.length < 17592186044416
     rotate_left
     ·rw [if_neg c42] at H
      exact absurd H (by simp)
     (rw [if_pos c42] at H); (have LMc42 := Za.mk c42); (clear c42); (obtain ⟨y218, hy218⟩ : ∃ y_ : List Int, y_ = (x8_2 ++ [wrap64 ((wrap64 ((rd (Zj l0_3 (ji23)) x10_2) * a1_0)) + t215)]) := ⟨_, rfl⟩); (replace H : (if x9_2.length < 5864062014805 then (Zv.l1 k2 x7_1 y218 (x9_2 ++ [t212]) (wrap64 (x10_2 + 1)) a0_0 a0_1 a0_2 l0_3 l0_4 a0_5 a1_0 a1_1 a1_2 l1_3 l1_4 a1_5 (wrap64 (a0_0 * a1_0)) a0_1 a1_2 x210003_1 x210004_1 (wrap64 ((wrap64 (a0_5 * a1_0)) + a1_5))) else (none)) = some (r1, r2, r3, r4, r5, r6, r7) := by first | (rw [hy218]; with_reducible exact H) | (have H2_ := (Option.bind_some _ _).symm.trans H; rw [hy218]; with_reducible exact H2_) | (have H2_ := (Option.bind_some _ _).symm.trans H; with_reducible exact H2_) | with_reducible exact H | (rw [hy218]; exact H) | exact H); (have Ny218 := Za.mk hy218); (clear hy218)
     by_cases c43 : x9_2.length < 5864062014805
     rotate_left
     ·rw [if_neg c43] at H
      exact absurd H (by simp)
     (rw [if_pos c43] at H); (have LMc43 := Za.mk c43); (clear c43); (obtain ⟨y221, hy221⟩ : ∃ y_ : List (List Int), y_ = (x9_2 ++ [t212]) := ⟨_, rfl⟩); (replace H : (Zv.l1 k2 x7_1 y218 y221 (wrap64 (x10_2 + 1)) a0_0 a0_1 a0_2 l0_3 l0_4 a0_5 a1_0 a1_1 a1_2 l1_3 l1_4 a1_5 (wrap64 (a0_0 * a1_0)) a0_1 a1_2 x210003_1 x210004_1 (wrap64 ((wrap64 (a0_5 * a1_0)) + a1_5))) = some (r1, r2, r3, r4, r5, r6, r7) := by first | (rw [hy221]; with_reducible exact H) | (have H2_ := (Option.bind_some _ _).symm.trans H; rw [hy221]; with_reducible exact H2_) | (have H2_ := (Option.bind_some _ _).symm.trans H; with_reducible exact H2_) | with_reducible exact H | (rw [hy221]; exact H) | exact H); (have Ny221 := Za.mk hy221); (clear hy221); (have H' := Za.mk H); (clear H); (have hnb44 := NB206_207.out); (have hnc44 := NB207_206.out); (have hnb45 := NB206_208.out); (have hnc45 := NB208_206.out); (have hnb46 := NB206_209.out); (have hnc46 := NB209_206.out); (have hcz47_0 : wr.cell? ⟨gb206, 0, none⟩ = some (.int .i64 a0_0) := (Zb BK206.out 0).trans rfl); (have hcz47_1 : wr.cell? ⟨gb206, 1, none⟩ = some (.int .i64 a0_1) := (Zb BK206.out 1).trans rfl); (have hcz47_2 : wr.cell? ⟨gb206, 2, none⟩ = some (.int .i64 a0_2) := (Zb BK206.out 2).trans rfl); (have hcz47_3 : wr.cell? ⟨gb206, 3, none⟩ = some (.slice A0_3 l0_3.length c0_3) := (Zb BK206.out 3).trans rfl); (have hcz47_4 : wr.cell? ⟨gb206, 4, none⟩ = some (.slice A0_4 l0_4.length c0_4) := (Zb BK206.out 4).trans rfl); (have hcz47_5 : wr.cell? ⟨gb206, 5, none⟩ = some (.int .i64 a0_5) := (Zb BK206.out 5).trans rfl)
     (have hfz47_0 := Zc BK206.out 0); (have hfz47_1 := Zc BK206.out 1); (have hfz47_2 := Zc BK206.out 2); (have hfz47_3 := Zc BK206.out 3); (have hfz47_4 := Zc BK206.out 4); (have hfz47_5 := Zc BK206.out 5)
     try go_wp2
     (replace HO_8 := Za.mk (Kd.R_drew HO_8.out)); (replace HO_9 := Za.mk (Kd.S_drew HO_9.out)); (replace HO_210003 := Za.mk (Kd.S_drew HO_210003.out)); (replace HO_210004 := Za.mk (Kd.R_drew HO_210004.out)); (replace BK206 := Za.mk (Zd BK206.out)); (replace BK207 := Za.mk (Zd BK207.out)); (replace BK208 := Za.mk (Zd BK208.out)); (replace BK209 := Za.mk (Zd BK209.out)); (replace HB := Za.mk (below_drew1 HB.out)); (have p210 : 0 ≤ ((ji23) : Int) := of_decide_eq_true (by assumption)); (have q210 : (ji23) < (l0_4.length : Int) := of_decide_eq_true (by assumption)); (obtain ⟨ad210, A210_0, c210_0, e210, hx210_0, hl210_0, hi210_0⟩ := at_L2 HR0_4.out (ji23) p210 q210); (have hw210_0 := hx210_0); (cases e210); (replace hx210_0 := (HB.out.cell (World.block_lt_of_cell? w _ hx210_0)).trans hx210_0); (have HR210_0 := Za.mk hi210_0); (have HC210_0 := Za.mk hl210_0); (clear hi210_0 hl210_0); (replace p210 := eq_true p210); (replace q210 := eq_true q210); (have p211 : 0 ≤ (x10_2 : Int) := of_decide_eq_true (by assumption)); (have q211 : x10_2 < ((Zm l0_4 (ji23)).length : Int) := of_decide_eq_true (by assumption)); (obtain ⟨ad211, A211_0, c211_0, e211, hx211_0, hl211_0, hi211_0⟩ := at_L1 HR210_0.out x10_2 p211 q211); (have hw211_0 := hx211_0); (cases e211); (replace hx211_0 := (HB.out.cell (World.block_lt_of_cell? w _ hx211_0)).trans hx211_0); (have HR211_0 := Za.mk hi211_0); (have HC211_0 := Za.mk hl211_0); (clear hi211_0 hl211_0); (replace p211 := eq_true p211); (replace q211 := eq_true q211)
     refine start_ (n := 22) (S := fun w' => w'.cell? ⟨gb207, 0, none⟩ = some (.int .i64 a1_0) ∧ w'.cell? ⟨gb207, 1, none⟩ = some (.int .i64 a1_1) ∧ w'.cell? ⟨gb207, 2, none⟩ = some (.int .i64 a1_2) ∧ w'.cell? ⟨gb207, 3, none⟩ = some (.slice A1_3 l1_3.length c1_3) ∧ w'.cell? ⟨gb207, 4, none⟩ = some (.slice A1_4 l1_4.length c1_4) ∧ w'.cell? ⟨gb207, 5, none⟩ = some (.int .i64 a1_5) ∧ w'.cell? ⟨gb206, 0, none⟩ = some (.int .i64 a0_0) ∧ w'.cell? ⟨gb206, 1, none⟩ = some (.int .i64 a0_1) ∧ w'.cell? ⟨gb206, 2, none⟩ = some (.int .i64 a0_2) ∧ w'.cell? ⟨gb206, 3, none⟩ = some (.slice A0_3 l0_3.length c0_3) ∧ w'.cell? ⟨gb206, 4, none⟩ = some (.slice (some ad210) l0_4.length c0_4) ∧ w'.cell? ⟨gb206, 5, none⟩ = some (.int .i64 a0_5) ∧ w'.cell? (ad210.add ((ji23)).toNat) = some (.slice (some ad211) (Zm l0_4 (ji23)).length c210_0) ∧ w'.cell? (ad211.add (x10_2).toNat) = some (.slice A211_0 (Zj (Zm l0_4 (ji23)) x10_2).length c211_0)) (ds := []) #[false, false, false, false, false, false, false, false, false, false, false, false, false, false, false, false, false, false, false, false, false, false] (by kernel_rfl) rfl rfl ⟨(Zb BK207.out 0).trans rfl, (Zb BK207.out 1).trans rfl, (Zb BK207.out 2).trans rfl, (Zb BK207.out 3).trans rfl, (Zb BK207.out 4).trans rfl, (Zb BK207.out 5).trans rfl, (Zb BK206.out 0).trans rfl, (Zb BK206.out 1).trans rfl, (Zb BK206.out 2).trans rfl, (Zb BK206.out 3).trans rfl, (Zb BK206.out 4).trans rfl, (Zb BK206.out 5).trans rfl, ((HB.out.cell (World.block_lt_of_cell? w _ hw210_0)).trans hw210_0), ((HB.out.cell (World.block_lt_of_cell? w _ hw211_0)).trans hw211_0)⟩ (fun hHeld => ?_); refine with_tabW Zv.tab10 Zv.bits10 (fun HT_ HW_ => ?_)
     generalize wr.drew = w48 at HO_8 HO_9 HO_210003 HO_210004 BK206 BK207 BK208 BK209 HB HR210_0 HR211_0 hx210_0 hx211_0 hHeld ⊢
     refine pure_ (i := 1) (N := some 45) (v := ?_) (a' := ?_) #[false, true, false, false, false, false, false, false, false, false, false, false, false, false, false, false, false, false, false, false, false, false] rfl rfl (Zq HT_.out (by kernel_rfl)) (fun _ _ _ h => h) (Or.inl ⟨by rfl, ?_⟩) ?_ ?_
     rotate_left
     ·intro w'
      go_simp
      with_reducible rfl
     rotate_left
     ·simp only [Act.put, List.setIfInBounds_toArray, List.set_cons_zero, List.set_cons_succ, Zh, Zi]
      rfl
     refine pure_ (i := 2) (N := some 46) (v := ?_) (a' := ?_) #[false, true, true, false, false, false, false, false, false, false, false, false, false, false, false, false, false, false, false, false, false, false] rfl rfl (Zq HT_.out (by kernel_rfl)) (fun _ _ _ h => h) (Or.inl ⟨by rfl, ?_⟩) ?_ ?_
     rotate_left
     ·intro w'
      go_simp
      with_reducible rfl
     rotate_left
     ·simp only [Act.put, List.setIfInBounds_toArray, List.set_cons_zero, List.set_cons_succ, Zh, Zi]
      rfl
     refine pure_ (i := 5) (N := some 49) (v := ?_) (a' := ?_) #[false, true, true, false, false, true, false, false, false, false, false, false, false, false, false, false, false, false, false, false, false, false] rfl rfl (Zq HT_.out (by kernel_rfl)) (fun _ _ _ h => h) (Or.inl ⟨by rfl, ?_⟩) ?_ ?_
     rotate_left
     ·intro w'
      go_simp
      with_reducible rfl
     rotate_left
     ·simp only [Act.put, List.setIfInBounds_toArray, List.set_cons_zero, List.set_cons_succ, Zh, Zi]
      rfl
     refine pure_ (i := 7) (N := some 51) (v := ?_) (a' := ?_) #[false, true, true, false, false, true, false, true, false, false, false, false, false, false, false, false, false, false, false, false, false, false] rfl rfl (Zq HT_.out (by kernel_rfl)) (fun _ _ _ h => h) (Or.inl ⟨by rfl, ?_⟩) ?_ ?_
     rotate_left
     ·intro w'
      go_simp
      with_reducible rfl
     rotate_left
     ·simp only [Act.put, List.setIfInBounds_toArray, List.set_cons_zero, List.set_cons_succ, Zh, Zi]
      rfl
     refine pure_ (i := 8) (N := some 52) (v := ?_) (a' := ?_) #[false, true, true, false, false, true, false, true, true, false, false, false, false, false, false, false, false, false, false, false, false, false] rfl rfl (Zq HT_.out (by kernel_rfl)) (fun _ _ _ h => h) (Or.inl ⟨by rfl, ?_⟩) ?_ ?_
     rotate_left
     ·intro w'
      go_simp
      with_reducible rfl
     rotate_left
     ·simp only [Act.put, List.setIfInBounds_toArray, List.set_cons_zero, List.set_cons_succ, Zh, Zi]
      rfl
     refine pure_ (i := 13) (N := some 57) (v := ?_) (a' := ?_) #[false, true, true, false, false, true, false, true, true, false, false, false, false, true, false, false, false, false, false, false, false, false] rfl rfl (Zq HT_.out (by kernel_rfl)) (fun _ _ _ h => h) (Or.inl ⟨by rfl, ?_⟩) ?_ ?_
     rotate_left
     ·intro w'
      go_simp
      with_reducible rfl
     rotate_left
     ·simp only [Act.put, List.setIfInBounds_toArray, List.set_cons_zero, List.set_cons_succ, Zh, Zi]
      rfl
     refine take_ (i := 0) (N := some 44) (v := ?_) (a' := ?_) #[true, true, true, false, false, true, false, true, true, false, false, false, false, true, false, false, false, false, false, false, false, false] rfl rfl (Zc1 HT_.out HW_.out (by kernel_rfl)) (fun _ _ _ h => h) (Or.inl ⟨by rfl, ?_⟩) hHeld ?_ ?_
     rotate_left
     ·rintro w' ⟨s0, s1, s2, s3, s4, s5, s6, s7, s8, s9, s10, s11, s12, s13⟩
      go_simp
      with_reducible rfl
     rotate_left
     ·simp only [Act.put, List.setIfInBounds_toArray, List.set_cons_zero, List.set_cons_succ, Zh, Zi]
      rfl
     refine take_ (i := 3) (N := some 47) (v := ?_) (a' := ?_) #[true, true, true, true, false, true, false, true, true, false, false, false, false, true, false, false, false, false, false, false, false, false] rfl rfl (Zc1 HT_.out HW_.out (by kernel_rfl)) (fun _ _ _ h => h) (Or.inl ⟨by rfl, ?_⟩) hHeld ?_ ?_
     rotate_left
     ·rintro w' ⟨s0, s1, s2, s3, s4, s5, s6, s7, s8, s9, s10, s11, s12, s13⟩
      go_simp
      with_reducible rfl
     rotate_left
     ·simp only [Act.put, List.setIfInBounds_toArray, List.set_cons_zero, List.set_cons_succ, Zh, Zi]
      rfl
     refine pure_ (i := 4) (N := some 48) (v := ?_) (a' := ?_) #[true, true, true, true, true, true, false, true, true, false, false, false, false, true, false, false, false, false, false, false, false, false] rfl rfl (Zq HT_.out (by kernel_rfl)) (fun _ _ _ h => h) (Or.inl ⟨by rfl, ?_⟩) ?_ ?_
     rotate_left
     ·intro w'
      go_simp
      with_reducible rfl
     rotate_left
     ·simp only [Act.put, List.setIfInBounds_toArray, List.set_cons_zero, List.set_cons_succ, Zh, Zi]
      rfl
     refine take_ (i := 6) (N := some 50) (v := ?_) (a' := ?_) #[true, true, true, true, true, true, true, true, true, false, false, false, false, true, false, false, false, false, false, false, false, false] rfl rfl (Zc1 HT_.out HW_.out (by kernel_rfl)) (fun _ _ _ h => h) (Or.inl ⟨by rfl, ?_⟩) hHeld ?_ ?_
     rotate_left
     ·rintro w' ⟨s0, s1, s2, s3, s4, s5, s6, s7, s8, s9, s10, s11, s12, s13⟩
      go_simp
      with_reducible rfl
     rotate_left
     ·simp only [Act.put, List.setIfInBounds_toArray, List.set_cons_zero, List.set_cons_succ, Zh, Zi]
      rfl
     refine take_ (i := 9) (N := some 53) (v := ?_) (a' := ?_) #[true, true, true, true, true, true, true, true, true, true, false, false, false, true, false, false, false, false, false, false, false, false] rfl rfl (Zc1 HT_.out HW_.out (by kernel_rfl)) (fun _ _ _ h => h) (Or.inl ⟨by rfl, ?_⟩) hHeld ?_ ?_
     rotate_left
     ·rintro w' ⟨s0, s1, s2, s3, s4, s5, s6, s7, s8, s9, s10, s11, s12, s13⟩
      go_simp
      with_reducible rfl
     rotate_left
     ·simp only [Act.put, List.setIfInBounds_toArray, List.set_cons_zero, List.set_cons_succ, Zh, Zi]
      rfl
     refine pure_ (i := 10) (N := some 54) (v := ?_) (a' := ?_) #[true, true, true, true, true, true, true, true, true, true, true, false, false, true, false, false, false, false, false, false, false, false] rfl rfl (Zq HT_.out (by kernel_rfl)) (fun _ _ _ h => h) (Or.inl ⟨by rfl, ?_⟩) ?_ ?_
     rotate_left
     ·intro w'
      go_simp
      with_reducible rfl
     rotate_left
     ·simp only [Act.put, List.setIfInBounds_toArray, List.set_cons_zero, List.set_cons_succ, Zh, Zi]
      rfl
     refine pure_ (i := 11) (N := some 55) (v := ?_) (a' := ?_) #[true, true, true, true, true, true, true, true, true, true, true, true, false, true, false, false, false, false, false, false, false, false] rfl rfl (Zq HT_.out (by kernel_rfl)) (fun _ _ _ h => h) (Or.inl ⟨by rfl, ?_⟩) ?_ ?_
     rotate_left
     ·intro w'
      go_simp
      with_reducible rfl
     rotate_left
     ·simp only [Act.put, List.setIfInBounds_toArray, List.set_cons_zero, List.set_cons_succ, Zh, Zi]
      rfl
     refine take_ (i := 12) (N := some 56) (v := ?_) (a' := ?_) #[true, true, true, true, true, true, true, true, true, true, true, true, true, true, false, false, false, false, false, false, false, false] rfl rfl (Zc1 HT_.out HW_.out (by kernel_rfl)) (fun _ _ _ h => h) (Or.inl ⟨by rfl, ?_⟩) hHeld ?_ ?_
     rotate_left
     ·rintro w' ⟨s0, s1, s2, s3, s4, s5, s6, s7, s8, s9, s10, s11, s12, s13⟩
      go_simp
      with_reducible rfl
     rotate_left
     ·simp only [Act.put, List.setIfInBounds_toArray, List.set_cons_zero, List.set_cons_succ, Zh, Zi]
      rfl
     refine pure_ (i := 14) (N := some 58) (v := ?_) (a' := ?_) #[true, true, true, true, true, true, true, true, true, true, true, true, true, true, true, false, false, false, false, false, false, false] rfl rfl (Zq HT_.out (by kernel_rfl)) (fun _ _ _ h => h) (Or.inl ⟨by rfl, ?_⟩) ?_ ?_
     rotate_left
     ·intro w'
      go_simp
      with_reducible rfl
     rotate_left
     ·simp only [Act.put, List.setIfInBounds_toArray, List.set_cons_zero, List.set_cons_succ, Zh, Zi]
      rfl
     refine take_ (i := 15) (N := some 59) (v := ?_) (a' := ?_) #[true, true, true, true, true, true, true, true, true, true, true, true, true, true, true, true, false, false, false, false, false, false] rfl rfl (Zc1 HT_.out HW_.out (by kernel_rfl)) (fun _ _ _ h => h) (Or.inl ⟨by rfl, ?_⟩) hHeld ?_ ?_
     rotate_left
     ·rintro w' ⟨s0, s1, s2, s3, s4, s5, s6, s7, s8, s9, s10, s11, s12, s13⟩
      go_simp
      with_reducible rfl
     rotate_left
     ·simp only [Act.put, List.setIfInBounds_toArray, List.set_cons_zero, List.set_cons_succ, Zh, Zi]
      rfl
     refine one_ (i := 16) (N := some 60) #[true, true, true, true, true, true, true, true, true, true, true, true, true, true, true, true, true, false, false, false, false, false] rfl rfl (one_of HT_.out (by kernel_rfl)) (by decide) (fun K hK => ?_)
     refine goes_ Try.func10 (by kernel_rfl) rfl #[.agg #[.int .i64 a1_0, .int .i64 a1_1, .int .i64 a1_2, .slice A1_3 l1_3.length c1_3, .slice A1_4 l1_4.length c1_4, .int .i64 a1_5], .int .i64 (Int.tmod x7_1 a1_0), .slice A211_0 (Zj (Zm l0_4 (ji23)) x10_2).length c211_0] (by rfl) rfl rfl (by (try simp only [List.map_toArray, List.map_cons, List.map_nil]); first | done | (simp only [hji23]; rfl) | rfl | (simp only [List.length_drop, List.length_take]; rfl)) ?_
     with_reducible refine (Zh1.calls k2 a1_0 a1_1 a1_2 _ _ l1_3 _ _ l1_4 a1_5 (Int.tmod x7_1 a1_0) _ _ (Zj (Zm l0_4 (ji23)) x10_2) t212 t215 _ ?side1 ?side2 ?side3 ?side4 ?side5 ?side6 A28.out).mono ?_
     (case side1 => repeat (first | exact (Kd.C_below HR1_3.out HB.out) | (with_reducible refine Kd.C_alloc ?_ _) | (with_reducible refine Kd.C_drewN ?_ _) | (with_reducible refine Kd.C_drew ?_)))
     (case side2 => exact HC1_3.out)
     (case side3 => repeat (first | exact (Kd.C_below HR1_4.out HB.out) | (with_reducible refine Kd.C_alloc ?_ _) | (with_reducible refine Kd.C_drewN ?_ _) | (with_reducible refine Kd.C_drew ?_)))
     (case side4 => exact HC1_4.out)
     (case side5 => repeat (first | exact (Kd.C_below HR211_0.out HB.out) | (with_reducible refine Kd.C_alloc ?_ _) | (with_reducible refine Kd.C_drewN ?_ _) | (with_reducible refine Kd.C_drew ?_)))
     (case side6 => exact HC211_0.out)
     rintro e w49 ⟨v213, rfl, ho0, hb⟩
     refine ⟨_, rfl, ?_⟩
     (replace HO_9 := Za.mk (Kd.S_elder' (by (with_reducible repeat (first | apply Kd.S_alloc | apply Kd.S_drewN | apply Kd.S_drew)); exact HO_9.out) (Kd.R_base ho0) hb)); (replace HO_210003 := Za.mk (Kd.S_elder' (by (with_reducible repeat (first | apply Kd.S_alloc | apply Kd.S_drewN | apply Kd.S_drew)); exact HO_210003.out) (Kd.R_base ho0) hb)); (replace HO_210004 := Za.mk (Kd.R_elder' (by (with_reducible repeat (first | apply Kd.R_alloc | apply Kd.R_drewN | apply Kd.R_drew)); exact HO_210004.out) (Kd.R_base ho0) hb)); (have HO214 := Za.mk (Kd.R_lower (Kd.R_new' ho0 (Kd.R_lt (by (with_reducible repeat (first | apply Kd.R_alloc | apply Kd.R_drewN | apply Kd.R_drew)); exact HO_8.out))) (Zo (by repeat (first | (with_reducible first | exact HB.out | apply zc1 | apply zc2 | apply zc3 | refine zc4 ?_ (by assumption)) | exact HB.out))))); (replace HO_8 := Za.mk (Kd.R_elder' (by (with_reducible repeat (first | apply Kd.R_alloc | apply Kd.R_drewN | apply Kd.R_drew)); exact HO_8.out) (Kd.R_base ho0) hb)); (replace BK206 := Za.mk (Zk (g := gb206) (by (with_reducible repeat (first | apply zb3 | apply zb2 | apply zb1)); exact BK206.out) hb)); (replace BK207 := Za.mk (Zk (g := gb207) (by (with_reducible repeat (first | apply zb3 | apply zb2 | apply zb1)); exact BK207.out) hb)); (replace BK208 := Za.mk (Zk (g := gb208) (by (with_reducible repeat (first | apply zb3 | apply zb2 | apply zb1)); exact BK208.out) hb)); (replace BK209 := Za.mk (Zk (g := gb209) (by (with_reducible repeat (first | apply zb3 | apply zb2 | apply zb1)); exact BK209.out) hb))
     (replace HB := Za.mk (Zu (by repeat (first | (with_reducible first | exact HB.out | apply zc1 | apply zc2 | apply zc3 | refine zc4 ?_ (by assumption)) | exact HB.out)) hb)); ((try clear hb)); ((try clear hb2)); ((try clear hk)); ((try clear hi)); ((try clear ho0))
     refine hK.out _ _ ⟨(Zb BK207.out 0).trans rfl, (Zb BK207.out 1).trans rfl, (Zb BK207.out 2).trans rfl, (Zb BK207.out 3).trans rfl, (Zb BK207.out 4).trans rfl, (Zb BK207.out 5).trans rfl, (Zb BK206.out 0).trans rfl, (Zb BK206.out 1).trans rfl, (Zb BK206.out 2).trans rfl, (Zb BK206.out 3).trans rfl, (Zb BK206.out 4).trans rfl, (Zb BK206.out 5).trans rfl, ((HB.out.cell (World.block_lt_of_cell? w _ hw210_0)).trans hw210_0), ((HB.out.cell (World.block_lt_of_cell? w _ hw211_0)).trans hw211_0)⟩ (fun hHeld => ?_)
     clear hK K
     refine norm_ (a' := ?_) ?_ ?_
     rotate_left
     ·show Act.put _ (some 60) _ = _
      simp only [Act.put, List.setIfInBounds_toArray, List.set_cons_zero, List.set_cons_succ, Zh, Zi]
      rfl
     refine pure_ (i := 17) (N := some 43) (v := ?_) (a' := ?_) #[true, true, true, true, true, true, true, true, true, true, true, true, true, true, true, true, true, true, false, false, false, false] rfl rfl (Zq HT_.out (by kernel_rfl)) (fun _ _ _ h => h) (Or.inl ⟨by rfl, ?_⟩) ?_ ?_
     rotate_left
     ·intro w'
      go_simp
      with_reducible rfl
     rotate_left
     ·simp only [Act.put, List.setIfInBounds_toArray, List.set_cons_zero, List.set_cons_succ, Zh, Zi]
      rfl
     refine pure_ (i := 18) (N := some 61) (v := ?_) (a' := ?_) #[true, true, true, true, true, true, true, true, true, true, true, true, true, true, true, true, true, true, true, false, false, false] rfl rfl (Zq HT_.out (by kernel_rfl)) (fun _ _ _ h => h) (Or.inl ⟨by rfl, ?_⟩) ?_ ?_
     rotate_left
     ·intro w'
      go_simp
      with_reducible rfl
     rotate_left
     ·simp only [Act.put, List.setIfInBounds_toArray, List.set_cons_zero, List.set_cons_succ, Zh, Zi]
      rfl
     refine pure_ (i := 19) (N := some 62) (v := ?_) (a' := ?_) #[true, true, true, true, true, true, true, true, true, true, true, true, true, true, true, true, true, true, true, true, false, false] rfl rfl (Zq HT_.out (by kernel_rfl)) (fun _ _ _ h => h) (Or.inl ⟨by rfl, ?_⟩) ?_ ?_
     rotate_left
     ·intro w'
      go_simp
      with_reducible rfl
     rotate_left
     ·simp only [Act.put, List.setIfInBounds_toArray, List.set_cons_zero, List.set_cons_succ, Zh, Zi]
      rfl
     refine pure_ (i := 20) (N := some 11) (v := ?_) (a' := ?_) #[true, true, true, true, true, true, true, true, true, true, true, true, true, true, true, true, true, true, true, true, true, false] rfl rfl (Zq HT_.out (by kernel_rfl)) (fun _ _ _ h => h) (Or.inl ⟨by rfl, ?_⟩) ?_ ?_
     rotate_left
     ·intro w'
      go_simp
      with_reducible rfl
     rotate_left
     ·simp only [Act.put, List.setIfInBounds_toArray, List.set_cons_zero, List.set_cons_succ, Zh, Zi]
      rfl
     refine pure_ (i := 21) (N := some 12) (v := ?_) (a' := ?_) #[true, true, true, true, true, true, true, true, true, true, true, true, true, true, true, true, true, true, true, true, true, true] rfl rfl (Zq HT_.out (by kernel_rfl)) (fun _ _ _ h => h) (Or.inl ⟨by rfl, ?_⟩) ?_ ?_
     rotate_left
     ·intro w'
      go_simp
      with_reducible rfl
     rotate_left
     ·simp only [Act.put, List.setIfInBounds_toArray, List.set_cons_zero, List.set_cons_succ, Zh, Zi]
      rfl
     refine done_ (done_of HT_.out (by kernel_rfl)) ?_
     (obtain ⟨Ao50, co50, eo50⟩ := Kd.R_slice HO214.out); (subst eo50)
     try go_wp2
     (replace HO_8 := Za.mk (Kd.R_drew HO_8.out)); (replace HO_9 := Za.mk (Kd.S_drew HO_9.out)); (replace HO_210003 := Za.mk (Kd.S_drew HO_210003.out)); (replace HO_210004 := Za.mk (Kd.R_drew HO_210004.out)); (replace HO214 := Za.mk (Kd.R_drew HO214.out)); (replace BK206 := Za.mk (Zd BK206.out)); (replace BK207 := Za.mk (Zd BK207.out)); (replace BK208 := Za.mk (Zd BK208.out)); (replace BK209 := Za.mk (Zd BK209.out)); (replace HB := Za.mk (below_drew1 HB.out)); (have p216 : 0 ≤ ((ji23) : Int) := of_decide_eq_true (by assumption)); (have q216 : (ji23) < (l0_3.length : Int) := of_decide_eq_true (by assumption)); (obtain ⟨ad216, A216_0, c216_0, e216, hx216_0, hl216_0, hi216_0⟩ := at_L1 HR0_3.out (ji23) p216 q216); (have hw216_0 := hx216_0); (cases e216); (replace hx216_0 := (HB.out.cell (World.block_lt_of_cell? w _ hx216_0)).trans hx216_0); (have HR216_0 := Za.mk hi216_0); (have HC216_0 := Za.mk hl216_0); (clear hi216_0 hl216_0); (replace p216 := eq_true p216); (replace q216 := eq_true q216); (have p217 : 0 ≤ (x10_2 : Int) := of_decide_eq_true (by assumption)); (have q217 : x10_2 < ((Zj l0_3 (ji23)).length : Int) := of_decide_eq_true (by assumption)); (obtain ⟨ad217, e217, hx217_0⟩ := Kd.at_int HR216_0.out x10_2 p217 q217); (have hw217_0 := hx217_0); (cases e217); (replace hx217_0 := (HB.out.cell (World.block_lt_of_cell? w _ hx217_0)).trans hx217_0); (replace p217 := eq_true p217); (replace q217 := eq_true q217)
     refine start_ (n := 20) (S := fun w' => w'.cell? ⟨gb206, 0, none⟩ = some (.int .i64 a0_0) ∧ w'.cell? ⟨gb206, 1, none⟩ = some (.int .i64 a0_1) ∧ w'.cell? ⟨gb206, 2, none⟩ = some (.int .i64 a0_2) ∧ w'.cell? ⟨gb206, 3, none⟩ = some (.slice (some ad216) l0_3.length c0_3) ∧ w'.cell? ⟨gb206, 4, none⟩ = some (.slice (some ad210) l0_4.length c0_4) ∧ w'.cell? ⟨gb206, 5, none⟩ = some (.int .i64 a0_5) ∧ w'.cell? ⟨gb207, 0, none⟩ = some (.int .i64 a1_0) ∧ w'.cell? ⟨gb207, 1, none⟩ = some (.int .i64 a1_1) ∧ w'.cell? ⟨gb207, 2, none⟩ = some (.int .i64 a1_2) ∧ w'.cell? ⟨gb207, 3, none⟩ = some (.slice A1_3 l1_3.length c1_3) ∧ w'.cell? ⟨gb207, 4, none⟩ = some (.slice A1_4 l1_4.length c1_4) ∧ w'.cell? ⟨gb207, 5, none⟩ = some (.int .i64 a1_5) ∧ w'.cell? (ad216.add ((ji23)).toNat) = some (.slice (some ad217) (Zj l0_3 (ji23)).length c216_0) ∧ w'.cell? (ad217.add (x10_2).toNat) = some (.int .i64 (rd (Zj l0_3 (ji23)) x10_2))) (ds := []) #[false, false, false, false, false, false, false, false, false, false, false, false, false, false, false, false, false, false, false, false] (by kernel_rfl) rfl rfl ⟨(Zb BK206.out 0).trans rfl, (Zb BK206.out 1).trans rfl, (Zb BK206.out 2).trans rfl, (Zb BK206.out 3).trans rfl, (Zb BK206.out 4).trans rfl, (Zb BK206.out 5).trans rfl, (Zb BK207.out 0).trans rfl, (Zb BK207.out 1).trans rfl, (Zb BK207.out 2).trans rfl, (Zb BK207.out 3).trans rfl, (Zb BK207.out 4).trans rfl, (Zb BK207.out 5).trans rfl, ((HB.out.cell (World.block_lt_of_cell? w _ hw216_0)).trans hw216_0), ((HB.out.cell (World.block_lt_of_cell? w _ hw217_0)).trans hw217_0)⟩ (fun hHeld => ?_); refine with_tabW Zv.tab13 Zv.bits13 (fun HT_ HW_ => ?_)
     generalize w49.drew = w51 at HO_8 HO_9 HO_210003 HO_210004 HO214 BK206 BK207 BK208 BK209 HB HR216_0 hx216_0 hx217_0 hHeld ⊢
     refine pure_ (i := 0) (N := some 67) (v := ?_) (a' := ?_) #[true, false, false, false, false, false, false, false, false, false, false, false, false, false, false, false, false, false, false, false] rfl rfl (Zq HT_.out (by kernel_rfl)) (fun _ _ _ h => h) (Or.inl ⟨by rfl, ?_⟩) ?_ ?_
     rotate_left
     ·intro w'
      go_simp
      with_reducible rfl
     rotate_left
     ·simp only [Act.put, List.setIfInBounds_toArray, List.set_cons_zero, List.set_cons_succ, Zh, Zi]
      rfl
     refine pure_ (i := 1) (N := some 68) (v := ?_) (a' := ?_) #[true, true, false, false, false, false, false, false, false, false, false, false, false, false, false, false, false, false, false, false] rfl rfl (Zq HT_.out (by kernel_rfl)) (fun _ _ _ h => h) (Or.inl ⟨by rfl, ?_⟩) ?_ ?_
     rotate_left
     ·intro w'
      go_simp
      with_reducible rfl
     rotate_left
     ·simp only [Act.put, List.setIfInBounds_toArray, List.set_cons_zero, List.set_cons_succ, Zh, Zi]
      rfl
     refine pure_ (i := 3) (N := some 70) (v := ?_) (a' := ?_) #[true, true, false, true, false, false, false, false, false, false, false, false, false, false, false, false, false, false, false, false] rfl rfl (Zq HT_.out (by kernel_rfl)) (fun _ _ _ h => h) (Or.inl ⟨by rfl, ?_⟩) ?_ ?_
     rotate_left
     ·intro w'
      go_simp
      with_reducible rfl
     rotate_left
     ·simp only [Act.put, List.setIfInBounds_toArray, List.set_cons_zero, List.set_cons_succ, Zh, Zi]
      rfl
     refine pure_ (i := 4) (N := some 71) (v := ?_) (a' := ?_) #[true, true, false, true, true, false, false, false, false, false, false, false, false, false, false, false, false, false, false, false] rfl rfl (Zq HT_.out (by kernel_rfl)) (fun _ _ _ h => h) (Or.inl ⟨by rfl, ?_⟩) ?_ ?_
     rotate_left
     ·intro w'
      go_simp
      with_reducible rfl
     rotate_left
     ·simp only [Act.put, List.setIfInBounds_toArray, List.set_cons_zero, List.set_cons_succ, Zh, Zi]
      rfl
     refine pure_ (i := 9) (N := some 76) (v := ?_) (a' := ?_) #[true, true, false, true, true, false, false, false, false, true, false, false, false, false, false, false, false, false, false, false] rfl rfl (Zq HT_.out (by kernel_rfl)) (fun _ _ _ h => h) (Or.inl ⟨by rfl, ?_⟩) ?_ ?_
     rotate_left
     ·intro w'
      go_simp
      with_reducible rfl
     rotate_left
     ·simp only [Act.put, List.setIfInBounds_toArray, List.set_cons_zero, List.set_cons_succ, Zh, Zi]
      rfl
     refine pure_ (i := 12) (N := some 79) (v := ?_) (a' := ?_) #[true, true, false, true, true, false, false, false, false, true, false, false, true, false, false, false, false, false, false, false] rfl rfl (Zq HT_.out (by kernel_rfl)) (fun _ _ _ h => h) (Or.inl ⟨by rfl, ?_⟩) ?_ ?_
     rotate_left
     ·intro w'
      go_simp
      with_reducible rfl
     rotate_left
     ·simp only [Act.put, List.setIfInBounds_toArray, List.set_cons_zero, List.set_cons_succ, Zh, Zi]
      rfl
     refine pure_ (i := 15) (N := some 82) (v := ?_) (a' := ?_) #[true, true, false, true, true, false, false, false, false, true, false, false, true, false, false, true, false, false, false, false] rfl rfl (Zq HT_.out (by kernel_rfl)) (fun _ _ _ h => h) (Or.inl ⟨by rfl, ?_⟩) ?_ ?_
     rotate_left
     ·intro w'
      go_simp
      with_reducible rfl
     rotate_left
     ·simp only [Act.put, List.setIfInBounds_toArray, List.set_cons_zero, List.set_cons_succ, Zh, Zi]
      rfl
     refine take_ (i := 2) (N := some 69) (v := ?_) (a' := ?_) #[true, true, true, true, true, false, false, false, false, true, false, false, true, false, false, true, false, false, false, false] rfl rfl (Zc1 HT_.out HW_.out (by kernel_rfl)) (fun _ _ _ h => h) (Or.inl ⟨by rfl, ?_⟩) hHeld ?_ ?_
     rotate_left
     ·rintro w' ⟨s0, s1, s2, s3, s4, s5, s6, s7, s8, s9, s10, s11, s12, s13⟩
      go_simp
      with_reducible rfl
     rotate_left
     ·simp only [Act.put, List.setIfInBounds_toArray, List.set_cons_zero, List.set_cons_succ, Zh, Zi]
      rfl
     refine take_ (i := 5) (N := some 72) (v := ?_) (a' := ?_) #[true, true, true, true, true, true, false, false, false, true, false, false, true, false, false, true, false, false, false, false] rfl rfl (Zc1 HT_.out HW_.out (by kernel_rfl)) (fun _ _ _ h => h) (Or.inl ⟨by rfl, ?_⟩) hHeld ?_ ?_
     rotate_left
     ·rintro w' ⟨s0, s1, s2, s3, s4, s5, s6, s7, s8, s9, s10, s11, s12, s13⟩
      go_simp
      with_reducible rfl
     rotate_left
     ·simp only [Act.put, List.setIfInBounds_toArray, List.set_cons_zero, List.set_cons_succ, Zh, Zi]
      rfl
     refine pure_ (i := 6) (N := some 73) (v := ?_) (a' := ?_) #[true, true, true, true, true, true, true, false, false, true, false, false, true, false, false, true, false, false, false, false] rfl rfl (Zq HT_.out (by kernel_rfl)) (fun _ _ _ h => h) (Or.inl ⟨by rfl, ?_⟩) ?_ ?_
     rotate_left
     ·intro w'
      go_simp
      with_reducible rfl
     rotate_left
     ·simp only [Act.put, List.setIfInBounds_toArray, List.set_cons_zero, List.set_cons_succ, Zh, Zi]
      rfl
     refine pure_ (i := 7) (N := some 74) (v := ?_) (a' := ?_) #[true, true, true, true, true, true, true, true, false, true, false, false, true, false, false, true, false, false, false, false] rfl rfl (Zq HT_.out (by kernel_rfl)) (fun _ _ _ h => h) (Or.inl ⟨by rfl, ?_⟩) ?_ ?_
     rotate_left
     ·intro w'
      go_simp
      with_reducible rfl
     rotate_left
     ·simp only [Act.put, List.setIfInBounds_toArray, List.set_cons_zero, List.set_cons_succ, Zh, Zi]
      rfl
     refine take_ (i := 8) (N := some 75) (v := ?_) (a' := ?_) #[true, true, true, true, true, true, true, true, true, true, false, false, true, false, false, true, false, false, false, false] rfl rfl (Zc1 HT_.out HW_.out (by kernel_rfl)) (fun _ _ _ h => h) (Or.inl ⟨by rfl, ?_⟩) hHeld ?_ ?_
     rotate_left
     ·rintro w' ⟨s0, s1, s2, s3, s4, s5, s6, s7, s8, s9, s10, s11, s12, s13⟩
      go_simp
      with_reducible rfl
     rotate_left
     ·simp only [Act.put, List.setIfInBounds_toArray, List.set_cons_zero, List.set_cons_succ, Zh, Zi]
      rfl
     refine pure_ (i := 10) (N := some 77) (v := ?_) (a' := ?_) #[true, true, true, true, true, true, true, true, true, true, true, false, true, false, false, true, false, false, false, false] rfl rfl (Zq HT_.out (by kernel_rfl)) (fun _ _ _ h => h) (Or.inl ⟨by rfl, ?_⟩) ?_ ?_
     rotate_left
     ·intro w'
      go_simp
      with_reducible rfl
     rotate_left
     ·simp only [Act.put, List.setIfInBounds_toArray, List.set_cons_zero, List.set_cons_succ, Zh, Zi]
      rfl
     refine take_ (i := 11) (N := some 78) (v := ?_) (a' := ?_) #[true, true, true, true, true, true, true, true, true, true, true, true, true, false, false, true, false, false, false, false] rfl rfl (Zc1 HT_.out HW_.out (by kernel_rfl)) (fun _ _ _ h => h) (Or.inl ⟨by rfl, ?_⟩) hHeld ?_ ?_
     rotate_left
     ·rintro w' ⟨s0, s1, s2, s3, s4, s5, s6, s7, s8, s9, s10, s11, s12, s13⟩
      go_simp
      with_reducible rfl
     rotate_left
     ·simp only [Act.put, List.setIfInBounds_toArray, List.set_cons_zero, List.set_cons_succ, Zh, Zi]
      rfl
     refine take_ (i := 13) (N := some 80) (v := ?_) (a' := ?_) #[true, true, true, true, true, true, true, true, true, true, true, true, true, true, false, true, false, false, false, false] rfl rfl (Zc1 HT_.out HW_.out (by kernel_rfl)) (fun _ _ _ h => h) (Or.inl ⟨by rfl, ?_⟩) hHeld ?_ ?_
     rotate_left
     ·rintro w' ⟨s0, s1, s2, s3, s4, s5, s6, s7, s8, s9, s10, s11, s12, s13⟩
      go_simp
      with_reducible rfl
     rotate_left
     ·simp only [Act.put, List.setIfInBounds_toArray, List.set_cons_zero, List.set_cons_succ, Zh, Zi]
      rfl
     refine pure_ (i := 14) (N := some 81) (v := ?_) (a' := ?_) #[true, true, true, true, true, true, true, true, true, true, true, true, true, true, true, true, false, false, false, false] rfl rfl (Zq HT_.out (by kernel_rfl)) (fun _ _ _ h => h) (Or.inl ⟨by rfl, ?_⟩) ?_ ?_
     rotate_left
     ·intro w'
      go_simp
      with_reducible rfl
     rotate_left
     ·simp only [Act.put, List.setIfInBounds_toArray, List.set_cons_zero, List.set_cons_succ, Zh, Zi]
      rfl
     refine pure_ (i := 16) (N := some 83) (v := ?_) (a' := ?_) #[true, true, true, true, true, true, true, true, true, true, true, true, true, true, true, true, true, false, false, false] rfl rfl (Zq HT_.out (by kernel_rfl)) (fun _ _ _ h => h) (Or.inl ⟨by rfl, ?_⟩) ?_ ?_
     rotate_left
     ·intro w'
      go_simp
      with_reducible rfl
     rotate_left
     ·simp only [Act.put, List.setIfInBounds_toArray, List.set_cons_zero, List.set_cons_succ, Zh, Zi]
      rfl
     refine one_ (i := 17) (N := some 84) #[true, true, true, true, true, true, true, true, true, true, true, true, true, true, true, true, true, true, false, false] rfl rfl (one_of HT_.out (by kernel_rfl)) (by decide) (fun K hK => ?_)
     refine value_ (w1 := ?_) (v := ?_) (by rfl) rfl ?_ ?_
     rotate_left 2
     ·go_simp
      constructor
      ·rfl
      rfl
     refine hK.out _ _ ⟨(Zb (Ze BK206.out _) 0).trans rfl, (Zb (Ze BK206.out _) 1).trans rfl, (Zb (Ze BK206.out _) 2).trans rfl, (Zb (Ze BK206.out _) 3).trans rfl, (Zb (Ze BK206.out _) 4).trans rfl, (Zb (Ze BK206.out _) 5).trans rfl, (Zb (Ze BK207.out _) 0).trans rfl, (Zb (Ze BK207.out _) 1).trans rfl, (Zb (Ze BK207.out _) 2).trans rfl, (Zb (Ze BK207.out _) 3).trans rfl, (Zb (Ze BK207.out _) 4).trans rfl, (Zb (Ze BK207.out _) 5).trans rfl, (World.cell?_alloc_lt _ _ _ (World.block_lt_of_cell? _ _ (((HB.out.cell (World.block_lt_of_cell? w _ hw216_0)).trans hw216_0)))).trans (((HB.out.cell (World.block_lt_of_cell? w _ hw216_0)).trans hw216_0)), (World.cell?_alloc_lt _ _ _ (World.block_lt_of_cell? _ _ (((HB.out.cell (World.block_lt_of_cell? w _ hw217_0)).trans hw217_0)))).trans (((HB.out.cell (World.block_lt_of_cell? w _ hw217_0)).trans hw217_0))⟩ (fun hHeld => ?_)
     clear hK K
     refine norm_ (a' := ?_) ?_ ?_
     rotate_left
     ·show Act.put _ (some 84) _ = _
      simp only [Act.put, List.setIfInBounds_toArray, List.set_cons_zero, List.set_cons_succ, Zh, Zi]
      rfl
     refine one_ (i := 18) (N := some 85) #[true, true, true, true, true, true, true, true, true, true, true, true, true, true, true, true, true, true, true, false] rfl rfl (one_of HT_.out (by kernel_rfl)) (by decide) (fun K hK => ?_)
     refine Kd.R_append_step (Kd.int .i64) (w0 := w) w.heap.size (by rfl) (.tmp 67) (.tmp 84) 33 3 (.int .i64 0) 8 rfl Try.underlying33 info3 rfl (by decide) (by omega) u8 x8_2 (wrap64 ((wrap64 ((rd (Zj l0_3 (ji23)) x10_2) * a1_0)) + t215)) [.int .i64 (wrap64 ((wrap64 ((rd (Zj l0_3 (ji23)) x10_2) * a1_0)) + t215))] (fun k_ => some k_ ≠ (.slice Ao50 t212.length co50 : Value).ownBlock) (fun _ => False) rfl rfl ?aP (fun _ hk => hk.elim) ?aF ?aO ?aB ?aS ?aL ?_
     (case aP => exact rfl)
     (case aB => exact (by repeat (first | (with_reducible first | exact HB.out | apply zc1 | apply zc2 | apply zc3 | refine zc4 ?_ (by assumption)) | exact HB.out)))
     (case aF => exact (fun k_ hk => Kd.fresh' (Kd.R_lt (by (with_reducible repeat (first | apply Kd.R_alloc | apply Kd.R_drewN | apply Kd.R_drew)); exact HO214.out)) k_ hk))
     (case aO => exact (by (with_reducible repeat (first | apply Kd.R_alloc | apply Kd.R_drewN | apply Kd.R_drew)); exact Kd.R_mono HO_8.out (fun _ hk => hk.2)))
     (case aS => exact (Zo (by repeat (first | (with_reducible first | exact HB.out | apply zc1 | apply zc2 | apply zc3 | refine zc4 ?_ (by assumption)) | exact HB.out))))
     (case aL => have := LMc42.out; omega)
     intro v219 w52 ho hb hg hat
     (rw [← Ny218.out] at ho); (replace HO_9 := Za.mk (Kd.S_after (ok := (fun k_ => some k_ ≠ (u210003 : Value).ownBlock ∧ some k_ ≠ (.slice Ao50 t212.length co50 : Value).ownBlock)) (by (with_reducible repeat (first | apply Kd.S_alloc | apply Kd.S_drewN | apply Kd.S_drew)); exact Kd.S_mono HO_9.out (fun _ hk => ⟨⟨hk.1.2, hk.2⟩, hk.1.1⟩)) hg hat)); (replace HO_210003 := Za.mk (Kd.S_after (ok := (fun k_ => some k_ ≠ (u9 : Value).ownBlock ∧ some k_ ≠ (.slice Ao50 t212.length co50 : Value).ownBlock)) (by (with_reducible repeat (first | apply Kd.S_alloc | apply Kd.S_drewN | apply Kd.S_drew)); exact Kd.S_mono HO_210003.out (fun _ hk => ⟨⟨hk.1.2, hk.2⟩, hk.1.1⟩)) hg hat)); (replace HO_210004 := Za.mk (Kd.R_after (ok := (fun k_ => some k_ ≠ (u9 : Value).ownBlock ∧ some k_ ≠ (u210003 : Value).ownBlock ∧ some k_ ≠ (.slice Ao50 t212.length co50 : Value).ownBlock)) (by (with_reducible repeat (first | apply Kd.R_alloc | apply Kd.R_drewN | apply Kd.R_drew)); exact Kd.R_mono HO_210004.out (fun _ hk => ⟨⟨hk.1.2.1, ⟨hk.1.2.2, hk.2⟩⟩, hk.1.1⟩)) hg hat)); (replace BK206 := Za.mk (Zb1 (g := gb206) (by (with_reducible repeat (first | apply zb3 | apply zb2 | apply zb1)); exact BK206.out) hg (Kd.R_ne HO_8.out BK206.out (by decide)))); (replace BK207 := Za.mk (Zb1 (g := gb207) (by (with_reducible repeat (first | apply zb3 | apply zb2 | apply zb1)); exact BK207.out) hg (Kd.R_ne HO_8.out BK207.out (by decide)))); (replace BK208 := Za.mk (Zb1 (g := gb208) (by (with_reducible repeat (first | apply zb3 | apply zb2 | apply zb1)); exact BK208.out) hg (Kd.R_ne HO_8.out BK208.out (by decide))))
     (replace BK209 := Za.mk (Zb1 (g := gb209) (by (with_reducible repeat (first | apply zb3 | apply zb2 | apply zb1)); exact BK209.out) hg (Kd.R_ne HO_8.out BK209.out (by decide)))); (replace HO214 := Za.mk (Kd.R_after (ok := (fun _ => True)) (by (with_reducible repeat (first | apply Kd.R_alloc | apply Kd.R_drewN | apply Kd.R_drew)); exact HO214.out) hg hat)); (replace HB := Za.mk (hb)); (have HO220 := Za.mk (ho)); (clear HO_8); (clear ho hb hg hat)
     refine hK.out _ _ ⟨(Zb BK206.out 0).trans rfl, (Zb BK206.out 1).trans rfl, (Zb BK206.out 2).trans rfl, (Zb BK206.out 3).trans rfl, (Zb BK206.out 4).trans rfl, (Zb BK206.out 5).trans rfl, (Zb BK207.out 0).trans rfl, (Zb BK207.out 1).trans rfl, (Zb BK207.out 2).trans rfl, (Zb BK207.out 3).trans rfl, (Zb BK207.out 4).trans rfl, (Zb BK207.out 5).trans rfl, ((HB.out.cell (World.block_lt_of_cell? w _ hw216_0)).trans hw216_0), ((HB.out.cell (World.block_lt_of_cell? w _ hw217_0)).trans hw217_0)⟩ (fun hHeld => ?_)
     clear hK K
     refine norm_ (a' := ?_) ?_ ?_
     rotate_left
     ·show Act.put _ (some 85) _ = _
      simp only [Act.put, List.setIfInBounds_toArray, List.set_cons_zero, List.set_cons_succ, Zh, Zi]
      rfl
     refine pure_ (i := 19) (N := some 8) (v := ?_) (a' := ?_) #[true, true, true, true, true, true, true, true, true, true, true, true, true, true, true, true, true, true, true, true] rfl rfl (Zq HT_.out (by kernel_rfl)) (fun _ _ _ h => h) (Or.inl ⟨by rfl, ?_⟩) ?_ ?_
     rotate_left
     ·intro w'
      go_simp
      with_reducible rfl
     rotate_left
     ·simp only [Act.put, List.setIfInBounds_toArray, List.set_cons_zero, List.set_cons_succ, Zh, Zi]
      rfl
     refine done_ (done_of HT_.out (by kernel_rfl)) ?_
     try go_wp2_with (first | ((with_reducible refine gate_builtin (b := .append) (xs := #[.tmp 86, .tmp 88]) rfl ?_); at_builtin; refine Kd.S_append (Kd.slice 3 (Kd.int .i64)) (w0 := w) w.heap.size rfl (.tmp 86) (.tmp 88) 22 33 (.slice none 0 0) 24 rfl Try.underlying22 info33 rfl (by decide) (by omega) u9 x9_2 t212 [.slice Ao50 t212.length co50] (fun k_ => some k_ ≠ (u210003 : Value).ownBlock ∧ some k_ ≠ (v219 : Value).ownBlock) (fun k_ => some k_ = (.slice Ao50 t212.length co50 : Value).ownBlock) rfl rfl ?aP (fun k_ hk_ => ((Kd.R_mono (ok' := fun k_ => ((fun k_ => some k_ ≠ (u210003 : Value).ownBlock ∧ some k_ ≠ (v219 : Value).ownBlock)) k_ ∧ some k_ ≠ (u9 : Value).ownBlock) (Kd.R_apart' (Kd.R_apart' (HO214.out) (Kd.S_typed HO_210003.out) (by decide)) (Kd.S_typed HO_9.out) (by decide)) (fun k_ hk => ⟨⟨hk.1.2, hk.1.1.2⟩, hk.2⟩))).1 k_ hk_.symm) ?aF ?aO ?aB ?aS ?aL ?_; (case aP => exact Kd.M_row (Kd.R_mono (Kd.R_tight rfl (Kd.R_mono (ok' := fun k_ => ((fun k_ => some k_ ≠ (u210003 : Value).ownBlock ∧ some k_ ≠ (v219 : Value).ownBlock)) k_ ∧ some k_ ≠ (u9 : Value).ownBlock) (Kd.R_apart' (Kd.R_apart' (HO214.out) (Kd.S_typed HO_210003.out) (by decide)) (Kd.S_typed HO_9.out) (by decide)) (fun k_ hk => ⟨⟨hk.1.2, hk.1.1.2⟩, hk.2⟩))) (fun _ h_ => h_))); (case aB => exact (by repeat (first | (with_reducible first | exact HB.out | apply zc1 | apply zc2 | apply zc3 | refine zc4 ?_ (by assumption)) | exact HB.out))); (case aF => exact (fun k_ hk => ⟨Kd.fresh' (Kd.S_lt (by (with_reducible repeat (first | apply Kd.S_alloc | apply Kd.S_drewN | apply Kd.S_drew)); exact HO_210003.out)) k_ hk, Kd.fresh' (Kd.R_lt (by (with_reducible repeat (first | apply Kd.R_alloc | apply Kd.R_drewN | apply Kd.R_drew)); exact HO220.out)) k_ hk⟩)); (case aO => exact (by (with_reducible repeat (first | apply Kd.S_alloc | apply Kd.S_drewN | apply Kd.S_drew)); exact Kd.S_mono HO_9.out (fun k_ hk => ⟨⟨hk.1.1, hk.2⟩, fun e_ => hk.1.2 e_⟩))); (case aS => exact (Zo (by repeat (first | (with_reducible first | exact HB.out | apply zc1 | apply zc2 | apply zc3 | refine zc4 ?_ (by assumption)) | exact HB.out)))); (case aL => have := LMc43.out; omega); intro v222 w53 ho hb hg hat; rw [← Ny221.out] at ho; replace HO_210003 := Za.mk (Kd.S_after (ok := (fun k_ => some k_ ≠ (.slice Ao50 t212.length co50 : Value).ownBlock ∧ some k_ ≠ (v219 : Value).ownBlock)) (by (with_reducible repeat (first | apply Kd.S_alloc | apply Kd.S_drewN | apply Kd.S_drew)); exact Kd.S_mono HO_210003.out (fun _ hk => ⟨⟨hk.1.2, hk.2⟩, hk.1.1⟩)) hg hat); replace HO_210004 := Za.mk (Kd.R_after (ok := (fun k_ => some k_ ≠ (u210003 : Value).ownBlock ∧ some k_ ≠ (.slice Ao50 t212.length co50 : Value).ownBlock ∧ some k_ ≠ (v219 : Value).ownBlock)) (by (with_reducible repeat (first | apply Kd.R_alloc | apply Kd.R_drewN | apply Kd.R_drew)); exact Kd.R_mono HO_210004.out (fun _ hk => ⟨⟨hk.1.2.1, ⟨hk.1.2.2, hk.2⟩⟩, hk.1.1⟩)) hg hat); replace BK206 := Za.mk (Zb1 (g := gb206) (by (with_reducible repeat (first | apply zb3 | apply zb2 | apply zb1)); exact BK206.out) hg (Kd.S_ne HO_9.out BK206.out (by decide))); replace BK207 := Za.mk (Zb1 (g := gb207) (by (with_reducible repeat (first | apply zb3 | apply zb2 | apply zb1)); exact BK207.out) hg (Kd.S_ne HO_9.out BK207.out (by decide))); replace BK208 := Za.mk (Zb1 (g := gb208) (by (with_reducible repeat (first | apply zb3 | apply zb2 | apply zb1)); exact BK208.out) hg (Kd.S_ne HO_9.out BK208.out (by decide))); replace BK209 := Za.mk (Zb1 (g := gb209) (by (with_reducible repeat (first | apply zb3 | apply zb2 | apply zb1)); exact BK209.out) hg (Kd.S_ne HO_9.out BK209.out (by decide))); replace HO220 := Za.mk (Kd.R_over' (by (with_reducible repeat (first | apply Kd.R_alloc | apply Kd.R_drewN | apply Kd.R_drew)); exact HO220.out) (Kd.S_typed (by (with_reducible repeat (first | apply Kd.S_alloc | apply Kd.S_drewN | apply Kd.S_drew)); exact HO_9.out)) (by decide) hg); replace HB := Za.mk (hb); have HO223 := Za.mk (ho); clear HO_9 HO214; clear ho hb hg hat))
     (first | go_roundg k2 | (simp only [← hji23]; go_roundg k2))
     case measure => have := HK1.out; have := HK2.out; omega
     case rel => first | exact ⟨(y218), (y221), (wrap64 (x10_2 + 1)), (x209000_2), (x209001_2), (x209002_2), (x209005_2), (by first | rfl | (simp; done) | (simp [*]; done)), H', ⟨by have := HK1.out; have := HK2.out; omega⟩, ⟨by (with_reducible repeat (first | apply Kd.R_alloc | apply Kd.R_drewN | apply Kd.R_drew)); exact Kd.R_mono HO220.out (fun _ hk => trivial)⟩, ⟨by (with_reducible repeat (first | apply Kd.S_alloc | apply Kd.S_drewN | apply Kd.S_drew)); exact Kd.S_mono HO223.out (fun _ hk => ⟨hk.2, hk.1⟩)⟩, ⟨by (with_reducible repeat (first | apply Kd.S_alloc | apply Kd.S_drewN | apply Kd.S_drew)); exact Kd.S_mono HO_210003.out (fun _ hk => ⟨hk.1.2, hk.2⟩)⟩, ⟨by (with_reducible repeat (first | apply Kd.R_alloc | apply Kd.R_drewN | apply Kd.R_drew)); exact Kd.R_mono HO_210004.out (fun _ hk => ⟨hk.1.2.2, ⟨hk.2, hk.1.1⟩⟩)⟩, ⟨by (with_reducible repeat (first | apply zb3 | apply zb2 | apply zb1)); exact BK206.out⟩, ⟨by (with_reducible repeat (first | apply zb3 | apply zb2 | apply zb1)); exact BK207.out⟩, ⟨by (with_reducible repeat (first | apply zb3 | apply zb2 | apply zb1)); exact BK208.out⟩, ⟨by (with_reducible repeat (first | apply zb3 | apply zb2 | apply zb1)); exact BK209.out⟩, ⟨by repeat (first | (with_reducible first | exact HB.out | apply zc1 | apply zc2 | apply zc3 | refine zc4 ?_ (by assumption)) | exact HB.out)⟩⟩ | (subst hji23; exact ⟨(y218), (y221), (wrap64 (x10_2 + 1)), (x209000_2), (x209001_2), (x209002_2), (x209005_2), (by first | rfl | (simp; done) | (simp [*]; done)), H', ⟨by have := HK1.out; have := HK2.out; omega⟩, ⟨by (with_reducible repeat (first | apply Kd.R_alloc | apply Kd.R_drewN | apply Kd.R_drew)); exact Kd.R_mono HO220.out (fun _ hk => trivial)⟩, ⟨by (with_reducible repeat (first | apply Kd.S_alloc | apply Kd.S_drewN | apply Kd.S_drew)); exact Kd.S_mono HO223.out (fun _ hk => ⟨hk.2, hk.1⟩)⟩, ⟨by (with_reducible repeat (first | apply Kd.S_alloc | apply Kd.S_drewN | apply Kd.S_drew)); exact Kd.S_mono HO_210003.out (fun _ hk => ⟨hk.1.2, hk.2⟩)⟩, ⟨by (with_reducible repeat (first | apply Kd.R_alloc | apply Kd.R_drewN | apply Kd.R_drew)); exact Kd.R_mono HO_210004.out (fun _ hk => ⟨hk.1.2.2, ⟨hk.2, hk.1.1⟩⟩)⟩, ⟨by (with_reducible repeat (first | apply zb3 | apply zb2 | apply zb1)); exact BK206.out⟩, ⟨by (with_reducible repeat (first | apply zb3 | apply zb2 | apply zb1)); exact BK207.out⟩, ⟨by (with_reducible repeat (first | apply zb3 | apply zb2 | apply zb1)); exact BK208.out⟩, ⟨by (with_reducible repeat (first | apply zb3 | apply zb2 | apply zb1)); exact BK209.out⟩, ⟨by repeat (first | (with_reducible first | exact HB.out | apply zc1 | apply zc2 | apply zc3 | refine zc4 ?_ (by assumption)) | exact HB.out)⟩⟩)
end Go.Proofs.Ytlljiegdhelmiaa.PTurnerThens
