-- Printed by a turn of a template of the kit, and shortened: remarks and what nothing here uses are left out.
import Derived.Test.YtnjfcbhbebokeaaQPAheadClearsx0
import Derived.Test.YtnjfcbhbebokeaaQPAheadClearsx9
import Derived.Test.YtnjfcbhbebokeaaQPAheadClearsx10
import Derived.Test.YtnjfcbhbebokeaaQPAheadClearsx11
import Derived.Test.YtnjfcbhbebokeaaQPAheadClearsx12
namespace Go.Proofs.Ytnjfcbhbebokeaa.PAheadClears
open Go.RowKit Go.Proofs.YtnjfcbhbebokeaaW.PrintWords Go.Proofs.YtnjfcbhbebokeaaW.PrintLast Go.Proofs.YtnjfcbhbebokeaaW.PrintMore
attribute [local go_sem] max2_int min2_int max_two min_two max_three min_three max_four min_four
set_option linter.unusedVariables false
set_option linter.unusedSimpArgs false
mutual
def Zq.l0 : Nat → Int → List Int → Int → Int → Int → Int → Int → List (S38) → Option (Int)
  | 0, _, _, _, _, _, _, _, _ => none
  | k + 1, x5, x6, x7, x8, x253000, x253001, x253002, x253003 => if x8 < (x6.length : Int) then (if 0 ≤ x8 then (if (rd x6 x8) = x253002 then (if 0 ≤ (IntKind.u64.wrap (x253000)) then (Zq.j1 k x5 x6 (Go.bits .or .u32 x7 (shl .u32 1 (IntKind.u64.wrap (x253000)))) x8 x253000 x253001 x253002 x253003) else (none)) else (Zq.j1 k x5 x6 x7 x8 x253000 x253001 x253002 x253003)) else (none)) else (some x7)
def Zq.j1 : Nat → Int → List Int → Int → Int → Int → Int → Int → List (S38) → Option (Int)
  | 0, _, _, _, _, _, _, _, _ => none
  | k + 1, x5, x6, x7, x8, x253000, x253001, x253002, x253003 => Zq.l1 k x5 x6 x7 x8 x253003 (x253003.length : Int) 0 x253000 x253001 x253002 x253003
def Zq.l1 : Nat → Int → List Int → Int → Int → List (S38) → Int → Int → Int → Int → Int → List (S38) → Option (Int)
  | 0, _, _, _, _, _, _, _, _, _, _, _ => none
  | k + 1, x5, x6, x7, x8, x41, x42, x43, x253000, x253001, x253002, x253003 => if x43 < x42 then (if 0 ≤ x43 then (if x43 < (x41.length : Int) then ((Zt1.f x5 ((Zb x41 x43).f0)).bind fun t261 => (if t261 = true then (Zq.l2 k x5 x6 x7 x8 x41 x42 x43 ((Zb x41 x43).f1) (((Zb x41 x43).f1).length : Int) 0 x253000 x253001 x253002 x253003 ((Zb x41 x43).f0) ((Zb x41 x43).f1)) else (Zq.l1 k x5 x6 x7 x8 x41 x42 (wrap64 (x43 + 1)) x253000 x253001 x253002 x253003))) else (none)) else (none)) else (Zq.l0 k x5 x6 x7 (wrap64 (x8 + 1)) x253000 x253001 x253002 x253003)
def Zq.l2 : Nat → Int → List Int → Int → Int → List (S38) → Int → Int → List Int → Int → Int → Int → Int → Int → List (S38) → Int → List Int → Option (Int)
  | 0, _, _, _, _, _, _, _, _, _, _, _, _, _, _, _, _ => none
  | k + 1, x5, x6, x7, x8, x41, x42, x43, x53, x54, x55, x253000, x253001, x253002, x253003, x261000, x261001 => if x55 < x54 then (if 0 ≤ x55 then (if x55 < (x53.length : Int) then (if 0 ≤ x8 then (if x8 < (x6.length : Int) then (if (rd x53 x55) = (wrap64 (x253000 + (rd x6 x8))) then (if 0 ≤ (wrap64 (x55 + 1)) then (if (wrap64 (x55 + 1)) ≤ (x261001.length : Int) then ((some (x261001.drop ((wrap64 (x55 + 1)) : Int).toNat : List Int)).bind fun y264 => ((Zv.f k x253000 x253001 x253002 x253003 y264).bind fun t268 => ((Zl1.f k x253000 x253001 x253002 x253003 y264).bind fun t269 => (if t269 = true then ((Zy.f k x6 x261000).bind fun t270 => (if t270 = true then (Zq.l2 k x5 x6 (Go.bits .or .u32 x7 t268) x8 x41 x42 x43 x53 x54 (wrap64 (x55 + 1)) x253000 x253001 x253002 x253003 x261000 x261001) else (if x6.length < 17592186044416 then (Zq.l2 k x5 (x6 ++ [x261000]) (Go.bits .or .u32 x7 t268) x8 x41 x42 x43 x53 x54 (wrap64 (x55 + 1)) x253000 x253001 x253002 x253003 x261000 x261001) else (none)))) else (Zq.l2 k x5 x6 (Go.bits .or .u32 x7 t268) x8 x41 x42 x43 x53 x54 (wrap64 (x55 + 1)) x253000 x253001 x253002 x253003 x261000 x261001))))) else (none)) else (none)) else (Zq.l2 k x5 x6 x7 x8 x41 x42 x43 x53 x54 (wrap64 (x55 + 1)) x253000 x253001 x253002 x253003 x261000 x261001)) else (none)) else (none)) else (none)) else (none)) else (Zq.l1 k x5 x6 x7 x8 x41 x42 (wrap64 (x43 + 1)) x253000 x253001 x253002 x253003)
end
def Zq.f (k : Nat) (a0_0 : Int) (a0_1 : Int) (a0_2 : Int) (l0_3 : List (S38)) (a1 : Int) : Option (Int) := (Zw.f k a0_0 a0_1 a0_2 l0_3).bind fun t253 => ((Zt1.f t253 a1).bind fun t254 => (if t254 = true then (Zq.l0 k t253 (([a1] : List Int)) 0 0 a0_0 a0_1 a0_2 l0_3) else (some 0)))
theorem Zq.mono_l : ∀ k, (∀ y0 y1 y2 y3 y4 y5 y6 y7, LeO (Zq.l0 k y0 y1 y2 y3 y4 y5 y6 y7) (Zq.l0 (k + 1) y0 y1 y2 y3 y4 y5 y6 y7)) ∧ (∀ y0 y1 y2 y3 y4 y5 y6 y7, LeO (Zq.j1 k y0 y1 y2 y3 y4 y5 y6 y7) (Zq.j1 (k + 1) y0 y1 y2 y3 y4 y5 y6 y7)) ∧ (∀ y0 y1 y2 y3 y4 y5 y6 y7 y8 y9 y10, LeO (Zq.l1 k y0 y1 y2 y3 y4 y5 y6 y7 y8 y9 y10) (Zq.l1 (k + 1) y0 y1 y2 y3 y4 y5 y6 y7 y8 y9 y10)) ∧ (∀ y0 y1 y2 y3 y4 y5 y6 y7 y8 y9 y10 y11 y12 y13 y14 y15, LeO (Zq.l2 k y0 y1 y2 y3 y4 y5 y6 y7 y8 y9 y10 y11 y12 y13 y14 y15) (Zq.l2 (k + 1) y0 y1 y2 y3 y4 y5 y6 y7 y8 y9 y10 y11 y12 y13 y14 y15))
  | 0 => ⟨fun _ _ _ _ _ _ _ _ r h => by simp [Zq.l0] at h, fun _ _ _ _ _ _ _ _ r h => by simp [Zq.j1] at h, fun _ _ _ _ _ _ _ _ _ _ _ r h => by simp [Zq.l1] at h, fun _ _ _ _ _ _ _ _ _ _ _ _ _ _ _ _ r h => by simp [Zq.l2] at h⟩
  | k + 1 => by
    obtain ⟨ih0, ih1, ih2, ih3⟩ := Zq.mono_l k
    refine ⟨?_, ?_, ?_, ?_⟩
    · intro y0 y1 y2 y3 y4 y5 y6 y7
      unfold Zq.l0
      repeat' first
      | (with_reducible exact ih0 _ _ _ _ _ _ _ _)
      | (with_reducible exact ih1 _ _ _ _ _ _ _ _)
      | (with_reducible exact ih2 _ _ _ _ _ _ _ _ _ _ _)
      | (with_reducible exact ih3 _ _ _ _ _ _ _ _ _ _ _ _ _ _ _ _)
      | (with_reducible exact Zw.mono _ _ _ _ _)
      | (with_reducible exact Zv.mono _ _ _ _ _ _)
      | (with_reducible exact Zl1.mono _ _ _ _ _ _)
      | (with_reducible exact Zy.mono _ _ _)
      | (with_reducible exact LeO.refl _)
      | (with_reducible exact LeO.none _)
      | (with_reducible refine LeO.ite ?_ ?_)
      | (with_reducible refine LeO.bind ?_ (fun _ => ?_))
      | exact ih0 _ _ _ _ _ _ _ _
      | exact ih1 _ _ _ _ _ _ _ _
      | exact ih2 _ _ _ _ _ _ _ _ _ _ _
      | exact ih3 _ _ _ _ _ _ _ _ _ _ _ _ _ _ _ _
      | exact Zw.mono _ _ _ _ _
      | exact Zv.mono _ _ _ _ _ _
      | exact Zl1.mono _ _ _ _ _ _
      | exact Zy.mono _ _ _
      | exact LeO.none _
      | refine LeO.ite ?_ ?_
      | refine LeO.bind ?_ (fun _ => ?_)
    · intro y0 y1 y2 y3 y4 y5 y6 y7
      unfold Zq.j1
      repeat' first
      | (with_reducible exact ih0 _ _ _ _ _ _ _ _)
      | (with_reducible exact ih1 _ _ _ _ _ _ _ _)
      | (with_reducible exact ih2 _ _ _ _ _ _ _ _ _ _ _)
      | (with_reducible exact ih3 _ _ _ _ _ _ _ _ _ _ _ _ _ _ _ _)
      | (with_reducible exact Zw.mono _ _ _ _ _)
      | (with_reducible exact Zv.mono _ _ _ _ _ _)
      | (with_reducible exact Zl1.mono _ _ _ _ _ _)
      | (with_reducible exact Zy.mono _ _ _)
      | (with_reducible exact LeO.refl _)
      | (with_reducible exact LeO.none _)
      | (with_reducible refine LeO.ite ?_ ?_)
      | (with_reducible refine LeO.bind ?_ (fun _ => ?_))
      | exact ih0 _ _ _ _ _ _ _ _
      | exact ih1 _ _ _ _ _ _ _ _
      | exact ih2 _ _ _ _ _ _ _ _ _ _ _
      | exact ih3 _ _ _ _ _ _ _ _ _ _ _ _ _ _ _ _
      | exact Zw.mono _ _ _ _ _
      | exact Zv.mono _ _ _ _ _ _
      | exact Zl1.mono _ _ _ _ _ _
      | exact Zy.mono _ _ _
      | exact LeO.none _
      | refine LeO.ite ?_ ?_
      | refine LeO.bind ?_ (fun _ => ?_)
    · intro y0 y1 y2 y3 y4 y5 y6 y7 y8 y9 y10
      unfold Zq.l1
      repeat' first
      | (with_reducible exact ih0 _ _ _ _ _ _ _ _)
      | (with_reducible exact ih1 _ _ _ _ _ _ _ _)
      | (with_reducible exact ih2 _ _ _ _ _ _ _ _ _ _ _)
      | (with_reducible exact ih3 _ _ _ _ _ _ _ _ _ _ _ _ _ _ _ _)
      | (with_reducible exact Zw.mono _ _ _ _ _)
      | (with_reducible exact Zv.mono _ _ _ _ _ _)
      | (with_reducible exact Zl1.mono _ _ _ _ _ _)
      | (with_reducible exact Zy.mono _ _ _)
      | (with_reducible exact LeO.refl _)
      | (with_reducible exact LeO.none _)
      | (with_reducible refine LeO.ite ?_ ?_)
      | (with_reducible refine LeO.bind ?_ (fun _ => ?_))
      | exact ih0 _ _ _ _ _ _ _ _
      | exact ih1 _ _ _ _ _ _ _ _
      | exact ih2 _ _ _ _ _ _ _ _ _ _ _
      | exact ih3 _ _ _ _ _ _ _ _ _ _ _ _ _ _ _ _
      | exact Zw.mono _ _ _ _ _
      | exact Zv.mono _ _ _ _ _ _
      | exact Zl1.mono _ _ _ _ _ _
      | exact Zy.mono _ _ _
      | exact LeO.none _
      | refine LeO.ite ?_ ?_
      | refine LeO.bind ?_ (fun _ => ?_)
    · intro y0 y1 y2 y3 y4 y5 y6 y7 y8 y9 y10 y11 y12 y13 y14 y15
      unfold Zq.l2
      repeat' first
      | (with_reducible exact ih0 _ _ _ _ _ _ _ _)
      | (with_reducible exact ih1 _ _ _ _ _ _ _ _)
      | (with_reducible exact ih2 _ _ _ _ _ _ _ _ _ _ _)
      | (with_reducible exact ih3 _ _ _ _ _ _ _ _ _ _ _ _ _ _ _ _)
      | (with_reducible exact Zw.mono _ _ _ _ _)
      | (with_reducible exact Zv.mono _ _ _ _ _ _)
      | (with_reducible exact Zl1.mono _ _ _ _ _ _)
      | (with_reducible exact Zy.mono _ _ _)
      | (with_reducible exact LeO.refl _)
      | (with_reducible exact LeO.none _)
      | (with_reducible refine LeO.ite ?_ ?_)
      | (with_reducible refine LeO.bind ?_ (fun _ => ?_))
      | exact ih0 _ _ _ _ _ _ _ _
      | exact ih1 _ _ _ _ _ _ _ _
      | exact ih2 _ _ _ _ _ _ _ _ _ _ _
      | exact ih3 _ _ _ _ _ _ _ _ _ _ _ _ _ _ _ _
      | exact Zw.mono _ _ _ _ _
      | exact Zv.mono _ _ _ _ _ _
      | exact Zl1.mono _ _ _ _ _ _
      | exact Zy.mono _ _ _
      | exact LeO.none _
      | refine LeO.ite ?_ ?_
      | refine LeO.bind ?_ (fun _ => ?_)
theorem Zq.mono : ∀ a0 a1 a2 a3 a4 k, LeO (Zq.f k a0 a1 a2 a3 a4) (Zq.f (k + 1) a0 a1 a2 a3 a4) := by
  intro a0 a1 a2 a3 a4 k
  obtain ⟨ih0, ih1, ih2, ih3⟩ := Zq.mono_l k
  unfold Zq.f
  repeat' first
      | (with_reducible exact ih0 _ _ _ _ _ _ _ _)
      | (with_reducible exact ih1 _ _ _ _ _ _ _ _)
      | (with_reducible exact ih2 _ _ _ _ _ _ _ _ _ _ _)
      | (with_reducible exact ih3 _ _ _ _ _ _ _ _ _ _ _ _ _ _ _ _)
      | (with_reducible exact Zw.mono _ _ _ _ _)
      | (with_reducible exact Zv.mono _ _ _ _ _ _)
      | (with_reducible exact Zl1.mono _ _ _ _ _ _)
      | (with_reducible exact Zy.mono _ _ _)
      | (with_reducible exact LeO.refl _)
      | (with_reducible exact LeO.none _)
      | (with_reducible refine LeO.ite ?_ ?_)
      | (with_reducible refine LeO.bind ?_ (fun _ => ?_))
      | exact ih0 _ _ _ _ _ _ _ _
      | exact ih1 _ _ _ _ _ _ _ _
      | exact ih2 _ _ _ _ _ _ _ _ _ _ _
      | exact ih3 _ _ _ _ _ _ _ _ _ _ _ _ _ _ _ _
      | exact Zw.mono _ _ _ _ _
      | exact Zv.mono _ _ _ _ _ _
      | exact Zl1.mono _ _ _ _ _ _
      | exact Zy.mono _ _ _
      | exact LeO.none _
      | refine LeO.ite ?_ ?_
      | refine LeO.bind ?_ (fun _ => ?_)
def Zq.T18 : Bool × List (List Nat × List Nat) := (true, [([], []), ([], []), ([1], [1]), ([], []), ([], []), ([3, 4], [3, 4]), ([5], [5]), ([2, 6], [2, 6]), ([0, 7], [0, 7])])
def Zq.B18 : List Nat := [0, 0, 2, 0, 0, 24, 56, 126, 255]
theorem Zq.tab18 : rtab .any (opsOf Try.f38 18) = Zq.T18 := by kernel_rfl
theorem Zq.bits18 : waitsOk Zq.T18.2 Zq.B18 = true := by kernel_rfl
def Zq.T19 : Bool × List (List Nat × List Nat) := (true, [([], []), ([], []), ([], []), ([2], [2]), ([], []), ([4], [4]), ([3, 5], [3, 5]), ([1, 6], [1, 6]), ([0, 7], [0, 7]), ([8, 7, 0, 1, 2, 3, 4, 5, 6, 7, 8], [0, 8])])
def Zq.B19 : List Nat := [0, 0, 0, 4, 0, 16, 60, 126, 255, 511]
theorem Zq.tab19 : rtab .any (opsOf Try.f38 19) = Zq.T19 := by kernel_rfl
theorem Zq.bits19 : waitsOk Zq.T19.2 Zq.B19 = true := by kernel_rfl
def Zq.T20 : Bool × List (List Nat × List Nat) := (true, [([], []), ([], []), ([1], [1]), ([], []), ([3], [3]), ([2, 4], [2, 4]), ([0, 5], [0, 5]), ([6, 6], [6]), ([7], [7]), ([7], [7]), ([9, 7], [7, 9]), ([8, 10, 7, 7], [7, 8, 10]), ([11, 7], [7, 11]), ([7, 12], [7, 12])])
def Zq.B20 : List Nat := [0, 0, 2, 0, 8, 30, 63, 127, 255, 255, 767, 2047, 4095, 8191]
theorem Zq.tab20 : rtab .any (opsOf Try.f38 20) = Zq.T20 := by kernel_rfl
theorem Zq.bits20 : waitsOk Zq.T20.2 Zq.B20 = true := by kernel_rfl
set_option maxHeartbeats 8000000 in
set_option maxRecDepth 100000 in
theorem Zq.calls (k : Nat) (a0_0 : Int) (a0_1 : Int) (a0_2 : Int) (A0_3 : Option Addr) (c0_3 : Nat) (l0_3 : List (S38)) (a1 : Int) (r : Int) (w : World) (hr0_3 : Kd.C k38 w A0_3 l0_3.length l0_3) (hc0_3 : l0_3.length ≤ c0_3) (h : Zq.f k a0_0 a0_1 a0_2 l0_3 a1 = some r) :
    Calls Try.prog 38 #[.agg #[.int .i64 a0_0, .int .i64 a0_1, .int .i64 a0_2, .slice A0_3 l0_3.length c0_3], .int .i64 a1] w fun e w' => e = .returned (.int .u32 r) ∧ Below w.heap.size w w' := by
 (have hu24 := Try.underlying24); (have hu38 := Try.underlying38); (have HR0_3 := Za.mk hr0_3); (have HC0_3 := Za.mk hc0_3); (clear hr0_3 hc0_3); (have HB := Za.mk (Below.refl w.heap.size w)); (have H : ((Zw.f k a0_0 a0_1 a0_2 l0_3).bind fun t253 => ((Zt1.f t253 a1).bind fun t254 => (if t254 = true then (Zq.l0 k t253 (([a1] : List Int)) 0 0 a0_0 a0_1 a0_2 l0_3) else (some 0)))) = some r := h); (clear h); (replace H := Option.bind_eq_some_iff.mp H); (obtain ⟨t253, A30, H⟩ := H); (replace H : ((Zt1.f t253 a1).bind fun t254 => (if t254 = true then (Zq.l0 k t253 (([a1] : List Int)) 0 0 a0_0 a0_1 a0_2 l0_3) else (some 0))) = some r := H); (have A3 := Za.mk A30); (clear A30); (replace H := Option.bind_eq_some_iff.mp H); (obtain ⟨t254, A40, H⟩ := H); (replace H : (if t254 = true then (Zq.l0 k t253 (([a1] : List Int)) 0 0 a0_0 a0_1 a0_2 l0_3) else (some 0)) = some r := H); (have A4 := Za.mk A40); (clear A40)
 by_cases c5 : t254 = true
 rotate_left
 ·replace c5 := Bool.eq_false_iff.mpr c5
  (subst c5); (have H1 : (some 0) = some r := by rw [if_neg (show ¬ (false = true) by decide)] at H; exact H); (clear H); (have H := H1); (clear H1); (obtain rfl := Option.some.inj H)
  go_enter Try.func38, Try.ntmps38
  go_wp2_with (first | ((with_reducible refine Zb1 (N := 2) rfl ?_); refine Zc1 ?hg (N := 2) ?hd (cs := #[.int .i64 a0_0, .int .i64 a0_1, .int .i64 a0_2, .slice A0_3 l0_3.length c0_3]) (t := 24) ?hr ?_; (case hd => rfl); (case hg => rfl); (case hr => first | (go_simp; done) | (go_simp; rfl)); intro gb252 hg w75 hbox hb; have n0_ := Za.mk (Zr (by repeat (first | (with_reducible first | exact HB.out | apply Zh | apply Zk | apply Zg) | exact HB.out)) hb); have n1_ := Za.mk (hbox); have n2_ := Za.mk ((by rw [hg]; exact (Zo (by repeat (first | (with_reducible first | exact HB.out | apply Zh | apply Zk | apply Zg) | exact HB.out))) : w.heap.size ≤ gb252)); have n3_ := Za.mk ((by rw [hg]; exact (Zo (by repeat (first | (with_reducible first | exact HB.out | apply Zh | apply Zk | apply Zg) | exact HB.out))) : w.heap.size ≤ gb252)); clear HB; have HB := n0_; have BK252 := n1_; have GW252 := n2_; have GE252 := n3_; clear n0_ n1_ n2_ n3_; clear hb hbox hg; have hcz76_0 : w75.cell? ⟨gb252, 0, none⟩ = some (.int .i64 a0_0) := (Zc BK252.out 0).trans rfl; have hcz76_1 : w75.cell? ⟨gb252, 1, none⟩ = some (.int .i64 a0_1) := (Zc BK252.out 1).trans rfl; have hcz76_2 : w75.cell? ⟨gb252, 2, none⟩ = some (.int .i64 a0_2) := (Zc BK252.out 2).trans rfl; have hcz76_3 : w75.cell? ⟨gb252, 3, none⟩ = some (.slice A0_3 l0_3.length c0_3) := (Zc BK252.out 3).trans rfl; have hfz76_0 := Zd BK252.out 0; have hfz76_1 := Zd BK252.out 1; have hfz76_2 := Zd BK252.out 2; have hfz76_3 := Zd BK252.out 3) | ((with_reducible refine Zp1 (f := 18) rfl ?_); refine goesL_ (some 14) rfl rfl Try.func18 (by kernel_rfl) rfl #[.agg #[.int .i64 a0_0, .int .i64 a0_1, .int .i64 a0_2, .slice A0_3 l0_3.length c0_3]] rfl (by (try simp only [List.map_toArray, List.map_cons, List.map_nil]); first | done | rfl | (simp only [List.length_drop, List.length_take]; rfl)) ?_; (with_reducible refine (Zw.calls k a0_0 a0_1 a0_2 _ _ l0_3 t253 _ ?side1 ?side2 A3.out).mono ?_); (case side1 => repeat (first | exact (Kd.C_below HR0_3.out HB.out) | (with_reducible refine Kd.C_alloc ?_ _) | (with_reducible refine Kd.C_drewN ?_ _) | (with_reducible refine Kd.C_drew ?_))); (case side2 => exact HC0_3.out); rintro e w77 ⟨rfl, hb⟩; refine ⟨_, rfl, ?_⟩; have n0_ := Za.mk (Zp (g := gb252) (o := .cells #[.int .i64 a0_0, .int .i64 a0_1, .int .i64 a0_2, .slice A0_3 l0_3.length c0_3] 24 (0, 0)) (by (with_reducible repeat (first | refine Zj ?_ _ | refine Zf ?_ | refine Zi ?_ _)); exact BK252.out) hb); have n1_ := Za.mk (Zr (by repeat (first | (with_reducible first | exact HB.out | apply Zh | apply Zk | apply Zg | refine Ze ?_ GE252.out) | exact HB.out)) hb); clear BK252; clear HB; have BK252 := n0_; have HB := n1_; clear n0_ n1_; (try clear hb); (try clear hb2); (try clear hk); (try clear hi)) | ((with_reducible refine Zp1 (f := 62) rfl ?_); refine goesL_ (some 17) rfl rfl Try.func62 (by kernel_rfl) rfl #[.int .u32 t253, .int .i64 a1] rfl (by (try simp only [List.map_toArray, List.map_cons, List.map_nil]); first | done | rfl | (simp only [List.length_drop, List.length_take]; rfl)) ?_; (with_reducible refine (Zt1.calls t253 a1 false _ A4.out).mono ?_); rintro e w' ⟨rfl, ⟨nd, rfl⟩⟩; refine ⟨_, rfl, ?_⟩))
  go_ret
  exact ⟨by first | rfl | (simp [Zu, Zt] <;> rfl) | (simp [*, Zu, Zt] <;> rfl), by repeat (first | (with_reducible first | exact HB.out | apply Zh | apply Zk | apply Zg | refine Ze ?_ GE252.out) | exact HB.out)⟩
 (subst c5); (have H1 : (Zq.l0 k t253 (([a1] : List Int)) 0 0 a0_0 a0_1 a0_2 l0_3) = some r := by rw [if_pos rfl] at H; exact H); (clear H); (have H := H1); (clear H1); (obtain ⟨y255, hy255⟩ : ∃ y_ : List Int, y_ = (([a1] : List Int)) := ⟨_, rfl⟩); (replace H : (Zq.l0 k t253 y255 0 0 a0_0 a0_1 a0_2 l0_3) = some r := by first | (rw [hy255]; with_reducible exact H) | (have H2_ := (Option.bind_some _ _).symm.trans H; rw [hy255]; with_reducible exact H2_) | (have H2_ := (Option.bind_some _ _).symm.trans H; with_reducible exact H2_) | with_reducible exact H | (rw [hy255]; exact H) | exact H); (have Ny255 := Za.mk hy255); (clear hy255); (have H' := Za.mk H); (clear H)
 go_enter Try.func38, Try.ntmps38
 go_wp2_with (first | ((with_reducible refine Zb1 (N := 2) rfl ?_); refine Zc1 ?hg (N := 2) ?hd (cs := #[.int .i64 a0_0, .int .i64 a0_1, .int .i64 a0_2, .slice A0_3 l0_3.length c0_3]) (t := 24) ?hr ?_; (case hd => rfl); (case hg => rfl); (case hr => first | (go_simp; done) | (go_simp; rfl)); intro gb252 hg w6 hbox hb; have n0_ := Za.mk (Zr (by repeat (first | (with_reducible first | exact HB.out | apply Zh | apply Zk | apply Zg) | exact HB.out)) hb); have n1_ := Za.mk (hbox); have n2_ := Za.mk ((by rw [hg]; exact (Zo (by repeat (first | (with_reducible first | exact HB.out | apply Zh | apply Zk | apply Zg) | exact HB.out))) : w.heap.size ≤ gb252)); have n3_ := Za.mk ((by rw [hg]; exact (Zo (by repeat (first | (with_reducible first | exact HB.out | apply Zh | apply Zk | apply Zg) | exact HB.out))) : w.heap.size ≤ gb252)); clear HB; have HB := n0_; have BK252 := n1_; have GW252 := n2_; have GE252 := n3_; clear n0_ n1_ n2_ n3_; clear hb hbox hg; have hcz7_0 : w6.cell? ⟨gb252, 0, none⟩ = some (.int .i64 a0_0) := (Zc BK252.out 0).trans rfl; have hcz7_1 : w6.cell? ⟨gb252, 1, none⟩ = some (.int .i64 a0_1) := (Zc BK252.out 1).trans rfl; have hcz7_2 : w6.cell? ⟨gb252, 2, none⟩ = some (.int .i64 a0_2) := (Zc BK252.out 2).trans rfl; have hcz7_3 : w6.cell? ⟨gb252, 3, none⟩ = some (.slice A0_3 l0_3.length c0_3) := (Zc BK252.out 3).trans rfl; have hfz7_0 := Zd BK252.out 0; have hfz7_1 := Zd BK252.out 1; have hfz7_2 := Zd BK252.out 2; have hfz7_3 := Zd BK252.out 3) | ((with_reducible refine Zp1 (f := 18) rfl ?_); refine goesL_ (some 14) rfl rfl Try.func18 (by kernel_rfl) rfl #[.agg #[.int .i64 a0_0, .int .i64 a0_1, .int .i64 a0_2, .slice A0_3 l0_3.length c0_3]] rfl (by (try simp only [List.map_toArray, List.map_cons, List.map_nil]); first | done | rfl | (simp only [List.length_drop, List.length_take]; rfl)) ?_; (with_reducible refine (Zw.calls k a0_0 a0_1 a0_2 _ _ l0_3 t253 _ ?side1 ?side2 A3.out).mono ?_); (case side1 => repeat (first | exact (Kd.C_below HR0_3.out HB.out) | (with_reducible refine Kd.C_alloc ?_ _) | (with_reducible refine Kd.C_drewN ?_ _) | (with_reducible refine Kd.C_drew ?_))); (case side2 => exact HC0_3.out); rintro e w8 ⟨rfl, hb⟩; refine ⟨_, rfl, ?_⟩; have n0_ := Za.mk (Zp (g := gb252) (o := .cells #[.int .i64 a0_0, .int .i64 a0_1, .int .i64 a0_2, .slice A0_3 l0_3.length c0_3] 24 (0, 0)) (by (with_reducible repeat (first | refine Zj ?_ _ | refine Zf ?_ | refine Zi ?_ _)); exact BK252.out) hb); have n1_ := Za.mk (Zr (by repeat (first | (with_reducible first | exact HB.out | apply Zh | apply Zk | apply Zg | refine Ze ?_ GE252.out) | exact HB.out)) hb); clear BK252; clear HB; have BK252 := n0_; have HB := n1_; clear n0_ n1_; (try clear hb); (try clear hb2); (try clear hk); (try clear hi)) | ((with_reducible refine Zp1 (f := 62) rfl ?_); refine goesL_ (some 17) rfl rfl Try.func62 (by kernel_rfl) rfl #[.int .u32 t253, .int .i64 a1] rfl (by (try simp only [List.map_toArray, List.map_cons, List.map_nil]); first | done | rfl | (simp only [List.length_drop, List.length_take]; rfl)) ?_; (with_reducible refine (Zt1.calls t253 a1 true _ A4.out).mono ?_); rintro e w' ⟨rfl, ⟨nd, rfl⟩⟩; refine ⟨_, rfl, ?_⟩) | ((with_reducible refine Zb1 (N := 20) rfl ?_); refine Kd.R_lit (Kd.int .i64) _ 3 ?hg (N := 20) ?hd (xs := ([a1] : List Int)) (inner := [.int .i64 a1]) (ok := fun _ => True) (okp := fun _ => True) ?hr ?hp (fun _ hk => hk) trivial (Below.refl _ _) (Nat.le_refl _) (by simp) ?_; (case hd => rfl); (case hg => rfl); (case hr => first | (go_simp; done) | (go_simp; rfl)); (case hp => exact (Reps.one (show Kd.M (Kd.int .i64) _ _ _ a1 [.int .i64 a1] from rfl) (Reps.none _ _))); intro v256 w9 ho10 hb hg_ hnew_; clear hg_ hnew_; (first | rw [← Ny255.out] at ho10 | (simp only [Int.reduceToNat] at ho10; rw [← Ny255.out] at ho10)); have n0_ := Za.mk (Kd.R_lower ho10 (Zo (by repeat (first | (with_reducible first | exact HB.out | apply Zh | apply Zk | apply Zg | refine Ze ?_ GE252.out) | exact HB.out)))); have n1_ := Za.mk (Zp (g := gb252) (o := .cells #[.int .i64 a0_0, .int .i64 a0_1, .int .i64 a0_2, .slice A0_3 l0_3.length c0_3] 24 (0, 0)) (by (with_reducible repeat (first | refine Zj ?_ _ | refine Zf ?_ | refine Zi ?_ _)); exact BK252.out) hb); have n2_ := Za.mk (Zr (by repeat (first | (with_reducible first | exact HB.out | apply Zh | apply Zk | apply Zg | refine Ze ?_ GE252.out) | exact HB.out)) hb); clear BK252; clear HB; have HO257 := n0_; have BK252 := n1_; have HB := n2_; clear n0_ n1_ n2_; clear hb ho10))
 go_loopg [6, 7, 8] k (fun kq v6 v7 v8 w' => ∃ (x6_1 : List Int) (x7_1 : Int) (x8_1 : Int), v7 = .int .u32 x7_1 ∧ v8 = .int .i64 x8_1 ∧ Za (Zq.l0 kq t253 x6_1 x7_1 x8_1 a0_0 a0_1 a0_2 l0_3 = some r) ∧ Za (kq ≤ k) ∧ Za (Kd.R (Kd.int .i64) 3 w' w.heap.size (fun _ => True) v6 x6_1) ∧ Za (w'.heap[gb252]? = some (.cells #[.int .i64 a0_0, .int .i64 a0_1, .int .i64 a0_2, (.slice A0_3 l0_3.length c0_3)] 24 (0, 0))) ∧ Za (Below w.heap.size w w'))
 case atStart => exact ⟨(y255), (0), (0), (by first | rfl | (simp; done) | (simp [*]; done)), (by first | rfl | (simp; done) | (simp [*]; done)), H', ⟨Nat.le_refl _⟩, ⟨by (with_reducible repeat (first | apply Kd.R_alloc | apply Kd.R_drewN | apply Kd.R_drew)); exact HO257.out⟩, ⟨by (with_reducible repeat (first | refine Zj ?_ _ | refine Zf ?_ | refine Zi ?_ _)); exact BK252.out⟩, ⟨by repeat (first | (with_reducible first | exact HB.out | apply Zh | apply Zk | apply Zg | refine Ze ?_ GE252.out) | exact HB.out)⟩⟩
 case round =>
  (clear H'); (try clear c1); (try clear p2); (try clear c3); (try clear c5); (try clear c6); (try clear hcz7_0); (try clear hcz7_1); (try clear hcz7_2); (try clear hcz7_3); (try clear hfz7_0); (try clear hfz7_1); (try clear hfz7_2); (try clear hfz7_3); (obtain ⟨x6_1, x7_1, x8_1, rfl, rfl, HA, HK1, HO_6, BK252, HB⟩ := hrel)
  cases gk with
  | zero => exact absurd HA.out (by simp [Zq.l0])
  | succ k1 =>
   (have H := HA.out); (clear HA); (simp only [Zq.l0] at H)
   by_cases c11 : x8_1 < (x6_1.length : Int)
   rotate_left
   ·rw [if_neg c11] at H
    (have c11b0 : decide (x8_1 < (x6_1.length : Int)) = false := decide_eq_false c11); (clear c11); (obtain rfl := Option.some.inj H); (obtain ⟨Ao74, co74, eo74⟩ := Kd.R_slice HO_6.out); (subst eo74)
    go_wp2
    go_ret
    exact ⟨by first | rfl | (simp [Zu, Zt] <;> rfl) | (simp [*, Zu, Zt] <;> rfl), by repeat (first | (with_reducible first | exact HB.out | apply Zh | apply Zk | apply Zg | refine Ze ?_ GE252.out) | exact HB.out)⟩
   (rw [if_pos c11] at H); (have c11b0 : decide (x8_1 < (x6_1.length : Int)) = true := decide_eq_true c11); (clear c11)
   by_cases c12 : 0 ≤ x8_1
   rotate_left
   ·rw [if_neg c12] at H
    exact absurd H (by simp)
   (rw [if_pos c12] at H); (have c12b0 : decide (0 ≤ x8_1) = true := decide_eq_true c12); (clear c12); (have HC13 := Za.mk H); (clear H); (obtain ⟨Ao14, co14, eo14⟩ := Kd.R_slice HO_6.out); (subst eo14)
   try go_wp2
   (have n0_ := Za.mk (Kd.R_drew HO_6.out)); (have n1_ := Za.mk (Zf BK252.out)); (have n2_ := Za.mk (Zg HB.out)); (clear HO_6); (clear BK252); (clear HB); (have HO_6 := n0_); (have BK252 := n1_); (have HB := n2_); (clear n0_ n1_ n2_); (have p258 : 0 ≤ (x8_1 : Int) := of_decide_eq_true (by assumption)); (have q258 : x8_1 < (x6_1.length : Int) := of_decide_eq_true (by assumption)); (obtain ⟨ad258, e258, hx258_0⟩ := Kd.at_int (Kd.R_reads' HO_6.out).2.2 x8_1 p258 q258); (cases e258); (replace p258 := eq_true p258); (replace q258 := eq_true q258)
   refine start_ (n := 7) (S := fun w' => w'.cell? ⟨gb252, 0, none⟩ = some (.int .i64 a0_0) ∧ w'.cell? ⟨gb252, 1, none⟩ = some (.int .i64 a0_1) ∧ w'.cell? ⟨gb252, 2, none⟩ = some (.int .i64 a0_2) ∧ w'.cell? ⟨gb252, 3, none⟩ = some (.slice A0_3 l0_3.length c0_3) ∧ w'.cell? (ad258.add (x8_1).toNat) = some (.int .i64 (rd x6_1 x8_1))) (ds := []) #[false, false, false, false, false, false, false] (by kernel_rfl) rfl rfl ⟨(Zc BK252.out 0).trans rfl, (Zc BK252.out 1).trans rfl, (Zc BK252.out 2).trans rfl, (Zc BK252.out 3).trans rfl, hx258_0⟩ (fun hHeld => ?_)
   generalize wr.drew = w15 at HO_6 BK252 HB hx258_0 hHeld ⊢
   refine pure_ (i := 0) (N := some 27) (v := ?_) (a' := ?_) #[true, false, false, false, false, false, false] rfl rfl (by kernel_rfl) (fun _ _ _ h => h) (Or.inl ⟨by rfl, ?_⟩) ?_ ?_
   rotate_left
   ·intro w'
    go_simp
    with_reducible rfl
   rotate_left
   ·simp only [Act.put, List.setIfInBounds_toArray, List.set_cons_zero, List.set_cons_succ, Zl, Zm]
    rfl
   refine pure_ (i := 1) (N := some 28) (v := ?_) (a' := ?_) #[true, true, false, false, false, false, false] rfl rfl (by kernel_rfl) (fun _ _ _ h => h) (Or.inl ⟨by rfl, ?_⟩) ?_ ?_
   rotate_left
   ·intro w'
    go_simp
    with_reducible rfl
   rotate_left
   ·simp only [Act.put, List.setIfInBounds_toArray, List.set_cons_zero, List.set_cons_succ, Zl, Zm]
    rfl
   refine pure_ (i := 2) (N := some 29) (v := ?_) (a' := ?_) #[true, true, true, false, false, false, false] rfl rfl (by kernel_rfl) (fun _ _ _ h => h) (Or.inl ⟨by rfl, ?_⟩) ?_ ?_
   rotate_left
   ·intro w'
    go_simp
    with_reducible rfl
   rotate_left
   ·simp only [Act.put, List.setIfInBounds_toArray, List.set_cons_zero, List.set_cons_succ, Zl, Zm]
    rfl
   refine pure_ (i := 4) (N := some 31) (v := ?_) (a' := ?_) #[true, true, true, false, true, false, false] rfl rfl (by kernel_rfl) (fun _ _ _ h => h) (Or.inl ⟨by rfl, ?_⟩) ?_ ?_
   rotate_left
   ·intro w'
    go_simp
    with_reducible rfl
   rotate_left
   ·simp only [Act.put, List.setIfInBounds_toArray, List.set_cons_zero, List.set_cons_succ, Zl, Zm]
    rfl
   refine take_ (i := 3) (N := some 30) (v := ?_) (a' := ?_) #[true, true, true, true, true, false, false] rfl rfl (by kernel_rfl) (fun _ _ _ h => h) (Or.inl ⟨by rfl, ?_⟩) hHeld ?_ ?_
   rotate_left
   ·rintro w' ⟨s0, s1, s2, s3, s4⟩
    go_simp
    with_reducible rfl
   rotate_left
   ·simp only [Act.put, List.setIfInBounds_toArray, List.set_cons_zero, List.set_cons_succ, Zl, Zm]
    rfl
   refine take_ (i := 5) (N := some 32) (v := ?_) (a' := ?_) #[true, true, true, true, true, true, false] rfl rfl (by kernel_rfl) (fun _ _ _ h => h) (Or.inl ⟨by rfl, ?_⟩) hHeld ?_ ?_
   rotate_left
   ·rintro w' ⟨s0, s1, s2, s3, s4⟩
    go_simp
    with_reducible rfl
   rotate_left
   ·simp only [Act.put, List.setIfInBounds_toArray, List.set_cons_zero, List.set_cons_succ, Zl, Zm]
    rfl
   refine pure_ (i := 6) (N := some 33) (v := ?_) (a' := ?_) #[true, true, true, true, true, true, true] rfl rfl (by kernel_rfl) (fun _ _ _ h => h) (Or.inl ⟨by rfl, ?_⟩) ?_ ?_
   rotate_left
   ·intro w'
    go_simp
    with_reducible rfl
   rotate_left
   ·simp only [Act.put, List.setIfInBounds_toArray, List.set_cons_zero, List.set_cons_succ, Zl, Zm]
    rfl
   refine done_ (by kernel_rfl) ?_
   go_upto_if 33 with (fail)
   go_cut [7] (fun v7 wc => ∃ (kq : Nat) (x7_12 : Int), v7 = .int .u32 x7_12 ∧ Za (Zq.j1 kq t253 x6_1 x7_12 x8_1 a0_0 a0_1 a0_2 l0_3 = some r) ∧ Za (kq ≤ k1) ∧ Za (Kd.R (Kd.int .i64) 3 wc w.heap.size (fun _ => True) (.slice (some ad258) x6_1.length co14) x6_1) ∧ Za (wc.heap[gb252]? = some (.cells #[.int .i64 a0_0, .int .i64 a0_1, .int .i64 a0_2, (.slice A0_3 l0_3.length c0_3)] 24 (0, 0))) ∧ Za (Below w.heap.size w wc))
   case first =>
    (have H := HC13.out); (clear HC13)
    by_cases c16 : (rd x6_1 x8_1) = a0_2
    rotate_left
    ·rw [if_neg c16] at H
     (have c16b0 : ((rd x6_1 x8_1) == a0_2) = false := beq_eq_false_iff_ne.mpr c16); (have c16b1 : ((rd x6_1 x8_1) != a0_2) = true := bne_iff_ne.mpr c16)
     (first | rw [c16b0] | (simp only [Zl, Zm]; rw [c16b0]) | skip)
     (have H' := Za.mk H); (clear H)
     go_wp2
     go_meet
     case rel => exact ⟨_, (x7_1), (by first | rfl | (simp; done) | (simp [*]; done)), H', ⟨by have := HK1.out; first | omega | exact Nat.le_refl _⟩, ⟨by (with_reducible repeat (first | apply Kd.R_alloc | apply Kd.R_drewN | apply Kd.R_drew)); exact HO_6.out⟩, ⟨by (with_reducible repeat (first | refine Zj ?_ _ | refine Zf ?_ | refine Zi ?_ _)); exact BK252.out⟩, ⟨by repeat (first | (with_reducible first | exact HB.out | apply Zh | apply Zk | apply Zg | refine Ze ?_ GE252.out) | exact HB.out)⟩⟩
    (rw [if_pos c16] at H); (have c16b0 : ((rd x6_1 x8_1) == a0_2) = true := beq_iff_eq.mpr c16); (have c16b1 : ((rd x6_1 x8_1) != a0_2) = false := bne_eq_false_iff_eq.mpr c16); (clear c16)
    (first | rw [c16b0] | (simp only [Zl, Zm]; rw [c16b0]) | skip)
    (obtain ⟨ji17, hji17⟩ : ∃ j_ : Int, (IntKind.u64.wrap (a0_0)) = j_ := ⟨_, rfl⟩); (replace H : (if 0 ≤ (ji17) then (Zq.j1 k1 t253 x6_1 (Go.bits .or .u32 x7_1 (shl .u32 1 (ji17))) x8_1 a0_0 a0_1 a0_2 l0_3) else (none)) = some r := by first | (rw [hji17] at H; exact H) | (simp only [hji17] at H ⊢; exact H))
    by_cases c18 : 0 ≤ (ji17)
    rotate_left
    ·rw [if_neg c18] at H
     exact absurd H (by simp)
    (rw [if_pos c18] at H); (have c18b0 := eq_true c18); (have c18b1 : decide (0 ≤ (ji17)) = true := decide_eq_true c18); (clear c18); (obtain ⟨ji19, hji19⟩ : ∃ j_ : Int, (shl .u32 1 (ji17)) = j_ := ⟨_, rfl⟩); (replace H : (Zq.j1 k1 t253 x6_1 (Go.bits .or .u32 x7_1 (ji19)) x8_1 a0_0 a0_1 a0_2 l0_3) = some r := by first | (rw [hji19] at H; exact H) | (simp only [hji19] at H ⊢; exact H)); (have hji19_ : (IntKind.u32.wrap (1 * 2 ^ min (ji17).toNat 32)) = ji19 := hji19); (have hji19z : (ji17) ≤ 32 → (IntKind.u32.wrap (1 * 2 ^ (ji17).toNat)) = ji19 := shl_small hji19); (have hji19u : (IntKind.u32.wrap (2 ^ min (ji17).toNat 32)) = ji19 := by have h_ := hji19_; rw [Int.one_mul] at h_; exact h_); (have hji19v : (ji17) ≤ 32 → (IntKind.u32.wrap (2 ^ (ji17).toNat)) = ji19 := fun hle_ => by have h_ := hji19z hle_; rw [Int.one_mul] at h_; exact h_); (have H' := Za.mk H); (clear H); (have hcz20_0 : w15.cell? ⟨gb252, 0, none⟩ = some (.int .i64 a0_0) := (Zc BK252.out 0).trans rfl); (have hcz20_1 : w15.cell? ⟨gb252, 1, none⟩ = some (.int .i64 a0_1) := (Zc BK252.out 1).trans rfl); (have hcz20_2 : w15.cell? ⟨gb252, 2, none⟩ = some (.int .i64 a0_2) := (Zc BK252.out 2).trans rfl); (have hcz20_3 : w15.cell? ⟨gb252, 3, none⟩ = some (.slice A0_3 l0_3.length c0_3) := (Zc BK252.out 3).trans rfl); (have hfz20_0 := Zd BK252.out 0); (have hfz20_1 := Zd BK252.out 1); (have hfz20_2 := Zd BK252.out 2); (have hfz20_3 := Zd BK252.out 3)
    go_wp2
    go_meet
    case rel => exact ⟨_, (Go.bits .or .u32 x7_1 (ji19)), (by first | rfl | (simp; done) | (simp only [← hji19] <;> (first | rfl | simp)) | (simp [*]; done)), H', ⟨by have := HK1.out; first | omega | exact Nat.le_refl _⟩, ⟨by (with_reducible repeat (first | apply Kd.R_alloc | apply Kd.R_drewN | apply Kd.R_drew)); exact HO_6.out⟩, ⟨by (with_reducible repeat (first | refine Zj ?_ _ | refine Zf ?_ | refine Zi ?_ _)); exact BK252.out⟩, ⟨by repeat (first | (with_reducible first | exact HB.out | apply Zh | apply Zk | apply Zg | refine Ze ?_ GE252.out) | exact HB.out)⟩⟩
   case rest =>
    (clear HC13); (try clear c1); (try clear p2); (try clear q2); (try clear hx2); (try clear c3); (try clear c5); (try clear c6); (try clear c11); (try clear c11b0); (try clear c12); (try clear c12b0); (try clear c16); (try clear c16b0); (try clear c16b1); (try clear c18); (try clear c18b0); (try clear c18b1); (try clear hcz20_0); (try clear hcz20_1); (try clear hcz20_2); (try clear hcz20_3); (try clear hcz7_0); (try clear hcz7_1); (try clear hcz7_2); (try clear hcz7_3); (try clear hfz20_0); (try clear hfz20_1); (try clear hfz20_2); (try clear hfz20_3); (try clear hfz7_0); (try clear hfz7_1); (try clear hfz7_2); (try clear hfz7_3); (try clear hx258_0); (try clear p2); (try clear p258); (try clear q258); (obtain ⟨kq, x7_12, rfl, HA, HJ12, HO_6, BK252, HB⟩ := hcut)
    cases kq with
    | zero => exact absurd HA.out (by simp [Zq.j1])
    | succ kj12 =>
     (have H := HA.out); (clear HA); (simp only [Zq.j1] at H); (have H' := Za.mk H); (clear H); (have hcz21_0 : wc.cell? ⟨gb252, 0, none⟩ = some (.int .i64 a0_0) := (Zc BK252.out 0).trans rfl); (have hcz21_1 : wc.cell? ⟨gb252, 1, none⟩ = some (.int .i64 a0_1) := (Zc BK252.out 1).trans rfl); (have hcz21_2 : wc.cell? ⟨gb252, 2, none⟩ = some (.int .i64 a0_2) := (Zc BK252.out 2).trans rfl); (have hcz21_3 : wc.cell? ⟨gb252, 3, none⟩ = some (.slice A0_3 l0_3.length c0_3) := (Zc BK252.out 3).trans rfl); (have hfz21_0 := Zd BK252.out 0); (have hfz21_1 := Zd BK252.out 1); (have hfz21_2 := Zd BK252.out 2); (have hfz21_3 := Zd BK252.out 3)
     go_wp2
     go_loopg [6, 7, 43] kj12 (fun kq v6 v7 v43 w' => ∃ (x6_3 : List Int) (x7_3 : Int) (x43_3 : Int), v7 = .int .u32 x7_3 ∧ v43 = .int .i64 x43_3 ∧ Za (Zq.l1 kq t253 x6_3 x7_3 x8_1 l0_3 (l0_3.length : Int) x43_3 a0_0 a0_1 a0_2 l0_3 = some r) ∧ Za (kq ≤ kj12) ∧ Za (Kd.R (Kd.int .i64) 3 w' w.heap.size (fun _ => True) v6 x6_3) ∧ Za (w'.heap[gb252]? = some (.cells #[.int .i64 a0_0, .int .i64 a0_1, .int .i64 a0_2, (.slice A0_3 l0_3.length c0_3)] 24 (0, 0))) ∧ Za (Below w.heap.size w w'))
     case atStart => exact ⟨(x6_1), (x7_12), (0), (by first | rfl | (simp; done) | (simp [*]; done)), (by first | rfl | (simp; done) | (simp [*]; done)), H', ⟨Nat.le_refl _⟩, ⟨by (with_reducible repeat (first | apply Kd.R_alloc | apply Kd.R_drewN | apply Kd.R_drew)); exact HO_6.out⟩, ⟨by (with_reducible repeat (first | refine Zj ?_ _ | refine Zf ?_ | refine Zi ?_ _)); exact BK252.out⟩, ⟨by repeat (first | (with_reducible first | exact HB.out | apply Zh | apply Zk | apply Zg | refine Ze ?_ GE252.out) | exact HB.out)⟩⟩
     case round =>
      (clear H'); (try clear c1); (try clear p2); (try clear q2); (try clear hx2); (try clear c3); (try clear c5); (try clear c6); (try clear c11); (try clear c11b0); (try clear c12); (try clear c12b0); (try clear c16); (try clear c16b0); (try clear c16b1); (try clear c18); (try clear c18b0); (try clear c18b1); (try clear hcz20_0); (try clear hcz20_1); (try clear hcz20_2); (try clear hcz20_3); (try clear hcz21_0); (try clear hcz21_1); (try clear hcz21_2); (try clear hcz21_3); (try clear hcz7_0); (try clear hcz7_1); (try clear hcz7_2); (try clear hcz7_3); (try clear hfz20_0); (try clear hfz20_1); (try clear hfz20_2); (try clear hfz20_3); (try clear hfz21_0); (try clear hfz21_1); (try clear hfz21_2); (try clear hfz21_3); (try clear hfz7_0); (try clear hfz7_1); (try clear hfz7_2); (try clear hfz7_3); (try clear hx258_0); (try clear p2); (try clear p258); (try clear q2); (try clear q258); (obtain ⟨x6_3, x7_3, x43_3, rfl, rfl, HA, HK3, HO_6, BK252, HB⟩ := hrel)
      cases gk with
      | zero => exact absurd HA.out (by simp [Zq.l1])
      | succ k3 =>
       (have H := HA.out); (clear HA); (simp only [Zq.l1] at H)
       by_cases c22 : x43_3 < (l0_3.length : Int)
       rotate_left
       ·rw [if_neg c22] at H
        (have c22b0 : decide (x43_3 < (l0_3.length : Int)) = false := decide_eq_false c22); (clear c22); (have H' := Za.mk H); (clear H)
        go_wp2
        go_roundg k3
        case measure => have := HK1.out; have := HJ12.out; have := HK3.out; omega
        case rel => exact ⟨(x6_3), (x7_3), (wrap64 (x8_1 + 1)), (by first | rfl | (simp; done) | (simp [*]; done)), (by first | rfl | (simp; done) | (simp [*]; done)), H', ⟨by have := HK1.out; have := HJ12.out; have := HK3.out; omega⟩, ⟨by (with_reducible repeat (first | apply Kd.R_alloc | apply Kd.R_drewN | apply Kd.R_drew)); exact HO_6.out⟩, ⟨by (with_reducible repeat (first | refine Zj ?_ _ | refine Zf ?_ | refine Zi ?_ _)); exact BK252.out⟩, ⟨by repeat (first | (with_reducible first | exact HB.out | apply Zh | apply Zk | apply Zg | refine Ze ?_ GE252.out) | exact HB.out)⟩⟩
       (rw [if_pos c22] at H); (have c22b0 : decide (x43_3 < (l0_3.length : Int)) = true := decide_eq_true c22); (clear c22)
       by_cases c23 : 0 ≤ x43_3
       rotate_left
       ·rw [if_neg c23] at H
        exact absurd H (by simp)
       (rw [if_pos c23] at H); (have c23b0 : decide (0 ≤ x43_3) = true := decide_eq_true c23); (clear c23)
       by_cases c24 : x43_3 < (l0_3.length : Int)
       rotate_left
       ·rw [if_neg c24] at H
        exact absurd H (by simp)
       (rw [if_pos c24] at H); (have c24b0 : decide (x43_3 < (l0_3.length : Int)) = true := decide_eq_true c24); (clear c24); (replace H := Option.bind_eq_some_iff.mp H); (obtain ⟨t261, A250, H⟩ := H); (replace H : (if t261 = true then (Zq.l2 k3 t253 x6_3 x7_3 x8_1 l0_3 (l0_3.length : Int) x43_3 ((Zb l0_3 x43_3).f1) (((Zb l0_3 x43_3).f1).length : Int) 0 a0_0 a0_1 a0_2 l0_3 ((Zb l0_3 x43_3).f0) ((Zb l0_3 x43_3).f1)) else (Zq.l1 k3 t253 x6_3 x7_3 x8_1 l0_3 (l0_3.length : Int) (wrap64 (x43_3 + 1)) a0_0 a0_1 a0_2 l0_3)) = some r := H); (have A25 := Za.mk A250); (clear A250)
       by_cases c26 : t261 = true
       rotate_left
       ·replace c26 := Bool.eq_false_iff.mpr c26
        (subst c26); (have H1 : (Zq.l1 k3 t253 x6_3 x7_3 x8_1 l0_3 (l0_3.length : Int) (wrap64 (x43_3 + 1)) a0_0 a0_1 a0_2 l0_3) = some r := by rw [if_neg (show ¬ (false = true) by decide)] at H; exact H); (clear H); (have H := H1); (clear H1); (have H' := Za.mk H); (clear H); (have p259 : 0 ≤ (x43_3 : Int) := of_decide_eq_true (by assumption)); (have q259 : x43_3 < (l0_3.length : Int) := of_decide_eq_true (by assumption)); (obtain ⟨ad259, A259_1, c259_1, e259, hx259_0, hx259_1, hl259_1, hi259_1⟩ := at_T38 HR0_3.out x43_3 p259 q259); (cases e259); (replace hx259_0 := (HB.out.cell (World.block_lt_of_cell? w _ hx259_0)).trans hx259_0); (replace hx259_1 := (HB.out.cell (World.block_lt_of_cell? w _ hx259_1)).trans hx259_1); (have HR259_1 := Za.mk hi259_1); (have HC259_1 := Za.mk hl259_1); (clear hi259_1 hl259_1); (replace p259 := eq_true p259); (replace q259 := eq_true q259)
        go_wp2_with (first | ((with_reducible refine Zb1 (N := 10) rfl ?_); refine Zc1 ?hg (N := 10) ?hd (cs := #[.int .i64 0, .slice none 0 0]) (t := 38) ?hr ?_; (case hd => rfl); (case hg => rfl); (case hr => first | (go_simp; done) | (go_simp; rfl)); intro gb260 hg w71 hbox hb; have n0_ := Za.mk (Kd.R_below (by (with_reducible repeat (first | apply Kd.R_alloc | apply Kd.R_drewN | apply Kd.R_drew)); exact HO_6.out) hb); have n1_ := Za.mk (Zp (g := gb252) (o := .cells #[.int .i64 a0_0, .int .i64 a0_1, .int .i64 a0_2, .slice (some ad259) l0_3.length c0_3] 24 (0, 0)) (by (with_reducible repeat (first | refine Zj ?_ _ | refine Zf ?_ | refine Zi ?_ _)); exact BK252.out) hb); have n2_ := Za.mk (Zr (by repeat (first | (with_reducible first | exact HB.out | apply Zh | apply Zk | apply Zg | refine Ze ?_ GE252.out) | exact HB.out)) hb); have n3_ := Za.mk (hbox); have n4_ := Za.mk ((by rw [hg]; exact (Zo (by repeat (first | (with_reducible first | exact HB.out | apply Zh | apply Zk | apply Zg | refine Ze ?_ GE252.out) | exact HB.out))) : w.heap.size ≤ gb260)); have n5_ := Za.mk ((by rw [hg]; exact (Zo (by repeat (first | (with_reducible first | exact HB.out | apply Zh | apply Zk | apply Zg | refine Ze ?_ GE252.out) | exact HB.out))) : w.heap.size ≤ gb260)); have n6_ := Za.mk ((by rw [hg]; exact Nat.ne_of_lt (Zx (g := gb252) (o := .cells #[.int .i64 a0_0, .int .i64 a0_1, .int .i64 a0_2, .slice (some ad259) l0_3.length c0_3] 24 (0, 0)) (by (with_reducible repeat (first | refine Zj ?_ _ | refine Zf ?_ | refine Zi ?_ _)); exact BK252.out)) : gb252 ≠ gb260)); have n7_ := Za.mk ((by rw [hg]; exact Nat.ne_of_gt (Zx (g := gb252) (o := .cells #[.int .i64 a0_0, .int .i64 a0_1, .int .i64 a0_2, .slice (some ad259) l0_3.length c0_3] 24 (0, 0)) (by (with_reducible repeat (first | refine Zj ?_ _ | refine Zf ?_ | refine Zi ?_ _)); exact BK252.out)) : gb260 ≠ gb252)); clear HO_6; clear BK252; clear HB; have HO_6 := n0_; have BK252 := n1_; have HB := n2_; have BK260 := n3_; have GW260 := n4_; have GE260 := n5_; have NB252_260 := n6_; have NB260_252 := n7_; clear n0_ n1_ n2_ n3_ n4_ n5_ n6_ n7_; clear hb hbox hg; have hnb72 := NB260_252.out; have hnc72 := NB252_260.out; have hcz73_0 : w71.cell? ⟨gb260, 0, none⟩ = some (.int .i64 0) := (Zc BK260.out 0).trans rfl; have hcz73_1 : w71.cell? ⟨gb260, 1, none⟩ = some (.slice none 0 0) := (Zc BK260.out 1).trans rfl; have hfz73_0 := Zd BK260.out 0; have hfz73_1 := Zd BK260.out 1) | ((with_reducible refine Zp1 (f := 62) rfl ?_); refine goesL_ (some 50) rfl rfl Try.func62 (by kernel_rfl) rfl #[.int .u32 t253, .int .i64 ((Zb l0_3 x43_3).f0)] rfl (by (try simp only [List.map_toArray, List.map_cons, List.map_nil]); first | done | rfl | (simp only [List.length_drop, List.length_take]; rfl)) ?_; (with_reducible refine (Zt1.calls t253 ((Zb l0_3 x43_3).f0) false _ A25.out).mono ?_); rintro e w' ⟨rfl, ⟨nd, rfl⟩⟩; refine ⟨_, rfl, ?_⟩))
        go_roundg k3
        case measure => have := HK1.out; have := HJ12.out; have := HK3.out; omega
        case rel => exact ⟨(x6_3), (x7_3), (wrap64 (x43_3 + 1)), (by first | rfl | (simp; done) | (simp [*]; done)), (by first | rfl | (simp; done) | (simp [*]; done)), H', ⟨by have := HK1.out; have := HJ12.out; have := HK3.out; omega⟩, ⟨by (with_reducible repeat (first | apply Kd.R_alloc | apply Kd.R_drewN | apply Kd.R_drew)); exact Kd.R_mono (Kd.R_far (p := ⟨gb260, 1, none⟩) (Kd.R_far (p := ⟨gb260, 0, none⟩) (Kd.R_types HO_6.out BK260.out (by decide)) (fun _ hk => hk.2) (.int .i64 ((Zb l0_3 x43_3).f0))) (fun _ hk => hk.2) (.slice A259_1 ((Zb l0_3 x43_3).f1).length c259_1)) (fun _ hk => trivial)⟩, ⟨by (with_reducible repeat (first | refine Zj ?_ _ | refine Zf ?_ | refine Zi ?_ _)); refine Zd1 ?_ NB252_260.out _; (with_reducible repeat (first | refine Zj ?_ _ | refine Zf ?_ | refine Zi ?_ _)); refine Zd1 ?_ NB252_260.out _; (with_reducible repeat (first | refine Zj ?_ _ | refine Zf ?_ | refine Zi ?_ _)); exact BK252.out⟩, ⟨by repeat (first | (with_reducible first | exact HB.out | apply Zh | apply Zk | apply Zg | refine Ze ?_ GE252.out | refine Ze ?_ GE260.out) | exact HB.out)⟩⟩
       (subst c26); (have H1 : (Zq.l2 k3 t253 x6_3 x7_3 x8_1 l0_3 (l0_3.length : Int) x43_3 ((Zb l0_3 x43_3).f1) (((Zb l0_3 x43_3).f1).length : Int) 0 a0_0 a0_1 a0_2 l0_3 ((Zb l0_3 x43_3).f0) ((Zb l0_3 x43_3).f1)) = some r := by rw [if_pos rfl] at H; exact H); (clear H); (have H := H1); (clear H1); (have H' := Za.mk H); (clear H); (have p259 : 0 ≤ (x43_3 : Int) := of_decide_eq_true (by assumption)); (have q259 : x43_3 < (l0_3.length : Int) := of_decide_eq_true (by assumption)); (obtain ⟨ad259, A259_1, c259_1, e259, hx259_0, hx259_1, hl259_1, hi259_1⟩ := at_T38 HR0_3.out x43_3 p259 q259); (cases e259); (replace hx259_0 := (HB.out.cell (World.block_lt_of_cell? w _ hx259_0)).trans hx259_0); (replace hx259_1 := (HB.out.cell (World.block_lt_of_cell? w _ hx259_1)).trans hx259_1); (have HR259_1 := Za.mk hi259_1); (have HC259_1 := Za.mk hl259_1); (clear hi259_1 hl259_1); (replace p259 := eq_true p259); (replace q259 := eq_true q259)
       go_wp2_with (first | ((with_reducible refine Zb1 (N := 10) rfl ?_); refine Zc1 ?hg (N := 10) ?hd (cs := #[.int .i64 0, .slice none 0 0]) (t := 38) ?hr ?_; (case hd => rfl); (case hg => rfl); (case hr => first | (go_simp; done) | (go_simp; rfl)); intro gb260 hg w27 hbox hb; have n0_ := Za.mk (Kd.R_below (by (with_reducible repeat (first | apply Kd.R_alloc | apply Kd.R_drewN | apply Kd.R_drew)); exact HO_6.out) hb); have n1_ := Za.mk (Zp (g := gb252) (o := .cells #[.int .i64 a0_0, .int .i64 a0_1, .int .i64 a0_2, .slice (some ad259) l0_3.length c0_3] 24 (0, 0)) (by (with_reducible repeat (first | refine Zj ?_ _ | refine Zf ?_ | refine Zi ?_ _)); exact BK252.out) hb); have n2_ := Za.mk (Zr (by repeat (first | (with_reducible first | exact HB.out | apply Zh | apply Zk | apply Zg | refine Ze ?_ GE252.out) | exact HB.out)) hb); have n3_ := Za.mk (hbox); have n4_ := Za.mk ((by rw [hg]; exact (Zo (by repeat (first | (with_reducible first | exact HB.out | apply Zh | apply Zk | apply Zg | refine Ze ?_ GE252.out) | exact HB.out))) : w.heap.size ≤ gb260)); have n5_ := Za.mk ((by rw [hg]; exact (Zo (by repeat (first | (with_reducible first | exact HB.out | apply Zh | apply Zk | apply Zg | refine Ze ?_ GE252.out) | exact HB.out))) : w.heap.size ≤ gb260)); have n6_ := Za.mk ((by rw [hg]; exact Nat.ne_of_lt (Zx (g := gb252) (o := .cells #[.int .i64 a0_0, .int .i64 a0_1, .int .i64 a0_2, .slice (some ad259) l0_3.length c0_3] 24 (0, 0)) (by (with_reducible repeat (first | refine Zj ?_ _ | refine Zf ?_ | refine Zi ?_ _)); exact BK252.out)) : gb252 ≠ gb260)); have n7_ := Za.mk ((by rw [hg]; exact Nat.ne_of_gt (Zx (g := gb252) (o := .cells #[.int .i64 a0_0, .int .i64 a0_1, .int .i64 a0_2, .slice (some ad259) l0_3.length c0_3] 24 (0, 0)) (by (with_reducible repeat (first | refine Zj ?_ _ | refine Zf ?_ | refine Zi ?_ _)); exact BK252.out)) : gb260 ≠ gb252)); clear HO_6; clear BK252; clear HB; have HO_6 := n0_; have BK252 := n1_; have HB := n2_; have BK260 := n3_; have GW260 := n4_; have GE260 := n5_; have NB252_260 := n6_; have NB260_252 := n7_; clear n0_ n1_ n2_ n3_ n4_ n5_ n6_ n7_; clear hb hbox hg; have hnb28 := NB260_252.out; have hnc28 := NB252_260.out; have hcz29_0 : w27.cell? ⟨gb260, 0, none⟩ = some (.int .i64 0) := (Zc BK260.out 0).trans rfl; have hcz29_1 : w27.cell? ⟨gb260, 1, none⟩ = some (.slice none 0 0) := (Zc BK260.out 1).trans rfl; have hfz29_0 := Zd BK260.out 0; have hfz29_1 := Zd BK260.out 1) | ((with_reducible refine Zp1 (f := 62) rfl ?_); refine goesL_ (some 50) rfl rfl Try.func62 (by kernel_rfl) rfl #[.int .u32 t253, .int .i64 ((Zb l0_3 x43_3).f0)] rfl (by (try simp only [List.map_toArray, List.map_cons, List.map_nil]); first | done | rfl | (simp only [List.length_drop, List.length_take]; rfl)) ?_; (with_reducible refine (Zt1.calls t253 ((Zb l0_3 x43_3).f0) true _ A25.out).mono ?_); rintro e w' ⟨rfl, ⟨nd, rfl⟩⟩; refine ⟨_, rfl, ?_⟩))
       go_loopg [6, 7, 55] k3 (fun kq v6 v7 v55 w' => ∃ (x6_4 : List Int) (x7_4 : Int) (x55_4 : Int), v7 = .int .u32 x7_4 ∧ v55 = .int .i64 x55_4 ∧ Za (Zq.l2 kq t253 x6_4 x7_4 x8_1 l0_3 (l0_3.length : Int) x43_3 ((Zb l0_3 x43_3).f1) (((Zb l0_3 x43_3).f1).length : Int) x55_4 a0_0 a0_1 a0_2 l0_3 ((Zb l0_3 x43_3).f0) ((Zb l0_3 x43_3).f1) = some r) ∧ Za (kq ≤ k3) ∧ Za (Kd.R (Kd.int .i64) 3 w' w.heap.size (fun _ => True) v6 x6_4) ∧ Za (w'.heap[gb252]? = some (.cells #[.int .i64 a0_0, .int .i64 a0_1, .int .i64 a0_2, (.slice (some ad259) l0_3.length c0_3)] 24 (0, 0))) ∧ Za (w'.heap[gb260]? = some (.cells #[.int .i64 ((Zb l0_3 x43_3).f0), (.slice A259_1 ((Zb l0_3 x43_3).f1).length c259_1)] 38 (0, 0))) ∧ Za (Below w.heap.size w w'))
       case atStart => exact ⟨(x6_3), (x7_3), (0), (by first | rfl | (simp; done) | (simp [*]; done)), (by first | rfl | (simp; done) | (simp [*]; done)), H', ⟨Nat.le_refl _⟩, ⟨by (with_reducible repeat (first | apply Kd.R_alloc | apply Kd.R_drewN | apply Kd.R_drew)); exact Kd.R_mono (Kd.R_far (p := ⟨gb260, 1, none⟩) (Kd.R_far (p := ⟨gb260, 0, none⟩) (Kd.R_types HO_6.out BK260.out (by decide)) (fun _ hk => hk.2) (.int .i64 ((Zb l0_3 x43_3).f0))) (fun _ hk => hk.2) (.slice A259_1 ((Zb l0_3 x43_3).f1).length c259_1)) (fun _ hk => trivial)⟩, ⟨by (with_reducible repeat (first | refine Zj ?_ _ | refine Zf ?_ | refine Zi ?_ _)); refine Zd1 ?_ NB252_260.out _; (with_reducible repeat (first | refine Zj ?_ _ | refine Zf ?_ | refine Zi ?_ _)); refine Zd1 ?_ NB252_260.out _; (with_reducible repeat (first | refine Zj ?_ _ | refine Zf ?_ | refine Zi ?_ _)); exact BK252.out⟩, ⟨by (with_reducible repeat (first | refine Zj ?_ _ | refine Zf ?_ | refine Zi ?_ _)); refine blk_put (cs := #[.int .i64 ((Zb l0_3 x43_3).f0), .slice none 0 0]) ?_ 1 _ rfl; (with_reducible repeat (first | refine Zj ?_ _ | refine Zf ?_ | refine Zi ?_ _)); refine blk_put (cs := #[.int .i64 0, .slice none 0 0]) ?_ 0 _ rfl; (with_reducible repeat (first | refine Zj ?_ _ | refine Zf ?_ | refine Zi ?_ _)); exact BK260.out⟩, ⟨by repeat (first | (with_reducible first | exact HB.out | apply Zh | apply Zk | apply Zg | refine Ze ?_ GE252.out | refine Ze ?_ GE260.out) | exact HB.out)⟩⟩
       case round =>
        (clear H'); (try clear c1); (try clear c2); (try clear p2); (try clear q2); (try clear hx2); (try clear c3); (try clear c5); (try clear c6); (try clear p6); (try clear c11); (try clear c11b0); (try clear c12); (try clear c12b0); (try clear c16); (try clear c16b0); (try clear c16b1); (try clear c18); (try clear c18b0); (try clear c18b1); (try clear c22); (try clear c22b0); (try clear c23); (try clear c23b0); (try clear c24); (try clear c24b0); (try clear c25); (try clear p25); (try clear q25); (try clear hx25); (try clear c26); (try clear c28); (try clear hcz20_0); (try clear hcz20_1); (try clear hcz20_2); (try clear hcz20_3); (try clear hcz21_0); (try clear hcz21_1); (try clear hcz21_2); (try clear hcz21_3); (try clear hcz29_0); (try clear hcz29_1); (try clear hcz7_0); (try clear hcz7_1); (try clear hcz7_2); (try clear hcz7_3); (try clear hfz20_0); (try clear hfz20_1); (try clear hfz20_2); (try clear hfz20_3); (try clear hfz21_0); (try clear hfz21_1); (try clear hfz21_2); (try clear hfz21_3); (try clear hfz29_0); (try clear hfz29_1); (try clear hfz7_0); (try clear hfz7_1); (try clear hfz7_2); (try clear hfz7_3); (try clear hx258_0); (try clear hx259_0); (try clear hx259_1); (try clear p2); (try clear p258); (try clear p259); (try clear q2); (try clear q258); (try clear q259); (obtain ⟨x6_4, x7_4, x55_4, rfl, rfl, HA, HK4, HO_6, BK252, BK260, HB⟩ := hrel)
        cases gk with
        | zero => exact absurd HA.out (by simp [Zq.l2])
        | succ k4 =>
         (have H := HA.out); (clear HA); (simp only [Zq.l2] at H)
         by_cases c30 : x55_4 < (((Zb l0_3 x43_3).f1).length : Int)
         rotate_left
         ·rw [if_neg c30] at H
          (have c30b0 : decide (x55_4 < (((Zb l0_3 x43_3).f1).length : Int)) = false := decide_eq_false c30); (clear c30); (have H' := Za.mk H); (clear H)
          go_wp2
          go_roundg k4
          case measure => have := HK1.out; have := HJ12.out; have := HK3.out; have := HK4.out; omega
          case rel => exact ⟨(x6_4), (x7_4), (wrap64 (x43_3 + 1)), (by first | rfl | (simp; done) | (simp [*]; done)), (by first | rfl | (simp; done) | (simp [*]; done)), H', ⟨by have := HK1.out; have := HJ12.out; have := HK3.out; have := HK4.out; omega⟩, ⟨by (with_reducible repeat (first | apply Kd.R_alloc | apply Kd.R_drewN | apply Kd.R_drew)); exact HO_6.out⟩, ⟨by (with_reducible repeat (first | refine Zj ?_ _ | refine Zf ?_ | refine Zi ?_ _)); exact BK252.out⟩, ⟨by repeat (first | (with_reducible first | exact HB.out | apply Zh | apply Zk | apply Zg | refine Ze ?_ GE252.out | refine Ze ?_ GE260.out) | exact HB.out)⟩⟩
         (rw [if_pos c30] at H); (have c30b0 : decide (x55_4 < (((Zb l0_3 x43_3).f1).length : Int)) = true := decide_eq_true c30); (clear c30)
         by_cases c31 : 0 ≤ x55_4
         rotate_left
         ·rw [if_neg c31] at H
          exact absurd H (by simp)
         (rw [if_pos c31] at H); (have c31b0 : decide (0 ≤ x55_4) = true := decide_eq_true c31); (clear c31)
         by_cases c32 : x55_4 < (((Zb l0_3 x43_3).f1).length : Int)
         rotate_left
         ·rw [if_neg c32] at H
          exact absurd H (by simp)
         (rw [if_pos c32] at H); (have c32b0 : decide (x55_4 < (((Zb l0_3 x43_3).f1).length : Int)) = true := decide_eq_true c32); (clear c32)
         by_cases c33 : 0 ≤ x8_1
         rotate_left
         ·rw [if_neg c33] at H
          exact absurd H (by simp)
         (rw [if_pos c33] at H); (have c33b0 : decide (0 ≤ x8_1) = true := decide_eq_true c33); (clear c33)
         by_cases c34 : x8_1 < (x6_4.length : Int)
         rotate_left
         ·rw [if_neg c34] at H
          exact absurd H (by simp)
         (rw [if_pos c34] at H); (have c34b0 : decide (x8_1 < (x6_4.length : Int)) = true := decide_eq_true c34); (clear c34)
         by_cases c35 : (rd ((Zb l0_3 x43_3).f1) x55_4) = (wrap64 (a0_0 + (rd x6_4 x8_1)))
         rotate_left
         ·rw [if_neg c35] at H
          (have c35b0 : ((rd ((Zb l0_3 x43_3).f1) x55_4) == (wrap64 (a0_0 + (rd x6_4 x8_1)))) = false := beq_eq_false_iff_ne.mpr c35); (have c35b1 : ((rd ((Zb l0_3 x43_3).f1) x55_4) != (wrap64 (a0_0 + (rd x6_4 x8_1)))) = true := bne_iff_ne.mpr c35); (have H' := Za.mk H); (clear H); (have p262 : 0 ≤ (x55_4 : Int) := of_decide_eq_true (by assumption)); (have q262 : x55_4 < (((Zb l0_3 x43_3).f1).length : Int) := of_decide_eq_true (by assumption)); (obtain ⟨ad262, e262, hx262_0⟩ := Kd.at_int HR259_1.out x55_4 p262 q262); (cases e262); (replace hx262_0 := (HB.out.cell (World.block_lt_of_cell? w _ hx262_0)).trans hx262_0); (replace p262 := eq_true p262); (replace q262 := eq_true q262)
          try go_wp2
          (have n0_ := Za.mk (Kd.R_drew HO_6.out)); (have n1_ := Za.mk (Zf BK252.out)); (have n2_ := Za.mk (Zf BK260.out)); (have n3_ := Za.mk (Zg HB.out)); (clear HO_6); (clear BK252); (clear BK260); (clear HB); (have HO_6 := n0_); (have BK252 := n1_); (have BK260 := n2_); (have HB := n3_); (clear n0_ n1_ n2_ n3_); (obtain ⟨Ao70, co70, eo70⟩ := Kd.R_slice HO_6.out)
          (first | subst eo70 | (injection eo70 with f1_ f2_ f3_; have f4_ := f1_.symm; have f5_ := f3_.symm; clear f1_ f2_ f3_; subst f4_; subst f5_))
          (have p263 : 0 ≤ (x8_1 : Int) := of_decide_eq_true (by assumption)); (have q263 : x8_1 < (x6_4.length : Int) := of_decide_eq_true (by assumption)); (obtain ⟨ad263, e263, hx263_0⟩ := Kd.at_int (Kd.R_reads' HO_6.out).2.2 x8_1 p263 q263); (cases e263); (replace p263 := eq_true p263); (replace q263 := eq_true q263)
          refine start_ (n := 9) (S := fun w' => w'.cell? ⟨gb252, 0, none⟩ = some (.int .i64 a0_0) ∧ w'.cell? ⟨gb252, 1, none⟩ = some (.int .i64 a0_1) ∧ w'.cell? ⟨gb252, 2, none⟩ = some (.int .i64 a0_2) ∧ w'.cell? ⟨gb252, 3, none⟩ = some (.slice (some ad259) l0_3.length c0_3) ∧ w'.cell? (ad263.add (x8_1).toNat) = some (.int .i64 (rd x6_4 x8_1))) (ds := []) #[false, false, false, false, false, false, false, false, false] (by kernel_rfl) rfl rfl ⟨(Zc BK252.out 0).trans rfl, (Zc BK252.out 1).trans rfl, (Zc BK252.out 2).trans rfl, (Zc BK252.out 3).trans rfl, hx263_0⟩ (fun hHeld => ?_); refine with_tabW Zq.tab18 Zq.bits18 (fun HT_ HW_ => ?_)
          generalize wr.drew = w69 at HO_6 BK252 BK260 HB hx263_0 hHeld ⊢
          refine pure_ (i := 0) (N := some 60) (v := ?_) (a' := ?_) #[true, false, false, false, false, false, false, false, false] rfl rfl (Zn HT_.out (by kernel_rfl)) (fun _ _ _ h => h) (Or.inl ⟨by rfl, ?_⟩) ?_ ?_
          rotate_left
          ·intro w'
           go_simp
           with_reducible rfl
          rotate_left
          ·simp only [Act.put, List.setIfInBounds_toArray, List.set_cons_zero, List.set_cons_succ, Zl, Zm]
           rfl
          refine pure_ (i := 1) (N := some 61) (v := ?_) (a' := ?_) #[true, true, false, false, false, false, false, false, false] rfl rfl (Zn HT_.out (by kernel_rfl)) (fun _ _ _ h => h) (Or.inl ⟨by rfl, ?_⟩) ?_ ?_
          rotate_left
          ·intro w'
           go_simp
           with_reducible rfl
          rotate_left
          ·simp only [Act.put, List.setIfInBounds_toArray, List.set_cons_zero, List.set_cons_succ, Zl, Zm]
           rfl
          refine pure_ (i := 3) (N := some 63) (v := ?_) (a' := ?_) #[true, true, false, true, false, false, false, false, false] rfl rfl (Zn HT_.out (by kernel_rfl)) (fun _ _ _ h => h) (Or.inl ⟨by rfl, ?_⟩) ?_ ?_
          rotate_left
          ·intro w'
           go_simp
           with_reducible rfl
          rotate_left
          ·simp only [Act.put, List.setIfInBounds_toArray, List.set_cons_zero, List.set_cons_succ, Zl, Zm]
           rfl
          refine pure_ (i := 4) (N := some 64) (v := ?_) (a' := ?_) #[true, true, false, true, true, false, false, false, false] rfl rfl (Zn HT_.out (by kernel_rfl)) (fun _ _ _ h => h) (Or.inl ⟨by rfl, ?_⟩) ?_ ?_
          rotate_left
          ·intro w'
           go_simp
           with_reducible rfl
          rotate_left
          ·simp only [Act.put, List.setIfInBounds_toArray, List.set_cons_zero, List.set_cons_succ, Zl, Zm]
           rfl
          refine pure_ (i := 5) (N := some 65) (v := ?_) (a' := ?_) #[true, true, false, true, true, true, false, false, false] rfl rfl (Zn HT_.out (by kernel_rfl)) (fun _ _ _ h => h) (Or.inl ⟨by rfl, ?_⟩) ?_ ?_
          rotate_left
          ·intro w'
           go_simp
           with_reducible rfl
          rotate_left
          ·simp only [Act.put, List.setIfInBounds_toArray, List.set_cons_zero, List.set_cons_succ, Zl, Zm]
           rfl
          refine take_ (i := 2) (N := some 62) (v := ?_) (a' := ?_) #[true, true, true, true, true, true, false, false, false] rfl rfl (Zk1 HT_.out HW_.out (by kernel_rfl)) (fun _ _ _ h => h) (Or.inl ⟨by rfl, ?_⟩) hHeld ?_ ?_
          rotate_left
          ·rintro w' ⟨s0, s1, s2, s3, s4⟩
           go_simp
           with_reducible rfl
          rotate_left
          ·simp only [Act.put, List.setIfInBounds_toArray, List.set_cons_zero, List.set_cons_succ, Zl, Zm]
           rfl
          refine take_ (i := 6) (N := some 66) (v := ?_) (a' := ?_) #[true, true, true, true, true, true, true, false, false] rfl rfl (Zk1 HT_.out HW_.out (by kernel_rfl)) (fun _ _ _ h => h) (Or.inl ⟨by rfl, ?_⟩) hHeld ?_ ?_
          rotate_left
          ·rintro w' ⟨s0, s1, s2, s3, s4⟩
           go_simp
           with_reducible rfl
          rotate_left
          ·simp only [Act.put, List.setIfInBounds_toArray, List.set_cons_zero, List.set_cons_succ, Zl, Zm]
           rfl
          refine pure_ (i := 7) (N := some 67) (v := ?_) (a' := ?_) #[true, true, true, true, true, true, true, true, false] rfl rfl (Zn HT_.out (by kernel_rfl)) (fun _ _ _ h => h) (Or.inl ⟨by rfl, ?_⟩) ?_ ?_
          rotate_left
          ·intro w'
           go_simp
           with_reducible rfl
          rotate_left
          ·simp only [Act.put, List.setIfInBounds_toArray, List.set_cons_zero, List.set_cons_succ, Zl, Zm]
           rfl
          refine pure_ (i := 8) (N := some 68) (v := ?_) (a' := ?_) #[true, true, true, true, true, true, true, true, true] rfl rfl (Zn HT_.out (by kernel_rfl)) (fun _ _ _ h => h) (Or.inl ⟨by rfl, ?_⟩) ?_ ?_
          rotate_left
          ·intro w'
           go_simp
           with_reducible rfl
          rotate_left
          ·simp only [Act.put, List.setIfInBounds_toArray, List.set_cons_zero, List.set_cons_succ, Zl, Zm]
           rfl
          refine done_ (done_of HT_.out (by kernel_rfl)) ?_
          try go_wp2
          go_roundg k4
          case measure => have := HK1.out; have := HJ12.out; have := HK3.out; have := HK4.out; omega
          case rel => exact ⟨(x6_4), (x7_4), (wrap64 (x55_4 + 1)), (by first | rfl | (simp; done) | (simp [*]; done)), (by first | rfl | (simp; done) | (simp [*]; done)), H', ⟨by have := HK1.out; have := HJ12.out; have := HK3.out; have := HK4.out; omega⟩, ⟨by (with_reducible repeat (first | apply Kd.R_alloc | apply Kd.R_drewN | apply Kd.R_drew)); exact HO_6.out⟩, ⟨by (with_reducible repeat (first | refine Zj ?_ _ | refine Zf ?_ | refine Zi ?_ _)); exact BK252.out⟩, ⟨by (with_reducible repeat (first | refine Zj ?_ _ | refine Zf ?_ | refine Zi ?_ _)); exact BK260.out⟩, ⟨by repeat (first | (with_reducible first | exact HB.out | apply Zh | apply Zk | apply Zg | refine Ze ?_ GE252.out | refine Ze ?_ GE260.out) | exact HB.out)⟩⟩
         (rw [if_pos c35] at H); (have c35b0 : ((rd ((Zb l0_3 x43_3).f1) x55_4) == (wrap64 (a0_0 + (rd x6_4 x8_1)))) = true := beq_iff_eq.mpr c35); (have c35b1 : ((rd ((Zb l0_3 x43_3).f1) x55_4) != (wrap64 (a0_0 + (rd x6_4 x8_1)))) = false := bne_eq_false_iff_eq.mpr c35); (clear c35); (obtain ⟨ji36, hji36⟩ : ∃ j_ : Int, (wrap64 (x55_4 + 1)) = j_ := ⟨_, rfl⟩); (replace H : (if 0 ≤ (ji36) then (if (ji36) ≤ (((Zb l0_3 x43_3).f1).length : Int) then ((some (((Zb l0_3 x43_3).f1).drop ((ji36) : Int).toNat : List Int)).bind fun y264 => ((Zv.f k4 a0_0 a0_1 a0_2 l0_3 y264).bind fun t268 => ((Zl1.f k4 a0_0 a0_1 a0_2 l0_3 y264).bind fun t269 => (if t269 = true then ((Zy.f k4 x6_4 ((Zb l0_3 x43_3).f0)).bind fun t270 => (if t270 = true then (Zq.l2 k4 t253 x6_4 (Go.bits .or .u32 x7_4 t268) x8_1 l0_3 (l0_3.length : Int) x43_3 ((Zb l0_3 x43_3).f1) (((Zb l0_3 x43_3).f1).length : Int) ji36 a0_0 a0_1 a0_2 l0_3 ((Zb l0_3 x43_3).f0) ((Zb l0_3 x43_3).f1)) else (if x6_4.length < 17592186044416 then (Zq.l2 k4 t253 (x6_4 ++ [((Zb l0_3 x43_3).f0)]) (Go.bits .or .u32 x7_4 t268) x8_1 l0_3 (l0_3.length : Int) x43_3 ((Zb l0_3 x43_3).f1) (((Zb l0_3 x43_3).f1).length : Int) ji36 a0_0 a0_1 a0_2 l0_3 ((Zb l0_3 x43_3).f0) ((Zb l0_3 x43_3).f1)) else (none)))) else (Zq.l2 k4 t253 x6_4 (Go.bits .or .u32 x7_4 t268) x8_1 l0_3 (l0_3.length : Int) x43_3 ((Zb l0_3 x43_3).f1) (((Zb l0_3 x43_3).f1).length : Int) ji36 a0_0 a0_1 a0_2 l0_3 ((Zb l0_3 x43_3).f0) ((Zb l0_3 x43_3).f1)))))) else (none)) else (none)) = some r := by first | (rw [hji36] at H; exact H) | (simp only [hji36] at H ⊢; exact H))
         have hji36w : (IntKind.i64.wrap (x55_4 + 1)) = ji36 := (Zl _).trans hji36
         by_cases c37 : 0 ≤ (ji36)
         rotate_left
         ·rw [if_neg c37] at H
          exact absurd H (by simp)
         (rw [if_pos c37] at H); (have c37b0 := eq_true c37); (have c37b1 : decide (0 ≤ (ji36)) = true := decide_eq_true c37); (clear c37)
         by_cases c38 : (ji36) ≤ (((Zb l0_3 x43_3).f1).length : Int)
         rotate_left
         ·rw [if_neg c38] at H
          exact absurd H (by simp)
         (rw [if_pos c38] at H); (have c38b0 := eq_true c38); (have c38b1 : decide ((ji36) ≤ (((Zb l0_3 x43_3).f1).length : Int)) = true := decide_eq_true c38); (clear c38); (obtain ⟨y264, hy264⟩ : ∃ y_ : List Int, y_ = (((Zb l0_3 x43_3).f1).drop ((ji36) : Int).toNat) := ⟨_, rfl⟩); (replace H : ((Zv.f k4 a0_0 a0_1 a0_2 l0_3 y264).bind fun t268 => ((Zl1.f k4 a0_0 a0_1 a0_2 l0_3 y264).bind fun t269 => (if t269 = true then ((Zy.f k4 x6_4 ((Zb l0_3 x43_3).f0)).bind fun t270 => (if t270 = true then (Zq.l2 k4 t253 x6_4 (Go.bits .or .u32 x7_4 t268) x8_1 l0_3 (l0_3.length : Int) x43_3 ((Zb l0_3 x43_3).f1) (((Zb l0_3 x43_3).f1).length : Int) ji36 a0_0 a0_1 a0_2 l0_3 ((Zb l0_3 x43_3).f0) ((Zb l0_3 x43_3).f1)) else (if x6_4.length < 17592186044416 then (Zq.l2 k4 t253 (x6_4 ++ [((Zb l0_3 x43_3).f0)]) (Go.bits .or .u32 x7_4 t268) x8_1 l0_3 (l0_3.length : Int) x43_3 ((Zb l0_3 x43_3).f1) (((Zb l0_3 x43_3).f1).length : Int) ji36 a0_0 a0_1 a0_2 l0_3 ((Zb l0_3 x43_3).f0) ((Zb l0_3 x43_3).f1)) else (none)))) else (Zq.l2 k4 t253 x6_4 (Go.bits .or .u32 x7_4 t268) x8_1 l0_3 (l0_3.length : Int) x43_3 ((Zb l0_3 x43_3).f1) (((Zb l0_3 x43_3).f1).length : Int) ji36 a0_0 a0_1 a0_2 l0_3 ((Zb l0_3 x43_3).f0) ((Zb l0_3 x43_3).f1))))) = some r := by first | (rw [hy264]; with_reducible exact H) | (have H2_ := (Option.bind_some _ _).symm.trans H; rw [hy264]; with_reducible exact H2_) | (have H2_ := (Option.bind_some _ _).symm.trans H; with_reducible exact H2_) | with_reducible exact H | (rw [hy264]; exact H) | exact H)
         (have Ny264 := Za.mk hy264); (clear hy264); (replace H := Option.bind_eq_some_iff.mp H); (obtain ⟨t268, A390, H⟩ := H); (replace H : ((Zl1.f k4 a0_0 a0_1 a0_2 l0_3 y264).bind fun t269 => (if t269 = true then ((Zy.f k4 x6_4 ((Zb l0_3 x43_3).f0)).bind fun t270 => (if t270 = true then (Zq.l2 k4 t253 x6_4 (Go.bits .or .u32 x7_4 t268) x8_1 l0_3 (l0_3.length : Int) x43_3 ((Zb l0_3 x43_3).f1) (((Zb l0_3 x43_3).f1).length : Int) ji36 a0_0 a0_1 a0_2 l0_3 ((Zb l0_3 x43_3).f0) ((Zb l0_3 x43_3).f1)) else (if x6_4.length < 17592186044416 then (Zq.l2 k4 t253 (x6_4 ++ [((Zb l0_3 x43_3).f0)]) (Go.bits .or .u32 x7_4 t268) x8_1 l0_3 (l0_3.length : Int) x43_3 ((Zb l0_3 x43_3).f1) (((Zb l0_3 x43_3).f1).length : Int) ji36 a0_0 a0_1 a0_2 l0_3 ((Zb l0_3 x43_3).f0) ((Zb l0_3 x43_3).f1)) else (none)))) else (Zq.l2 k4 t253 x6_4 (Go.bits .or .u32 x7_4 t268) x8_1 l0_3 (l0_3.length : Int) x43_3 ((Zb l0_3 x43_3).f1) (((Zb l0_3 x43_3).f1).length : Int) ji36 a0_0 a0_1 a0_2 l0_3 ((Zb l0_3 x43_3).f0) ((Zb l0_3 x43_3).f1)))) = some r := H); (have A39 := Za.mk A390); (clear A390); (replace H := Option.bind_eq_some_iff.mp H); (obtain ⟨t269, A400, H⟩ := H); (replace H : (if t269 = true then ((Zy.f k4 x6_4 ((Zb l0_3 x43_3).f0)).bind fun t270 => (if t270 = true then (Zq.l2 k4 t253 x6_4 (Go.bits .or .u32 x7_4 t268) x8_1 l0_3 (l0_3.length : Int) x43_3 ((Zb l0_3 x43_3).f1) (((Zb l0_3 x43_3).f1).length : Int) ji36 a0_0 a0_1 a0_2 l0_3 ((Zb l0_3 x43_3).f0) ((Zb l0_3 x43_3).f1)) else (if x6_4.length < 17592186044416 then (Zq.l2 k4 t253 (x6_4 ++ [((Zb l0_3 x43_3).f0)]) (Go.bits .or .u32 x7_4 t268) x8_1 l0_3 (l0_3.length : Int) x43_3 ((Zb l0_3 x43_3).f1) (((Zb l0_3 x43_3).f1).length : Int) ji36 a0_0 a0_1 a0_2 l0_3 ((Zb l0_3 x43_3).f0) ((Zb l0_3 x43_3).f1)) else (none)))) else (Zq.l2 k4 t253 x6_4 (Go.bits .or .u32 x7_4 t268) x8_1 l0_3 (l0_3.length : Int) x43_3 ((Zb l0_3 x43_3).f1) (((Zb l0_3 x43_3).f1).length : Int) ji36 a0_0 a0_1 a0_2 l0_3 ((Zb l0_3 x43_3).f0) ((Zb l0_3 x43_3).f1))) = some r := H)
         (have A40 := Za.mk A400); (clear A400)
         by_cases c41 : t269 = true
         rotate_left
         ·replace c41 := Bool.eq_false_iff.mpr c41
          (subst c41); (have H1 : (Zq.l2 k4 t253 x6_4 (Go.bits .or .u32 x7_4 t268) x8_1 l0_3 (l0_3.length : Int) x43_3 ((Zb l0_3 x43_3).f1) (((Zb l0_3 x43_3).f1).length : Int) ji36 a0_0 a0_1 a0_2 l0_3 ((Zb l0_3 x43_3).f0) ((Zb l0_3 x43_3).f1)) = some r := by rw [if_neg (show ¬ (false = true) by decide)] at H; exact H); (clear H); (have H := H1); (clear H1); (have H' := Za.mk H); (clear H); (have p262 : 0 ≤ (x55_4 : Int) := of_decide_eq_true (by assumption)); (have q262 : x55_4 < (((Zb l0_3 x43_3).f1).length : Int) := of_decide_eq_true (by assumption)); (obtain ⟨ad262, e262, hx262_0⟩ := Kd.at_int HR259_1.out x55_4 p262 q262); (cases e262); (replace hx262_0 := (HB.out.cell (World.block_lt_of_cell? w _ hx262_0)).trans hx262_0); (replace p262 := eq_true p262); (replace q262 := eq_true q262)
          try go_wp2
          (have n0_ := Za.mk (Kd.R_drew HO_6.out)); (have n1_ := Za.mk (Zf BK252.out)); (have n2_ := Za.mk (Zf BK260.out)); (have n3_ := Za.mk (Zg HB.out)); (clear HO_6); (clear BK252); (clear BK260); (clear HB); (have HO_6 := n0_); (have BK252 := n1_); (have BK260 := n2_); (have HB := n3_); (clear n0_ n1_ n2_ n3_); (obtain ⟨Ao63, co63, eo63⟩ := Kd.R_slice HO_6.out)
          (first | subst eo63 | (injection eo63 with f1_ f2_ f3_; have f4_ := f1_.symm; have f5_ := f3_.symm; clear f1_ f2_ f3_; subst f4_; subst f5_))
          (have p263 : 0 ≤ (x8_1 : Int) := of_decide_eq_true (by assumption)); (have q263 : x8_1 < (x6_4.length : Int) := of_decide_eq_true (by assumption)); (obtain ⟨ad263, e263, hx263_0⟩ := Kd.at_int (Kd.R_reads' HO_6.out).2.2 x8_1 p263 q263); (cases e263); (replace p263 := eq_true p263); (replace q263 := eq_true q263)
          refine start_ (n := 9) (S := fun w' => w'.cell? ⟨gb252, 0, none⟩ = some (.int .i64 a0_0) ∧ w'.cell? ⟨gb252, 1, none⟩ = some (.int .i64 a0_1) ∧ w'.cell? ⟨gb252, 2, none⟩ = some (.int .i64 a0_2) ∧ w'.cell? ⟨gb252, 3, none⟩ = some (.slice (some ad259) l0_3.length c0_3) ∧ w'.cell? (ad263.add (x8_1).toNat) = some (.int .i64 (rd x6_4 x8_1))) (ds := []) #[false, false, false, false, false, false, false, false, false] (by kernel_rfl) rfl rfl ⟨(Zc BK252.out 0).trans rfl, (Zc BK252.out 1).trans rfl, (Zc BK252.out 2).trans rfl, (Zc BK252.out 3).trans rfl, hx263_0⟩ (fun hHeld => ?_); refine with_tabW Zq.tab18 Zq.bits18 (fun HT_ HW_ => ?_)
          generalize wr.drew = w62 at HO_6 BK252 BK260 HB hx263_0 hHeld ⊢
          refine pure_ (i := 0) (N := some 60) (v := ?_) (a' := ?_) #[true, false, false, false, false, false, false, false, false] rfl rfl (Zn HT_.out (by kernel_rfl)) (fun _ _ _ h => h) (Or.inl ⟨by rfl, ?_⟩) ?_ ?_
          rotate_left
          ·intro w'
           go_simp
           with_reducible rfl
          rotate_left
          ·simp only [Act.put, List.setIfInBounds_toArray, List.set_cons_zero, List.set_cons_succ, Zl, Zm]
           rfl
          refine pure_ (i := 1) (N := some 61) (v := ?_) (a' := ?_) #[true, true, false, false, false, false, false, false, false] rfl rfl (Zn HT_.out (by kernel_rfl)) (fun _ _ _ h => h) (Or.inl ⟨by rfl, ?_⟩) ?_ ?_
          rotate_left
          ·intro w'
           go_simp
           with_reducible rfl
          rotate_left
          ·simp only [Act.put, List.setIfInBounds_toArray, List.set_cons_zero, List.set_cons_succ, Zl, Zm]
           rfl
          refine pure_ (i := 3) (N := some 63) (v := ?_) (a' := ?_) #[true, true, false, true, false, false, false, false, false] rfl rfl (Zn HT_.out (by kernel_rfl)) (fun _ _ _ h => h) (Or.inl ⟨by rfl, ?_⟩) ?_ ?_
          rotate_left
          ·intro w'
           go_simp
           with_reducible rfl
          rotate_left
          ·simp only [Act.put, List.setIfInBounds_toArray, List.set_cons_zero, List.set_cons_succ, Zl, Zm]
           rfl
          refine pure_ (i := 4) (N := some 64) (v := ?_) (a' := ?_) #[true, true, false, true, true, false, false, false, false] rfl rfl (Zn HT_.out (by kernel_rfl)) (fun _ _ _ h => h) (Or.inl ⟨by rfl, ?_⟩) ?_ ?_
          rotate_left
          ·intro w'
           go_simp
           with_reducible rfl
          rotate_left
          ·simp only [Act.put, List.setIfInBounds_toArray, List.set_cons_zero, List.set_cons_succ, Zl, Zm]
           rfl
          refine pure_ (i := 5) (N := some 65) (v := ?_) (a' := ?_) #[true, true, false, true, true, true, false, false, false] rfl rfl (Zn HT_.out (by kernel_rfl)) (fun _ _ _ h => h) (Or.inl ⟨by rfl, ?_⟩) ?_ ?_
          rotate_left
          ·intro w'
           go_simp
           with_reducible rfl
          rotate_left
          ·simp only [Act.put, List.setIfInBounds_toArray, List.set_cons_zero, List.set_cons_succ, Zl, Zm]
           rfl
          refine take_ (i := 2) (N := some 62) (v := ?_) (a' := ?_) #[true, true, true, true, true, true, false, false, false] rfl rfl (Zk1 HT_.out HW_.out (by kernel_rfl)) (fun _ _ _ h => h) (Or.inl ⟨by rfl, ?_⟩) hHeld ?_ ?_
          rotate_left
          ·rintro w' ⟨s0, s1, s2, s3, s4⟩
           go_simp
           with_reducible rfl
          rotate_left
          ·simp only [Act.put, List.setIfInBounds_toArray, List.set_cons_zero, List.set_cons_succ, Zl, Zm]
           rfl
          refine take_ (i := 6) (N := some 66) (v := ?_) (a' := ?_) #[true, true, true, true, true, true, true, false, false] rfl rfl (Zk1 HT_.out HW_.out (by kernel_rfl)) (fun _ _ _ h => h) (Or.inl ⟨by rfl, ?_⟩) hHeld ?_ ?_
          rotate_left
          ·rintro w' ⟨s0, s1, s2, s3, s4⟩
           go_simp
           with_reducible rfl
          rotate_left
          ·simp only [Act.put, List.setIfInBounds_toArray, List.set_cons_zero, List.set_cons_succ, Zl, Zm]
           rfl
          refine pure_ (i := 7) (N := some 67) (v := ?_) (a' := ?_) #[true, true, true, true, true, true, true, true, false] rfl rfl (Zn HT_.out (by kernel_rfl)) (fun _ _ _ h => h) (Or.inl ⟨by rfl, ?_⟩) ?_ ?_
          rotate_left
          ·intro w'
           go_simp
           with_reducible rfl
          rotate_left
          ·simp only [Act.put, List.setIfInBounds_toArray, List.set_cons_zero, List.set_cons_succ, Zl, Zm]
           rfl
          refine pure_ (i := 8) (N := some 68) (v := ?_) (a' := ?_) #[true, true, true, true, true, true, true, true, true] rfl rfl (Zn HT_.out (by kernel_rfl)) (fun _ _ _ h => h) (Or.inl ⟨by rfl, ?_⟩) ?_ ?_
          rotate_left
          ·intro w'
           go_simp
           with_reducible rfl
          rotate_left
          ·simp only [Act.put, List.setIfInBounds_toArray, List.set_cons_zero, List.set_cons_succ, Zl, Zm]
           rfl
          refine done_ (done_of HT_.out (by kernel_rfl)) ?_
          try go_wp2
          (have n0_ := Za.mk (Kd.R_drew HO_6.out)); (have n1_ := Za.mk (Zf BK252.out)); (have n2_ := Za.mk (Zf BK260.out)); (have n3_ := Za.mk (Zg HB.out)); (clear HO_6); (clear BK252); (clear BK260); (clear HB); (have HO_6 := n0_); (have BK252 := n1_); (have BK260 := n2_); (have HB := n3_); (clear n0_ n1_ n2_ n3_); (have q65 : ((ji36) : Int) ≤ ((((Zb l0_3 x43_3).f1).length : Int) : Int) := of_decide_eq_true (by assumption)); (obtain ⟨i065, hi065, _, hsz65, _⟩ := info_parts info3); (have hroom65 : ((Zb l0_3 x43_3).f1).length ≤ c259_1 := HC259_1.out); (have hC65 : Kd.C (Kd.int .i64) _ (some ad262) ((Zb l0_3 x43_3).f1).length ((Zb l0_3 x43_3).f1) := HR259_1.out); (have q065 : (0 : Int) ≤ ((ji36) : Int) := of_decide_eq_true (by assumption)); (have hcut65 := cut_from (P := Try.prog) 33 3 .i64 Try.underlying33 hi065 1 hsz65 (some ad262) ((Zb l0_3 x43_3).f1).length c259_1 (ji36) q065 q65); (have hr65 := Kd.C_drop (m := ((ji36) : Int).toNat) (c := c259_1) hC65 (by omega) hroom65); (obtain ⟨A65, hA65⟩ : ∃ Aq_, Aq_ = (if c259_1 = ((ji36) : Int).toNat then (some ad262) else ((some ad262) : Option Addr).map (·.add (((ji36) : Int).toNat * 1))) := ⟨_, rfl⟩); (obtain ⟨c65, hc65⟩ : ∃ cq_, cq_ = c259_1 - ((ji36) : Int).toNat := ⟨_, rfl⟩); (have hy65 : y264.length = ((Zb l0_3 x43_3).f1).length - ((ji36) : Int).toNat := (by rw [Ny264.out, List.length_drop] <;> omega)); (rw [show (((Zb l0_3 x43_3).f1)).drop ((ji36) : Int).toNat = y264 from Ny264.out.symm] at hr65); (replace hr65 : Kd.C (Kd.int .i64) _ A65 y264.length y264 := (by rw [hA65]; exact hr65))
          (rw [← hy65, ← hA65, ← hc65] at hcut65); (have HR267 := Za.mk hr65); (have HC267 := Za.mk (show y264.length ≤ c65 from by rw [hy65, hc65]; exact Nat.sub_le_sub_right hroom65 _)); (clear hr65 hC65 hroom65 hi065 hsz65 hc65); (have KY65 := Za.mk hy65); (have KA65 := Za.mk hA65); (clear hy65 hA65); (replace q65 := eq_true q65)
          refine start_ (n := 10) (S := fun w' => w'.cell? ⟨gb252, 0, none⟩ = some (.int .i64 a0_0) ∧ w'.cell? ⟨gb252, 1, none⟩ = some (.int .i64 a0_1) ∧ w'.cell? ⟨gb252, 2, none⟩ = some (.int .i64 a0_2) ∧ w'.cell? ⟨gb252, 3, none⟩ = some (.slice (some ad259) l0_3.length c0_3) ∧ w'.cell? ⟨gb260, 0, none⟩ = some (.int .i64 ((Zb l0_3 x43_3).f0)) ∧ w'.cell? ⟨gb260, 1, none⟩ = some (.slice (some ad262) ((Zb l0_3 x43_3).f1).length c259_1)) (ds := []) #[false, false, false, false, false, false, false, false, false, false] (by kernel_rfl) rfl rfl ⟨(Zc BK252.out 0).trans rfl, (Zc BK252.out 1).trans rfl, (Zc BK252.out 2).trans rfl, (Zc BK252.out 3).trans rfl, (Zc BK260.out 0).trans rfl, (Zc BK260.out 1).trans rfl⟩ (fun hHeld => ?_); refine with_tabW Zq.tab19 Zq.bits19 (fun HT_ HW_ => ?_)
          generalize w62.drew = w64 at HO_6 BK252 BK260 HB HR267 hHeld ⊢
          refine pure_ (i := 0) (N := some 69) (v := ?_) (a' := ?_) #[true, false, false, false, false, false, false, false, false, false] rfl rfl (Zn HT_.out (by kernel_rfl)) (fun _ _ _ h => h) (Or.inl ⟨by rfl, ?_⟩) ?_ ?_
          rotate_left
          ·intro w'
           go_simp
           with_reducible rfl
          rotate_left
          ·simp only [Act.put, List.setIfInBounds_toArray, List.set_cons_zero, List.set_cons_succ, Zl, Zm]
           rfl
          refine pure_ (i := 2) (N := some 71) (v := ?_) (a' := ?_) #[true, false, true, false, false, false, false, false, false, false] rfl rfl (Zn HT_.out (by kernel_rfl)) (fun _ _ _ h => h) (Or.inl ⟨by rfl, ?_⟩) ?_ ?_
          rotate_left
          ·intro w'
           go_simp
           with_reducible rfl
          rotate_left
          ·simp only [Act.put, List.setIfInBounds_toArray, List.set_cons_zero, List.set_cons_succ, Zl, Zm]
           rfl
          refine pure_ (i := 4) (N := some 73) (v := ?_) (a' := ?_) #[true, false, true, false, true, false, false, false, false, false] rfl rfl (Zn HT_.out (by kernel_rfl)) (fun _ _ _ h => h) (Or.inl ⟨by rfl, ?_⟩) ?_ ?_
          rotate_left
          ·intro w'
           go_simp
           with_reducible rfl
          rotate_left
          ·simp only [Act.put, List.setIfInBounds_toArray, List.set_cons_zero, List.set_cons_succ, Zl, Zm]
           rfl
          refine pure_ (i := 5) (N := some 74) (v := ?_) (a' := ?_) #[true, false, true, false, true, true, false, false, false, false] rfl rfl (Zn HT_.out (by kernel_rfl)) (fun _ _ _ h => h) (Or.inl ⟨by rfl, ?_⟩) ?_ ?_
          rotate_left
          ·intro w'
           go_simp
           with_reducible rfl
          rotate_left
          ·simp only [Act.put, List.setIfInBounds_toArray, List.set_cons_zero, List.set_cons_succ, Zl, Zm]
           rfl
          refine take_ (i := 1) (N := some 70) (v := ?_) (a' := ?_) #[true, true, true, false, true, true, false, false, false, false] rfl rfl (Zk1 HT_.out HW_.out (by kernel_rfl)) (fun _ _ _ h => h) (Or.inl ⟨by rfl, ?_⟩) hHeld ?_ ?_
          rotate_left
          ·rintro w' ⟨s0, s1, s2, s3, s4, s5⟩
           go_simp
           with_reducible rfl
          rotate_left
          ·simp only [Act.put, List.setIfInBounds_toArray, List.set_cons_zero, List.set_cons_succ, Zl, Zm]
           rfl
          refine take_ (i := 3) (N := some 72) (v := ?_) (a' := ?_) #[true, true, true, true, true, true, false, false, false, false] rfl rfl (Zk1 HT_.out HW_.out (by kernel_rfl)) (fun _ _ _ h => h) (Or.inl ⟨by rfl, ?_⟩) hHeld ?_ ?_
          rotate_left
          ·rintro w' ⟨s0, s1, s2, s3, s4, s5⟩
           go_simp
           with_reducible rfl
          rotate_left
          ·simp only [Act.put, List.setIfInBounds_toArray, List.set_cons_zero, List.set_cons_succ, Zl, Zm]
           rfl
          refine pure_ (i := 6) (N := some 75) (v := ?_) (a' := ?_) #[true, true, true, true, true, true, true, false, false, false] rfl rfl (Zn HT_.out (by kernel_rfl)) (fun _ _ _ h => h) (Or.inl ⟨by rfl, ?_⟩) ?_ ?_
          rotate_left
          ·intro w'
           go_simp
           with_reducible rfl
          rotate_left
          ·simp only [Act.put, List.setIfInBounds_toArray, List.set_cons_zero, List.set_cons_succ, Zl, Zm]
           rfl
          refine one_ (i := 7) (N := some 76) #[true, true, true, true, true, true, true, true, false, false] rfl rfl (one_of HT_.out (by kernel_rfl)) (by decide) (fun K hK => ?_)
          refine goes_ Try.func36 (by kernel_rfl) rfl #[.agg #[.int .i64 a0_0, .int .i64 a0_1, .int .i64 a0_2, .slice (some ad259) l0_3.length c0_3], .slice A65 y264.length c65] (by rfl) rfl rfl (by (try simp only [List.map_toArray, List.map_cons, List.map_nil]); first | done | rfl | (simp only [List.length_drop, List.length_take]; rfl)) ?_
          with_reducible refine (Zv.calls k4 a0_0 a0_1 a0_2 _ _ l0_3 _ _ y264 t268 _ ?side1 ?side2 ?side3 ?side4 A39.out).mono ?_
          (case side1 => repeat (first | exact (Kd.C_below HR0_3.out HB.out) | (with_reducible refine Kd.C_alloc ?_ _) | (with_reducible refine Kd.C_drewN ?_ _) | (with_reducible refine Kd.C_drew ?_)))
          (case side2 => exact HC0_3.out)
          (case side3 => repeat (first | exact (Kd.C_below HR267.out HB.out) | (with_reducible refine Kd.C_alloc ?_ _) | (with_reducible refine Kd.C_drewN ?_ _) | (with_reducible refine Kd.C_drew ?_)))
          (case side4 => exact HC267.out)
          rintro e w66 ⟨rfl, hb⟩
          refine ⟨_, rfl, ?_⟩
          (have n0_ := Za.mk (Kd.R_below (by (with_reducible repeat (first | apply Kd.R_alloc | apply Kd.R_drewN | apply Kd.R_drew)); exact HO_6.out) hb)); (have n1_ := Za.mk (Zp (g := gb252) (o := .cells #[.int .i64 a0_0, .int .i64 a0_1, .int .i64 a0_2, .slice (some ad259) l0_3.length c0_3] 24 (0, 0)) (by (with_reducible repeat (first | refine Zj ?_ _ | refine Zf ?_ | refine Zi ?_ _)); exact BK252.out) hb)); (have n2_ := Za.mk (Zp (g := gb260) (o := .cells #[.int .i64 ((Zb l0_3 x43_3).f0), .slice (some ad262) ((Zb l0_3 x43_3).f1).length c259_1] 38 (0, 0)) (by (with_reducible repeat (first | refine Zj ?_ _ | refine Zf ?_ | refine Zi ?_ _)); exact BK260.out) hb)); (have n3_ := Za.mk (Zr (by repeat (first | (with_reducible first | exact HB.out | apply Zh | apply Zk | apply Zg | refine Ze ?_ GE252.out | refine Ze ?_ GE260.out) | exact HB.out)) hb)); (clear HO_6); (clear BK252); (clear BK260); (clear HB); (have HO_6 := n0_); (have BK252 := n1_); (have BK260 := n2_); (have HB := n3_); (clear n0_ n1_ n2_ n3_); ((try clear hb)); ((try clear hb2)); ((try clear hk)); ((try clear hi))
          refine hK.out _ _ ⟨(Zc BK252.out 0).trans rfl, (Zc BK252.out 1).trans rfl, (Zc BK252.out 2).trans rfl, (Zc BK252.out 3).trans rfl, (Zc BK260.out 0).trans rfl, (Zc BK260.out 1).trans rfl⟩ (fun hHeld => ?_)
          clear hK K
          refine norm_ (a' := ?_) ?_ ?_
          rotate_left
          ·show Act.put _ (some 76) _ = _
           simp only [Act.put, List.setIfInBounds_toArray, List.set_cons_zero, List.set_cons_succ, Zl, Zm]
           rfl
          refine pure_ (i := 8) (N := some 77) (v := ?_) (a' := ?_) #[true, true, true, true, true, true, true, true, true, false] rfl rfl (Zn HT_.out (by kernel_rfl)) (fun _ _ _ h => h) (Or.inl ⟨by rfl, ?_⟩) ?_ ?_
          rotate_left
          ·intro w'
           go_simp
           with_reducible rfl
          rotate_left
          ·simp only [Act.put, List.setIfInBounds_toArray, List.set_cons_zero, List.set_cons_succ, Zl, Zm]
           rfl
          refine pure_ (i := 9) (N := some 7) (v := ?_) (a' := ?_) #[true, true, true, true, true, true, true, true, true, true] rfl rfl (Zn HT_.out (by kernel_rfl)) (fun _ _ _ h => h) (Or.inl ⟨by rfl, ?_⟩) ?_ ?_
          rotate_left
          ·intro w'
           go_simp
           with_reducible rfl
          rotate_left
          ·simp only [Act.put, List.setIfInBounds_toArray, List.set_cons_zero, List.set_cons_succ, Zl, Zm]
           rfl
          refine done_ (done_of HT_.out (by kernel_rfl)) ?_
          try go_wp2
          (have n0_ := Za.mk (Kd.R_drew HO_6.out)); (have n1_ := Za.mk (Zf BK252.out)); (have n2_ := Za.mk (Zf BK260.out)); (have n3_ := Za.mk (Zg HB.out)); (clear HO_6); (clear BK252); (clear BK260); (clear HB); (have HO_6 := n0_); (have BK252 := n1_); (have BK260 := n2_); (have HB := n3_); (clear n0_ n1_ n2_ n3_)
          refine start_ (n := 14) (S := fun w' => w'.cell? ⟨gb252, 0, none⟩ = some (.int .i64 a0_0) ∧ w'.cell? ⟨gb252, 1, none⟩ = some (.int .i64 a0_1) ∧ w'.cell? ⟨gb252, 2, none⟩ = some (.int .i64 a0_2) ∧ w'.cell? ⟨gb252, 3, none⟩ = some (.slice (some ad259) l0_3.length c0_3) ∧ w'.cell? ⟨gb260, 0, none⟩ = some (.int .i64 ((Zb l0_3 x43_3).f0)) ∧ w'.cell? ⟨gb260, 1, none⟩ = some (.slice (some ad262) ((Zb l0_3 x43_3).f1).length c259_1)) (ds := []) #[false, false, false, false, false, false, false, false, false, false, false, false, false, false] (by kernel_rfl) rfl rfl ⟨(Zc BK252.out 0).trans rfl, (Zc BK252.out 1).trans rfl, (Zc BK252.out 2).trans rfl, (Zc BK252.out 3).trans rfl, (Zc BK260.out 0).trans rfl, (Zc BK260.out 1).trans rfl⟩ (fun hHeld => ?_); refine with_tabW Zq.tab20 Zq.bits20 (fun HT_ HW_ => ?_)
          generalize w66.drew = w67 at HO_6 BK252 BK260 HB hHeld ⊢
          refine pure_ (i := 1) (N := some 79) (v := ?_) (a' := ?_) #[false, true, false, false, false, false, false, false, false, false, false, false, false, false] rfl rfl (Zn HT_.out (by kernel_rfl)) (fun _ _ _ h => h) (Or.inl ⟨by rfl, ?_⟩) ?_ ?_
          rotate_left
          ·intro w'
           go_simp
           with_reducible rfl
          rotate_left
          ·simp only [Act.put, List.setIfInBounds_toArray, List.set_cons_zero, List.set_cons_succ, Zl, Zm]
           rfl
          refine pure_ (i := 3) (N := some 81) (v := ?_) (a' := ?_) #[false, true, false, true, false, false, false, false, false, false, false, false, false, false] rfl rfl (Zn HT_.out (by kernel_rfl)) (fun _ _ _ h => h) (Or.inl ⟨by rfl, ?_⟩) ?_ ?_
          rotate_left
          ·intro w'
           go_simp
           with_reducible rfl
          rotate_left
          ·simp only [Act.put, List.setIfInBounds_toArray, List.set_cons_zero, List.set_cons_succ, Zl, Zm]
           rfl
          refine pure_ (i := 4) (N := some 82) (v := ?_) (a' := ?_) #[false, true, false, true, true, false, false, false, false, false, false, false, false, false] rfl rfl (Zn HT_.out (by kernel_rfl)) (fun _ _ _ h => h) (Or.inl ⟨by rfl, ?_⟩) ?_ ?_
          rotate_left
          ·intro w'
           go_simp
           with_reducible rfl
          rotate_left
          ·simp only [Act.put, List.setIfInBounds_toArray, List.set_cons_zero, List.set_cons_succ, Zl, Zm]
           rfl
          refine take_ (i := 0) (N := some 78) (v := ?_) (a' := ?_) #[true, true, false, true, true, false, false, false, false, false, false, false, false, false] rfl rfl (Zk1 HT_.out HW_.out (by kernel_rfl)) (fun _ _ _ h => h) (Or.inl ⟨by rfl, ?_⟩) hHeld ?_ ?_
          rotate_left
          ·rintro w' ⟨s0, s1, s2, s3, s4, s5⟩
           go_simp
           with_reducible rfl
          rotate_left
          ·simp only [Act.put, List.setIfInBounds_toArray, List.set_cons_zero, List.set_cons_succ, Zl, Zm]
           rfl
          refine take_ (i := 2) (N := some 80) (v := ?_) (a' := ?_) #[true, true, true, true, true, false, false, false, false, false, false, false, false, false] rfl rfl (Zk1 HT_.out HW_.out (by kernel_rfl)) (fun _ _ _ h => h) (Or.inl ⟨by rfl, ?_⟩) hHeld ?_ ?_
          rotate_left
          ·rintro w' ⟨s0, s1, s2, s3, s4, s5⟩
           go_simp
           with_reducible rfl
          rotate_left
          ·simp only [Act.put, List.setIfInBounds_toArray, List.set_cons_zero, List.set_cons_succ, Zl, Zm]
           rfl
          refine pure_ (i := 5) (N := some 83) (v := ?_) (a' := ?_) #[true, true, true, true, true, true, false, false, false, false, false, false, false, false] rfl rfl (Zn HT_.out (by kernel_rfl)) (fun _ _ _ h => h) (Or.inl ⟨by rfl, ?_⟩) ?_ ?_
          rotate_left
          ·intro w'
           go_simp
           with_reducible rfl
          rotate_left
          ·simp only [Act.put, List.setIfInBounds_toArray, List.set_cons_zero, List.set_cons_succ, Zl, Zm]
           rfl
          refine one_ (i := 6) (N := some 84) #[true, true, true, true, true, true, true, false, false, false, false, false, false, false] rfl rfl (one_of HT_.out (by kernel_rfl)) (by decide) (fun K hK => ?_)
          refine goes_ Try.func63 (by kernel_rfl) rfl #[.agg #[.int .i64 a0_0, .int .i64 a0_1, .int .i64 a0_2, .slice (some ad259) l0_3.length c0_3], .slice A65 y264.length c65] (by rfl) rfl rfl (by (try simp only [List.map_toArray, List.map_cons, List.map_nil]); first | done | rfl | (simp only [List.length_drop, List.length_take]; rfl)) ?_
          with_reducible refine (Zl1.calls k4 a0_0 a0_1 a0_2 _ _ l0_3 _ _ y264 false _ ?side1 ?side2 ?side3 ?side4 A40.out).mono ?_
          (case side1 => repeat (first | exact (Kd.C_below HR0_3.out HB.out) | (with_reducible refine Kd.C_alloc ?_ _) | (with_reducible refine Kd.C_drewN ?_ _) | (with_reducible refine Kd.C_drew ?_)))
          (case side2 => exact HC0_3.out)
          (case side3 => repeat (first | exact (Kd.C_below HR267.out HB.out) | (with_reducible refine Kd.C_alloc ?_ _) | (with_reducible refine Kd.C_drewN ?_ _) | (with_reducible refine Kd.C_drew ?_)))
          (case side4 => exact HC267.out)
          rintro e w68 ⟨rfl, hb⟩
          refine ⟨_, rfl, ?_⟩
          (have n0_ := Za.mk (Kd.R_below (by (with_reducible repeat (first | apply Kd.R_alloc | apply Kd.R_drewN | apply Kd.R_drew)); exact HO_6.out) hb)); (have n1_ := Za.mk (Zp (g := gb252) (o := .cells #[.int .i64 a0_0, .int .i64 a0_1, .int .i64 a0_2, .slice (some ad259) l0_3.length c0_3] 24 (0, 0)) (by (with_reducible repeat (first | refine Zj ?_ _ | refine Zf ?_ | refine Zi ?_ _)); exact BK252.out) hb)); (have n2_ := Za.mk (Zp (g := gb260) (o := .cells #[.int .i64 ((Zb l0_3 x43_3).f0), .slice (some ad262) ((Zb l0_3 x43_3).f1).length c259_1] 38 (0, 0)) (by (with_reducible repeat (first | refine Zj ?_ _ | refine Zf ?_ | refine Zi ?_ _)); exact BK260.out) hb)); (have n3_ := Za.mk (Zr (by repeat (first | (with_reducible first | exact HB.out | apply Zh | apply Zk | apply Zg | refine Ze ?_ GE252.out | refine Ze ?_ GE260.out) | exact HB.out)) hb)); (clear HO_6); (clear BK252); (clear BK260); (clear HB); (have HO_6 := n0_); (have BK252 := n1_); (have BK260 := n2_); (have HB := n3_); (clear n0_ n1_ n2_ n3_); ((try clear hb)); ((try clear hb2)); ((try clear hk)); ((try clear hi))
          refine hK.out _ _ ⟨(Zc BK252.out 0).trans rfl, (Zc BK252.out 1).trans rfl, (Zc BK252.out 2).trans rfl, (Zc BK252.out 3).trans rfl, (Zc BK260.out 0).trans rfl, (Zc BK260.out 1).trans rfl⟩ (fun hHeld => ?_)
          clear hK K
          refine norm_ (a' := ?_) ?_ ?_
          rotate_left
          ·show Act.put _ (some 84) _ = _
           simp only [Act.put, List.setIfInBounds_toArray, List.set_cons_zero, List.set_cons_succ, Zl, Zm]
           rfl
          refine pure_ (i := 7) (N := some 85) (v := ?_) (a' := ?_) #[true, true, true, true, true, true, true, true, false, false, false, false, false, false] rfl rfl (Zn HT_.out (by kernel_rfl)) (fun _ _ _ h => h) (Or.inl ⟨by rfl, ?_⟩) ?_ ?_
          rotate_left
          ·intro w'
           go_simp
           with_reducible rfl
          rotate_left
          ·simp only [Act.put, List.setIfInBounds_toArray, List.set_cons_zero, List.set_cons_succ, Zl, Zm]
           rfl
          refine pure_ (i := 8) (N := some 86) (v := undef) (a' := ?_) #[true, true, true, true, true, true, true, true, true, false, false, false, false, false] rfl rfl (Zn HT_.out (by kernel_rfl)) (fun _ _ _ h => h) (Or.inr ⟨by rfl, rfl⟩) ?_ ?_
          rotate_left
          ·simp only [Act.put, List.setIfInBounds_toArray, List.set_cons_zero, List.set_cons_succ, Zl, Zm]
           rfl
          refine pure_ (i := 9) (N := some 87) (v := undef) (a' := ?_) #[true, true, true, true, true, true, true, true, true, true, false, false, false, false] rfl rfl (Zn HT_.out (by kernel_rfl)) (fun _ _ _ h => h) (Or.inr ⟨by rfl, rfl⟩) ?_ ?_
          rotate_left
          ·simp only [Act.put, List.setIfInBounds_toArray, List.set_cons_zero, List.set_cons_succ, Zl, Zm]
           rfl
          refine pure_ (i := 10) (N := some 88) (v := undef) (a' := ?_) #[true, true, true, true, true, true, true, true, true, true, true, false, false, false] rfl rfl (Zn HT_.out (by kernel_rfl)) (fun _ _ _ h => h) (Or.inr ⟨by rfl, rfl⟩) ?_ ?_
          rotate_left
          ·simp only [Act.put, List.setIfInBounds_toArray, List.set_cons_zero, List.set_cons_succ, Zl, Zm]
           rfl
          refine pure_ (i := 11) (N := some 89) (v := undef) (a' := ?_) #[true, true, true, true, true, true, true, true, true, true, true, true, false, false] rfl rfl (Zn HT_.out (by kernel_rfl)) (fun _ _ _ h => h) (Or.inr ⟨by rfl, rfl⟩) ?_ ?_
          rotate_left
          ·simp only [Act.put, List.setIfInBounds_toArray, List.set_cons_zero, List.set_cons_succ, Zl, Zm]
           rfl
          refine pure_ (i := 12) (N := some 90) (v := undef) (a' := ?_) #[true, true, true, true, true, true, true, true, true, true, true, true, true, false] rfl rfl (Zn HT_.out (by kernel_rfl)) (fun _ _ _ h => h) (Or.inr ⟨by rfl, rfl⟩) ?_ ?_
          rotate_left
          ·simp only [Act.put, List.setIfInBounds_toArray, List.set_cons_zero, List.set_cons_succ, Zl, Zm]
           rfl
          refine pure_ (i := 13) (N := some 91) (v := ?_) (a' := ?_) #[true, true, true, true, true, true, true, true, true, true, true, true, true, true] rfl rfl (Zn HT_.out (by kernel_rfl)) (fun _ _ _ h => h) (Or.inl ⟨by rfl, ?_⟩) ?_ ?_
          rotate_left
          ·intro w'
           go_simp
           with_reducible rfl
          rotate_left
          ·simp only [Act.put, List.setIfInBounds_toArray, List.set_cons_zero, List.set_cons_succ, Zl, Zm]
           rfl
          refine done_ (done_of HT_.out (by kernel_rfl)) ?_
          try go_wp2
          (first | go_roundg k4 | (simp only [← hji36]; go_roundg k4))
          case measure => have := HK1.out; have := HJ12.out; have := HK3.out; have := HK4.out; omega
          case rel => exact ⟨(x6_4), (Go.bits .or .u32 x7_4 t268), (ji36), (by first | rfl | (simp; done) | (simp [*]; done)), (by first | rfl | (simp; done) | (simp only [← hji36] <;> (first | rfl | simp)) | (simp [*]; done)), H', ⟨by have := HK1.out; have := HJ12.out; have := HK3.out; have := HK4.out; omega⟩, ⟨by (with_reducible repeat (first | apply Kd.R_alloc | apply Kd.R_drewN | apply Kd.R_drew)); exact HO_6.out⟩, ⟨by (with_reducible repeat (first | refine Zj ?_ _ | refine Zf ?_ | refine Zi ?_ _)); exact BK252.out⟩, ⟨by (with_reducible repeat (first | refine Zj ?_ _ | refine Zf ?_ | refine Zi ?_ _)); exact BK260.out⟩, ⟨by repeat (first | (with_reducible first | exact HB.out | apply Zh | apply Zk | apply Zg | refine Ze ?_ GE252.out | refine Ze ?_ GE260.out) | exact HB.out)⟩⟩
         (subst c41); (have H1 : ((Zy.f k4 x6_4 ((Zb l0_3 x43_3).f0)).bind fun t270 => (if t270 = true then (Zq.l2 k4 t253 x6_4 (Go.bits .or .u32 x7_4 t268) x8_1 l0_3 (l0_3.length : Int) x43_3 ((Zb l0_3 x43_3).f1) (((Zb l0_3 x43_3).f1).length : Int) ji36 a0_0 a0_1 a0_2 l0_3 ((Zb l0_3 x43_3).f0) ((Zb l0_3 x43_3).f1)) else (if x6_4.length < 17592186044416 then (Zq.l2 k4 t253 (x6_4 ++ [((Zb l0_3 x43_3).f0)]) (Go.bits .or .u32 x7_4 t268) x8_1 l0_3 (l0_3.length : Int) x43_3 ((Zb l0_3 x43_3).f1) (((Zb l0_3 x43_3).f1).length : Int) ji36 a0_0 a0_1 a0_2 l0_3 ((Zb l0_3 x43_3).f0) ((Zb l0_3 x43_3).f1)) else (none)))) = some r := by rw [if_pos rfl] at H; exact H); (clear H); (have H := H1); (clear H1); (replace H := Option.bind_eq_some_iff.mp H); (obtain ⟨t270, A420, H⟩ := H); (replace H : (if t270 = true then (Zq.l2 k4 t253 x6_4 (Go.bits .or .u32 x7_4 t268) x8_1 l0_3 (l0_3.length : Int) x43_3 ((Zb l0_3 x43_3).f1) (((Zb l0_3 x43_3).f1).length : Int) ji36 a0_0 a0_1 a0_2 l0_3 ((Zb l0_3 x43_3).f0) ((Zb l0_3 x43_3).f1)) else (if x6_4.length < 17592186044416 then (Zq.l2 k4 t253 (x6_4 ++ [((Zb l0_3 x43_3).f0)]) (Go.bits .or .u32 x7_4 t268) x8_1 l0_3 (l0_3.length : Int) x43_3 ((Zb l0_3 x43_3).f1) (((Zb l0_3 x43_3).f1).length : Int) ji36 a0_0 a0_1 a0_2 l0_3 ((Zb l0_3 x43_3).f0) ((Zb l0_3 x43_3).f1)) else (none))) = some r := H); (have A42 := Za.mk A420); (clear A420)
         by_cases c43 : t270 = true
         ·subst c43
          (have H1 : (Zq.l2 k4 t253 x6_4 (Go.bits .or .u32 x7_4 t268) x8_1 l0_3 (l0_3.length : Int) x43_3 ((Zb l0_3 x43_3).f1) (((Zb l0_3 x43_3).f1).length : Int) ji36 a0_0 a0_1 a0_2 l0_3 ((Zb l0_3 x43_3).f0) ((Zb l0_3 x43_3).f1)) = some r := by rw [if_pos rfl] at H; exact H); (clear H); (have H := H1); (clear H1); (have H' := Za.mk H); (clear H); (have p262 : 0 ≤ (x55_4 : Int) := of_decide_eq_true (by assumption)); (have q262 : x55_4 < (((Zb l0_3 x43_3).f1).length : Int) := of_decide_eq_true (by assumption)); (obtain ⟨ad262, e262, hx262_0⟩ := Kd.at_int HR259_1.out x55_4 p262 q262); (cases e262); (replace hx262_0 := (HB.out.cell (World.block_lt_of_cell? w _ hx262_0)).trans hx262_0); (replace p262 := eq_true p262); (replace q262 := eq_true q262)
          try go_wp2
          (have n0_ := Za.mk (Kd.R_drew HO_6.out)); (have n1_ := Za.mk (Zf BK252.out)); (have n2_ := Za.mk (Zf BK260.out)); (have n3_ := Za.mk (Zg HB.out)); (clear HO_6); (clear BK252); (clear BK260); (clear HB); (have HO_6 := n0_); (have BK252 := n1_); (have BK260 := n2_); (have HB := n3_); (clear n0_ n1_ n2_ n3_); (obtain ⟨Ao45, co45, eo45⟩ := Kd.R_slice HO_6.out)
          (first | subst eo45 | (injection eo45 with f1_ f2_ f3_; have f4_ := f1_.symm; have f5_ := f3_.symm; clear f1_ f2_ f3_; subst f4_; subst f5_))
          (have p263 : 0 ≤ (x8_1 : Int) := of_decide_eq_true (by assumption)); (have q263 : x8_1 < (x6_4.length : Int) := of_decide_eq_true (by assumption)); (obtain ⟨ad263, e263, hx263_0⟩ := Kd.at_int (Kd.R_reads' HO_6.out).2.2 x8_1 p263 q263); (cases e263); (replace p263 := eq_true p263); (replace q263 := eq_true q263)
          refine start_ (n := 9) (S := fun w' => w'.cell? ⟨gb252, 0, none⟩ = some (.int .i64 a0_0) ∧ w'.cell? ⟨gb252, 1, none⟩ = some (.int .i64 a0_1) ∧ w'.cell? ⟨gb252, 2, none⟩ = some (.int .i64 a0_2) ∧ w'.cell? ⟨gb252, 3, none⟩ = some (.slice (some ad259) l0_3.length c0_3) ∧ w'.cell? (ad263.add (x8_1).toNat) = some (.int .i64 (rd x6_4 x8_1))) (ds := []) #[false, false, false, false, false, false, false, false, false] (by kernel_rfl) rfl rfl ⟨(Zc BK252.out 0).trans rfl, (Zc BK252.out 1).trans rfl, (Zc BK252.out 2).trans rfl, (Zc BK252.out 3).trans rfl, hx263_0⟩ (fun hHeld => ?_); refine with_tabW Zq.tab18 Zq.bits18 (fun HT_ HW_ => ?_)
          generalize wr.drew = w44 at HO_6 BK252 BK260 HB hx263_0 hHeld ⊢
          refine pure_ (i := 0) (N := some 60) (v := ?_) (a' := ?_) #[true, false, false, false, false, false, false, false, false] rfl rfl (Zn HT_.out (by kernel_rfl)) (fun _ _ _ h => h) (Or.inl ⟨by rfl, ?_⟩) ?_ ?_
          rotate_left
          ·intro w'
           go_simp
           with_reducible rfl
          rotate_left
          ·simp only [Act.put, List.setIfInBounds_toArray, List.set_cons_zero, List.set_cons_succ, Zl, Zm]
           rfl
          refine pure_ (i := 1) (N := some 61) (v := ?_) (a' := ?_) #[true, true, false, false, false, false, false, false, false] rfl rfl (Zn HT_.out (by kernel_rfl)) (fun _ _ _ h => h) (Or.inl ⟨by rfl, ?_⟩) ?_ ?_
          rotate_left
          ·intro w'
           go_simp
           with_reducible rfl
          rotate_left
          ·simp only [Act.put, List.setIfInBounds_toArray, List.set_cons_zero, List.set_cons_succ, Zl, Zm]
           rfl
          refine pure_ (i := 3) (N := some 63) (v := ?_) (a' := ?_) #[true, true, false, true, false, false, false, false, false] rfl rfl (Zn HT_.out (by kernel_rfl)) (fun _ _ _ h => h) (Or.inl ⟨by rfl, ?_⟩) ?_ ?_
          rotate_left
          ·intro w'
           go_simp
           with_reducible rfl
          rotate_left
          ·simp only [Act.put, List.setIfInBounds_toArray, List.set_cons_zero, List.set_cons_succ, Zl, Zm]
           rfl
          refine pure_ (i := 4) (N := some 64) (v := ?_) (a' := ?_) #[true, true, false, true, true, false, false, false, false] rfl rfl (Zn HT_.out (by kernel_rfl)) (fun _ _ _ h => h) (Or.inl ⟨by rfl, ?_⟩) ?_ ?_
          rotate_left
          ·intro w'
           go_simp
           with_reducible rfl
          rotate_left
          ·simp only [Act.put, List.setIfInBounds_toArray, List.set_cons_zero, List.set_cons_succ, Zl, Zm]
           rfl
          refine pure_ (i := 5) (N := some 65) (v := ?_) (a' := ?_) #[true, true, false, true, true, true, false, false, false] rfl rfl (Zn HT_.out (by kernel_rfl)) (fun _ _ _ h => h) (Or.inl ⟨by rfl, ?_⟩) ?_ ?_
          rotate_left
          ·intro w'
           go_simp
           with_reducible rfl
          rotate_left
          ·simp only [Act.put, List.setIfInBounds_toArray, List.set_cons_zero, List.set_cons_succ, Zl, Zm]
           rfl
          refine take_ (i := 2) (N := some 62) (v := ?_) (a' := ?_) #[true, true, true, true, true, true, false, false, false] rfl rfl (Zk1 HT_.out HW_.out (by kernel_rfl)) (fun _ _ _ h => h) (Or.inl ⟨by rfl, ?_⟩) hHeld ?_ ?_
          rotate_left
          ·rintro w' ⟨s0, s1, s2, s3, s4⟩
           go_simp
           with_reducible rfl
          rotate_left
          ·simp only [Act.put, List.setIfInBounds_toArray, List.set_cons_zero, List.set_cons_succ, Zl, Zm]
           rfl
          refine take_ (i := 6) (N := some 66) (v := ?_) (a' := ?_) #[true, true, true, true, true, true, true, false, false] rfl rfl (Zk1 HT_.out HW_.out (by kernel_rfl)) (fun _ _ _ h => h) (Or.inl ⟨by rfl, ?_⟩) hHeld ?_ ?_
          rotate_left
          ·rintro w' ⟨s0, s1, s2, s3, s4⟩
           go_simp
           with_reducible rfl
          rotate_left
          ·simp only [Act.put, List.setIfInBounds_toArray, List.set_cons_zero, List.set_cons_succ, Zl, Zm]
           rfl
          refine pure_ (i := 7) (N := some 67) (v := ?_) (a' := ?_) #[true, true, true, true, true, true, true, true, false] rfl rfl (Zn HT_.out (by kernel_rfl)) (fun _ _ _ h => h) (Or.inl ⟨by rfl, ?_⟩) ?_ ?_
          rotate_left
          ·intro w'
           go_simp
           with_reducible rfl
          rotate_left
          ·simp only [Act.put, List.setIfInBounds_toArray, List.set_cons_zero, List.set_cons_succ, Zl, Zm]
           rfl
          refine pure_ (i := 8) (N := some 68) (v := ?_) (a' := ?_) #[true, true, true, true, true, true, true, true, true] rfl rfl (Zn HT_.out (by kernel_rfl)) (fun _ _ _ h => h) (Or.inl ⟨by rfl, ?_⟩) ?_ ?_
          rotate_left
          ·intro w'
           go_simp
           with_reducible rfl
          rotate_left
          ·simp only [Act.put, List.setIfInBounds_toArray, List.set_cons_zero, List.set_cons_succ, Zl, Zm]
           rfl
          refine done_ (done_of HT_.out (by kernel_rfl)) ?_
          try go_wp2
          (have n0_ := Za.mk (Kd.R_drew HO_6.out)); (have n1_ := Za.mk (Zf BK252.out)); (have n2_ := Za.mk (Zf BK260.out)); (have n3_ := Za.mk (Zg HB.out)); (clear HO_6); (clear BK252); (clear BK260); (clear HB); (have HO_6 := n0_); (have BK252 := n1_); (have BK260 := n2_); (have HB := n3_); (clear n0_ n1_ n2_ n3_); (have q47 : ((ji36) : Int) ≤ ((((Zb l0_3 x43_3).f1).length : Int) : Int) := of_decide_eq_true (by assumption)); (obtain ⟨i047, hi047, _, hsz47, _⟩ := info_parts info3); (have hroom47 : ((Zb l0_3 x43_3).f1).length ≤ c259_1 := HC259_1.out); (have hC47 : Kd.C (Kd.int .i64) _ (some ad262) ((Zb l0_3 x43_3).f1).length ((Zb l0_3 x43_3).f1) := HR259_1.out); (have q047 : (0 : Int) ≤ ((ji36) : Int) := of_decide_eq_true (by assumption)); (have hcut47 := cut_from (P := Try.prog) 33 3 .i64 Try.underlying33 hi047 1 hsz47 (some ad262) ((Zb l0_3 x43_3).f1).length c259_1 (ji36) q047 q47); (have hr47 := Kd.C_drop (m := ((ji36) : Int).toNat) (c := c259_1) hC47 (by omega) hroom47); (obtain ⟨A47, hA47⟩ : ∃ Aq_, Aq_ = (if c259_1 = ((ji36) : Int).toNat then (some ad262) else ((some ad262) : Option Addr).map (·.add (((ji36) : Int).toNat * 1))) := ⟨_, rfl⟩); (obtain ⟨c47, hc47⟩ : ∃ cq_, cq_ = c259_1 - ((ji36) : Int).toNat := ⟨_, rfl⟩); (have hy47 : y264.length = ((Zb l0_3 x43_3).f1).length - ((ji36) : Int).toNat := (by rw [Ny264.out, List.length_drop] <;> omega)); (rw [show (((Zb l0_3 x43_3).f1)).drop ((ji36) : Int).toNat = y264 from Ny264.out.symm] at hr47); (replace hr47 : Kd.C (Kd.int .i64) _ A47 y264.length y264 := (by rw [hA47]; exact hr47))
          (rw [← hy47, ← hA47, ← hc47] at hcut47); (have HR267 := Za.mk hr47); (have HC267 := Za.mk (show y264.length ≤ c47 from by rw [hy47, hc47]; exact Nat.sub_le_sub_right hroom47 _)); (clear hr47 hC47 hroom47 hi047 hsz47 hc47); (have KY47 := Za.mk hy47); (have KA47 := Za.mk hA47); (clear hy47 hA47); (replace q47 := eq_true q47)
          refine start_ (n := 10) (S := fun w' => w'.cell? ⟨gb252, 0, none⟩ = some (.int .i64 a0_0) ∧ w'.cell? ⟨gb252, 1, none⟩ = some (.int .i64 a0_1) ∧ w'.cell? ⟨gb252, 2, none⟩ = some (.int .i64 a0_2) ∧ w'.cell? ⟨gb252, 3, none⟩ = some (.slice (some ad259) l0_3.length c0_3) ∧ w'.cell? ⟨gb260, 0, none⟩ = some (.int .i64 ((Zb l0_3 x43_3).f0)) ∧ w'.cell? ⟨gb260, 1, none⟩ = some (.slice (some ad262) ((Zb l0_3 x43_3).f1).length c259_1)) (ds := []) #[false, false, false, false, false, false, false, false, false, false] (by kernel_rfl) rfl rfl ⟨(Zc BK252.out 0).trans rfl, (Zc BK252.out 1).trans rfl, (Zc BK252.out 2).trans rfl, (Zc BK252.out 3).trans rfl, (Zc BK260.out 0).trans rfl, (Zc BK260.out 1).trans rfl⟩ (fun hHeld => ?_); refine with_tabW Zq.tab19 Zq.bits19 (fun HT_ HW_ => ?_)
          generalize w44.drew = w46 at HO_6 BK252 BK260 HB HR267 hHeld ⊢
          refine pure_ (i := 0) (N := some 69) (v := ?_) (a' := ?_) #[true, false, false, false, false, false, false, false, false, false] rfl rfl (Zn HT_.out (by kernel_rfl)) (fun _ _ _ h => h) (Or.inl ⟨by rfl, ?_⟩) ?_ ?_
          rotate_left
          ·intro w'
           go_simp
           with_reducible rfl
          rotate_left
          ·simp only [Act.put, List.setIfInBounds_toArray, List.set_cons_zero, List.set_cons_succ, Zl, Zm]
           rfl
          refine pure_ (i := 2) (N := some 71) (v := ?_) (a' := ?_) #[true, false, true, false, false, false, false, false, false, false] rfl rfl (Zn HT_.out (by kernel_rfl)) (fun _ _ _ h => h) (Or.inl ⟨by rfl, ?_⟩) ?_ ?_
          rotate_left
          ·intro w'
           go_simp
           with_reducible rfl
          rotate_left
          ·simp only [Act.put, List.setIfInBounds_toArray, List.set_cons_zero, List.set_cons_succ, Zl, Zm]
           rfl
          refine pure_ (i := 4) (N := some 73) (v := ?_) (a' := ?_) #[true, false, true, false, true, false, false, false, false, false] rfl rfl (Zn HT_.out (by kernel_rfl)) (fun _ _ _ h => h) (Or.inl ⟨by rfl, ?_⟩) ?_ ?_
          rotate_left
          ·intro w'
           go_simp
           with_reducible rfl
          rotate_left
          ·simp only [Act.put, List.setIfInBounds_toArray, List.set_cons_zero, List.set_cons_succ, Zl, Zm]
           rfl
          refine pure_ (i := 5) (N := some 74) (v := ?_) (a' := ?_) #[true, false, true, false, true, true, false, false, false, false] rfl rfl (Zn HT_.out (by kernel_rfl)) (fun _ _ _ h => h) (Or.inl ⟨by rfl, ?_⟩) ?_ ?_
          rotate_left
          ·intro w'
           go_simp
           with_reducible rfl
          rotate_left
          ·simp only [Act.put, List.setIfInBounds_toArray, List.set_cons_zero, List.set_cons_succ, Zl, Zm]
           rfl
          refine take_ (i := 1) (N := some 70) (v := ?_) (a' := ?_) #[true, true, true, false, true, true, false, false, false, false] rfl rfl (Zk1 HT_.out HW_.out (by kernel_rfl)) (fun _ _ _ h => h) (Or.inl ⟨by rfl, ?_⟩) hHeld ?_ ?_
          rotate_left
          ·rintro w' ⟨s0, s1, s2, s3, s4, s5⟩
           go_simp
           with_reducible rfl
          rotate_left
          ·simp only [Act.put, List.setIfInBounds_toArray, List.set_cons_zero, List.set_cons_succ, Zl, Zm]
           rfl
          refine take_ (i := 3) (N := some 72) (v := ?_) (a' := ?_) #[true, true, true, true, true, true, false, false, false, false] rfl rfl (Zk1 HT_.out HW_.out (by kernel_rfl)) (fun _ _ _ h => h) (Or.inl ⟨by rfl, ?_⟩) hHeld ?_ ?_
          rotate_left
          ·rintro w' ⟨s0, s1, s2, s3, s4, s5⟩
           go_simp
           with_reducible rfl
          rotate_left
          ·simp only [Act.put, List.setIfInBounds_toArray, List.set_cons_zero, List.set_cons_succ, Zl, Zm]
           rfl
          refine pure_ (i := 6) (N := some 75) (v := ?_) (a' := ?_) #[true, true, true, true, true, true, true, false, false, false] rfl rfl (Zn HT_.out (by kernel_rfl)) (fun _ _ _ h => h) (Or.inl ⟨by rfl, ?_⟩) ?_ ?_
          rotate_left
          ·intro w'
           go_simp
           with_reducible rfl
          rotate_left
          ·simp only [Act.put, List.setIfInBounds_toArray, List.set_cons_zero, List.set_cons_succ, Zl, Zm]
           rfl
          refine one_ (i := 7) (N := some 76) #[true, true, true, true, true, true, true, true, false, false] rfl rfl (one_of HT_.out (by kernel_rfl)) (by decide) (fun K hK => ?_)
          refine goes_ Try.func36 (by kernel_rfl) rfl #[.agg #[.int .i64 a0_0, .int .i64 a0_1, .int .i64 a0_2, .slice (some ad259) l0_3.length c0_3], .slice A47 y264.length c47] (by rfl) rfl rfl (by (try simp only [List.map_toArray, List.map_cons, List.map_nil]); first | done | rfl | (simp only [List.length_drop, List.length_take]; rfl)) ?_
          with_reducible refine (Zv.calls k4 a0_0 a0_1 a0_2 _ _ l0_3 _ _ y264 t268 _ ?side1 ?side2 ?side3 ?side4 A39.out).mono ?_
          (case side1 => repeat (first | exact (Kd.C_below HR0_3.out HB.out) | (with_reducible refine Kd.C_alloc ?_ _) | (with_reducible refine Kd.C_drewN ?_ _) | (with_reducible refine Kd.C_drew ?_)))
          (case side2 => exact HC0_3.out)
          (case side3 => repeat (first | exact (Kd.C_below HR267.out HB.out) | (with_reducible refine Kd.C_alloc ?_ _) | (with_reducible refine Kd.C_drewN ?_ _) | (with_reducible refine Kd.C_drew ?_)))
          (case side4 => exact HC267.out)
          rintro e w48 ⟨rfl, hb⟩
          refine ⟨_, rfl, ?_⟩
          (have n0_ := Za.mk (Kd.R_below (by (with_reducible repeat (first | apply Kd.R_alloc | apply Kd.R_drewN | apply Kd.R_drew)); exact HO_6.out) hb)); (have n1_ := Za.mk (Zp (g := gb252) (o := .cells #[.int .i64 a0_0, .int .i64 a0_1, .int .i64 a0_2, .slice (some ad259) l0_3.length c0_3] 24 (0, 0)) (by (with_reducible repeat (first | refine Zj ?_ _ | refine Zf ?_ | refine Zi ?_ _)); exact BK252.out) hb)); (have n2_ := Za.mk (Zp (g := gb260) (o := .cells #[.int .i64 ((Zb l0_3 x43_3).f0), .slice (some ad262) ((Zb l0_3 x43_3).f1).length c259_1] 38 (0, 0)) (by (with_reducible repeat (first | refine Zj ?_ _ | refine Zf ?_ | refine Zi ?_ _)); exact BK260.out) hb)); (have n3_ := Za.mk (Zr (by repeat (first | (with_reducible first | exact HB.out | apply Zh | apply Zk | apply Zg | refine Ze ?_ GE252.out | refine Ze ?_ GE260.out) | exact HB.out)) hb)); (clear HO_6); (clear BK252); (clear BK260); (clear HB); (have HO_6 := n0_); (have BK252 := n1_); (have BK260 := n2_); (have HB := n3_); (clear n0_ n1_ n2_ n3_); ((try clear hb)); ((try clear hb2)); ((try clear hk)); ((try clear hi))
          refine hK.out _ _ ⟨(Zc BK252.out 0).trans rfl, (Zc BK252.out 1).trans rfl, (Zc BK252.out 2).trans rfl, (Zc BK252.out 3).trans rfl, (Zc BK260.out 0).trans rfl, (Zc BK260.out 1).trans rfl⟩ (fun hHeld => ?_)
          clear hK K
          refine norm_ (a' := ?_) ?_ ?_
          rotate_left
          ·show Act.put _ (some 76) _ = _
           simp only [Act.put, List.setIfInBounds_toArray, List.set_cons_zero, List.set_cons_succ, Zl, Zm]
           rfl
          refine pure_ (i := 8) (N := some 77) (v := ?_) (a' := ?_) #[true, true, true, true, true, true, true, true, true, false] rfl rfl (Zn HT_.out (by kernel_rfl)) (fun _ _ _ h => h) (Or.inl ⟨by rfl, ?_⟩) ?_ ?_
          rotate_left
          ·intro w'
           go_simp
           with_reducible rfl
          rotate_left
          ·simp only [Act.put, List.setIfInBounds_toArray, List.set_cons_zero, List.set_cons_succ, Zl, Zm]
           rfl
          refine pure_ (i := 9) (N := some 7) (v := ?_) (a' := ?_) #[true, true, true, true, true, true, true, true, true, true] rfl rfl (Zn HT_.out (by kernel_rfl)) (fun _ _ _ h => h) (Or.inl ⟨by rfl, ?_⟩) ?_ ?_
          rotate_left
          ·intro w'
           go_simp
           with_reducible rfl
          rotate_left
          ·simp only [Act.put, List.setIfInBounds_toArray, List.set_cons_zero, List.set_cons_succ, Zl, Zm]
           rfl
          refine done_ (done_of HT_.out (by kernel_rfl)) ?_
          try go_wp2
          (have n0_ := Za.mk (Kd.R_drew HO_6.out)); (have n1_ := Za.mk (Zf BK252.out)); (have n2_ := Za.mk (Zf BK260.out)); (have n3_ := Za.mk (Zg HB.out)); (clear HO_6); (clear BK252); (clear BK260); (clear HB); (have HO_6 := n0_); (have BK252 := n1_); (have BK260 := n2_); (have HB := n3_); (clear n0_ n1_ n2_ n3_)
          refine start_ (n := 14) (S := fun w' => w'.cell? ⟨gb252, 0, none⟩ = some (.int .i64 a0_0) ∧ w'.cell? ⟨gb252, 1, none⟩ = some (.int .i64 a0_1) ∧ w'.cell? ⟨gb252, 2, none⟩ = some (.int .i64 a0_2) ∧ w'.cell? ⟨gb252, 3, none⟩ = some (.slice (some ad259) l0_3.length c0_3) ∧ w'.cell? ⟨gb260, 0, none⟩ = some (.int .i64 ((Zb l0_3 x43_3).f0)) ∧ w'.cell? ⟨gb260, 1, none⟩ = some (.slice (some ad262) ((Zb l0_3 x43_3).f1).length c259_1)) (ds := []) #[false, false, false, false, false, false, false, false, false, false, false, false, false, false] (by kernel_rfl) rfl rfl ⟨(Zc BK252.out 0).trans rfl, (Zc BK252.out 1).trans rfl, (Zc BK252.out 2).trans rfl, (Zc BK252.out 3).trans rfl, (Zc BK260.out 0).trans rfl, (Zc BK260.out 1).trans rfl⟩ (fun hHeld => ?_); refine with_tabW Zq.tab20 Zq.bits20 (fun HT_ HW_ => ?_)
          generalize w48.drew = w49 at HO_6 BK252 BK260 HB hHeld ⊢
          refine pure_ (i := 1) (N := some 79) (v := ?_) (a' := ?_) #[false, true, false, false, false, false, false, false, false, false, false, false, false, false] rfl rfl (Zn HT_.out (by kernel_rfl)) (fun _ _ _ h => h) (Or.inl ⟨by rfl, ?_⟩) ?_ ?_
          rotate_left
          ·intro w'
           go_simp
           with_reducible rfl
          rotate_left
          ·simp only [Act.put, List.setIfInBounds_toArray, List.set_cons_zero, List.set_cons_succ, Zl, Zm]
           rfl
          refine pure_ (i := 3) (N := some 81) (v := ?_) (a' := ?_) #[false, true, false, true, false, false, false, false, false, false, false, false, false, false] rfl rfl (Zn HT_.out (by kernel_rfl)) (fun _ _ _ h => h) (Or.inl ⟨by rfl, ?_⟩) ?_ ?_
          rotate_left
          ·intro w'
           go_simp
           with_reducible rfl
          rotate_left
          ·simp only [Act.put, List.setIfInBounds_toArray, List.set_cons_zero, List.set_cons_succ, Zl, Zm]
           rfl
          refine pure_ (i := 4) (N := some 82) (v := ?_) (a' := ?_) #[false, true, false, true, true, false, false, false, false, false, false, false, false, false] rfl rfl (Zn HT_.out (by kernel_rfl)) (fun _ _ _ h => h) (Or.inl ⟨by rfl, ?_⟩) ?_ ?_
          rotate_left
          ·intro w'
           go_simp
           with_reducible rfl
          rotate_left
          ·simp only [Act.put, List.setIfInBounds_toArray, List.set_cons_zero, List.set_cons_succ, Zl, Zm]
           rfl
          refine take_ (i := 0) (N := some 78) (v := ?_) (a' := ?_) #[true, true, false, true, true, false, false, false, false, false, false, false, false, false] rfl rfl (Zk1 HT_.out HW_.out (by kernel_rfl)) (fun _ _ _ h => h) (Or.inl ⟨by rfl, ?_⟩) hHeld ?_ ?_
          rotate_left
          ·rintro w' ⟨s0, s1, s2, s3, s4, s5⟩
           go_simp
           with_reducible rfl
          rotate_left
          ·simp only [Act.put, List.setIfInBounds_toArray, List.set_cons_zero, List.set_cons_succ, Zl, Zm]
           rfl
          refine take_ (i := 2) (N := some 80) (v := ?_) (a' := ?_) #[true, true, true, true, true, false, false, false, false, false, false, false, false, false] rfl rfl (Zk1 HT_.out HW_.out (by kernel_rfl)) (fun _ _ _ h => h) (Or.inl ⟨by rfl, ?_⟩) hHeld ?_ ?_
          rotate_left
          ·rintro w' ⟨s0, s1, s2, s3, s4, s5⟩
           go_simp
           with_reducible rfl
          rotate_left
          ·simp only [Act.put, List.setIfInBounds_toArray, List.set_cons_zero, List.set_cons_succ, Zl, Zm]
           rfl
          refine pure_ (i := 5) (N := some 83) (v := ?_) (a' := ?_) #[true, true, true, true, true, true, false, false, false, false, false, false, false, false] rfl rfl (Zn HT_.out (by kernel_rfl)) (fun _ _ _ h => h) (Or.inl ⟨by rfl, ?_⟩) ?_ ?_
          rotate_left
          ·intro w'
           go_simp
           with_reducible rfl
          rotate_left
          ·simp only [Act.put, List.setIfInBounds_toArray, List.set_cons_zero, List.set_cons_succ, Zl, Zm]
           rfl
          refine one_ (i := 6) (N := some 84) #[true, true, true, true, true, true, true, false, false, false, false, false, false, false] rfl rfl (one_of HT_.out (by kernel_rfl)) (by decide) (fun K hK => ?_)
          refine goes_ Try.func63 (by kernel_rfl) rfl #[.agg #[.int .i64 a0_0, .int .i64 a0_1, .int .i64 a0_2, .slice (some ad259) l0_3.length c0_3], .slice A47 y264.length c47] (by rfl) rfl rfl (by (try simp only [List.map_toArray, List.map_cons, List.map_nil]); first | done | rfl | (simp only [List.length_drop, List.length_take]; rfl)) ?_
          with_reducible refine (Zl1.calls k4 a0_0 a0_1 a0_2 _ _ l0_3 _ _ y264 true _ ?side1 ?side2 ?side3 ?side4 A40.out).mono ?_
          (case side1 => repeat (first | exact (Kd.C_below HR0_3.out HB.out) | (with_reducible refine Kd.C_alloc ?_ _) | (with_reducible refine Kd.C_drewN ?_ _) | (with_reducible refine Kd.C_drew ?_)))
          (case side2 => exact HC0_3.out)
          (case side3 => repeat (first | exact (Kd.C_below HR267.out HB.out) | (with_reducible refine Kd.C_alloc ?_ _) | (with_reducible refine Kd.C_drewN ?_ _) | (with_reducible refine Kd.C_drew ?_)))
          (case side4 => exact HC267.out)
          rintro e w50 ⟨rfl, hb⟩
          refine ⟨_, rfl, ?_⟩
          (have n0_ := Za.mk (Kd.R_below (by (with_reducible repeat (first | apply Kd.R_alloc | apply Kd.R_drewN | apply Kd.R_drew)); exact HO_6.out) hb)); (have n1_ := Za.mk (Zp (g := gb252) (o := .cells #[.int .i64 a0_0, .int .i64 a0_1, .int .i64 a0_2, .slice (some ad259) l0_3.length c0_3] 24 (0, 0)) (by (with_reducible repeat (first | refine Zj ?_ _ | refine Zf ?_ | refine Zi ?_ _)); exact BK252.out) hb)); (have n2_ := Za.mk (Zp (g := gb260) (o := .cells #[.int .i64 ((Zb l0_3 x43_3).f0), .slice (some ad262) ((Zb l0_3 x43_3).f1).length c259_1] 38 (0, 0)) (by (with_reducible repeat (first | refine Zj ?_ _ | refine Zf ?_ | refine Zi ?_ _)); exact BK260.out) hb)); (have n3_ := Za.mk (Zr (by repeat (first | (with_reducible first | exact HB.out | apply Zh | apply Zk | apply Zg | refine Ze ?_ GE252.out | refine Ze ?_ GE260.out) | exact HB.out)) hb)); (clear HO_6); (clear BK252); (clear BK260); (clear HB); (have HO_6 := n0_); (have BK252 := n1_); (have BK260 := n2_); (have HB := n3_); (clear n0_ n1_ n2_ n3_); ((try clear hb)); ((try clear hb2)); ((try clear hk)); ((try clear hi))
          refine hK.out _ _ ⟨(Zc BK252.out 0).trans rfl, (Zc BK252.out 1).trans rfl, (Zc BK252.out 2).trans rfl, (Zc BK252.out 3).trans rfl, (Zc BK260.out 0).trans rfl, (Zc BK260.out 1).trans rfl⟩ (fun hHeld => ?_)
          clear hK K
          refine norm_ (a' := ?_) ?_ ?_
          rotate_left
          ·show Act.put _ (some 84) _ = _
           simp only [Act.put, List.setIfInBounds_toArray, List.set_cons_zero, List.set_cons_succ, Zl, Zm]
           rfl
          refine pure_ (i := 7) (N := some 85) (v := ?_) (a' := ?_) #[true, true, true, true, true, true, true, true, false, false, false, false, false, false] rfl rfl (Zn HT_.out (by kernel_rfl)) (fun _ _ _ h => h) (Or.inl ⟨by rfl, ?_⟩) ?_ ?_
          rotate_left
          ·intro w'
           go_simp
           with_reducible rfl
          rotate_left
          ·simp only [Act.put, List.setIfInBounds_toArray, List.set_cons_zero, List.set_cons_succ, Zl, Zm]
           rfl
          refine pure_ (i := 8) (N := some 86) (v := ?_) (a' := ?_) #[true, true, true, true, true, true, true, true, true, false, false, false, false, false] rfl rfl (Zn HT_.out (by kernel_rfl)) (fun _ _ _ h => h) (Or.inl ⟨by rfl, ?_⟩) ?_ ?_
          rotate_left
          ·intro w'
           go_simp
           with_reducible rfl
          rotate_left
          ·simp only [Act.put, List.setIfInBounds_toArray, List.set_cons_zero, List.set_cons_succ, Zl, Zm]
           rfl
          refine pure_ (i := 9) (N := some 87) (v := ?_) (a' := ?_) #[true, true, true, true, true, true, true, true, true, true, false, false, false, false] rfl rfl (Zn HT_.out (by kernel_rfl)) (fun _ _ _ h => h) (Or.inl ⟨by rfl, ?_⟩) ?_ ?_
          rotate_left
          ·intro w'
           go_simp
           with_reducible rfl
          rotate_left
          ·simp only [Act.put, List.setIfInBounds_toArray, List.set_cons_zero, List.set_cons_succ, Zl, Zm]
           rfl
          refine take_ (i := 10) (N := some 88) (v := ?_) (a' := ?_) #[true, true, true, true, true, true, true, true, true, true, true, false, false, false] rfl rfl (Zk1 HT_.out HW_.out (by kernel_rfl)) (fun _ _ _ h => h) (Or.inl ⟨by rfl, ?_⟩) hHeld ?_ ?_
          rotate_left
          ·rintro w' ⟨s0, s1, s2, s3, s4, s5⟩
           go_simp
           with_reducible rfl
          rotate_left
          ·simp only [Act.put, List.setIfInBounds_toArray, List.set_cons_zero, List.set_cons_succ, Zl, Zm]
           rfl
          refine one_ (i := 11) (N := some 89) #[true, true, true, true, true, true, true, true, true, true, true, true, false, false] rfl rfl (one_of HT_.out (by kernel_rfl)) (by decide) (fun K hK => ?_)
          refine goes_ Try.func46 (by kernel_rfl) rfl #[.slice (some ad263) x6_4.length co45, .int .i64 ((Zb l0_3 x43_3).f0)] (by rfl) rfl rfl (by (try simp only [List.map_toArray, List.map_cons, List.map_nil]); first | done | rfl | (simp only [List.length_drop, List.length_take]; rfl)) ?_
          with_reducible refine (Zy.calls k4 _ _ x6_4 ((Zb l0_3 x43_3).f0) true _ ?side1 ?side2 A42.out).mono ?_
          (case side1 => repeat (first | exact (Kd.R_reads' HO_6.out).2.2 | (with_reducible refine Kd.C_alloc ?_ _) | (with_reducible refine Kd.C_drewN ?_ _) | (with_reducible refine Kd.C_drew ?_)))
          (case side2 => exact (Kd.R_reads' HO_6.out).2.1)
          rintro e w' ⟨rfl, ⟨nd, rfl⟩⟩
          refine ⟨_, rfl, ?_⟩
          refine hK.out _ _ ⟨(Zc BK252.out 0).trans rfl, (Zc BK252.out 1).trans rfl, (Zc BK252.out 2).trans rfl, (Zc BK252.out 3).trans rfl, (Zc BK260.out 0).trans rfl, (Zc BK260.out 1).trans rfl⟩ (fun hHeld => ?_)
          clear hK K
          refine norm_ (a' := ?_) ?_ ?_
          rotate_left
          ·show Act.put _ (some 89) _ = _
           simp only [Act.put, List.setIfInBounds_toArray, List.set_cons_zero, List.set_cons_succ, Zl, Zm]
           rfl
          refine pure_ (i := 12) (N := some 90) (v := ?_) (a' := ?_) #[true, true, true, true, true, true, true, true, true, true, true, true, true, false] rfl rfl (Zn HT_.out (by kernel_rfl)) (fun _ _ _ h => h) (Or.inl ⟨by rfl, ?_⟩) ?_ ?_
          rotate_left
          ·intro w'
           go_simp
           with_reducible rfl
          rotate_left
          ·simp only [Act.put, List.setIfInBounds_toArray, List.set_cons_zero, List.set_cons_succ, Zl, Zm]
           rfl
          refine pure_ (i := 13) (N := some 91) (v := ?_) (a' := ?_) #[true, true, true, true, true, true, true, true, true, true, true, true, true, true] rfl rfl (Zn HT_.out (by kernel_rfl)) (fun _ _ _ h => h) (Or.inl ⟨by rfl, ?_⟩) ?_ ?_
          rotate_left
          ·intro w'
           go_simp
           with_reducible rfl
          rotate_left
          ·simp only [Act.put, List.setIfInBounds_toArray, List.set_cons_zero, List.set_cons_succ, Zl, Zm]
           rfl
          refine done_ (done_of HT_.out (by kernel_rfl)) ?_
          try go_wp2
          (first | go_roundg k4 | (simp only [← hji36]; go_roundg k4))
          case measure => have := HK1.out; have := HJ12.out; have := HK3.out; have := HK4.out; omega
          case rel => exact ⟨(x6_4), (Go.bits .or .u32 x7_4 t268), (ji36), (by first | rfl | (simp; done) | (simp [*]; done)), (by first | rfl | (simp; done) | (simp only [← hji36] <;> (first | rfl | simp)) | (simp [*]; done)), H', ⟨by have := HK1.out; have := HJ12.out; have := HK3.out; have := HK4.out; omega⟩, ⟨by (with_reducible repeat (first | apply Kd.R_alloc | apply Kd.R_drewN | apply Kd.R_drew)); exact HO_6.out⟩, ⟨by (with_reducible repeat (first | refine Zj ?_ _ | refine Zf ?_ | refine Zi ?_ _)); exact BK252.out⟩, ⟨by (with_reducible repeat (first | refine Zj ?_ _ | refine Zf ?_ | refine Zi ?_ _)); exact BK260.out⟩, ⟨by repeat (first | (with_reducible first | exact HB.out | apply Zh | apply Zk | apply Zg | refine Ze ?_ GE252.out | refine Ze ?_ GE260.out) | exact HB.out)⟩⟩
         (replace c43 := Bool.eq_false_iff.mpr c43); (subst c43); (have H1 : (if x6_4.length < 17592186044416 then (Zq.l2 k4 t253 (x6_4 ++ [((Zb l0_3 x43_3).f0)]) (Go.bits .or .u32 x7_4 t268) x8_1 l0_3 (l0_3.length : Int) x43_3 ((Zb l0_3 x43_3).f1) (((Zb l0_3 x43_3).f1).length : Int) ji36 a0_0 a0_1 a0_2 l0_3 ((Zb l0_3 x43_3).f0) ((Zb l0_3 x43_3).f1)) else (none)) = some r := by rw [if_neg (show ¬ (false = true) by decide)] at H; exact H); (clear H); (have H := H1); (clear H1)
         by_cases c51 : x6_4.length < 17592186044416
         rotate_left
         ·rw [if_neg c51] at H
          exact absurd H (by simp)
         (rw [if_pos c51] at H); (have LMc51 := Za.mk c51); (clear c51); (obtain ⟨y271, hy271⟩ : ∃ y_ : List Int, y_ = (x6_4 ++ [((Zb l0_3 x43_3).f0)]) := ⟨_, rfl⟩); (replace H : (Zq.l2 k4 t253 y271 (Go.bits .or .u32 x7_4 t268) x8_1 l0_3 (l0_3.length : Int) x43_3 ((Zb l0_3 x43_3).f1) (((Zb l0_3 x43_3).f1).length : Int) ji36 a0_0 a0_1 a0_2 l0_3 ((Zb l0_3 x43_3).f0) ((Zb l0_3 x43_3).f1)) = some r := by first | (rw [hy271]; with_reducible exact H) | (have H2_ := (Option.bind_some _ _).symm.trans H; rw [hy271]; with_reducible exact H2_) | (have H2_ := (Option.bind_some _ _).symm.trans H; with_reducible exact H2_) | with_reducible exact H | (rw [hy271]; exact H) | exact H); (have Ny271 := Za.mk hy271); (clear hy271); (have H' := Za.mk H); (clear H); (have p262 : 0 ≤ (x55_4 : Int) := of_decide_eq_true (by assumption)); (have q262 : x55_4 < (((Zb l0_3 x43_3).f1).length : Int) := of_decide_eq_true (by assumption)); (obtain ⟨ad262, e262, hx262_0⟩ := Kd.at_int HR259_1.out x55_4 p262 q262); (cases e262); (replace hx262_0 := (HB.out.cell (World.block_lt_of_cell? w _ hx262_0)).trans hx262_0); (replace p262 := eq_true p262); (replace q262 := eq_true q262)
         try go_wp2
         (have n0_ := Za.mk (Kd.R_drew HO_6.out)); (have n1_ := Za.mk (Zf BK252.out)); (have n2_ := Za.mk (Zf BK260.out)); (have n3_ := Za.mk (Zg HB.out)); (clear HO_6); (clear BK252); (clear BK260); (clear HB); (have HO_6 := n0_); (have BK252 := n1_); (have BK260 := n2_); (have HB := n3_); (clear n0_ n1_ n2_ n3_); (obtain ⟨Ao53, co53, eo53⟩ := Kd.R_slice HO_6.out)
         (first | subst eo53 | (injection eo53 with f1_ f2_ f3_; have f4_ := f1_.symm; have f5_ := f3_.symm; clear f1_ f2_ f3_; subst f4_; subst f5_))
         (have p263 : 0 ≤ (x8_1 : Int) := of_decide_eq_true (by assumption)); (have q263 : x8_1 < (x6_4.length : Int) := of_decide_eq_true (by assumption)); (obtain ⟨ad263, e263, hx263_0⟩ := Kd.at_int (Kd.R_reads' HO_6.out).2.2 x8_1 p263 q263); (cases e263); (replace p263 := eq_true p263); (replace q263 := eq_true q263)
         refine start_ (n := 9) (S := fun w' => w'.cell? ⟨gb252, 0, none⟩ = some (.int .i64 a0_0) ∧ w'.cell? ⟨gb252, 1, none⟩ = some (.int .i64 a0_1) ∧ w'.cell? ⟨gb252, 2, none⟩ = some (.int .i64 a0_2) ∧ w'.cell? ⟨gb252, 3, none⟩ = some (.slice (some ad259) l0_3.length c0_3) ∧ w'.cell? (ad263.add (x8_1).toNat) = some (.int .i64 (rd x6_4 x8_1))) (ds := []) #[false, false, false, false, false, false, false, false, false] (by kernel_rfl) rfl rfl ⟨(Zc BK252.out 0).trans rfl, (Zc BK252.out 1).trans rfl, (Zc BK252.out 2).trans rfl, (Zc BK252.out 3).trans rfl, hx263_0⟩ (fun hHeld => ?_); refine with_tabW Zq.tab18 Zq.bits18 (fun HT_ HW_ => ?_)
         generalize wr.drew = w52 at HO_6 BK252 BK260 HB hx263_0 hHeld ⊢
         refine pure_ (i := 0) (N := some 60) (v := ?_) (a' := ?_) #[true, false, false, false, false, false, false, false, false] rfl rfl (Zn HT_.out (by kernel_rfl)) (fun _ _ _ h => h) (Or.inl ⟨by rfl, ?_⟩) ?_ ?_
         rotate_left
         ·intro w'
          go_simp
          with_reducible rfl
         rotate_left
         ·simp only [Act.put, List.setIfInBounds_toArray, List.set_cons_zero, List.set_cons_succ, Zl, Zm]
          rfl
         refine pure_ (i := 1) (N := some 61) (v := ?_) (a' := ?_) #[true, true, false, false, false, false, false, false, false] rfl rfl (Zn HT_.out (by kernel_rfl)) (fun _ _ _ h => h) (Or.inl ⟨by rfl, ?_⟩) ?_ ?_
         rotate_left
         ·intro w'
          go_simp
          with_reducible rfl
         rotate_left
         ·simp only [Act.put, List.setIfInBounds_toArray, List.set_cons_zero, List.set_cons_succ, Zl, Zm]
          rfl
         refine pure_ (i := 3) (N := some 63) (v := ?_) (a' := ?_) #[true, true, false, true, false, false, false, false, false] rfl rfl (Zn HT_.out (by kernel_rfl)) (fun _ _ _ h => h) (Or.inl ⟨by rfl, ?_⟩) ?_ ?_
         rotate_left
         ·intro w'
          go_simp
          with_reducible rfl
         rotate_left
         ·simp only [Act.put, List.setIfInBounds_toArray, List.set_cons_zero, List.set_cons_succ, Zl, Zm]
          rfl
         refine pure_ (i := 4) (N := some 64) (v := ?_) (a' := ?_) #[true, true, false, true, true, false, false, false, false] rfl rfl (Zn HT_.out (by kernel_rfl)) (fun _ _ _ h => h) (Or.inl ⟨by rfl, ?_⟩) ?_ ?_
         rotate_left
         ·intro w'
          go_simp
          with_reducible rfl
         rotate_left
         ·simp only [Act.put, List.setIfInBounds_toArray, List.set_cons_zero, List.set_cons_succ, Zl, Zm]
          rfl
         refine pure_ (i := 5) (N := some 65) (v := ?_) (a' := ?_) #[true, true, false, true, true, true, false, false, false] rfl rfl (Zn HT_.out (by kernel_rfl)) (fun _ _ _ h => h) (Or.inl ⟨by rfl, ?_⟩) ?_ ?_
         rotate_left
         ·intro w'
          go_simp
          with_reducible rfl
         rotate_left
         ·simp only [Act.put, List.setIfInBounds_toArray, List.set_cons_zero, List.set_cons_succ, Zl, Zm]
          rfl
         refine take_ (i := 2) (N := some 62) (v := ?_) (a' := ?_) #[true, true, true, true, true, true, false, false, false] rfl rfl (Zk1 HT_.out HW_.out (by kernel_rfl)) (fun _ _ _ h => h) (Or.inl ⟨by rfl, ?_⟩) hHeld ?_ ?_
         rotate_left
         ·rintro w' ⟨s0, s1, s2, s3, s4⟩
          go_simp
          with_reducible rfl
         rotate_left
         ·simp only [Act.put, List.setIfInBounds_toArray, List.set_cons_zero, List.set_cons_succ, Zl, Zm]
          rfl
         refine take_ (i := 6) (N := some 66) (v := ?_) (a' := ?_) #[true, true, true, true, true, true, true, false, false] rfl rfl (Zk1 HT_.out HW_.out (by kernel_rfl)) (fun _ _ _ h => h) (Or.inl ⟨by rfl, ?_⟩) hHeld ?_ ?_
         rotate_left
         ·rintro w' ⟨s0, s1, s2, s3, s4⟩
          go_simp
          with_reducible rfl
         rotate_left
         ·simp only [Act.put, List.setIfInBounds_toArray, List.set_cons_zero, List.set_cons_succ, Zl, Zm]
          rfl
         refine pure_ (i := 7) (N := some 67) (v := ?_) (a' := ?_) #[true, true, true, true, true, true, true, true, false] rfl rfl (Zn HT_.out (by kernel_rfl)) (fun _ _ _ h => h) (Or.inl ⟨by rfl, ?_⟩) ?_ ?_
         rotate_left
         ·intro w'
          go_simp
          with_reducible rfl
         rotate_left
         ·simp only [Act.put, List.setIfInBounds_toArray, List.set_cons_zero, List.set_cons_succ, Zl, Zm]
          rfl
         refine pure_ (i := 8) (N := some 68) (v := ?_) (a' := ?_) #[true, true, true, true, true, true, true, true, true] rfl rfl (Zn HT_.out (by kernel_rfl)) (fun _ _ _ h => h) (Or.inl ⟨by rfl, ?_⟩) ?_ ?_
         rotate_left
         ·intro w'
          go_simp
          with_reducible rfl
         rotate_left
         ·simp only [Act.put, List.setIfInBounds_toArray, List.set_cons_zero, List.set_cons_succ, Zl, Zm]
          rfl
         refine done_ (done_of HT_.out (by kernel_rfl)) ?_
         try go_wp2
         (have n0_ := Za.mk (Kd.R_drew HO_6.out)); (have n1_ := Za.mk (Zf BK252.out)); (have n2_ := Za.mk (Zf BK260.out)); (have n3_ := Za.mk (Zg HB.out)); (clear HO_6); (clear BK252); (clear BK260); (clear HB); (have HO_6 := n0_); (have BK252 := n1_); (have BK260 := n2_); (have HB := n3_); (clear n0_ n1_ n2_ n3_); (have q55 : ((ji36) : Int) ≤ ((((Zb l0_3 x43_3).f1).length : Int) : Int) := of_decide_eq_true (by assumption)); (obtain ⟨i055, hi055, _, hsz55, _⟩ := info_parts info3); (have hroom55 : ((Zb l0_3 x43_3).f1).length ≤ c259_1 := HC259_1.out); (have hC55 : Kd.C (Kd.int .i64) _ (some ad262) ((Zb l0_3 x43_3).f1).length ((Zb l0_3 x43_3).f1) := HR259_1.out); (have q055 : (0 : Int) ≤ ((ji36) : Int) := of_decide_eq_true (by assumption)); (have hcut55 := cut_from (P := Try.prog) 33 3 .i64 Try.underlying33 hi055 1 hsz55 (some ad262) ((Zb l0_3 x43_3).f1).length c259_1 (ji36) q055 q55); (have hr55 := Kd.C_drop (m := ((ji36) : Int).toNat) (c := c259_1) hC55 (by omega) hroom55); (obtain ⟨A55, hA55⟩ : ∃ Aq_, Aq_ = (if c259_1 = ((ji36) : Int).toNat then (some ad262) else ((some ad262) : Option Addr).map (·.add (((ji36) : Int).toNat * 1))) := ⟨_, rfl⟩); (obtain ⟨c55, hc55⟩ : ∃ cq_, cq_ = c259_1 - ((ji36) : Int).toNat := ⟨_, rfl⟩); (have hy55 : y264.length = ((Zb l0_3 x43_3).f1).length - ((ji36) : Int).toNat := (by rw [Ny264.out, List.length_drop] <;> omega)); (rw [show (((Zb l0_3 x43_3).f1)).drop ((ji36) : Int).toNat = y264 from Ny264.out.symm] at hr55); (replace hr55 : Kd.C (Kd.int .i64) _ A55 y264.length y264 := (by rw [hA55]; exact hr55))
         (rw [← hy55, ← hA55, ← hc55] at hcut55); (have HR267 := Za.mk hr55); (have HC267 := Za.mk (show y264.length ≤ c55 from by rw [hy55, hc55]; exact Nat.sub_le_sub_right hroom55 _)); (clear hr55 hC55 hroom55 hi055 hsz55 hc55); (have KY55 := Za.mk hy55); (have KA55 := Za.mk hA55); (clear hy55 hA55); (replace q55 := eq_true q55)
         refine start_ (n := 10) (S := fun w' => w'.cell? ⟨gb252, 0, none⟩ = some (.int .i64 a0_0) ∧ w'.cell? ⟨gb252, 1, none⟩ = some (.int .i64 a0_1) ∧ w'.cell? ⟨gb252, 2, none⟩ = some (.int .i64 a0_2) ∧ w'.cell? ⟨gb252, 3, none⟩ = some (.slice (some ad259) l0_3.length c0_3) ∧ w'.cell? ⟨gb260, 0, none⟩ = some (.int .i64 ((Zb l0_3 x43_3).f0)) ∧ w'.cell? ⟨gb260, 1, none⟩ = some (.slice (some ad262) ((Zb l0_3 x43_3).f1).length c259_1)) (ds := []) #[false, false, false, false, false, false, false, false, false, false] (by kernel_rfl) rfl rfl ⟨(Zc BK252.out 0).trans rfl, (Zc BK252.out 1).trans rfl, (Zc BK252.out 2).trans rfl, (Zc BK252.out 3).trans rfl, (Zc BK260.out 0).trans rfl, (Zc BK260.out 1).trans rfl⟩ (fun hHeld => ?_); refine with_tabW Zq.tab19 Zq.bits19 (fun HT_ HW_ => ?_)
         generalize w52.drew = w54 at HO_6 BK252 BK260 HB HR267 hHeld ⊢
         refine pure_ (i := 0) (N := some 69) (v := ?_) (a' := ?_) #[true, false, false, false, false, false, false, false, false, false] rfl rfl (Zn HT_.out (by kernel_rfl)) (fun _ _ _ h => h) (Or.inl ⟨by rfl, ?_⟩) ?_ ?_
         rotate_left
         ·intro w'
          go_simp
          with_reducible rfl
         rotate_left
         ·simp only [Act.put, List.setIfInBounds_toArray, List.set_cons_zero, List.set_cons_succ, Zl, Zm]
          rfl
         refine pure_ (i := 2) (N := some 71) (v := ?_) (a' := ?_) #[true, false, true, false, false, false, false, false, false, false] rfl rfl (Zn HT_.out (by kernel_rfl)) (fun _ _ _ h => h) (Or.inl ⟨by rfl, ?_⟩) ?_ ?_
         rotate_left
         ·intro w'
          go_simp
          with_reducible rfl
         rotate_left
         ·simp only [Act.put, List.setIfInBounds_toArray, List.set_cons_zero, List.set_cons_succ, Zl, Zm]
          rfl
         refine pure_ (i := 4) (N := some 73) (v := ?_) (a' := ?_) #[true, false, true, false, true, false, false, false, false, false] rfl rfl (Zn HT_.out (by kernel_rfl)) (fun _ _ _ h => h) (Or.inl ⟨by rfl, ?_⟩) ?_ ?_
         rotate_left
         ·intro w'
          go_simp
          with_reducible rfl
         rotate_left
         ·simp only [Act.put, List.setIfInBounds_toArray, List.set_cons_zero, List.set_cons_succ, Zl, Zm]
          rfl
         refine pure_ (i := 5) (N := some 74) (v := ?_) (a' := ?_) #[true, false, true, false, true, true, false, false, false, false] rfl rfl (Zn HT_.out (by kernel_rfl)) (fun _ _ _ h => h) (Or.inl ⟨by rfl, ?_⟩) ?_ ?_
         rotate_left
         ·intro w'
          go_simp
          with_reducible rfl
         rotate_left
         ·simp only [Act.put, List.setIfInBounds_toArray, List.set_cons_zero, List.set_cons_succ, Zl, Zm]
          rfl
         refine take_ (i := 1) (N := some 70) (v := ?_) (a' := ?_) #[true, true, true, false, true, true, false, false, false, false] rfl rfl (Zk1 HT_.out HW_.out (by kernel_rfl)) (fun _ _ _ h => h) (Or.inl ⟨by rfl, ?_⟩) hHeld ?_ ?_
         rotate_left
         ·rintro w' ⟨s0, s1, s2, s3, s4, s5⟩
          go_simp
          with_reducible rfl
         rotate_left
         ·simp only [Act.put, List.setIfInBounds_toArray, List.set_cons_zero, List.set_cons_succ, Zl, Zm]
          rfl
         refine take_ (i := 3) (N := some 72) (v := ?_) (a' := ?_) #[true, true, true, true, true, true, false, false, false, false] rfl rfl (Zk1 HT_.out HW_.out (by kernel_rfl)) (fun _ _ _ h => h) (Or.inl ⟨by rfl, ?_⟩) hHeld ?_ ?_
         rotate_left
         ·rintro w' ⟨s0, s1, s2, s3, s4, s5⟩
          go_simp
          with_reducible rfl
         rotate_left
         ·simp only [Act.put, List.setIfInBounds_toArray, List.set_cons_zero, List.set_cons_succ, Zl, Zm]
          rfl
         refine pure_ (i := 6) (N := some 75) (v := ?_) (a' := ?_) #[true, true, true, true, true, true, true, false, false, false] rfl rfl (Zn HT_.out (by kernel_rfl)) (fun _ _ _ h => h) (Or.inl ⟨by rfl, ?_⟩) ?_ ?_
         rotate_left
         ·intro w'
          go_simp
          with_reducible rfl
         rotate_left
         ·simp only [Act.put, List.setIfInBounds_toArray, List.set_cons_zero, List.set_cons_succ, Zl, Zm]
          rfl
         refine one_ (i := 7) (N := some 76) #[true, true, true, true, true, true, true, true, false, false] rfl rfl (one_of HT_.out (by kernel_rfl)) (by decide) (fun K hK => ?_)
         refine goes_ Try.func36 (by kernel_rfl) rfl #[.agg #[.int .i64 a0_0, .int .i64 a0_1, .int .i64 a0_2, .slice (some ad259) l0_3.length c0_3], .slice A55 y264.length c55] (by rfl) rfl rfl (by (try simp only [List.map_toArray, List.map_cons, List.map_nil]); first | done | rfl | (simp only [List.length_drop, List.length_take]; rfl)) ?_
         with_reducible refine (Zv.calls k4 a0_0 a0_1 a0_2 _ _ l0_3 _ _ y264 t268 _ ?side1 ?side2 ?side3 ?side4 A39.out).mono ?_
         (case side1 => repeat (first | exact (Kd.C_below HR0_3.out HB.out) | (with_reducible refine Kd.C_alloc ?_ _) | (with_reducible refine Kd.C_drewN ?_ _) | (with_reducible refine Kd.C_drew ?_)))
         (case side2 => exact HC0_3.out)
         (case side3 => repeat (first | exact (Kd.C_below HR267.out HB.out) | (with_reducible refine Kd.C_alloc ?_ _) | (with_reducible refine Kd.C_drewN ?_ _) | (with_reducible refine Kd.C_drew ?_)))
         (case side4 => exact HC267.out)
         rintro e w56 ⟨rfl, hb⟩
         refine ⟨_, rfl, ?_⟩
         (have n0_ := Za.mk (Kd.R_below (by (with_reducible repeat (first | apply Kd.R_alloc | apply Kd.R_drewN | apply Kd.R_drew)); exact HO_6.out) hb)); (have n1_ := Za.mk (Zp (g := gb252) (o := .cells #[.int .i64 a0_0, .int .i64 a0_1, .int .i64 a0_2, .slice (some ad259) l0_3.length c0_3] 24 (0, 0)) (by (with_reducible repeat (first | refine Zj ?_ _ | refine Zf ?_ | refine Zi ?_ _)); exact BK252.out) hb)); (have n2_ := Za.mk (Zp (g := gb260) (o := .cells #[.int .i64 ((Zb l0_3 x43_3).f0), .slice (some ad262) ((Zb l0_3 x43_3).f1).length c259_1] 38 (0, 0)) (by (with_reducible repeat (first | refine Zj ?_ _ | refine Zf ?_ | refine Zi ?_ _)); exact BK260.out) hb)); (have n3_ := Za.mk (Zr (by repeat (first | (with_reducible first | exact HB.out | apply Zh | apply Zk | apply Zg | refine Ze ?_ GE252.out | refine Ze ?_ GE260.out) | exact HB.out)) hb)); (clear HO_6); (clear BK252); (clear BK260); (clear HB); (have HO_6 := n0_); (have BK252 := n1_); (have BK260 := n2_); (have HB := n3_); (clear n0_ n1_ n2_ n3_); ((try clear hb)); ((try clear hb2)); ((try clear hk)); ((try clear hi))
         refine hK.out _ _ ⟨(Zc BK252.out 0).trans rfl, (Zc BK252.out 1).trans rfl, (Zc BK252.out 2).trans rfl, (Zc BK252.out 3).trans rfl, (Zc BK260.out 0).trans rfl, (Zc BK260.out 1).trans rfl⟩ (fun hHeld => ?_)
         clear hK K
         refine norm_ (a' := ?_) ?_ ?_
         rotate_left
         ·show Act.put _ (some 76) _ = _
          simp only [Act.put, List.setIfInBounds_toArray, List.set_cons_zero, List.set_cons_succ, Zl, Zm]
          rfl
         refine pure_ (i := 8) (N := some 77) (v := ?_) (a' := ?_) #[true, true, true, true, true, true, true, true, true, false] rfl rfl (Zn HT_.out (by kernel_rfl)) (fun _ _ _ h => h) (Or.inl ⟨by rfl, ?_⟩) ?_ ?_
         rotate_left
         ·intro w'
          go_simp
          with_reducible rfl
         rotate_left
         ·simp only [Act.put, List.setIfInBounds_toArray, List.set_cons_zero, List.set_cons_succ, Zl, Zm]
          rfl
         refine pure_ (i := 9) (N := some 7) (v := ?_) (a' := ?_) #[true, true, true, true, true, true, true, true, true, true] rfl rfl (Zn HT_.out (by kernel_rfl)) (fun _ _ _ h => h) (Or.inl ⟨by rfl, ?_⟩) ?_ ?_
         rotate_left
         ·intro w'
          go_simp
          with_reducible rfl
         rotate_left
         ·simp only [Act.put, List.setIfInBounds_toArray, List.set_cons_zero, List.set_cons_succ, Zl, Zm]
          rfl
         refine done_ (done_of HT_.out (by kernel_rfl)) ?_
         try go_wp2
         (have n0_ := Za.mk (Kd.R_drew HO_6.out)); (have n1_ := Za.mk (Zf BK252.out)); (have n2_ := Za.mk (Zf BK260.out)); (have n3_ := Za.mk (Zg HB.out)); (clear HO_6); (clear BK252); (clear BK260); (clear HB); (have HO_6 := n0_); (have BK252 := n1_); (have BK260 := n2_); (have HB := n3_); (clear n0_ n1_ n2_ n3_)
         refine start_ (n := 14) (S := fun w' => w'.cell? ⟨gb252, 0, none⟩ = some (.int .i64 a0_0) ∧ w'.cell? ⟨gb252, 1, none⟩ = some (.int .i64 a0_1) ∧ w'.cell? ⟨gb252, 2, none⟩ = some (.int .i64 a0_2) ∧ w'.cell? ⟨gb252, 3, none⟩ = some (.slice (some ad259) l0_3.length c0_3) ∧ w'.cell? ⟨gb260, 0, none⟩ = some (.int .i64 ((Zb l0_3 x43_3).f0)) ∧ w'.cell? ⟨gb260, 1, none⟩ = some (.slice (some ad262) ((Zb l0_3 x43_3).f1).length c259_1)) (ds := []) #[false, false, false, false, false, false, false, false, false, false, false, false, false, false] (by kernel_rfl) rfl rfl ⟨(Zc BK252.out 0).trans rfl, (Zc BK252.out 1).trans rfl, (Zc BK252.out 2).trans rfl, (Zc BK252.out 3).trans rfl, (Zc BK260.out 0).trans rfl, (Zc BK260.out 1).trans rfl⟩ (fun hHeld => ?_); refine with_tabW Zq.tab20 Zq.bits20 (fun HT_ HW_ => ?_)
         generalize w56.drew = w57 at HO_6 BK252 BK260 HB hHeld ⊢
         refine pure_ (i := 1) (N := some 79) (v := ?_) (a' := ?_) #[false, true, false, false, false, false, false, false, false, false, false, false, false, false] rfl rfl (Zn HT_.out (by kernel_rfl)) (fun _ _ _ h => h) (Or.inl ⟨by rfl, ?_⟩) ?_ ?_
         rotate_left
         ·intro w'
          go_simp
          with_reducible rfl
         rotate_left
         ·simp only [Act.put, List.setIfInBounds_toArray, List.set_cons_zero, List.set_cons_succ, Zl, Zm]
          rfl
         refine pure_ (i := 3) (N := some 81) (v := ?_) (a' := ?_) #[false, true, false, true, false, false, false, false, false, false, false, false, false, false] rfl rfl (Zn HT_.out (by kernel_rfl)) (fun _ _ _ h => h) (Or.inl ⟨by rfl, ?_⟩) ?_ ?_
         rotate_left
         ·intro w'
          go_simp
          with_reducible rfl
         rotate_left
         ·simp only [Act.put, List.setIfInBounds_toArray, List.set_cons_zero, List.set_cons_succ, Zl, Zm]
          rfl
         refine pure_ (i := 4) (N := some 82) (v := ?_) (a' := ?_) #[false, true, false, true, true, false, false, false, false, false, false, false, false, false] rfl rfl (Zn HT_.out (by kernel_rfl)) (fun _ _ _ h => h) (Or.inl ⟨by rfl, ?_⟩) ?_ ?_
         rotate_left
         ·intro w'
          go_simp
          with_reducible rfl
         rotate_left
         ·simp only [Act.put, List.setIfInBounds_toArray, List.set_cons_zero, List.set_cons_succ, Zl, Zm]
          rfl
         refine take_ (i := 0) (N := some 78) (v := ?_) (a' := ?_) #[true, true, false, true, true, false, false, false, false, false, false, false, false, false] rfl rfl (Zk1 HT_.out HW_.out (by kernel_rfl)) (fun _ _ _ h => h) (Or.inl ⟨by rfl, ?_⟩) hHeld ?_ ?_
         rotate_left
         ·rintro w' ⟨s0, s1, s2, s3, s4, s5⟩
          go_simp
          with_reducible rfl
         rotate_left
         ·simp only [Act.put, List.setIfInBounds_toArray, List.set_cons_zero, List.set_cons_succ, Zl, Zm]
          rfl
         refine take_ (i := 2) (N := some 80) (v := ?_) (a' := ?_) #[true, true, true, true, true, false, false, false, false, false, false, false, false, false] rfl rfl (Zk1 HT_.out HW_.out (by kernel_rfl)) (fun _ _ _ h => h) (Or.inl ⟨by rfl, ?_⟩) hHeld ?_ ?_
         rotate_left
         ·rintro w' ⟨s0, s1, s2, s3, s4, s5⟩
          go_simp
          with_reducible rfl
         rotate_left
         ·simp only [Act.put, List.setIfInBounds_toArray, List.set_cons_zero, List.set_cons_succ, Zl, Zm]
          rfl
         refine pure_ (i := 5) (N := some 83) (v := ?_) (a' := ?_) #[true, true, true, true, true, true, false, false, false, false, false, false, false, false] rfl rfl (Zn HT_.out (by kernel_rfl)) (fun _ _ _ h => h) (Or.inl ⟨by rfl, ?_⟩) ?_ ?_
         rotate_left
         ·intro w'
          go_simp
          with_reducible rfl
         rotate_left
         ·simp only [Act.put, List.setIfInBounds_toArray, List.set_cons_zero, List.set_cons_succ, Zl, Zm]
          rfl
         refine one_ (i := 6) (N := some 84) #[true, true, true, true, true, true, true, false, false, false, false, false, false, false] rfl rfl (one_of HT_.out (by kernel_rfl)) (by decide) (fun K hK => ?_)
         refine goes_ Try.func63 (by kernel_rfl) rfl #[.agg #[.int .i64 a0_0, .int .i64 a0_1, .int .i64 a0_2, .slice (some ad259) l0_3.length c0_3], .slice A55 y264.length c55] (by rfl) rfl rfl (by (try simp only [List.map_toArray, List.map_cons, List.map_nil]); first | done | rfl | (simp only [List.length_drop, List.length_take]; rfl)) ?_
         with_reducible refine (Zl1.calls k4 a0_0 a0_1 a0_2 _ _ l0_3 _ _ y264 true _ ?side1 ?side2 ?side3 ?side4 A40.out).mono ?_
         (case side1 => repeat (first | exact (Kd.C_below HR0_3.out HB.out) | (with_reducible refine Kd.C_alloc ?_ _) | (with_reducible refine Kd.C_drewN ?_ _) | (with_reducible refine Kd.C_drew ?_)))
         (case side2 => exact HC0_3.out)
         (case side3 => repeat (first | exact (Kd.C_below HR267.out HB.out) | (with_reducible refine Kd.C_alloc ?_ _) | (with_reducible refine Kd.C_drewN ?_ _) | (with_reducible refine Kd.C_drew ?_)))
         (case side4 => exact HC267.out)
         rintro e w58 ⟨rfl, hb⟩
         refine ⟨_, rfl, ?_⟩
         (have n0_ := Za.mk (Kd.R_below (by (with_reducible repeat (first | apply Kd.R_alloc | apply Kd.R_drewN | apply Kd.R_drew)); exact HO_6.out) hb)); (have n1_ := Za.mk (Zp (g := gb252) (o := .cells #[.int .i64 a0_0, .int .i64 a0_1, .int .i64 a0_2, .slice (some ad259) l0_3.length c0_3] 24 (0, 0)) (by (with_reducible repeat (first | refine Zj ?_ _ | refine Zf ?_ | refine Zi ?_ _)); exact BK252.out) hb)); (have n2_ := Za.mk (Zp (g := gb260) (o := .cells #[.int .i64 ((Zb l0_3 x43_3).f0), .slice (some ad262) ((Zb l0_3 x43_3).f1).length c259_1] 38 (0, 0)) (by (with_reducible repeat (first | refine Zj ?_ _ | refine Zf ?_ | refine Zi ?_ _)); exact BK260.out) hb)); (have n3_ := Za.mk (Zr (by repeat (first | (with_reducible first | exact HB.out | apply Zh | apply Zk | apply Zg | refine Ze ?_ GE252.out | refine Ze ?_ GE260.out) | exact HB.out)) hb)); (clear HO_6); (clear BK252); (clear BK260); (clear HB); (have HO_6 := n0_); (have BK252 := n1_); (have BK260 := n2_); (have HB := n3_); (clear n0_ n1_ n2_ n3_); ((try clear hb)); ((try clear hb2)); ((try clear hk)); ((try clear hi))
         refine hK.out _ _ ⟨(Zc BK252.out 0).trans rfl, (Zc BK252.out 1).trans rfl, (Zc BK252.out 2).trans rfl, (Zc BK252.out 3).trans rfl, (Zc BK260.out 0).trans rfl, (Zc BK260.out 1).trans rfl⟩ (fun hHeld => ?_)
         clear hK K
         refine norm_ (a' := ?_) ?_ ?_
         rotate_left
         ·show Act.put _ (some 84) _ = _
          simp only [Act.put, List.setIfInBounds_toArray, List.set_cons_zero, List.set_cons_succ, Zl, Zm]
          rfl
         refine pure_ (i := 7) (N := some 85) (v := ?_) (a' := ?_) #[true, true, true, true, true, true, true, true, false, false, false, false, false, false] rfl rfl (Zn HT_.out (by kernel_rfl)) (fun _ _ _ h => h) (Or.inl ⟨by rfl, ?_⟩) ?_ ?_
         rotate_left
         ·intro w'
          go_simp
          with_reducible rfl
         rotate_left
         ·simp only [Act.put, List.setIfInBounds_toArray, List.set_cons_zero, List.set_cons_succ, Zl, Zm]
          rfl
         refine pure_ (i := 8) (N := some 86) (v := ?_) (a' := ?_) #[true, true, true, true, true, true, true, true, true, false, false, false, false, false] rfl rfl (Zn HT_.out (by kernel_rfl)) (fun _ _ _ h => h) (Or.inl ⟨by rfl, ?_⟩) ?_ ?_
         rotate_left
         ·intro w'
          go_simp
          with_reducible rfl
         rotate_left
         ·simp only [Act.put, List.setIfInBounds_toArray, List.set_cons_zero, List.set_cons_succ, Zl, Zm]
          rfl
         refine pure_ (i := 9) (N := some 87) (v := ?_) (a' := ?_) #[true, true, true, true, true, true, true, true, true, true, false, false, false, false] rfl rfl (Zn HT_.out (by kernel_rfl)) (fun _ _ _ h => h) (Or.inl ⟨by rfl, ?_⟩) ?_ ?_
         rotate_left
         ·intro w'
          go_simp
          with_reducible rfl
         rotate_left
         ·simp only [Act.put, List.setIfInBounds_toArray, List.set_cons_zero, List.set_cons_succ, Zl, Zm]
          rfl
         refine take_ (i := 10) (N := some 88) (v := ?_) (a' := ?_) #[true, true, true, true, true, true, true, true, true, true, true, false, false, false] rfl rfl (Zk1 HT_.out HW_.out (by kernel_rfl)) (fun _ _ _ h => h) (Or.inl ⟨by rfl, ?_⟩) hHeld ?_ ?_
         rotate_left
         ·rintro w' ⟨s0, s1, s2, s3, s4, s5⟩
          go_simp
          with_reducible rfl
         rotate_left
         ·simp only [Act.put, List.setIfInBounds_toArray, List.set_cons_zero, List.set_cons_succ, Zl, Zm]
          rfl
         refine one_ (i := 11) (N := some 89) #[true, true, true, true, true, true, true, true, true, true, true, true, false, false] rfl rfl (one_of HT_.out (by kernel_rfl)) (by decide) (fun K hK => ?_)
         refine goes_ Try.func46 (by kernel_rfl) rfl #[.slice (some ad263) x6_4.length co53, .int .i64 ((Zb l0_3 x43_3).f0)] (by rfl) rfl rfl (by (try simp only [List.map_toArray, List.map_cons, List.map_nil]); first | done | rfl | (simp only [List.length_drop, List.length_take]; rfl)) ?_
         with_reducible refine (Zy.calls k4 _ _ x6_4 ((Zb l0_3 x43_3).f0) false _ ?side1 ?side2 A42.out).mono ?_
         (case side1 => repeat (first | exact (Kd.R_reads' HO_6.out).2.2 | (with_reducible refine Kd.C_alloc ?_ _) | (with_reducible refine Kd.C_drewN ?_ _) | (with_reducible refine Kd.C_drew ?_)))
         (case side2 => exact (Kd.R_reads' HO_6.out).2.1)
         rintro e w' ⟨rfl, ⟨nd, rfl⟩⟩
         refine ⟨_, rfl, ?_⟩
         refine hK.out _ _ ⟨(Zc BK252.out 0).trans rfl, (Zc BK252.out 1).trans rfl, (Zc BK252.out 2).trans rfl, (Zc BK252.out 3).trans rfl, (Zc BK260.out 0).trans rfl, (Zc BK260.out 1).trans rfl⟩ (fun hHeld => ?_)
         clear hK K
         refine norm_ (a' := ?_) ?_ ?_
         rotate_left
         ·show Act.put _ (some 89) _ = _
          simp only [Act.put, List.setIfInBounds_toArray, List.set_cons_zero, List.set_cons_succ, Zl, Zm]
          rfl
         refine pure_ (i := 12) (N := some 90) (v := ?_) (a' := ?_) #[true, true, true, true, true, true, true, true, true, true, true, true, true, false] rfl rfl (Zn HT_.out (by kernel_rfl)) (fun _ _ _ h => h) (Or.inl ⟨by rfl, ?_⟩) ?_ ?_
         rotate_left
         ·intro w'
          go_simp
          with_reducible rfl
         rotate_left
         ·simp only [Act.put, List.setIfInBounds_toArray, List.set_cons_zero, List.set_cons_succ, Zl, Zm]
          rfl
         refine pure_ (i := 13) (N := some 91) (v := ?_) (a' := ?_) #[true, true, true, true, true, true, true, true, true, true, true, true, true, true] rfl rfl (Zn HT_.out (by kernel_rfl)) (fun _ _ _ h => h) (Or.inl ⟨by rfl, ?_⟩) ?_ ?_
         rotate_left
         ·intro w'
          go_simp
          with_reducible rfl
         rotate_left
         ·simp only [Act.put, List.setIfInBounds_toArray, List.set_cons_zero, List.set_cons_succ, Zl, Zm]
          rfl
         refine done_ (done_of HT_.out (by kernel_rfl)) ?_
         (have hnb59 := NB260_252.out); (have hnc59 := NB252_260.out); (have hcz60_0 : w58.cell? ⟨gb260, 0, none⟩ = some (.int .i64 ((Zb l0_3 x43_3).f0)) := (Zc BK260.out 0).trans rfl); (have hcz60_1 : w58.cell? ⟨gb260, 1, none⟩ = some (.slice (some ad262) ((Zb l0_3 x43_3).f1).length c259_1) := (Zc BK260.out 1).trans rfl); (have hfz60_0 := Zd BK260.out 0); (have hfz60_1 := Zd BK260.out 1)
         try go_wp2_with (first | ((with_reducible refine gate_builtin (b := .append) (xs := #[.tmp 92, .tmp 95]) rfl ?_); at_builtin; refine Kd.R_append (Kd.int .i64) (w0 := w) w.heap.size rfl (.tmp 92) (.tmp 95) 33 3 (.int .i64 0) 8 rfl Try.underlying33 info3 rfl (by decide) (by omega) (.slice (some ad263) x6_4.length co53) x6_4 ((Zb l0_3 x43_3).f0) [.int .i64 ((Zb l0_3 x43_3).f0)] (fun _ => True) (fun _ => False) rfl rfl ?aP (fun _ hk => hk.elim) ?aF ?aO ?aB ?aS ?aL ?_; (case aP => exact rfl); (case aB => exact (by repeat (first | (with_reducible first | exact HB.out | apply Zh | apply Zk | apply Zg | refine Ze ?_ GE252.out | refine Ze ?_ GE260.out) | exact HB.out))); (case aF => exact (fun _ _ => trivial)); (case aO => exact (by (with_reducible repeat (first | apply Kd.R_alloc | apply Kd.R_drewN | apply Kd.R_drew)); exact HO_6.out)); (case aS => exact (Zo (by repeat (first | (with_reducible first | exact HB.out | apply Zh | apply Zk | apply Zg | refine Ze ?_ GE252.out | refine Ze ?_ GE260.out) | exact HB.out)))); (case aL => have := LMc51.out; omega); intro v272 w61 ho hb hg hat; rw [← Ny271.out] at ho; have n0_ := Za.mk (Zs1 (g := gb252) (o := .cells #[.int .i64 a0_0, .int .i64 a0_1, .int .i64 a0_2, .slice (some ad259) l0_3.length c0_3] 24 (0, 0)) (by (with_reducible repeat (first | refine Zj ?_ _ | refine Zf ?_ | refine Zi ?_ _)); exact BK252.out) hg (Kd.R_ne HO_6.out BK252.out (by decide))); have n1_ := Za.mk (Zs1 (g := gb260) (o := .cells #[.int .i64 ((Zb l0_3 x43_3).f0), .slice (some ad262) ((Zb l0_3 x43_3).f1).length c259_1] 38 (0, 0)) (by (with_reducible repeat (first | refine Zj ?_ _ | refine Zf ?_ | refine Zi ?_ _)); exact BK260.out) hg (Kd.R_ne HO_6.out BK260.out (by decide))); have n2_ := Za.mk (hb); have n3_ := Za.mk (ho); clear BK252; clear BK260; clear HB; clear HO_6; have BK252 := n0_; have BK260 := n1_; have HB := n2_; have HO273 := n3_; clear n0_ n1_ n2_ n3_; clear ho hb hg hat))
         (first | go_roundg k4 | (simp only [← hji36]; go_roundg k4))
         case measure => have := HK1.out; have := HJ12.out; have := HK3.out; have := HK4.out; omega
         case rel => exact ⟨(y271), (Go.bits .or .u32 x7_4 t268), (ji36), (by first | rfl | (simp; done) | (simp [*]; done)), (by first | rfl | (simp; done) | (simp only [← hji36] <;> (first | rfl | simp)) | (simp [*]; done)), H', ⟨by have := HK1.out; have := HJ12.out; have := HK3.out; have := HK4.out; omega⟩, ⟨by (with_reducible repeat (first | apply Kd.R_alloc | apply Kd.R_drewN | apply Kd.R_drew)); exact HO273.out⟩, ⟨by (with_reducible repeat (first | refine Zj ?_ _ | refine Zf ?_ | refine Zi ?_ _)); exact BK252.out⟩, ⟨by (with_reducible repeat (first | refine Zj ?_ _ | refine Zf ?_ | refine Zi ?_ _)); exact BK260.out⟩, ⟨by repeat (first | (with_reducible first | exact HB.out | apply Zh | apply Zk | apply Zg | refine Ze ?_ GE252.out | refine Ze ?_ GE260.out) | exact HB.out)⟩⟩
end Go.Proofs.Ytnjfcbhbebokeaa.PAheadClears
