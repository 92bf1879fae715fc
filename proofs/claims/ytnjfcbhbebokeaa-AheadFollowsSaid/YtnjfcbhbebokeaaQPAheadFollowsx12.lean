-- Printed by a turn of a template of the kit, and shortened: remarks and what nothing here uses are left out.
import Derived.Test.YtnjfcbhbebokeaaQPAheadFollowsx0
import Derived.Test.YtnjfcbhbebokeaaQPAheadFollowsx8
import Derived.Test.YtnjfcbhbebokeaaQPAheadFollowsx9
import Derived.Test.YtnjfcbhbebokeaaQPAheadFollowsx10
import Derived.Test.YtnjfcbhbebokeaaQPAheadFollowsx11
namespace Go.Proofs.Ytnjfcbhbebokeaa.PAheadFollows
open Go.RowKit Go.Proofs.YtnjfcbhbebokeaaW.PrintWords Go.Proofs.YtnjfcbhbebokeaaW.PrintLast Go.Proofs.YtnjfcbhbebokeaaW.PrintMore
attribute [local go_sem] max2_int min2_int max_two min_two max_three min_three max_four min_four
set_option linter.unusedVariables false
set_option linter.unusedSimpArgs false
mutual
def coppicerref_FollowOf.l0 : Nat → Int → List Int → Int → Int → Int → Int → Int → List (S38) → Option (Int)
  | 0, _, _, _, _, _, _, _, _ => none
  | k + 1, x5, x6, x7, x8, x231000, x231001, x231002, x231003 => if x8 < (x6.length : Int) then (if 0 ≤ x8 then (if (rd x6 x8) = x231002 then (if 0 ≤ (IntKind.u64.wrap (x231000)) then (coppicerref_FollowOf.j1 k x5 x6 (Go.bits .or .u32 x7 (shl .u32 1 (IntKind.u64.wrap (x231000)))) x8 x231000 x231001 x231002 x231003) else (none)) else (coppicerref_FollowOf.j1 k x5 x6 x7 x8 x231000 x231001 x231002 x231003)) else (none)) else (some x7)
def coppicerref_FollowOf.j1 : Nat → Int → List Int → Int → Int → Int → Int → Int → List (S38) → Option (Int)
  | 0, _, _, _, _, _, _, _, _ => none
  | k + 1, x5, x6, x7, x8, x231000, x231001, x231002, x231003 => coppicerref_FollowOf.l1 k x5 x6 x7 x8 x231003 (x231003.length : Int) 0 x231000 x231001 x231002 x231003
def coppicerref_FollowOf.l1 : Nat → Int → List Int → Int → Int → List (S38) → Int → Int → Int → Int → Int → List (S38) → Option (Int)
  | 0, _, _, _, _, _, _, _, _, _, _, _ => none
  | k + 1, x5, x6, x7, x8, x41, x42, x43, x231000, x231001, x231002, x231003 => if x43 < x42 then (if 0 ≤ x43 then (if x43 < (x41.length : Int) then ((coppicerref_Bit.f x5 ((rd_T38 x41 x43).f0)).bind fun t239 => (if t239 = true then (coppicerref_FollowOf.l2 k x5 x6 x7 x8 x41 x42 x43 ((rd_T38 x41 x43).f1) (((rd_T38 x41 x43).f1).length : Int) 0 x231000 x231001 x231002 x231003 ((rd_T38 x41 x43).f0) ((rd_T38 x41 x43).f1)) else (coppicerref_FollowOf.l1 k x5 x6 x7 x8 x41 x42 (wrap64 (x43 + 1)) x231000 x231001 x231002 x231003))) else (none)) else (none)) else (coppicerref_FollowOf.l0 k x5 x6 x7 (wrap64 (x8 + 1)) x231000 x231001 x231002 x231003)
def coppicerref_FollowOf.l2 : Nat → Int → List Int → Int → Int → List (S38) → Int → Int → List Int → Int → Int → Int → Int → Int → List (S38) → Int → List Int → Option (Int)
  | 0, _, _, _, _, _, _, _, _, _, _, _, _, _, _, _, _ => none
  | k + 1, x5, x6, x7, x8, x41, x42, x43, x53, x54, x55, x231000, x231001, x231002, x231003, x239000, x239001 => if x55 < x54 then (if 0 ≤ x55 then (if x55 < (x53.length : Int) then (if 0 ≤ x8 then (if x8 < (x6.length : Int) then (if (rd x53 x55) = (wrap64 (x231000 + (rd x6 x8))) then (if 0 ≤ (wrap64 (x55 + 1)) then (if (wrap64 (x55 + 1)) ≤ (x239001.length : Int) then ((some (x239001.drop ((wrap64 (x55 + 1)) : Int).toNat : List Int)).bind fun y242 => ((coppicerref_Firsts.f k x231000 x231001 x231002 x231003 y242).bind fun t246 => ((coppicerref_Gone.f k x231000 x231001 x231002 x231003 y242).bind fun t247 => (if t247 = true then ((coppicerref_Has.f k x6 x239000).bind fun t248 => (if t248 = true then (coppicerref_FollowOf.l2 k x5 x6 (Go.bits .or .u32 x7 t246) x8 x41 x42 x43 x53 x54 (wrap64 (x55 + 1)) x231000 x231001 x231002 x231003 x239000 x239001) else (if x6.length < 17592186044416 then (coppicerref_FollowOf.l2 k x5 (x6 ++ [x239000]) (Go.bits .or .u32 x7 t246) x8 x41 x42 x43 x53 x54 (wrap64 (x55 + 1)) x231000 x231001 x231002 x231003 x239000 x239001) else (none)))) else (coppicerref_FollowOf.l2 k x5 x6 (Go.bits .or .u32 x7 t246) x8 x41 x42 x43 x53 x54 (wrap64 (x55 + 1)) x231000 x231001 x231002 x231003 x239000 x239001))))) else (none)) else (none)) else (coppicerref_FollowOf.l2 k x5 x6 x7 x8 x41 x42 x43 x53 x54 (wrap64 (x55 + 1)) x231000 x231001 x231002 x231003 x239000 x239001)) else (none)) else (none)) else (none)) else (none)) else (coppicerref_FollowOf.l1 k x5 x6 x7 x8 x41 x42 (wrap64 (x43 + 1)) x231000 x231001 x231002 x231003)
end
def coppicerref_FollowOf.f (k : Nat) (a0_0 : Int) (a0_1 : Int) (a0_2 : Int) (l0_3 : List (S38)) (a1 : Int) : Option (Int) := (coppicerref_Comes.f k a0_0 a0_1 a0_2 l0_3).bind fun t231 => ((coppicerref_Bit.f t231 a1).bind fun t232 => (if t232 = true then (coppicerref_FollowOf.l0 k t231 (([a1] : List Int)) 0 0 a0_0 a0_1 a0_2 l0_3) else (some 0)))
theorem coppicerref_FollowOf.mono_l : ∀ k, (∀ y0 y1 y2 y3 y4 y5 y6 y7, LeO (coppicerref_FollowOf.l0 k y0 y1 y2 y3 y4 y5 y6 y7) (coppicerref_FollowOf.l0 (k + 1) y0 y1 y2 y3 y4 y5 y6 y7)) ∧ (∀ y0 y1 y2 y3 y4 y5 y6 y7, LeO (coppicerref_FollowOf.j1 k y0 y1 y2 y3 y4 y5 y6 y7) (coppicerref_FollowOf.j1 (k + 1) y0 y1 y2 y3 y4 y5 y6 y7)) ∧ (∀ y0 y1 y2 y3 y4 y5 y6 y7 y8 y9 y10, LeO (coppicerref_FollowOf.l1 k y0 y1 y2 y3 y4 y5 y6 y7 y8 y9 y10) (coppicerref_FollowOf.l1 (k + 1) y0 y1 y2 y3 y4 y5 y6 y7 y8 y9 y10)) ∧ (∀ y0 y1 y2 y3 y4 y5 y6 y7 y8 y9 y10 y11 y12 y13 y14 y15, LeO (coppicerref_FollowOf.l2 k y0 y1 y2 y3 y4 y5 y6 y7 y8 y9 y10 y11 y12 y13 y14 y15) (coppicerref_FollowOf.l2 (k + 1) y0 y1 y2 y3 y4 y5 y6 y7 y8 y9 y10 y11 y12 y13 y14 y15))
  | 0 => ⟨fun _ _ _ _ _ _ _ _ r h => by simp [coppicerref_FollowOf.l0] at h, fun _ _ _ _ _ _ _ _ r h => by simp [coppicerref_FollowOf.j1] at h, fun _ _ _ _ _ _ _ _ _ _ _ r h => by simp [coppicerref_FollowOf.l1] at h, fun _ _ _ _ _ _ _ _ _ _ _ _ _ _ _ _ r h => by simp [coppicerref_FollowOf.l2] at h⟩
  | k + 1 => by
    obtain ⟨ih0, ih1, ih2, ih3⟩ := coppicerref_FollowOf.mono_l k
    refine ⟨?_, ?_, ?_, ?_⟩
    · intro y0 y1 y2 y3 y4 y5 y6 y7
      unfold coppicerref_FollowOf.l0
      repeat' first
      | (with_reducible exact ih0 _ _ _ _ _ _ _ _)
      | (with_reducible exact ih1 _ _ _ _ _ _ _ _)
      | (with_reducible exact ih2 _ _ _ _ _ _ _ _ _ _ _)
      | (with_reducible exact ih3 _ _ _ _ _ _ _ _ _ _ _ _ _ _ _ _)
      | (with_reducible exact coppicerref_Comes.mono _ _ _ _ _)
      | (with_reducible exact coppicerref_Firsts.mono _ _ _ _ _ _)
      | (with_reducible exact coppicerref_Gone.mono _ _ _ _ _ _)
      | (with_reducible exact coppicerref_Has.mono _ _ _)
      | (with_reducible exact LeO.refl _)
      | (with_reducible exact LeO.none _)
      | (with_reducible refine LeO.ite ?_ ?_)
      | (with_reducible refine LeO.bind ?_ (fun _ => ?_))
      | exact ih0 _ _ _ _ _ _ _ _
      | exact ih1 _ _ _ _ _ _ _ _
      | exact ih2 _ _ _ _ _ _ _ _ _ _ _
      | exact ih3 _ _ _ _ _ _ _ _ _ _ _ _ _ _ _ _
      | exact coppicerref_Comes.mono _ _ _ _ _
      | exact coppicerref_Firsts.mono _ _ _ _ _ _
      | exact coppicerref_Gone.mono _ _ _ _ _ _
      | exact coppicerref_Has.mono _ _ _
      | exact LeO.none _
      | refine LeO.ite ?_ ?_
      | refine LeO.bind ?_ (fun _ => ?_)
    · intro y0 y1 y2 y3 y4 y5 y6 y7
      unfold coppicerref_FollowOf.j1
      repeat' first
      | (with_reducible exact ih0 _ _ _ _ _ _ _ _)
      | (with_reducible exact ih1 _ _ _ _ _ _ _ _)
      | (with_reducible exact ih2 _ _ _ _ _ _ _ _ _ _ _)
      | (with_reducible exact ih3 _ _ _ _ _ _ _ _ _ _ _ _ _ _ _ _)
      | (with_reducible exact coppicerref_Comes.mono _ _ _ _ _)
      | (with_reducible exact coppicerref_Firsts.mono _ _ _ _ _ _)
      | (with_reducible exact coppicerref_Gone.mono _ _ _ _ _ _)
      | (with_reducible exact coppicerref_Has.mono _ _ _)
      | (with_reducible exact LeO.refl _)
      | (with_reducible exact LeO.none _)
      | (with_reducible refine LeO.ite ?_ ?_)
      | (with_reducible refine LeO.bind ?_ (fun _ => ?_))
      | exact ih0 _ _ _ _ _ _ _ _
      | exact ih1 _ _ _ _ _ _ _ _
      | exact ih2 _ _ _ _ _ _ _ _ _ _ _
      | exact ih3 _ _ _ _ _ _ _ _ _ _ _ _ _ _ _ _
      | exact coppicerref_Comes.mono _ _ _ _ _
      | exact coppicerref_Firsts.mono _ _ _ _ _ _
      | exact coppicerref_Gone.mono _ _ _ _ _ _
      | exact coppicerref_Has.mono _ _ _
      | exact LeO.none _
      | refine LeO.ite ?_ ?_
      | refine LeO.bind ?_ (fun _ => ?_)
    · intro y0 y1 y2 y3 y4 y5 y6 y7 y8 y9 y10
      unfold coppicerref_FollowOf.l1
      repeat' first
      | (with_reducible exact ih0 _ _ _ _ _ _ _ _)
      | (with_reducible exact ih1 _ _ _ _ _ _ _ _)
      | (with_reducible exact ih2 _ _ _ _ _ _ _ _ _ _ _)
      | (with_reducible exact ih3 _ _ _ _ _ _ _ _ _ _ _ _ _ _ _ _)
      | (with_reducible exact coppicerref_Comes.mono _ _ _ _ _)
      | (with_reducible exact coppicerref_Firsts.mono _ _ _ _ _ _)
      | (with_reducible exact coppicerref_Gone.mono _ _ _ _ _ _)
      | (with_reducible exact coppicerref_Has.mono _ _ _)
      | (with_reducible exact LeO.refl _)
      | (with_reducible exact LeO.none _)
      | (with_reducible refine LeO.ite ?_ ?_)
      | (with_reducible refine LeO.bind ?_ (fun _ => ?_))
      | exact ih0 _ _ _ _ _ _ _ _
      | exact ih1 _ _ _ _ _ _ _ _
      | exact ih2 _ _ _ _ _ _ _ _ _ _ _
      | exact ih3 _ _ _ _ _ _ _ _ _ _ _ _ _ _ _ _
      | exact coppicerref_Comes.mono _ _ _ _ _
      | exact coppicerref_Firsts.mono _ _ _ _ _ _
      | exact coppicerref_Gone.mono _ _ _ _ _ _
      | exact coppicerref_Has.mono _ _ _
      | exact LeO.none _
      | refine LeO.ite ?_ ?_
      | refine LeO.bind ?_ (fun _ => ?_)
    · intro y0 y1 y2 y3 y4 y5 y6 y7 y8 y9 y10 y11 y12 y13 y14 y15
      unfold coppicerref_FollowOf.l2
      repeat' first
      | (with_reducible exact ih0 _ _ _ _ _ _ _ _)
      | (with_reducible exact ih1 _ _ _ _ _ _ _ _)
      | (with_reducible exact ih2 _ _ _ _ _ _ _ _ _ _ _)
      | (with_reducible exact ih3 _ _ _ _ _ _ _ _ _ _ _ _ _ _ _ _)
      | (with_reducible exact coppicerref_Comes.mono _ _ _ _ _)
      | (with_reducible exact coppicerref_Firsts.mono _ _ _ _ _ _)
      | (with_reducible exact coppicerref_Gone.mono _ _ _ _ _ _)
      | (with_reducible exact coppicerref_Has.mono _ _ _)
      | (with_reducible exact LeO.refl _)
      | (with_reducible exact LeO.none _)
      | (with_reducible refine LeO.ite ?_ ?_)
      | (with_reducible refine LeO.bind ?_ (fun _ => ?_))
      | exact ih0 _ _ _ _ _ _ _ _
      | exact ih1 _ _ _ _ _ _ _ _
      | exact ih2 _ _ _ _ _ _ _ _ _ _ _
      | exact ih3 _ _ _ _ _ _ _ _ _ _ _ _ _ _ _ _
      | exact coppicerref_Comes.mono _ _ _ _ _
      | exact coppicerref_Firsts.mono _ _ _ _ _ _
      | exact coppicerref_Gone.mono _ _ _ _ _ _
      | exact coppicerref_Has.mono _ _ _
      | exact LeO.none _
      | refine LeO.ite ?_ ?_
      | refine LeO.bind ?_ (fun _ => ?_)
theorem coppicerref_FollowOf.mono : ∀ a0 a1 a2 a3 a4 k, LeO (coppicerref_FollowOf.f k a0 a1 a2 a3 a4) (coppicerref_FollowOf.f (k + 1) a0 a1 a2 a3 a4) := by
  intro a0 a1 a2 a3 a4 k
  obtain ⟨ih0, ih1, ih2, ih3⟩ := coppicerref_FollowOf.mono_l k
  unfold coppicerref_FollowOf.f
  repeat' first
      | (with_reducible exact ih0 _ _ _ _ _ _ _ _)
      | (with_reducible exact ih1 _ _ _ _ _ _ _ _)
      | (with_reducible exact ih2 _ _ _ _ _ _ _ _ _ _ _)
      | (with_reducible exact ih3 _ _ _ _ _ _ _ _ _ _ _ _ _ _ _ _)
      | (with_reducible exact coppicerref_Comes.mono _ _ _ _ _)
      | (with_reducible exact coppicerref_Firsts.mono _ _ _ _ _ _)
      | (with_reducible exact coppicerref_Gone.mono _ _ _ _ _ _)
      | (with_reducible exact coppicerref_Has.mono _ _ _)
      | (with_reducible exact LeO.refl _)
      | (with_reducible exact LeO.none _)
      | (with_reducible refine LeO.ite ?_ ?_)
      | (with_reducible refine LeO.bind ?_ (fun _ => ?_))
      | exact ih0 _ _ _ _ _ _ _ _
      | exact ih1 _ _ _ _ _ _ _ _
      | exact ih2 _ _ _ _ _ _ _ _ _ _ _
      | exact ih3 _ _ _ _ _ _ _ _ _ _ _ _ _ _ _ _
      | exact coppicerref_Comes.mono _ _ _ _ _
      | exact coppicerref_Firsts.mono _ _ _ _ _ _
      | exact coppicerref_Gone.mono _ _ _ _ _ _
      | exact coppicerref_Has.mono _ _ _
      | exact LeO.none _
      | refine LeO.ite ?_ ?_
      | refine LeO.bind ?_ (fun _ => ?_)
def coppicerref_FollowOf.T18 : Bool × List (List Nat × List Nat) := (true, [([], []), ([], []), ([1], [1]), ([], []), ([], []), ([3, 4], [3, 4]), ([5], [5]), ([2, 6], [2, 6]), ([0, 7], [0, 7])])
def coppicerref_FollowOf.B18 : List Nat := [0, 0, 2, 0, 0, 24, 56, 126, 255]
theorem coppicerref_FollowOf.tab18 : rtab .any (opsOf Try.f38 18) = coppicerref_FollowOf.T18 := by kernel_rfl
theorem coppicerref_FollowOf.bits18 : waitsOk coppicerref_FollowOf.T18.2 coppicerref_FollowOf.B18 = true := by kernel_rfl
def coppicerref_FollowOf.T19 : Bool × List (List Nat × List Nat) := (true, [([], []), ([], []), ([], []), ([2], [2]), ([], []), ([4], [4]), ([3, 5], [3, 5]), ([1, 6], [1, 6]), ([0, 7], [0, 7]), ([8, 7, 0, 1, 2, 3, 4, 5, 6, 7, 8], [0, 8])])
def coppicerref_FollowOf.B19 : List Nat := [0, 0, 0, 4, 0, 16, 60, 126, 255, 511]
theorem coppicerref_FollowOf.tab19 : rtab .any (opsOf Try.f38 19) = coppicerref_FollowOf.T19 := by kernel_rfl
theorem coppicerref_FollowOf.bits19 : waitsOk coppicerref_FollowOf.T19.2 coppicerref_FollowOf.B19 = true := by kernel_rfl
def coppicerref_FollowOf.T20 : Bool × List (List Nat × List Nat) := (true, [([], []), ([], []), ([1], [1]), ([], []), ([3], [3]), ([2, 4], [2, 4]), ([0, 5], [0, 5]), ([6, 6], [6]), ([7], [7]), ([7], [7]), ([9, 7], [7, 9]), ([8, 10, 7, 7], [7, 8, 10]), ([11, 7], [7, 11]), ([7, 12], [7, 12])])
def coppicerref_FollowOf.B20 : List Nat := [0, 0, 2, 0, 8, 30, 63, 127, 255, 255, 767, 2047, 4095, 8191]
theorem coppicerref_FollowOf.tab20 : rtab .any (opsOf Try.f38 20) = coppicerref_FollowOf.T20 := by kernel_rfl
theorem coppicerref_FollowOf.bits20 : waitsOk coppicerref_FollowOf.T20.2 coppicerref_FollowOf.B20 = true := by kernel_rfl
set_option maxHeartbeats 8000000 in
set_option maxRecDepth 100000 in
theorem coppicerref_FollowOf.calls (k : Nat) (a0_0 : Int) (a0_1 : Int) (a0_2 : Int) (A0_3 : Option Addr) (c0_3 : Nat) (l0_3 : List (S38)) (a1 : Int) (r : Int) (w : World) (hr0_3 : Kd.C k38 w A0_3 l0_3.length l0_3) (hc0_3 : l0_3.length ≤ c0_3) (h : coppicerref_FollowOf.f k a0_0 a0_1 a0_2 l0_3 a1 = some r) :
    Calls Try.prog 38 #[.agg #[.int .i64 a0_0, .int .i64 a0_1, .int .i64 a0_2, .slice A0_3 l0_3.length c0_3], .int .i64 a1] w fun e w' => e = .returned (.int .u32 r) ∧ Below w.heap.size w w' := by
  (have hu24 := Try.underlying24); (have hu38 := Try.underlying38); (have HR0_3 := Aside0.mk hr0_3); (have HC0_3 := Aside0.mk hc0_3); (clear hr0_3 hc0_3); (have HB := Aside0.mk (Below.refl w.heap.size w)); (have H : ((coppicerref_Comes.f k a0_0 a0_1 a0_2 l0_3).bind fun t231 => ((coppicerref_Bit.f t231 a1).bind fun t232 => (if t232 = true then (coppicerref_FollowOf.l0 k t231 (([a1] : List Int)) 0 0 a0_0 a0_1 a0_2 l0_3) else (some 0)))) = some r := h); (clear h); (replace H := Option.bind_eq_some_iff.mp H); (obtain ⟨t231, A30, H⟩ := H); (replace H : ((coppicerref_Bit.f t231 a1).bind fun t232 => (if t232 = true then (coppicerref_FollowOf.l0 k t231 (([a1] : List Int)) 0 0 a0_0 a0_1 a0_2 l0_3) else (some 0))) = some r := H); (have A3 := Aside0.mk A30); (clear A30); (replace H := Option.bind_eq_some_iff.mp H); (obtain ⟨t232, A40, H⟩ := H); (replace H : (if t232 = true then (coppicerref_FollowOf.l0 k t231 (([a1] : List Int)) 0 0 a0_0 a0_1 a0_2 l0_3) else (some 0)) = some r := H); (have A4 := Aside0.mk A40); (clear A40)
  by_cases c5 : t232 = true
  rotate_left
  · replace c5 := Bool.eq_false_iff.mpr c5
    (subst c5); (have H1 : (some 0) = some r := by rw [if_neg (show ¬ (false = true) by decide)] at H; exact H); (clear H); (have H := H1); (clear H1); (obtain rfl := Option.some.inj H)
    go_enter Try.func38, Try.ntmps38
    go_wp2_with (first | ((with_reducible refine gate_dst (N := 2) rfl ?_); refine box_event ?hg (N := 2) ?hd (cs := #[.int .i64 a0_0, .int .i64 a0_1, .int .i64 a0_2, .slice A0_3 l0_3.length c0_3]) (t := 24) ?hr ?_; (case hd => rfl); (case hg => rfl); (case hr => first | (go_simp; done) | (go_simp; rfl)); intro gb230 hg w75 hbox hb; have n0_ := Aside0.mk (below_step (by repeat (first | (with_reducible first | exact HB.out | apply below_alloc | apply pw_below_drewN | apply below_drew1) | exact HB.out)) hb); have n1_ := Aside0.mk (hbox); have n2_ := Aside0.mk ((by rw [hg]; exact (below_size (by repeat (first | (with_reducible first | exact HB.out | apply below_alloc | apply pw_below_drewN | apply below_drew1) | exact HB.out))) : w.heap.size ≤ gb230)); have n3_ := Aside0.mk ((by rw [hg]; exact (below_size (by repeat (first | (with_reducible first | exact HB.out | apply below_alloc | apply pw_below_drewN | apply below_drew1) | exact HB.out))) : w.heap.size ≤ gb230)); clear HB; have HB := n0_; have BK230 := n1_; have GW230 := n2_; have GE230 := n3_; clear n0_ n1_ n2_ n3_; clear hb hbox hg; have hcz76_0 : w75.cell? ⟨gb230, 0, none⟩ = some (.int .i64 a0_0) := (blk_cell BK230.out 0).trans rfl; have hcz76_1 : w75.cell? ⟨gb230, 1, none⟩ = some (.int .i64 a0_1) := (blk_cell BK230.out 1).trans rfl; have hcz76_2 : w75.cell? ⟨gb230, 2, none⟩ = some (.int .i64 a0_2) := (blk_cell BK230.out 2).trans rfl; have hcz76_3 : w75.cell? ⟨gb230, 3, none⟩ = some (.slice A0_3 l0_3.length c0_3) := (blk_cell BK230.out 3).trans rfl; have hfz76_0 := blk_frozen BK230.out 0; have hfz76_1 := blk_frozen BK230.out 1; have hfz76_2 := blk_frozen BK230.out 2; have hfz76_3 := blk_frozen BK230.out 3) | ((with_reducible refine gate_callee (f := 18) rfl ?_); refine goesL_ (some 14) rfl rfl Try.func18 (by kernel_rfl) rfl #[.agg #[.int .i64 a0_0, .int .i64 a0_1, .int .i64 a0_2, .slice A0_3 l0_3.length c0_3]] rfl (by (try simp only [List.map_toArray, List.map_cons, List.map_nil]); first | done | rfl | (simp only [List.length_drop, List.length_take]; rfl)) ?_; (with_reducible refine (coppicerref_Comes.calls k a0_0 a0_1 a0_2 _ _ l0_3 t231 _ ?side1 ?side2 A3.out).mono ?_); (case side1 => repeat (first | exact (Kd.C_below HR0_3.out HB.out) | (with_reducible refine Kd.C_alloc ?_ _) | (with_reducible refine Kd.C_drewN ?_ _) | (with_reducible refine Kd.C_drew ?_))); (case side2 => exact HC0_3.out); rintro e w77 ⟨rfl, hb⟩; refine ⟨_, rfl, ?_⟩; have n0_ := Aside0.mk (blk_below (g := gb230) (o := .cells #[.int .i64 a0_0, .int .i64 a0_1, .int .i64 a0_2, .slice A0_3 l0_3.length c0_3] 24 (0, 0)) (by (with_reducible repeat (first | refine blk_drewN ?_ _ | refine blk_drew ?_ | refine blk_alloc ?_ _)); exact BK230.out) hb); have n1_ := Aside0.mk (below_step (by repeat (first | (with_reducible first | exact HB.out | apply below_alloc | apply pw_below_drewN | apply below_drew1 | refine below_set ?_ GE230.out) | exact HB.out)) hb); clear BK230; clear HB; have BK230 := n0_; have HB := n1_; clear n0_ n1_; (try clear hb); (try clear hb2); (try clear hk); (try clear hi)) | ((with_reducible refine gate_callee (f := 62) rfl ?_); refine goesL_ (some 17) rfl rfl Try.func62 (by kernel_rfl) rfl #[.int .u32 t231, .int .i64 a1] rfl (by (try simp only [List.map_toArray, List.map_cons, List.map_nil]); first | done | rfl | (simp only [List.length_drop, List.length_take]; rfl)) ?_; (with_reducible refine (coppicerref_Bit.calls t231 a1 false _ A4.out).mono ?_); rintro e w' ⟨rfl, ⟨nd, rfl⟩⟩; refine ⟨_, rfl, ?_⟩))
    go_ret
    exact ⟨by first | rfl | (simp [errW_none, errW_some] <;> rfl) | (simp [*, errW_none, errW_some] <;> rfl), by repeat (first | (with_reducible first | exact HB.out | apply below_alloc | apply pw_below_drewN | apply below_drew1 | refine below_set ?_ GE230.out) | exact HB.out)⟩
  (subst c5); (have H1 : (coppicerref_FollowOf.l0 k t231 (([a1] : List Int)) 0 0 a0_0 a0_1 a0_2 l0_3) = some r := by rw [if_pos rfl] at H; exact H); (clear H); (have H := H1); (clear H1); (obtain ⟨y233, hy233⟩ : ∃ y_ : List Int, y_ = (([a1] : List Int)) := ⟨_, rfl⟩); (replace H : (coppicerref_FollowOf.l0 k t231 y233 0 0 a0_0 a0_1 a0_2 l0_3) = some r := by first | (rw [hy233]; with_reducible exact H) | (have H2_ := (Option.bind_some _ _).symm.trans H; rw [hy233]; with_reducible exact H2_) | (have H2_ := (Option.bind_some _ _).symm.trans H; with_reducible exact H2_) | with_reducible exact H | (rw [hy233]; exact H) | exact H); (have Ny233 := Aside0.mk hy233); (clear hy233); (have H' := Aside0.mk H); (clear H)
  go_enter Try.func38, Try.ntmps38
  go_wp2_with (first | ((with_reducible refine gate_dst (N := 2) rfl ?_); refine box_event ?hg (N := 2) ?hd (cs := #[.int .i64 a0_0, .int .i64 a0_1, .int .i64 a0_2, .slice A0_3 l0_3.length c0_3]) (t := 24) ?hr ?_; (case hd => rfl); (case hg => rfl); (case hr => first | (go_simp; done) | (go_simp; rfl)); intro gb230 hg w6 hbox hb; have n0_ := Aside0.mk (below_step (by repeat (first | (with_reducible first | exact HB.out | apply below_alloc | apply pw_below_drewN | apply below_drew1) | exact HB.out)) hb); have n1_ := Aside0.mk (hbox); have n2_ := Aside0.mk ((by rw [hg]; exact (below_size (by repeat (first | (with_reducible first | exact HB.out | apply below_alloc | apply pw_below_drewN | apply below_drew1) | exact HB.out))) : w.heap.size ≤ gb230)); have n3_ := Aside0.mk ((by rw [hg]; exact (below_size (by repeat (first | (with_reducible first | exact HB.out | apply below_alloc | apply pw_below_drewN | apply below_drew1) | exact HB.out))) : w.heap.size ≤ gb230)); clear HB; have HB := n0_; have BK230 := n1_; have GW230 := n2_; have GE230 := n3_; clear n0_ n1_ n2_ n3_; clear hb hbox hg; have hcz7_0 : w6.cell? ⟨gb230, 0, none⟩ = some (.int .i64 a0_0) := (blk_cell BK230.out 0).trans rfl; have hcz7_1 : w6.cell? ⟨gb230, 1, none⟩ = some (.int .i64 a0_1) := (blk_cell BK230.out 1).trans rfl; have hcz7_2 : w6.cell? ⟨gb230, 2, none⟩ = some (.int .i64 a0_2) := (blk_cell BK230.out 2).trans rfl; have hcz7_3 : w6.cell? ⟨gb230, 3, none⟩ = some (.slice A0_3 l0_3.length c0_3) := (blk_cell BK230.out 3).trans rfl; have hfz7_0 := blk_frozen BK230.out 0; have hfz7_1 := blk_frozen BK230.out 1; have hfz7_2 := blk_frozen BK230.out 2; have hfz7_3 := blk_frozen BK230.out 3) | ((with_reducible refine gate_callee (f := 18) rfl ?_); refine goesL_ (some 14) rfl rfl Try.func18 (by kernel_rfl) rfl #[.agg #[.int .i64 a0_0, .int .i64 a0_1, .int .i64 a0_2, .slice A0_3 l0_3.length c0_3]] rfl (by (try simp only [List.map_toArray, List.map_cons, List.map_nil]); first | done | rfl | (simp only [List.length_drop, List.length_take]; rfl)) ?_; (with_reducible refine (coppicerref_Comes.calls k a0_0 a0_1 a0_2 _ _ l0_3 t231 _ ?side1 ?side2 A3.out).mono ?_); (case side1 => repeat (first | exact (Kd.C_below HR0_3.out HB.out) | (with_reducible refine Kd.C_alloc ?_ _) | (with_reducible refine Kd.C_drewN ?_ _) | (with_reducible refine Kd.C_drew ?_))); (case side2 => exact HC0_3.out); rintro e w8 ⟨rfl, hb⟩; refine ⟨_, rfl, ?_⟩; have n0_ := Aside0.mk (blk_below (g := gb230) (o := .cells #[.int .i64 a0_0, .int .i64 a0_1, .int .i64 a0_2, .slice A0_3 l0_3.length c0_3] 24 (0, 0)) (by (with_reducible repeat (first | refine blk_drewN ?_ _ | refine blk_drew ?_ | refine blk_alloc ?_ _)); exact BK230.out) hb); have n1_ := Aside0.mk (below_step (by repeat (first | (with_reducible first | exact HB.out | apply below_alloc | apply pw_below_drewN | apply below_drew1 | refine below_set ?_ GE230.out) | exact HB.out)) hb); clear BK230; clear HB; have BK230 := n0_; have HB := n1_; clear n0_ n1_; (try clear hb); (try clear hb2); (try clear hk); (try clear hi)) | ((with_reducible refine gate_callee (f := 62) rfl ?_); refine goesL_ (some 17) rfl rfl Try.func62 (by kernel_rfl) rfl #[.int .u32 t231, .int .i64 a1] rfl (by (try simp only [List.map_toArray, List.map_cons, List.map_nil]); first | done | rfl | (simp only [List.length_drop, List.length_take]; rfl)) ?_; (with_reducible refine (coppicerref_Bit.calls t231 a1 true _ A4.out).mono ?_); rintro e w' ⟨rfl, ⟨nd, rfl⟩⟩; refine ⟨_, rfl, ?_⟩) | ((with_reducible refine gate_dst (N := 20) rfl ?_); refine Kd.R_lit (Kd.int .i64) _ 3 ?hg (N := 20) ?hd (xs := ([a1] : List Int)) (inner := [.int .i64 a1]) (ok := fun _ => True) (okp := fun _ => True) ?hr ?hp (fun _ hk => hk) trivial (Below.refl _ _) (Nat.le_refl _) (by simp) ?_; (case hd => rfl); (case hg => rfl); (case hr => first | (go_simp; done) | (go_simp; rfl)); (case hp => exact (Reps.one (show Kd.M (Kd.int .i64) _ _ _ a1 [.int .i64 a1] from rfl) (Reps.none _ _))); intro v234 w9 ho10 hb hg_ hnew_; clear hg_ hnew_; (first | rw [← Ny233.out] at ho10 | (simp only [Int.reduceToNat] at ho10; rw [← Ny233.out] at ho10)); have n0_ := Aside0.mk (Kd.R_lower ho10 (below_size (by repeat (first | (with_reducible first | exact HB.out | apply below_alloc | apply pw_below_drewN | apply below_drew1 | refine below_set ?_ GE230.out) | exact HB.out)))); have n1_ := Aside0.mk (blk_below (g := gb230) (o := .cells #[.int .i64 a0_0, .int .i64 a0_1, .int .i64 a0_2, .slice A0_3 l0_3.length c0_3] 24 (0, 0)) (by (with_reducible repeat (first | refine blk_drewN ?_ _ | refine blk_drew ?_ | refine blk_alloc ?_ _)); exact BK230.out) hb); have n2_ := Aside0.mk (below_step (by repeat (first | (with_reducible first | exact HB.out | apply below_alloc | apply pw_below_drewN | apply below_drew1 | refine below_set ?_ GE230.out) | exact HB.out)) hb); clear BK230; clear HB; have HO235 := n0_; have BK230 := n1_; have HB := n2_; clear n0_ n1_ n2_; clear hb ho10))
  go_loopg [6, 7, 8] k (fun kq v6 v7 v8 w' => ∃ (x6_1 : List Int) (x7_1 : Int) (x8_1 : Int), v7 = .int .u32 x7_1 ∧ v8 = .int .i64 x8_1 ∧ Aside0 (coppicerref_FollowOf.l0 kq t231 x6_1 x7_1 x8_1 a0_0 a0_1 a0_2 l0_3 = some r) ∧ Aside0 (kq ≤ k) ∧ Aside0 (Kd.R (Kd.int .i64) 3 w' w.heap.size (fun _ => True) v6 x6_1) ∧ Aside0 (w'.heap[gb230]? = some (.cells #[.int .i64 a0_0, .int .i64 a0_1, .int .i64 a0_2, (.slice A0_3 l0_3.length c0_3)] 24 (0, 0))) ∧ Aside0 (Below w.heap.size w w'))
  case atStart => exact ⟨(y233), (0), (0), (by first | rfl | (simp; done) | (simp [*]; done)), (by first | rfl | (simp; done) | (simp [*]; done)), H', ⟨Nat.le_refl _⟩, ⟨by (with_reducible repeat (first | apply Kd.R_alloc | apply Kd.R_drewN | apply Kd.R_drew)); exact HO235.out⟩, ⟨by (with_reducible repeat (first | refine blk_drewN ?_ _ | refine blk_drew ?_ | refine blk_alloc ?_ _)); exact BK230.out⟩, ⟨by repeat (first | (with_reducible first | exact HB.out | apply below_alloc | apply pw_below_drewN | apply below_drew1 | refine below_set ?_ GE230.out) | exact HB.out)⟩⟩
  case round =>
    (clear H'); (try clear c1); (try clear p2); (try clear c3); (try clear c5); (try clear c6); (try clear hcz7_0); (try clear hcz7_1); (try clear hcz7_2); (try clear hcz7_3); (try clear hfz7_0); (try clear hfz7_1); (try clear hfz7_2); (try clear hfz7_3); (obtain ⟨x6_1, x7_1, x8_1, rfl, rfl, HA, HK1, HO_6, BK230, HB⟩ := hrel)
    cases gk with
    | zero => exact absurd HA.out (by simp [coppicerref_FollowOf.l0])
    | succ k1 =>
      (have H := HA.out); (clear HA); (simp only [coppicerref_FollowOf.l0] at H)
      by_cases c11 : x8_1 < (x6_1.length : Int)
      rotate_left
      · rw [if_neg c11] at H
        (have c11b0 : decide (x8_1 < (x6_1.length : Int)) = false := decide_eq_false c11); (clear c11); (obtain rfl := Option.some.inj H); (obtain ⟨Ao74, co74, eo74⟩ := Kd.R_slice HO_6.out); (subst eo74)
        go_wp2
        go_ret
        exact ⟨by first | rfl | (simp [errW_none, errW_some] <;> rfl) | (simp [*, errW_none, errW_some] <;> rfl), by repeat (first | (with_reducible first | exact HB.out | apply below_alloc | apply pw_below_drewN | apply below_drew1 | refine below_set ?_ GE230.out) | exact HB.out)⟩
      (rw [if_pos c11] at H); (have c11b0 : decide (x8_1 < (x6_1.length : Int)) = true := decide_eq_true c11); (clear c11)
      by_cases c12 : 0 ≤ x8_1
      rotate_left
      · rw [if_neg c12] at H
        exact absurd H (by simp)
      (rw [if_pos c12] at H); (have c12b0 : decide (0 ≤ x8_1) = true := decide_eq_true c12); (clear c12); (have HC13 := Aside0.mk H); (clear H); (obtain ⟨Ao14, co14, eo14⟩ := Kd.R_slice HO_6.out); (subst eo14)
      try go_wp2
      (have n0_ := Aside0.mk (Kd.R_drew HO_6.out)); (have n1_ := Aside0.mk (blk_drew BK230.out)); (have n2_ := Aside0.mk (below_drew1 HB.out)); (clear HO_6); (clear BK230); (clear HB); (have HO_6 := n0_); (have BK230 := n1_); (have HB := n2_); (clear n0_ n1_ n2_); (have p236 : 0 ≤ (x8_1 : Int) := of_decide_eq_true (by assumption)); (have q236 : x8_1 < (x6_1.length : Int) := of_decide_eq_true (by assumption)); (obtain ⟨ad236, e236, hx236_0⟩ := Kd.at_int (Kd.R_reads' HO_6.out).2.2 x8_1 p236 q236); (cases e236); (replace p236 := eq_true p236); (replace q236 := eq_true q236)
      refine start_ (n := 7) (S := fun w' => w'.cell? ⟨gb230, 0, none⟩ = some (.int .i64 a0_0) ∧ w'.cell? ⟨gb230, 1, none⟩ = some (.int .i64 a0_1) ∧ w'.cell? ⟨gb230, 2, none⟩ = some (.int .i64 a0_2) ∧ w'.cell? ⟨gb230, 3, none⟩ = some (.slice A0_3 l0_3.length c0_3) ∧ w'.cell? (ad236.add (x8_1).toNat) = some (.int .i64 (rd x6_1 x8_1))) (ds := []) #[false, false, false, false, false, false, false] (by kernel_rfl) rfl rfl ⟨(blk_cell BK230.out 0).trans rfl, (blk_cell BK230.out 1).trans rfl, (blk_cell BK230.out 2).trans rfl, (blk_cell BK230.out 3).trans rfl, hx236_0⟩ (fun hHeld => ?_)
      generalize wr.drew = w15 at HO_6 BK230 HB hx236_0 hHeld ⊢
      refine pure_ (i := 0) (N := some 27) (v := ?_) (a' := ?_) #[true, false, false, false, false, false, false] rfl rfl (by kernel_rfl) (fun _ _ _ h => h) (Or.inl ⟨by rfl, ?_⟩) ?_ ?_
      rotate_left
      · intro w'
        go_simp
        with_reducible rfl
      rotate_left
      · simp only [Act.put, List.setIfInBounds_toArray, List.set_cons_zero, List.set_cons_succ, i64_w, i32_w]
        rfl
      refine pure_ (i := 1) (N := some 28) (v := ?_) (a' := ?_) #[true, true, false, false, false, false, false] rfl rfl (by kernel_rfl) (fun _ _ _ h => h) (Or.inl ⟨by rfl, ?_⟩) ?_ ?_
      rotate_left
      · intro w'
        go_simp
        with_reducible rfl
      rotate_left
      · simp only [Act.put, List.setIfInBounds_toArray, List.set_cons_zero, List.set_cons_succ, i64_w, i32_w]
        rfl
      refine pure_ (i := 2) (N := some 29) (v := ?_) (a' := ?_) #[true, true, true, false, false, false, false] rfl rfl (by kernel_rfl) (fun _ _ _ h => h) (Or.inl ⟨by rfl, ?_⟩) ?_ ?_
      rotate_left
      · intro w'
        go_simp
        with_reducible rfl
      rotate_left
      · simp only [Act.put, List.setIfInBounds_toArray, List.set_cons_zero, List.set_cons_succ, i64_w, i32_w]
        rfl
      refine pure_ (i := 4) (N := some 31) (v := ?_) (a' := ?_) #[true, true, true, false, true, false, false] rfl rfl (by kernel_rfl) (fun _ _ _ h => h) (Or.inl ⟨by rfl, ?_⟩) ?_ ?_
      rotate_left
      · intro w'
        go_simp
        with_reducible rfl
      rotate_left
      · simp only [Act.put, List.setIfInBounds_toArray, List.set_cons_zero, List.set_cons_succ, i64_w, i32_w]
        rfl
      refine take_ (i := 3) (N := some 30) (v := ?_) (a' := ?_) #[true, true, true, true, true, false, false] rfl rfl (by kernel_rfl) (fun _ _ _ h => h) (Or.inl ⟨by rfl, ?_⟩) hHeld ?_ ?_
      rotate_left
      · rintro w' ⟨s0, s1, s2, s3, s4⟩
        go_simp
        with_reducible rfl
      rotate_left
      · simp only [Act.put, List.setIfInBounds_toArray, List.set_cons_zero, List.set_cons_succ, i64_w, i32_w]
        rfl
      refine take_ (i := 5) (N := some 32) (v := ?_) (a' := ?_) #[true, true, true, true, true, true, false] rfl rfl (by kernel_rfl) (fun _ _ _ h => h) (Or.inl ⟨by rfl, ?_⟩) hHeld ?_ ?_
      rotate_left
      · rintro w' ⟨s0, s1, s2, s3, s4⟩
        go_simp
        with_reducible rfl
      rotate_left
      · simp only [Act.put, List.setIfInBounds_toArray, List.set_cons_zero, List.set_cons_succ, i64_w, i32_w]
        rfl
      refine pure_ (i := 6) (N := some 33) (v := ?_) (a' := ?_) #[true, true, true, true, true, true, true] rfl rfl (by kernel_rfl) (fun _ _ _ h => h) (Or.inl ⟨by rfl, ?_⟩) ?_ ?_
      rotate_left
      · intro w'
        go_simp
        with_reducible rfl
      rotate_left
      · simp only [Act.put, List.setIfInBounds_toArray, List.set_cons_zero, List.set_cons_succ, i64_w, i32_w]
        rfl
      refine done_ (by kernel_rfl) ?_
      go_upto_if 33 with (fail)
      go_cut [7] (fun v7 wc => ∃ (kq : Nat) (x7_12 : Int), v7 = .int .u32 x7_12 ∧ Aside0 (coppicerref_FollowOf.j1 kq t231 x6_1 x7_12 x8_1 a0_0 a0_1 a0_2 l0_3 = some r) ∧ Aside0 (kq ≤ k1) ∧ Aside0 (Kd.R (Kd.int .i64) 3 wc w.heap.size (fun _ => True) (.slice (some ad236) x6_1.length co14) x6_1) ∧ Aside0 (wc.heap[gb230]? = some (.cells #[.int .i64 a0_0, .int .i64 a0_1, .int .i64 a0_2, (.slice A0_3 l0_3.length c0_3)] 24 (0, 0))) ∧ Aside0 (Below w.heap.size w wc))
      case first =>
        (have H := HC13.out); (clear HC13)
        by_cases c16 : (rd x6_1 x8_1) = a0_2
        rotate_left
        · rw [if_neg c16] at H
          (have c16b0 : ((rd x6_1 x8_1) == a0_2) = false := beq_eq_false_iff_ne.mpr c16); (have c16b1 : ((rd x6_1 x8_1) != a0_2) = true := bne_iff_ne.mpr c16)
          (first | rw [c16b0] | (simp only [i64_w, i32_w]; rw [c16b0]) | skip)
          (have H' := Aside0.mk H); (clear H)
          go_wp2
          go_meet
          case rel => exact ⟨_, (x7_1), (by first | rfl | (simp; done) | (simp [*]; done)), H', ⟨by have := HK1.out; first | omega | exact Nat.le_refl _⟩, ⟨by (with_reducible repeat (first | apply Kd.R_alloc | apply Kd.R_drewN | apply Kd.R_drew)); exact HO_6.out⟩, ⟨by (with_reducible repeat (first | refine blk_drewN ?_ _ | refine blk_drew ?_ | refine blk_alloc ?_ _)); exact BK230.out⟩, ⟨by repeat (first | (with_reducible first | exact HB.out | apply below_alloc | apply pw_below_drewN | apply below_drew1 | refine below_set ?_ GE230.out) | exact HB.out)⟩⟩
        (rw [if_pos c16] at H); (have c16b0 : ((rd x6_1 x8_1) == a0_2) = true := beq_iff_eq.mpr c16); (have c16b1 : ((rd x6_1 x8_1) != a0_2) = false := bne_eq_false_iff_eq.mpr c16); (clear c16)
        (first | rw [c16b0] | (simp only [i64_w, i32_w]; rw [c16b0]) | skip)
        (obtain ⟨ji17, hji17⟩ : ∃ j_ : Int, (IntKind.u64.wrap (a0_0)) = j_ := ⟨_, rfl⟩); (replace H : (if 0 ≤ (ji17) then (coppicerref_FollowOf.j1 k1 t231 x6_1 (Go.bits .or .u32 x7_1 (shl .u32 1 (ji17))) x8_1 a0_0 a0_1 a0_2 l0_3) else (none)) = some r := by first | (rw [hji17] at H; exact H) | (simp only [hji17] at H ⊢; exact H))
        by_cases c18 : 0 ≤ (ji17)
        rotate_left
        · rw [if_neg c18] at H
          exact absurd H (by simp)
        (rw [if_pos c18] at H); (have c18b0 := eq_true c18); (have c18b1 : decide (0 ≤ (ji17)) = true := decide_eq_true c18); (clear c18); (obtain ⟨ji19, hji19⟩ : ∃ j_ : Int, (shl .u32 1 (ji17)) = j_ := ⟨_, rfl⟩); (replace H : (coppicerref_FollowOf.j1 k1 t231 x6_1 (Go.bits .or .u32 x7_1 (ji19)) x8_1 a0_0 a0_1 a0_2 l0_3) = some r := by first | (rw [hji19] at H; exact H) | (simp only [hji19] at H ⊢; exact H)); (have hji19_ : (IntKind.u32.wrap (1 * 2 ^ min (ji17).toNat 32)) = ji19 := hji19); (have hji19z : (ji17) ≤ 32 → (IntKind.u32.wrap (1 * 2 ^ (ji17).toNat)) = ji19 := shl_small hji19); (have hji19u : (IntKind.u32.wrap (2 ^ min (ji17).toNat 32)) = ji19 := by have h_ := hji19_; rw [Int.one_mul] at h_; exact h_); (have hji19v : (ji17) ≤ 32 → (IntKind.u32.wrap (2 ^ (ji17).toNat)) = ji19 := fun hle_ => by have h_ := hji19z hle_; rw [Int.one_mul] at h_; exact h_); (have H' := Aside0.mk H); (clear H); (have hcz20_0 : w15.cell? ⟨gb230, 0, none⟩ = some (.int .i64 a0_0) := (blk_cell BK230.out 0).trans rfl); (have hcz20_1 : w15.cell? ⟨gb230, 1, none⟩ = some (.int .i64 a0_1) := (blk_cell BK230.out 1).trans rfl); (have hcz20_2 : w15.cell? ⟨gb230, 2, none⟩ = some (.int .i64 a0_2) := (blk_cell BK230.out 2).trans rfl); (have hcz20_3 : w15.cell? ⟨gb230, 3, none⟩ = some (.slice A0_3 l0_3.length c0_3) := (blk_cell BK230.out 3).trans rfl); (have hfz20_0 := blk_frozen BK230.out 0); (have hfz20_1 := blk_frozen BK230.out 1); (have hfz20_2 := blk_frozen BK230.out 2); (have hfz20_3 := blk_frozen BK230.out 3)
        go_wp2
        go_meet
        case rel => exact ⟨_, (Go.bits .or .u32 x7_1 (ji19)), (by first | rfl | (simp; done) | (simp only [← hji19] <;> (first | rfl | simp)) | (simp [*]; done)), H', ⟨by have := HK1.out; first | omega | exact Nat.le_refl _⟩, ⟨by (with_reducible repeat (first | apply Kd.R_alloc | apply Kd.R_drewN | apply Kd.R_drew)); exact HO_6.out⟩, ⟨by (with_reducible repeat (first | refine blk_drewN ?_ _ | refine blk_drew ?_ | refine blk_alloc ?_ _)); exact BK230.out⟩, ⟨by repeat (first | (with_reducible first | exact HB.out | apply below_alloc | apply pw_below_drewN | apply below_drew1 | refine below_set ?_ GE230.out) | exact HB.out)⟩⟩
      case rest =>
        (clear HC13); (try clear c1); (try clear p2); (try clear q2); (try clear hx2); (try clear c3); (try clear c5); (try clear c6); (try clear c11); (try clear c11b0); (try clear c12); (try clear c12b0); (try clear c16); (try clear c16b0); (try clear c16b1); (try clear c18); (try clear c18b0); (try clear c18b1); (try clear hcz20_0); (try clear hcz20_1); (try clear hcz20_2); (try clear hcz20_3); (try clear hcz7_0); (try clear hcz7_1); (try clear hcz7_2); (try clear hcz7_3); (try clear hfz20_0); (try clear hfz20_1); (try clear hfz20_2); (try clear hfz20_3); (try clear hfz7_0); (try clear hfz7_1); (try clear hfz7_2); (try clear hfz7_3); (try clear hx236_0); (try clear p2); (try clear p236); (try clear q236); (obtain ⟨kq, x7_12, rfl, HA, HJ12, HO_6, BK230, HB⟩ := hcut)
        cases kq with
        | zero => exact absurd HA.out (by simp [coppicerref_FollowOf.j1])
        | succ kj12 =>
          (have H := HA.out); (clear HA); (simp only [coppicerref_FollowOf.j1] at H); (have H' := Aside0.mk H); (clear H); (have hcz21_0 : wc.cell? ⟨gb230, 0, none⟩ = some (.int .i64 a0_0) := (blk_cell BK230.out 0).trans rfl); (have hcz21_1 : wc.cell? ⟨gb230, 1, none⟩ = some (.int .i64 a0_1) := (blk_cell BK230.out 1).trans rfl); (have hcz21_2 : wc.cell? ⟨gb230, 2, none⟩ = some (.int .i64 a0_2) := (blk_cell BK230.out 2).trans rfl); (have hcz21_3 : wc.cell? ⟨gb230, 3, none⟩ = some (.slice A0_3 l0_3.length c0_3) := (blk_cell BK230.out 3).trans rfl); (have hfz21_0 := blk_frozen BK230.out 0); (have hfz21_1 := blk_frozen BK230.out 1); (have hfz21_2 := blk_frozen BK230.out 2); (have hfz21_3 := blk_frozen BK230.out 3)
          go_wp2
          go_loopg [6, 7, 43] kj12 (fun kq v6 v7 v43 w' => ∃ (x6_3 : List Int) (x7_3 : Int) (x43_3 : Int), v7 = .int .u32 x7_3 ∧ v43 = .int .i64 x43_3 ∧ Aside0 (coppicerref_FollowOf.l1 kq t231 x6_3 x7_3 x8_1 l0_3 (l0_3.length : Int) x43_3 a0_0 a0_1 a0_2 l0_3 = some r) ∧ Aside0 (kq ≤ kj12) ∧ Aside0 (Kd.R (Kd.int .i64) 3 w' w.heap.size (fun _ => True) v6 x6_3) ∧ Aside0 (w'.heap[gb230]? = some (.cells #[.int .i64 a0_0, .int .i64 a0_1, .int .i64 a0_2, (.slice A0_3 l0_3.length c0_3)] 24 (0, 0))) ∧ Aside0 (Below w.heap.size w w'))
          case atStart => exact ⟨(x6_1), (x7_12), (0), (by first | rfl | (simp; done) | (simp [*]; done)), (by first | rfl | (simp; done) | (simp [*]; done)), H', ⟨Nat.le_refl _⟩, ⟨by (with_reducible repeat (first | apply Kd.R_alloc | apply Kd.R_drewN | apply Kd.R_drew)); exact HO_6.out⟩, ⟨by (with_reducible repeat (first | refine blk_drewN ?_ _ | refine blk_drew ?_ | refine blk_alloc ?_ _)); exact BK230.out⟩, ⟨by repeat (first | (with_reducible first | exact HB.out | apply below_alloc | apply pw_below_drewN | apply below_drew1 | refine below_set ?_ GE230.out) | exact HB.out)⟩⟩
          case round =>
            (clear H'); (try clear c1); (try clear p2); (try clear q2); (try clear hx2); (try clear c3); (try clear c5); (try clear c6); (try clear c11); (try clear c11b0); (try clear c12); (try clear c12b0); (try clear c16); (try clear c16b0); (try clear c16b1); (try clear c18); (try clear c18b0); (try clear c18b1); (try clear hcz20_0); (try clear hcz20_1); (try clear hcz20_2); (try clear hcz20_3); (try clear hcz21_0); (try clear hcz21_1); (try clear hcz21_2); (try clear hcz21_3); (try clear hcz7_0); (try clear hcz7_1); (try clear hcz7_2); (try clear hcz7_3); (try clear hfz20_0); (try clear hfz20_1); (try clear hfz20_2); (try clear hfz20_3); (try clear hfz21_0); (try clear hfz21_1); (try clear hfz21_2); (try clear hfz21_3); (try clear hfz7_0); (try clear hfz7_1); (try clear hfz7_2); (try clear hfz7_3); (try clear hx236_0); (try clear p2); (try clear p236); (try clear q2); (try clear q236); (obtain ⟨x6_3, x7_3, x43_3, rfl, rfl, HA, HK3, HO_6, BK230, HB⟩ := hrel)
            cases gk with
            | zero => exact absurd HA.out (by simp [coppicerref_FollowOf.l1])
            | succ k3 =>
              (have H := HA.out); (clear HA); (simp only [coppicerref_FollowOf.l1] at H)
              by_cases c22 : x43_3 < (l0_3.length : Int)
              rotate_left
              · rw [if_neg c22] at H
                (have c22b0 : decide (x43_3 < (l0_3.length : Int)) = false := decide_eq_false c22); (clear c22); (have H' := Aside0.mk H); (clear H)
                go_wp2
                go_roundg k3
                case measure => have := HK1.out; have := HJ12.out; have := HK3.out; omega
                case rel => exact ⟨(x6_3), (x7_3), (wrap64 (x8_1 + 1)), (by first | rfl | (simp; done) | (simp [*]; done)), (by first | rfl | (simp; done) | (simp [*]; done)), H', ⟨by have := HK1.out; have := HJ12.out; have := HK3.out; omega⟩, ⟨by (with_reducible repeat (first | apply Kd.R_alloc | apply Kd.R_drewN | apply Kd.R_drew)); exact HO_6.out⟩, ⟨by (with_reducible repeat (first | refine blk_drewN ?_ _ | refine blk_drew ?_ | refine blk_alloc ?_ _)); exact BK230.out⟩, ⟨by repeat (first | (with_reducible first | exact HB.out | apply below_alloc | apply pw_below_drewN | apply below_drew1 | refine below_set ?_ GE230.out) | exact HB.out)⟩⟩
              (rw [if_pos c22] at H); (have c22b0 : decide (x43_3 < (l0_3.length : Int)) = true := decide_eq_true c22); (clear c22)
              by_cases c23 : 0 ≤ x43_3
              rotate_left
              · rw [if_neg c23] at H
                exact absurd H (by simp)
              (rw [if_pos c23] at H); (have c23b0 : decide (0 ≤ x43_3) = true := decide_eq_true c23); (clear c23)
              by_cases c24 : x43_3 < (l0_3.length : Int)
              rotate_left
              · rw [if_neg c24] at H
                exact absurd H (by simp)
              (rw [if_pos c24] at H); (have c24b0 : decide (x43_3 < (l0_3.length : Int)) = true := decide_eq_true c24); (clear c24); (replace H := Option.bind_eq_some_iff.mp H); (obtain ⟨t239, A250, H⟩ := H); (replace H : (if t239 = true then (coppicerref_FollowOf.l2 k3 t231 x6_3 x7_3 x8_1 l0_3 (l0_3.length : Int) x43_3 ((rd_T38 l0_3 x43_3).f1) (((rd_T38 l0_3 x43_3).f1).length : Int) 0 a0_0 a0_1 a0_2 l0_3 ((rd_T38 l0_3 x43_3).f0) ((rd_T38 l0_3 x43_3).f1)) else (coppicerref_FollowOf.l1 k3 t231 x6_3 x7_3 x8_1 l0_3 (l0_3.length : Int) (wrap64 (x43_3 + 1)) a0_0 a0_1 a0_2 l0_3)) = some r := H); (have A25 := Aside0.mk A250); (clear A250)
              by_cases c26 : t239 = true
              rotate_left
              · replace c26 := Bool.eq_false_iff.mpr c26
                (subst c26); (have H1 : (coppicerref_FollowOf.l1 k3 t231 x6_3 x7_3 x8_1 l0_3 (l0_3.length : Int) (wrap64 (x43_3 + 1)) a0_0 a0_1 a0_2 l0_3) = some r := by rw [if_neg (show ¬ (false = true) by decide)] at H; exact H); (clear H); (have H := H1); (clear H1); (have H' := Aside0.mk H); (clear H); (have p237 : 0 ≤ (x43_3 : Int) := of_decide_eq_true (by assumption)); (have q237 : x43_3 < (l0_3.length : Int) := of_decide_eq_true (by assumption)); (obtain ⟨ad237, A237_1, c237_1, e237, hx237_0, hx237_1, hl237_1, hi237_1⟩ := at_T38 HR0_3.out x43_3 p237 q237); (cases e237); (replace hx237_0 := (HB.out.cell (World.block_lt_of_cell? w _ hx237_0)).trans hx237_0); (replace hx237_1 := (HB.out.cell (World.block_lt_of_cell? w _ hx237_1)).trans hx237_1); (have HR237_1 := Aside0.mk hi237_1); (have HC237_1 := Aside0.mk hl237_1); (clear hi237_1 hl237_1); (replace p237 := eq_true p237); (replace q237 := eq_true q237)
                go_wp2_with (first | ((with_reducible refine gate_dst (N := 10) rfl ?_); refine box_event ?hg (N := 10) ?hd (cs := #[.int .i64 0, .slice none 0 0]) (t := 38) ?hr ?_; (case hd => rfl); (case hg => rfl); (case hr => first | (go_simp; done) | (go_simp; rfl)); intro gb238 hg w71 hbox hb; have n0_ := Aside0.mk (Kd.R_below (by (with_reducible repeat (first | apply Kd.R_alloc | apply Kd.R_drewN | apply Kd.R_drew)); exact HO_6.out) hb); have n1_ := Aside0.mk (blk_below (g := gb230) (o := .cells #[.int .i64 a0_0, .int .i64 a0_1, .int .i64 a0_2, .slice (some ad237) l0_3.length c0_3] 24 (0, 0)) (by (with_reducible repeat (first | refine blk_drewN ?_ _ | refine blk_drew ?_ | refine blk_alloc ?_ _)); exact BK230.out) hb); have n2_ := Aside0.mk (below_step (by repeat (first | (with_reducible first | exact HB.out | apply below_alloc | apply pw_below_drewN | apply below_drew1 | refine below_set ?_ GE230.out) | exact HB.out)) hb); have n3_ := Aside0.mk (hbox); have n4_ := Aside0.mk ((by rw [hg]; exact (below_size (by repeat (first | (with_reducible first | exact HB.out | apply below_alloc | apply pw_below_drewN | apply below_drew1 | refine below_set ?_ GE230.out) | exact HB.out))) : w.heap.size ≤ gb238)); have n5_ := Aside0.mk ((by rw [hg]; exact (below_size (by repeat (first | (with_reducible first | exact HB.out | apply below_alloc | apply pw_below_drewN | apply below_drew1 | refine below_set ?_ GE230.out) | exact HB.out))) : w.heap.size ≤ gb238)); have n6_ := Aside0.mk ((by rw [hg]; exact Nat.ne_of_lt (blk_lt (g := gb230) (o := .cells #[.int .i64 a0_0, .int .i64 a0_1, .int .i64 a0_2, .slice (some ad237) l0_3.length c0_3] 24 (0, 0)) (by (with_reducible repeat (first | refine blk_drewN ?_ _ | refine blk_drew ?_ | refine blk_alloc ?_ _)); exact BK230.out)) : gb230 ≠ gb238)); have n7_ := Aside0.mk ((by rw [hg]; exact Nat.ne_of_gt (blk_lt (g := gb230) (o := .cells #[.int .i64 a0_0, .int .i64 a0_1, .int .i64 a0_2, .slice (some ad237) l0_3.length c0_3] 24 (0, 0)) (by (with_reducible repeat (first | refine blk_drewN ?_ _ | refine blk_drew ?_ | refine blk_alloc ?_ _)); exact BK230.out)) : gb238 ≠ gb230)); clear HO_6; clear BK230; clear HB; have HO_6 := n0_; have BK230 := n1_; have HB := n2_; have BK238 := n3_; have GW238 := n4_; have GE238 := n5_; have NB230_238 := n6_; have NB238_230 := n7_; clear n0_ n1_ n2_ n3_ n4_ n5_ n6_ n7_; clear hb hbox hg; have hnb72 := NB238_230.out; have hnc72 := NB230_238.out; have hcz73_0 : w71.cell? ⟨gb238, 0, none⟩ = some (.int .i64 0) := (blk_cell BK238.out 0).trans rfl; have hcz73_1 : w71.cell? ⟨gb238, 1, none⟩ = some (.slice none 0 0) := (blk_cell BK238.out 1).trans rfl; have hfz73_0 := blk_frozen BK238.out 0; have hfz73_1 := blk_frozen BK238.out 1) | ((with_reducible refine gate_callee (f := 62) rfl ?_); refine goesL_ (some 50) rfl rfl Try.func62 (by kernel_rfl) rfl #[.int .u32 t231, .int .i64 ((rd_T38 l0_3 x43_3).f0)] rfl (by (try simp only [List.map_toArray, List.map_cons, List.map_nil]); first | done | rfl | (simp only [List.length_drop, List.length_take]; rfl)) ?_; (with_reducible refine (coppicerref_Bit.calls t231 ((rd_T38 l0_3 x43_3).f0) false _ A25.out).mono ?_); rintro e w' ⟨rfl, ⟨nd, rfl⟩⟩; refine ⟨_, rfl, ?_⟩))
                go_roundg k3
                case measure => have := HK1.out; have := HJ12.out; have := HK3.out; omega
                case rel => exact ⟨(x6_3), (x7_3), (wrap64 (x43_3 + 1)), (by first | rfl | (simp; done) | (simp [*]; done)), (by first | rfl | (simp; done) | (simp [*]; done)), H', ⟨by have := HK1.out; have := HJ12.out; have := HK3.out; omega⟩, ⟨by (with_reducible repeat (first | apply Kd.R_alloc | apply Kd.R_drewN | apply Kd.R_drew)); exact Kd.R_mono (Kd.R_far (p := ⟨gb238, 1, none⟩) (Kd.R_far (p := ⟨gb238, 0, none⟩) (Kd.R_types HO_6.out BK238.out (by decide)) (fun _ hk => hk.2) (.int .i64 ((rd_T38 l0_3 x43_3).f0))) (fun _ hk => hk.2) (.slice A237_1 ((rd_T38 l0_3 x43_3).f1).length c237_1)) (fun _ hk => trivial)⟩, ⟨by (with_reducible repeat (first | refine blk_drewN ?_ _ | refine blk_drew ?_ | refine blk_alloc ?_ _)); refine blk_far ?_ NB230_238.out _; (with_reducible repeat (first | refine blk_drewN ?_ _ | refine blk_drew ?_ | refine blk_alloc ?_ _)); refine blk_far ?_ NB230_238.out _; (with_reducible repeat (first | refine blk_drewN ?_ _ | refine blk_drew ?_ | refine blk_alloc ?_ _)); exact BK230.out⟩, ⟨by repeat (first | (with_reducible first | exact HB.out | apply below_alloc | apply pw_below_drewN | apply below_drew1 | refine below_set ?_ GE230.out | refine below_set ?_ GE238.out) | exact HB.out)⟩⟩
              (subst c26); (have H1 : (coppicerref_FollowOf.l2 k3 t231 x6_3 x7_3 x8_1 l0_3 (l0_3.length : Int) x43_3 ((rd_T38 l0_3 x43_3).f1) (((rd_T38 l0_3 x43_3).f1).length : Int) 0 a0_0 a0_1 a0_2 l0_3 ((rd_T38 l0_3 x43_3).f0) ((rd_T38 l0_3 x43_3).f1)) = some r := by rw [if_pos rfl] at H; exact H); (clear H); (have H := H1); (clear H1); (have H' := Aside0.mk H); (clear H); (have p237 : 0 ≤ (x43_3 : Int) := of_decide_eq_true (by assumption)); (have q237 : x43_3 < (l0_3.length : Int) := of_decide_eq_true (by assumption)); (obtain ⟨ad237, A237_1, c237_1, e237, hx237_0, hx237_1, hl237_1, hi237_1⟩ := at_T38 HR0_3.out x43_3 p237 q237); (cases e237); (replace hx237_0 := (HB.out.cell (World.block_lt_of_cell? w _ hx237_0)).trans hx237_0); (replace hx237_1 := (HB.out.cell (World.block_lt_of_cell? w _ hx237_1)).trans hx237_1); (have HR237_1 := Aside0.mk hi237_1); (have HC237_1 := Aside0.mk hl237_1); (clear hi237_1 hl237_1); (replace p237 := eq_true p237); (replace q237 := eq_true q237)
              go_wp2_with (first | ((with_reducible refine gate_dst (N := 10) rfl ?_); refine box_event ?hg (N := 10) ?hd (cs := #[.int .i64 0, .slice none 0 0]) (t := 38) ?hr ?_; (case hd => rfl); (case hg => rfl); (case hr => first | (go_simp; done) | (go_simp; rfl)); intro gb238 hg w27 hbox hb; have n0_ := Aside0.mk (Kd.R_below (by (with_reducible repeat (first | apply Kd.R_alloc | apply Kd.R_drewN | apply Kd.R_drew)); exact HO_6.out) hb); have n1_ := Aside0.mk (blk_below (g := gb230) (o := .cells #[.int .i64 a0_0, .int .i64 a0_1, .int .i64 a0_2, .slice (some ad237) l0_3.length c0_3] 24 (0, 0)) (by (with_reducible repeat (first | refine blk_drewN ?_ _ | refine blk_drew ?_ | refine blk_alloc ?_ _)); exact BK230.out) hb); have n2_ := Aside0.mk (below_step (by repeat (first | (with_reducible first | exact HB.out | apply below_alloc | apply pw_below_drewN | apply below_drew1 | refine below_set ?_ GE230.out) | exact HB.out)) hb); have n3_ := Aside0.mk (hbox); have n4_ := Aside0.mk ((by rw [hg]; exact (below_size (by repeat (first | (with_reducible first | exact HB.out | apply below_alloc | apply pw_below_drewN | apply below_drew1 | refine below_set ?_ GE230.out) | exact HB.out))) : w.heap.size ≤ gb238)); have n5_ := Aside0.mk ((by rw [hg]; exact (below_size (by repeat (first | (with_reducible first | exact HB.out | apply below_alloc | apply pw_below_drewN | apply below_drew1 | refine below_set ?_ GE230.out) | exact HB.out))) : w.heap.size ≤ gb238)); have n6_ := Aside0.mk ((by rw [hg]; exact Nat.ne_of_lt (blk_lt (g := gb230) (o := .cells #[.int .i64 a0_0, .int .i64 a0_1, .int .i64 a0_2, .slice (some ad237) l0_3.length c0_3] 24 (0, 0)) (by (with_reducible repeat (first | refine blk_drewN ?_ _ | refine blk_drew ?_ | refine blk_alloc ?_ _)); exact BK230.out)) : gb230 ≠ gb238)); have n7_ := Aside0.mk ((by rw [hg]; exact Nat.ne_of_gt (blk_lt (g := gb230) (o := .cells #[.int .i64 a0_0, .int .i64 a0_1, .int .i64 a0_2, .slice (some ad237) l0_3.length c0_3] 24 (0, 0)) (by (with_reducible repeat (first | refine blk_drewN ?_ _ | refine blk_drew ?_ | refine blk_alloc ?_ _)); exact BK230.out)) : gb238 ≠ gb230)); clear HO_6; clear BK230; clear HB; have HO_6 := n0_; have BK230 := n1_; have HB := n2_; have BK238 := n3_; have GW238 := n4_; have GE238 := n5_; have NB230_238 := n6_; have NB238_230 := n7_; clear n0_ n1_ n2_ n3_ n4_ n5_ n6_ n7_; clear hb hbox hg; have hnb28 := NB238_230.out; have hnc28 := NB230_238.out; have hcz29_0 : w27.cell? ⟨gb238, 0, none⟩ = some (.int .i64 0) := (blk_cell BK238.out 0).trans rfl; have hcz29_1 : w27.cell? ⟨gb238, 1, none⟩ = some (.slice none 0 0) := (blk_cell BK238.out 1).trans rfl; have hfz29_0 := blk_frozen BK238.out 0; have hfz29_1 := blk_frozen BK238.out 1) | ((with_reducible refine gate_callee (f := 62) rfl ?_); refine goesL_ (some 50) rfl rfl Try.func62 (by kernel_rfl) rfl #[.int .u32 t231, .int .i64 ((rd_T38 l0_3 x43_3).f0)] rfl (by (try simp only [List.map_toArray, List.map_cons, List.map_nil]); first | done | rfl | (simp only [List.length_drop, List.length_take]; rfl)) ?_; (with_reducible refine (coppicerref_Bit.calls t231 ((rd_T38 l0_3 x43_3).f0) true _ A25.out).mono ?_); rintro e w' ⟨rfl, ⟨nd, rfl⟩⟩; refine ⟨_, rfl, ?_⟩))
              go_loopg [6, 7, 55] k3 (fun kq v6 v7 v55 w' => ∃ (x6_4 : List Int) (x7_4 : Int) (x55_4 : Int), v7 = .int .u32 x7_4 ∧ v55 = .int .i64 x55_4 ∧ Aside0 (coppicerref_FollowOf.l2 kq t231 x6_4 x7_4 x8_1 l0_3 (l0_3.length : Int) x43_3 ((rd_T38 l0_3 x43_3).f1) (((rd_T38 l0_3 x43_3).f1).length : Int) x55_4 a0_0 a0_1 a0_2 l0_3 ((rd_T38 l0_3 x43_3).f0) ((rd_T38 l0_3 x43_3).f1) = some r) ∧ Aside0 (kq ≤ k3) ∧ Aside0 (Kd.R (Kd.int .i64) 3 w' w.heap.size (fun _ => True) v6 x6_4) ∧ Aside0 (w'.heap[gb230]? = some (.cells #[.int .i64 a0_0, .int .i64 a0_1, .int .i64 a0_2, (.slice (some ad237) l0_3.length c0_3)] 24 (0, 0))) ∧ Aside0 (w'.heap[gb238]? = some (.cells #[.int .i64 ((rd_T38 l0_3 x43_3).f0), (.slice A237_1 ((rd_T38 l0_3 x43_3).f1).length c237_1)] 38 (0, 0))) ∧ Aside0 (Below w.heap.size w w'))
              case atStart => exact ⟨(x6_3), (x7_3), (0), (by first | rfl | (simp; done) | (simp [*]; done)), (by first | rfl | (simp; done) | (simp [*]; done)), H', ⟨Nat.le_refl _⟩, ⟨by (with_reducible repeat (first | apply Kd.R_alloc | apply Kd.R_drewN | apply Kd.R_drew)); exact Kd.R_mono (Kd.R_far (p := ⟨gb238, 1, none⟩) (Kd.R_far (p := ⟨gb238, 0, none⟩) (Kd.R_types HO_6.out BK238.out (by decide)) (fun _ hk => hk.2) (.int .i64 ((rd_T38 l0_3 x43_3).f0))) (fun _ hk => hk.2) (.slice A237_1 ((rd_T38 l0_3 x43_3).f1).length c237_1)) (fun _ hk => trivial)⟩, ⟨by (with_reducible repeat (first | refine blk_drewN ?_ _ | refine blk_drew ?_ | refine blk_alloc ?_ _)); refine blk_far ?_ NB230_238.out _; (with_reducible repeat (first | refine blk_drewN ?_ _ | refine blk_drew ?_ | refine blk_alloc ?_ _)); refine blk_far ?_ NB230_238.out _; (with_reducible repeat (first | refine blk_drewN ?_ _ | refine blk_drew ?_ | refine blk_alloc ?_ _)); exact BK230.out⟩, ⟨by (with_reducible repeat (first | refine blk_drewN ?_ _ | refine blk_drew ?_ | refine blk_alloc ?_ _)); refine blk_put (cs := #[.int .i64 ((rd_T38 l0_3 x43_3).f0), .slice none 0 0]) ?_ 1 _ rfl; (with_reducible repeat (first | refine blk_drewN ?_ _ | refine blk_drew ?_ | refine blk_alloc ?_ _)); refine blk_put (cs := #[.int .i64 0, .slice none 0 0]) ?_ 0 _ rfl; (with_reducible repeat (first | refine blk_drewN ?_ _ | refine blk_drew ?_ | refine blk_alloc ?_ _)); exact BK238.out⟩, ⟨by repeat (first | (with_reducible first | exact HB.out | apply below_alloc | apply pw_below_drewN | apply below_drew1 | refine below_set ?_ GE230.out | refine below_set ?_ GE238.out) | exact HB.out)⟩⟩
              case round =>
                (clear H'); (try clear c1); (try clear c2); (try clear p2); (try clear q2); (try clear hx2); (try clear c3); (try clear c5); (try clear c6); (try clear p6); (try clear c11); (try clear c11b0); (try clear c12); (try clear c12b0); (try clear c16); (try clear c16b0); (try clear c16b1); (try clear c18); (try clear c18b0); (try clear c18b1); (try clear c22); (try clear c22b0); (try clear c23); (try clear c23b0); (try clear p23); (try clear q23); (try clear hx23); (try clear c24); (try clear c24b0); (try clear c26); (try clear c28); (try clear hcz20_0); (try clear hcz20_1); (try clear hcz20_2); (try clear hcz20_3); (try clear hcz21_0); (try clear hcz21_1); (try clear hcz21_2); (try clear hcz21_3); (try clear hcz29_0); (try clear hcz29_1); (try clear hcz7_0); (try clear hcz7_1); (try clear hcz7_2); (try clear hcz7_3); (try clear hfz20_0); (try clear hfz20_1); (try clear hfz20_2); (try clear hfz20_3); (try clear hfz21_0); (try clear hfz21_1); (try clear hfz21_2); (try clear hfz21_3); (try clear hfz29_0); (try clear hfz29_1); (try clear hfz7_0); (try clear hfz7_1); (try clear hfz7_2); (try clear hfz7_3); (try clear hx236_0); (try clear hx237_0); (try clear hx237_1); (try clear p2); (try clear p236); (try clear p237); (try clear q2); (try clear q236); (try clear q237); (obtain ⟨x6_4, x7_4, x55_4, rfl, rfl, HA, HK4, HO_6, BK230, BK238, HB⟩ := hrel)
                cases gk with
                | zero => exact absurd HA.out (by simp [coppicerref_FollowOf.l2])
                | succ k4 =>
                  (have H := HA.out); (clear HA); (simp only [coppicerref_FollowOf.l2] at H)
                  by_cases c30 : x55_4 < (((rd_T38 l0_3 x43_3).f1).length : Int)
                  rotate_left
                  · rw [if_neg c30] at H
                    (have c30b0 : decide (x55_4 < (((rd_T38 l0_3 x43_3).f1).length : Int)) = false := decide_eq_false c30); (clear c30); (have H' := Aside0.mk H); (clear H)
                    go_wp2
                    go_roundg k4
                    case measure => have := HK1.out; have := HJ12.out; have := HK3.out; have := HK4.out; omega
                    case rel => exact ⟨(x6_4), (x7_4), (wrap64 (x43_3 + 1)), (by first | rfl | (simp; done) | (simp [*]; done)), (by first | rfl | (simp; done) | (simp [*]; done)), H', ⟨by have := HK1.out; have := HJ12.out; have := HK3.out; have := HK4.out; omega⟩, ⟨by (with_reducible repeat (first | apply Kd.R_alloc | apply Kd.R_drewN | apply Kd.R_drew)); exact HO_6.out⟩, ⟨by (with_reducible repeat (first | refine blk_drewN ?_ _ | refine blk_drew ?_ | refine blk_alloc ?_ _)); exact BK230.out⟩, ⟨by repeat (first | (with_reducible first | exact HB.out | apply below_alloc | apply pw_below_drewN | apply below_drew1 | refine below_set ?_ GE230.out | refine below_set ?_ GE238.out) | exact HB.out)⟩⟩
                  (rw [if_pos c30] at H); (have c30b0 : decide (x55_4 < (((rd_T38 l0_3 x43_3).f1).length : Int)) = true := decide_eq_true c30); (clear c30)
                  by_cases c31 : 0 ≤ x55_4
                  rotate_left
                  · rw [if_neg c31] at H
                    exact absurd H (by simp)
                  (rw [if_pos c31] at H); (have c31b0 : decide (0 ≤ x55_4) = true := decide_eq_true c31); (clear c31)
                  by_cases c32 : x55_4 < (((rd_T38 l0_3 x43_3).f1).length : Int)
                  rotate_left
                  · rw [if_neg c32] at H
                    exact absurd H (by simp)
                  (rw [if_pos c32] at H); (have c32b0 : decide (x55_4 < (((rd_T38 l0_3 x43_3).f1).length : Int)) = true := decide_eq_true c32); (clear c32)
                  by_cases c33 : 0 ≤ x8_1
                  rotate_left
                  · rw [if_neg c33] at H
                    exact absurd H (by simp)
                  (rw [if_pos c33] at H); (have c33b0 : decide (0 ≤ x8_1) = true := decide_eq_true c33); (clear c33)
                  by_cases c34 : x8_1 < (x6_4.length : Int)
                  rotate_left
                  · rw [if_neg c34] at H
                    exact absurd H (by simp)
                  (rw [if_pos c34] at H); (have c34b0 : decide (x8_1 < (x6_4.length : Int)) = true := decide_eq_true c34); (clear c34)
                  by_cases c35 : (rd ((rd_T38 l0_3 x43_3).f1) x55_4) = (wrap64 (a0_0 + (rd x6_4 x8_1)))
                  rotate_left
                  · rw [if_neg c35] at H
                    (have c35b0 : ((rd ((rd_T38 l0_3 x43_3).f1) x55_4) == (wrap64 (a0_0 + (rd x6_4 x8_1)))) = false := beq_eq_false_iff_ne.mpr c35); (have c35b1 : ((rd ((rd_T38 l0_3 x43_3).f1) x55_4) != (wrap64 (a0_0 + (rd x6_4 x8_1)))) = true := bne_iff_ne.mpr c35); (have H' := Aside0.mk H); (clear H); (have p240 : 0 ≤ (x55_4 : Int) := of_decide_eq_true (by assumption)); (have q240 : x55_4 < (((rd_T38 l0_3 x43_3).f1).length : Int) := of_decide_eq_true (by assumption)); (obtain ⟨ad240, e240, hx240_0⟩ := Kd.at_int HR237_1.out x55_4 p240 q240); (cases e240); (replace hx240_0 := (HB.out.cell (World.block_lt_of_cell? w _ hx240_0)).trans hx240_0); (replace p240 := eq_true p240); (replace q240 := eq_true q240)
                    try go_wp2
                    (have n0_ := Aside0.mk (Kd.R_drew HO_6.out)); (have n1_ := Aside0.mk (blk_drew BK230.out)); (have n2_ := Aside0.mk (blk_drew BK238.out)); (have n3_ := Aside0.mk (below_drew1 HB.out)); (clear HO_6); (clear BK230); (clear BK238); (clear HB); (have HO_6 := n0_); (have BK230 := n1_); (have BK238 := n2_); (have HB := n3_); (clear n0_ n1_ n2_ n3_); (obtain ⟨Ao70, co70, eo70⟩ := Kd.R_slice HO_6.out)
                    (first | subst eo70 | (injection eo70 with f1_ f2_ f3_; have f4_ := f1_.symm; have f5_ := f3_.symm; clear f1_ f2_ f3_; subst f4_; subst f5_))
                    (have p241 : 0 ≤ (x8_1 : Int) := of_decide_eq_true (by assumption)); (have q241 : x8_1 < (x6_4.length : Int) := of_decide_eq_true (by assumption)); (obtain ⟨ad241, e241, hx241_0⟩ := Kd.at_int (Kd.R_reads' HO_6.out).2.2 x8_1 p241 q241); (cases e241); (replace p241 := eq_true p241); (replace q241 := eq_true q241)
                    refine start_ (n := 9) (S := fun w' => w'.cell? ⟨gb230, 0, none⟩ = some (.int .i64 a0_0) ∧ w'.cell? ⟨gb230, 1, none⟩ = some (.int .i64 a0_1) ∧ w'.cell? ⟨gb230, 2, none⟩ = some (.int .i64 a0_2) ∧ w'.cell? ⟨gb230, 3, none⟩ = some (.slice (some ad237) l0_3.length c0_3) ∧ w'.cell? (ad241.add (x8_1).toNat) = some (.int .i64 (rd x6_4 x8_1))) (ds := []) #[false, false, false, false, false, false, false, false, false] (by kernel_rfl) rfl rfl ⟨(blk_cell BK230.out 0).trans rfl, (blk_cell BK230.out 1).trans rfl, (blk_cell BK230.out 2).trans rfl, (blk_cell BK230.out 3).trans rfl, hx241_0⟩ (fun hHeld => ?_); refine with_tabW coppicerref_FollowOf.tab18 coppicerref_FollowOf.bits18 (fun HT_ HW_ => ?_)
                    generalize wr.drew = w69 at HO_6 BK230 BK238 HB hx241_0 hHeld ⊢
                    refine pure_ (i := 0) (N := some 60) (v := ?_) (a' := ?_) #[true, false, false, false, false, false, false, false, false] rfl rfl (any_of HT_.out (by kernel_rfl)) (fun _ _ _ h => h) (Or.inl ⟨by rfl, ?_⟩) ?_ ?_
                    rotate_left
                    · intro w'
                      go_simp
                      with_reducible rfl
                    rotate_left
                    · simp only [Act.put, List.setIfInBounds_toArray, List.set_cons_zero, List.set_cons_succ, i64_w, i32_w]
                      rfl
                    refine pure_ (i := 1) (N := some 61) (v := ?_) (a' := ?_) #[true, true, false, false, false, false, false, false, false] rfl rfl (any_of HT_.out (by kernel_rfl)) (fun _ _ _ h => h) (Or.inl ⟨by rfl, ?_⟩) ?_ ?_
                    rotate_left
                    · intro w'
                      go_simp
                      with_reducible rfl
                    rotate_left
                    · simp only [Act.put, List.setIfInBounds_toArray, List.set_cons_zero, List.set_cons_succ, i64_w, i32_w]
                      rfl
                    refine pure_ (i := 3) (N := some 63) (v := ?_) (a' := ?_) #[true, true, false, true, false, false, false, false, false] rfl rfl (any_of HT_.out (by kernel_rfl)) (fun _ _ _ h => h) (Or.inl ⟨by rfl, ?_⟩) ?_ ?_
                    rotate_left
                    · intro w'
                      go_simp
                      with_reducible rfl
                    rotate_left
                    · simp only [Act.put, List.setIfInBounds_toArray, List.set_cons_zero, List.set_cons_succ, i64_w, i32_w]
                      rfl
                    refine pure_ (i := 4) (N := some 64) (v := ?_) (a' := ?_) #[true, true, false, true, true, false, false, false, false] rfl rfl (any_of HT_.out (by kernel_rfl)) (fun _ _ _ h => h) (Or.inl ⟨by rfl, ?_⟩) ?_ ?_
                    rotate_left
                    · intro w'
                      go_simp
                      with_reducible rfl
                    rotate_left
                    · simp only [Act.put, List.setIfInBounds_toArray, List.set_cons_zero, List.set_cons_succ, i64_w, i32_w]
                      rfl
                    refine pure_ (i := 5) (N := some 65) (v := ?_) (a' := ?_) #[true, true, false, true, true, true, false, false, false] rfl rfl (any_of HT_.out (by kernel_rfl)) (fun _ _ _ h => h) (Or.inl ⟨by rfl, ?_⟩) ?_ ?_
                    rotate_left
                    · intro w'
                      go_simp
                      with_reducible rfl
                    rotate_left
                    · simp only [Act.put, List.setIfInBounds_toArray, List.set_cons_zero, List.set_cons_succ, i64_w, i32_w]
                      rfl
                    refine take_ (i := 2) (N := some 62) (v := ?_) (a' := ?_) #[true, true, true, true, true, true, false, false, false] rfl rfl (take_ofW HT_.out HW_.out (by kernel_rfl)) (fun _ _ _ h => h) (Or.inl ⟨by rfl, ?_⟩) hHeld ?_ ?_
                    rotate_left
                    · rintro w' ⟨s0, s1, s2, s3, s4⟩
                      go_simp
                      with_reducible rfl
                    rotate_left
                    · simp only [Act.put, List.setIfInBounds_toArray, List.set_cons_zero, List.set_cons_succ, i64_w, i32_w]
                      rfl
                    refine take_ (i := 6) (N := some 66) (v := ?_) (a' := ?_) #[true, true, true, true, true, true, true, false, false] rfl rfl (take_ofW HT_.out HW_.out (by kernel_rfl)) (fun _ _ _ h => h) (Or.inl ⟨by rfl, ?_⟩) hHeld ?_ ?_
                    rotate_left
                    · rintro w' ⟨s0, s1, s2, s3, s4⟩
                      go_simp
                      with_reducible rfl
                    rotate_left
                    · simp only [Act.put, List.setIfInBounds_toArray, List.set_cons_zero, List.set_cons_succ, i64_w, i32_w]
                      rfl
                    refine pure_ (i := 7) (N := some 67) (v := ?_) (a' := ?_) #[true, true, true, true, true, true, true, true, false] rfl rfl (any_of HT_.out (by kernel_rfl)) (fun _ _ _ h => h) (Or.inl ⟨by rfl, ?_⟩) ?_ ?_
                    rotate_left
                    · intro w'
                      go_simp
                      with_reducible rfl
                    rotate_left
                    · simp only [Act.put, List.setIfInBounds_toArray, List.set_cons_zero, List.set_cons_succ, i64_w, i32_w]
                      rfl
                    refine pure_ (i := 8) (N := some 68) (v := ?_) (a' := ?_) #[true, true, true, true, true, true, true, true, true] rfl rfl (any_of HT_.out (by kernel_rfl)) (fun _ _ _ h => h) (Or.inl ⟨by rfl, ?_⟩) ?_ ?_
                    rotate_left
                    · intro w'
                      go_simp
                      with_reducible rfl
                    rotate_left
                    · simp only [Act.put, List.setIfInBounds_toArray, List.set_cons_zero, List.set_cons_succ, i64_w, i32_w]
                      rfl
                    refine done_ (done_of HT_.out (by kernel_rfl)) ?_
                    try go_wp2
                    go_roundg k4
                    case measure => have := HK1.out; have := HJ12.out; have := HK3.out; have := HK4.out; omega
                    case rel => exact ⟨(x6_4), (x7_4), (wrap64 (x55_4 + 1)), (by first | rfl | (simp; done) | (simp [*]; done)), (by first | rfl | (simp; done) | (simp [*]; done)), H', ⟨by have := HK1.out; have := HJ12.out; have := HK3.out; have := HK4.out; omega⟩, ⟨by (with_reducible repeat (first | apply Kd.R_alloc | apply Kd.R_drewN | apply Kd.R_drew)); exact HO_6.out⟩, ⟨by (with_reducible repeat (first | refine blk_drewN ?_ _ | refine blk_drew ?_ | refine blk_alloc ?_ _)); exact BK230.out⟩, ⟨by (with_reducible repeat (first | refine blk_drewN ?_ _ | refine blk_drew ?_ | refine blk_alloc ?_ _)); exact BK238.out⟩, ⟨by repeat (first | (with_reducible first | exact HB.out | apply below_alloc | apply pw_below_drewN | apply below_drew1 | refine below_set ?_ GE230.out | refine below_set ?_ GE238.out) | exact HB.out)⟩⟩
                  (rw [if_pos c35] at H); (have c35b0 : ((rd ((rd_T38 l0_3 x43_3).f1) x55_4) == (wrap64 (a0_0 + (rd x6_4 x8_1)))) = true := beq_iff_eq.mpr c35); (have c35b1 : ((rd ((rd_T38 l0_3 x43_3).f1) x55_4) != (wrap64 (a0_0 + (rd x6_4 x8_1)))) = false := bne_eq_false_iff_eq.mpr c35); (clear c35); (obtain ⟨ji36, hji36⟩ : ∃ j_ : Int, (wrap64 (x55_4 + 1)) = j_ := ⟨_, rfl⟩); (replace H : (if 0 ≤ (ji36) then (if (ji36) ≤ (((rd_T38 l0_3 x43_3).f1).length : Int) then ((some (((rd_T38 l0_3 x43_3).f1).drop ((ji36) : Int).toNat : List Int)).bind fun y242 => ((coppicerref_Firsts.f k4 a0_0 a0_1 a0_2 l0_3 y242).bind fun t246 => ((coppicerref_Gone.f k4 a0_0 a0_1 a0_2 l0_3 y242).bind fun t247 => (if t247 = true then ((coppicerref_Has.f k4 x6_4 ((rd_T38 l0_3 x43_3).f0)).bind fun t248 => (if t248 = true then (coppicerref_FollowOf.l2 k4 t231 x6_4 (Go.bits .or .u32 x7_4 t246) x8_1 l0_3 (l0_3.length : Int) x43_3 ((rd_T38 l0_3 x43_3).f1) (((rd_T38 l0_3 x43_3).f1).length : Int) ji36 a0_0 a0_1 a0_2 l0_3 ((rd_T38 l0_3 x43_3).f0) ((rd_T38 l0_3 x43_3).f1)) else (if x6_4.length < 17592186044416 then (coppicerref_FollowOf.l2 k4 t231 (x6_4 ++ [((rd_T38 l0_3 x43_3).f0)]) (Go.bits .or .u32 x7_4 t246) x8_1 l0_3 (l0_3.length : Int) x43_3 ((rd_T38 l0_3 x43_3).f1) (((rd_T38 l0_3 x43_3).f1).length : Int) ji36 a0_0 a0_1 a0_2 l0_3 ((rd_T38 l0_3 x43_3).f0) ((rd_T38 l0_3 x43_3).f1)) else (none)))) else (coppicerref_FollowOf.l2 k4 t231 x6_4 (Go.bits .or .u32 x7_4 t246) x8_1 l0_3 (l0_3.length : Int) x43_3 ((rd_T38 l0_3 x43_3).f1) (((rd_T38 l0_3 x43_3).f1).length : Int) ji36 a0_0 a0_1 a0_2 l0_3 ((rd_T38 l0_3 x43_3).f0) ((rd_T38 l0_3 x43_3).f1)))))) else (none)) else (none)) = some r := by first | (rw [hji36] at H; exact H) | (simp only [hji36] at H ⊢; exact H))
                  have hji36w : (IntKind.i64.wrap (x55_4 + 1)) = ji36 := (i64_w _).trans hji36
                  by_cases c37 : 0 ≤ (ji36)
                  rotate_left
                  · rw [if_neg c37] at H
                    exact absurd H (by simp)
                  (rw [if_pos c37] at H); (have c37b0 := eq_true c37); (have c37b1 : decide (0 ≤ (ji36)) = true := decide_eq_true c37); (clear c37)
                  by_cases c38 : (ji36) ≤ (((rd_T38 l0_3 x43_3).f1).length : Int)
                  rotate_left
                  · rw [if_neg c38] at H
                    exact absurd H (by simp)
                  (rw [if_pos c38] at H); (have c38b0 := eq_true c38); (have c38b1 : decide ((ji36) ≤ (((rd_T38 l0_3 x43_3).f1).length : Int)) = true := decide_eq_true c38); (clear c38); (obtain ⟨y242, hy242⟩ : ∃ y_ : List Int, y_ = (((rd_T38 l0_3 x43_3).f1).drop ((ji36) : Int).toNat) := ⟨_, rfl⟩); (replace H : ((coppicerref_Firsts.f k4 a0_0 a0_1 a0_2 l0_3 y242).bind fun t246 => ((coppicerref_Gone.f k4 a0_0 a0_1 a0_2 l0_3 y242).bind fun t247 => (if t247 = true then ((coppicerref_Has.f k4 x6_4 ((rd_T38 l0_3 x43_3).f0)).bind fun t248 => (if t248 = true then (coppicerref_FollowOf.l2 k4 t231 x6_4 (Go.bits .or .u32 x7_4 t246) x8_1 l0_3 (l0_3.length : Int) x43_3 ((rd_T38 l0_3 x43_3).f1) (((rd_T38 l0_3 x43_3).f1).length : Int) ji36 a0_0 a0_1 a0_2 l0_3 ((rd_T38 l0_3 x43_3).f0) ((rd_T38 l0_3 x43_3).f1)) else (if x6_4.length < 17592186044416 then (coppicerref_FollowOf.l2 k4 t231 (x6_4 ++ [((rd_T38 l0_3 x43_3).f0)]) (Go.bits .or .u32 x7_4 t246) x8_1 l0_3 (l0_3.length : Int) x43_3 ((rd_T38 l0_3 x43_3).f1) (((rd_T38 l0_3 x43_3).f1).length : Int) ji36 a0_0 a0_1 a0_2 l0_3 ((rd_T38 l0_3 x43_3).f0) ((rd_T38 l0_3 x43_3).f1)) else (none)))) else (coppicerref_FollowOf.l2 k4 t231 x6_4 (Go.bits .or .u32 x7_4 t246) x8_1 l0_3 (l0_3.length : Int) x43_3 ((rd_T38 l0_3 x43_3).f1) (((rd_T38 l0_3 x43_3).f1).length : Int) ji36 a0_0 a0_1 a0_2 l0_3 ((rd_T38 l0_3 x43_3).f0) ((rd_T38 l0_3 x43_3).f1))))) = some r := by first | (rw [hy242]; with_reducible exact H) | (have H2_ := (Option.bind_some _ _).symm.trans H; rw [hy242]; with_reducible exact H2_) | (have H2_ := (Option.bind_some _ _).symm.trans H; with_reducible exact H2_) | with_reducible exact H | (rw [hy242]; exact H) | exact H)
                  (have Ny242 := Aside0.mk hy242); (clear hy242); (replace H := Option.bind_eq_some_iff.mp H); (obtain ⟨t246, A390, H⟩ := H); (replace H : ((coppicerref_Gone.f k4 a0_0 a0_1 a0_2 l0_3 y242).bind fun t247 => (if t247 = true then ((coppicerref_Has.f k4 x6_4 ((rd_T38 l0_3 x43_3).f0)).bind fun t248 => (if t248 = true then (coppicerref_FollowOf.l2 k4 t231 x6_4 (Go.bits .or .u32 x7_4 t246) x8_1 l0_3 (l0_3.length : Int) x43_3 ((rd_T38 l0_3 x43_3).f1) (((rd_T38 l0_3 x43_3).f1).length : Int) ji36 a0_0 a0_1 a0_2 l0_3 ((rd_T38 l0_3 x43_3).f0) ((rd_T38 l0_3 x43_3).f1)) else (if x6_4.length < 17592186044416 then (coppicerref_FollowOf.l2 k4 t231 (x6_4 ++ [((rd_T38 l0_3 x43_3).f0)]) (Go.bits .or .u32 x7_4 t246) x8_1 l0_3 (l0_3.length : Int) x43_3 ((rd_T38 l0_3 x43_3).f1) (((rd_T38 l0_3 x43_3).f1).length : Int) ji36 a0_0 a0_1 a0_2 l0_3 ((rd_T38 l0_3 x43_3).f0) ((rd_T38 l0_3 x43_3).f1)) else (none)))) else (coppicerref_FollowOf.l2 k4 t231 x6_4 (Go.bits .or .u32 x7_4 t246) x8_1 l0_3 (l0_3.length : Int) x43_3 ((rd_T38 l0_3 x43_3).f1) (((rd_T38 l0_3 x43_3).f1).length : Int) ji36 a0_0 a0_1 a0_2 l0_3 ((rd_T38 l0_3 x43_3).f0) ((rd_T38 l0_3 x43_3).f1)))) = some r := H); (have A39 := Aside0.mk A390); (clear A390); (replace H := Option.bind_eq_some_iff.mp H); (obtain ⟨t247, A400, H⟩ := H); (replace H : (if t247 = true then ((coppicerref_Has.f k4 x6_4 ((rd_T38 l0_3 x43_3).f0)).bind fun t248 => (if t248 = true then (coppicerref_FollowOf.l2 k4 t231 x6_4 (Go.bits .or .u32 x7_4 t246) x8_1 l0_3 (l0_3.length : Int) x43_3 ((rd_T38 l0_3 x43_3).f1) (((rd_T38 l0_3 x43_3).f1).length : Int) ji36 a0_0 a0_1 a0_2 l0_3 ((rd_T38 l0_3 x43_3).f0) ((rd_T38 l0_3 x43_3).f1)) else (if x6_4.length < 17592186044416 then (coppicerref_FollowOf.l2 k4 t231 (x6_4 ++ [((rd_T38 l0_3 x43_3).f0)]) (Go.bits .or .u32 x7_4 t246) x8_1 l0_3 (l0_3.length : Int) x43_3 ((rd_T38 l0_3 x43_3).f1) (((rd_T38 l0_3 x43_3).f1).length : Int) ji36 a0_0 a0_1 a0_2 l0_3 ((rd_T38 l0_3 x43_3).f0) ((rd_T38 l0_3 x43_3).f1)) else (none)))) else (coppicerref_FollowOf.l2 k4 t231 x6_4 (Go.bits .or .u32 x7_4 t246) x8_1 l0_3 (l0_3.length : Int) x43_3 ((rd_T38 l0_3 x43_3).f1) (((rd_T38 l0_3 x43_3).f1).length : Int) ji36 a0_0 a0_1 a0_2 l0_3 ((rd_T38 l0_3 x43_3).f0) ((rd_T38 l0_3 x43_3).f1))) = some r := H)
                  (have A40 := Aside0.mk A400); (clear A400)
                  by_cases c41 : t247 = true
                  rotate_left
                  · replace c41 := Bool.eq_false_iff.mpr c41
                    (subst c41); (have H1 : (coppicerref_FollowOf.l2 k4 t231 x6_4 (Go.bits .or .u32 x7_4 t246) x8_1 l0_3 (l0_3.length : Int) x43_3 ((rd_T38 l0_3 x43_3).f1) (((rd_T38 l0_3 x43_3).f1).length : Int) ji36 a0_0 a0_1 a0_2 l0_3 ((rd_T38 l0_3 x43_3).f0) ((rd_T38 l0_3 x43_3).f1)) = some r := by rw [if_neg (show ¬ (false = true) by decide)] at H; exact H); (clear H); (have H := H1); (clear H1); (have H' := Aside0.mk H); (clear H); (have p240 : 0 ≤ (x55_4 : Int) := of_decide_eq_true (by assumption)); (have q240 : x55_4 < (((rd_T38 l0_3 x43_3).f1).length : Int) := of_decide_eq_true (by assumption)); (obtain ⟨ad240, e240, hx240_0⟩ := Kd.at_int HR237_1.out x55_4 p240 q240); (cases e240); (replace hx240_0 := (HB.out.cell (World.block_lt_of_cell? w _ hx240_0)).trans hx240_0); (replace p240 := eq_true p240); (replace q240 := eq_true q240)
                    try go_wp2
                    (have n0_ := Aside0.mk (Kd.R_drew HO_6.out)); (have n1_ := Aside0.mk (blk_drew BK230.out)); (have n2_ := Aside0.mk (blk_drew BK238.out)); (have n3_ := Aside0.mk (below_drew1 HB.out)); (clear HO_6); (clear BK230); (clear BK238); (clear HB); (have HO_6 := n0_); (have BK230 := n1_); (have BK238 := n2_); (have HB := n3_); (clear n0_ n1_ n2_ n3_); (obtain ⟨Ao63, co63, eo63⟩ := Kd.R_slice HO_6.out)
                    (first | subst eo63 | (injection eo63 with f1_ f2_ f3_; have f4_ := f1_.symm; have f5_ := f3_.symm; clear f1_ f2_ f3_; subst f4_; subst f5_))
                    (have p241 : 0 ≤ (x8_1 : Int) := of_decide_eq_true (by assumption)); (have q241 : x8_1 < (x6_4.length : Int) := of_decide_eq_true (by assumption)); (obtain ⟨ad241, e241, hx241_0⟩ := Kd.at_int (Kd.R_reads' HO_6.out).2.2 x8_1 p241 q241); (cases e241); (replace p241 := eq_true p241); (replace q241 := eq_true q241)
                    refine start_ (n := 9) (S := fun w' => w'.cell? ⟨gb230, 0, none⟩ = some (.int .i64 a0_0) ∧ w'.cell? ⟨gb230, 1, none⟩ = some (.int .i64 a0_1) ∧ w'.cell? ⟨gb230, 2, none⟩ = some (.int .i64 a0_2) ∧ w'.cell? ⟨gb230, 3, none⟩ = some (.slice (some ad237) l0_3.length c0_3) ∧ w'.cell? (ad241.add (x8_1).toNat) = some (.int .i64 (rd x6_4 x8_1))) (ds := []) #[false, false, false, false, false, false, false, false, false] (by kernel_rfl) rfl rfl ⟨(blk_cell BK230.out 0).trans rfl, (blk_cell BK230.out 1).trans rfl, (blk_cell BK230.out 2).trans rfl, (blk_cell BK230.out 3).trans rfl, hx241_0⟩ (fun hHeld => ?_); refine with_tabW coppicerref_FollowOf.tab18 coppicerref_FollowOf.bits18 (fun HT_ HW_ => ?_)
                    generalize wr.drew = w62 at HO_6 BK230 BK238 HB hx241_0 hHeld ⊢
                    refine pure_ (i := 0) (N := some 60) (v := ?_) (a' := ?_) #[true, false, false, false, false, false, false, false, false] rfl rfl (any_of HT_.out (by kernel_rfl)) (fun _ _ _ h => h) (Or.inl ⟨by rfl, ?_⟩) ?_ ?_
                    rotate_left
                    · intro w'
                      go_simp
                      with_reducible rfl
                    rotate_left
                    · simp only [Act.put, List.setIfInBounds_toArray, List.set_cons_zero, List.set_cons_succ, i64_w, i32_w]
                      rfl
                    refine pure_ (i := 1) (N := some 61) (v := ?_) (a' := ?_) #[true, true, false, false, false, false, false, false, false] rfl rfl (any_of HT_.out (by kernel_rfl)) (fun _ _ _ h => h) (Or.inl ⟨by rfl, ?_⟩) ?_ ?_
                    rotate_left
                    · intro w'
                      go_simp
                      with_reducible rfl
                    rotate_left
                    · simp only [Act.put, List.setIfInBounds_toArray, List.set_cons_zero, List.set_cons_succ, i64_w, i32_w]
                      rfl
                    refine pure_ (i := 3) (N := some 63) (v := ?_) (a' := ?_) #[true, true, false, true, false, false, false, false, false] rfl rfl (any_of HT_.out (by kernel_rfl)) (fun _ _ _ h => h) (Or.inl ⟨by rfl, ?_⟩) ?_ ?_
                    rotate_left
                    · intro w'
                      go_simp
                      with_reducible rfl
                    rotate_left
                    · simp only [Act.put, List.setIfInBounds_toArray, List.set_cons_zero, List.set_cons_succ, i64_w, i32_w]
                      rfl
                    refine pure_ (i := 4) (N := some 64) (v := ?_) (a' := ?_) #[true, true, false, true, true, false, false, false, false] rfl rfl (any_of HT_.out (by kernel_rfl)) (fun _ _ _ h => h) (Or.inl ⟨by rfl, ?_⟩) ?_ ?_
                    rotate_left
                    · intro w'
                      go_simp
                      with_reducible rfl
                    rotate_left
                    · simp only [Act.put, List.setIfInBounds_toArray, List.set_cons_zero, List.set_cons_succ, i64_w, i32_w]
                      rfl
                    refine pure_ (i := 5) (N := some 65) (v := ?_) (a' := ?_) #[true, true, false, true, true, true, false, false, false] rfl rfl (any_of HT_.out (by kernel_rfl)) (fun _ _ _ h => h) (Or.inl ⟨by rfl, ?_⟩) ?_ ?_
                    rotate_left
                    · intro w'
                      go_simp
                      with_reducible rfl
                    rotate_left
                    · simp only [Act.put, List.setIfInBounds_toArray, List.set_cons_zero, List.set_cons_succ, i64_w, i32_w]
                      rfl
                    refine take_ (i := 2) (N := some 62) (v := ?_) (a' := ?_) #[true, true, true, true, true, true, false, false, false] rfl rfl (take_ofW HT_.out HW_.out (by kernel_rfl)) (fun _ _ _ h => h) (Or.inl ⟨by rfl, ?_⟩) hHeld ?_ ?_
                    rotate_left
                    · rintro w' ⟨s0, s1, s2, s3, s4⟩
                      go_simp
                      with_reducible rfl
                    rotate_left
                    · simp only [Act.put, List.setIfInBounds_toArray, List.set_cons_zero, List.set_cons_succ, i64_w, i32_w]
                      rfl
                    refine take_ (i := 6) (N := some 66) (v := ?_) (a' := ?_) #[true, true, true, true, true, true, true, false, false] rfl rfl (take_ofW HT_.out HW_.out (by kernel_rfl)) (fun _ _ _ h => h) (Or.inl ⟨by rfl, ?_⟩) hHeld ?_ ?_
                    rotate_left
                    · rintro w' ⟨s0, s1, s2, s3, s4⟩
                      go_simp
                      with_reducible rfl
                    rotate_left
                    · simp only [Act.put, List.setIfInBounds_toArray, List.set_cons_zero, List.set_cons_succ, i64_w, i32_w]
                      rfl
                    refine pure_ (i := 7) (N := some 67) (v := ?_) (a' := ?_) #[true, true, true, true, true, true, true, true, false] rfl rfl (any_of HT_.out (by kernel_rfl)) (fun _ _ _ h => h) (Or.inl ⟨by rfl, ?_⟩) ?_ ?_
                    rotate_left
                    · intro w'
                      go_simp
                      with_reducible rfl
                    rotate_left
                    · simp only [Act.put, List.setIfInBounds_toArray, List.set_cons_zero, List.set_cons_succ, i64_w, i32_w]
                      rfl
                    refine pure_ (i := 8) (N := some 68) (v := ?_) (a' := ?_) #[true, true, true, true, true, true, true, true, true] rfl rfl (any_of HT_.out (by kernel_rfl)) (fun _ _ _ h => h) (Or.inl ⟨by rfl, ?_⟩) ?_ ?_
                    rotate_left
                    · intro w'
                      go_simp
                      with_reducible rfl
                    rotate_left
                    · simp only [Act.put, List.setIfInBounds_toArray, List.set_cons_zero, List.set_cons_succ, i64_w, i32_w]
                      rfl
                    refine done_ (done_of HT_.out (by kernel_rfl)) ?_
                    try go_wp2
                    (have n0_ := Aside0.mk (Kd.R_drew HO_6.out)); (have n1_ := Aside0.mk (blk_drew BK230.out)); (have n2_ := Aside0.mk (blk_drew BK238.out)); (have n3_ := Aside0.mk (below_drew1 HB.out)); (clear HO_6); (clear BK230); (clear BK238); (clear HB); (have HO_6 := n0_); (have BK230 := n1_); (have BK238 := n2_); (have HB := n3_); (clear n0_ n1_ n2_ n3_); (have q65 : ((ji36) : Int) ≤ ((((rd_T38 l0_3 x43_3).f1).length : Int) : Int) := of_decide_eq_true (by assumption)); (obtain ⟨i065, hi065, _, hsz65, _⟩ := info_parts info3); (have hroom65 : ((rd_T38 l0_3 x43_3).f1).length ≤ c237_1 := HC237_1.out); (have hC65 : Kd.C (Kd.int .i64) _ (some ad240) ((rd_T38 l0_3 x43_3).f1).length ((rd_T38 l0_3 x43_3).f1) := HR237_1.out); (have q065 : (0 : Int) ≤ ((ji36) : Int) := of_decide_eq_true (by assumption)); (have hcut65 := cut_from (P := Try.prog) 33 3 .i64 Try.underlying33 hi065 1 hsz65 (some ad240) ((rd_T38 l0_3 x43_3).f1).length c237_1 (ji36) q065 q65); (have hr65 := Kd.C_drop (m := ((ji36) : Int).toNat) (c := c237_1) hC65 (by omega) hroom65); (obtain ⟨A65, hA65⟩ : ∃ Aq_, Aq_ = (if c237_1 = ((ji36) : Int).toNat then (some ad240) else ((some ad240) : Option Addr).map (·.add (((ji36) : Int).toNat * 1))) := ⟨_, rfl⟩); (obtain ⟨c65, hc65⟩ : ∃ cq_, cq_ = c237_1 - ((ji36) : Int).toNat := ⟨_, rfl⟩); (have hy65 : y242.length = ((rd_T38 l0_3 x43_3).f1).length - ((ji36) : Int).toNat := (by rw [Ny242.out, List.length_drop] <;> omega)); (rw [show (((rd_T38 l0_3 x43_3).f1)).drop ((ji36) : Int).toNat = y242 from Ny242.out.symm] at hr65); (replace hr65 : Kd.C (Kd.int .i64) _ A65 y242.length y242 := (by rw [hA65]; exact hr65))
                    (rw [← hy65, ← hA65, ← hc65] at hcut65); (have HR245 := Aside0.mk hr65); (have HC245 := Aside0.mk (show y242.length ≤ c65 from by rw [hy65, hc65]; exact Nat.sub_le_sub_right hroom65 _)); (clear hr65 hC65 hroom65 hi065 hsz65 hc65); (have KY65 := Aside0.mk hy65); (have KA65 := Aside0.mk hA65); (clear hy65 hA65); (replace q65 := eq_true q65)
                    refine start_ (n := 10) (S := fun w' => w'.cell? ⟨gb230, 0, none⟩ = some (.int .i64 a0_0) ∧ w'.cell? ⟨gb230, 1, none⟩ = some (.int .i64 a0_1) ∧ w'.cell? ⟨gb230, 2, none⟩ = some (.int .i64 a0_2) ∧ w'.cell? ⟨gb230, 3, none⟩ = some (.slice (some ad237) l0_3.length c0_3) ∧ w'.cell? ⟨gb238, 0, none⟩ = some (.int .i64 ((rd_T38 l0_3 x43_3).f0)) ∧ w'.cell? ⟨gb238, 1, none⟩ = some (.slice (some ad240) ((rd_T38 l0_3 x43_3).f1).length c237_1)) (ds := []) #[false, false, false, false, false, false, false, false, false, false] (by kernel_rfl) rfl rfl ⟨(blk_cell BK230.out 0).trans rfl, (blk_cell BK230.out 1).trans rfl, (blk_cell BK230.out 2).trans rfl, (blk_cell BK230.out 3).trans rfl, (blk_cell BK238.out 0).trans rfl, (blk_cell BK238.out 1).trans rfl⟩ (fun hHeld => ?_); refine with_tabW coppicerref_FollowOf.tab19 coppicerref_FollowOf.bits19 (fun HT_ HW_ => ?_)
                    generalize w62.drew = w64 at HO_6 BK230 BK238 HB HR245 hHeld ⊢
                    refine pure_ (i := 0) (N := some 69) (v := ?_) (a' := ?_) #[true, false, false, false, false, false, false, false, false, false] rfl rfl (any_of HT_.out (by kernel_rfl)) (fun _ _ _ h => h) (Or.inl ⟨by rfl, ?_⟩) ?_ ?_
                    rotate_left
                    · intro w'
                      go_simp
                      with_reducible rfl
                    rotate_left
                    · simp only [Act.put, List.setIfInBounds_toArray, List.set_cons_zero, List.set_cons_succ, i64_w, i32_w]
                      rfl
                    refine pure_ (i := 2) (N := some 71) (v := ?_) (a' := ?_) #[true, false, true, false, false, false, false, false, false, false] rfl rfl (any_of HT_.out (by kernel_rfl)) (fun _ _ _ h => h) (Or.inl ⟨by rfl, ?_⟩) ?_ ?_
                    rotate_left
                    · intro w'
                      go_simp
                      with_reducible rfl
                    rotate_left
                    · simp only [Act.put, List.setIfInBounds_toArray, List.set_cons_zero, List.set_cons_succ, i64_w, i32_w]
                      rfl
                    refine pure_ (i := 4) (N := some 73) (v := ?_) (a' := ?_) #[true, false, true, false, true, false, false, false, false, false] rfl rfl (any_of HT_.out (by kernel_rfl)) (fun _ _ _ h => h) (Or.inl ⟨by rfl, ?_⟩) ?_ ?_
                    rotate_left
                    · intro w'
                      go_simp
                      with_reducible rfl
                    rotate_left
                    · simp only [Act.put, List.setIfInBounds_toArray, List.set_cons_zero, List.set_cons_succ, i64_w, i32_w]
                      rfl
                    refine pure_ (i := 5) (N := some 74) (v := ?_) (a' := ?_) #[true, false, true, false, true, true, false, false, false, false] rfl rfl (any_of HT_.out (by kernel_rfl)) (fun _ _ _ h => h) (Or.inl ⟨by rfl, ?_⟩) ?_ ?_
                    rotate_left
                    · intro w'
                      go_simp
                      with_reducible rfl
                    rotate_left
                    · simp only [Act.put, List.setIfInBounds_toArray, List.set_cons_zero, List.set_cons_succ, i64_w, i32_w]
                      rfl
                    refine take_ (i := 1) (N := some 70) (v := ?_) (a' := ?_) #[true, true, true, false, true, true, false, false, false, false] rfl rfl (take_ofW HT_.out HW_.out (by kernel_rfl)) (fun _ _ _ h => h) (Or.inl ⟨by rfl, ?_⟩) hHeld ?_ ?_
                    rotate_left
                    · rintro w' ⟨s0, s1, s2, s3, s4, s5⟩
                      go_simp
                      with_reducible rfl
                    rotate_left
                    · simp only [Act.put, List.setIfInBounds_toArray, List.set_cons_zero, List.set_cons_succ, i64_w, i32_w]
                      rfl
                    refine take_ (i := 3) (N := some 72) (v := ?_) (a' := ?_) #[true, true, true, true, true, true, false, false, false, false] rfl rfl (take_ofW HT_.out HW_.out (by kernel_rfl)) (fun _ _ _ h => h) (Or.inl ⟨by rfl, ?_⟩) hHeld ?_ ?_
                    rotate_left
                    · rintro w' ⟨s0, s1, s2, s3, s4, s5⟩
                      go_simp
                      with_reducible rfl
                    rotate_left
                    · simp only [Act.put, List.setIfInBounds_toArray, List.set_cons_zero, List.set_cons_succ, i64_w, i32_w]
                      rfl
                    refine pure_ (i := 6) (N := some 75) (v := ?_) (a' := ?_) #[true, true, true, true, true, true, true, false, false, false] rfl rfl (any_of HT_.out (by kernel_rfl)) (fun _ _ _ h => h) (Or.inl ⟨by rfl, ?_⟩) ?_ ?_
                    rotate_left
                    · intro w'
                      go_simp
                      with_reducible rfl
                    rotate_left
                    · simp only [Act.put, List.setIfInBounds_toArray, List.set_cons_zero, List.set_cons_succ, i64_w, i32_w]
                      rfl
                    refine one_ (i := 7) (N := some 76) #[true, true, true, true, true, true, true, true, false, false] rfl rfl (one_of HT_.out (by kernel_rfl)) (by decide) (fun K hK => ?_)
                    refine goes_ Try.func36 (by kernel_rfl) rfl #[.agg #[.int .i64 a0_0, .int .i64 a0_1, .int .i64 a0_2, .slice (some ad237) l0_3.length c0_3], .slice A65 y242.length c65] (by rfl) rfl rfl (by (try simp only [List.map_toArray, List.map_cons, List.map_nil]); first | done | rfl | (simp only [List.length_drop, List.length_take]; rfl)) ?_
                    with_reducible refine (coppicerref_Firsts.calls k4 a0_0 a0_1 a0_2 _ _ l0_3 _ _ y242 t246 _ ?side1 ?side2 ?side3 ?side4 A39.out).mono ?_
                    (case side1 => repeat (first | exact (Kd.C_below HR0_3.out HB.out) | (with_reducible refine Kd.C_alloc ?_ _) | (with_reducible refine Kd.C_drewN ?_ _) | (with_reducible refine Kd.C_drew ?_)))
                    (case side2 => exact HC0_3.out)
                    (case side3 => repeat (first | exact (Kd.C_below HR245.out HB.out) | (with_reducible refine Kd.C_alloc ?_ _) | (with_reducible refine Kd.C_drewN ?_ _) | (with_reducible refine Kd.C_drew ?_)))
                    (case side4 => exact HC245.out)
                    rintro e w66 ⟨rfl, hb⟩
                    refine ⟨_, rfl, ?_⟩
                    (have n0_ := Aside0.mk (Kd.R_below (by (with_reducible repeat (first | apply Kd.R_alloc | apply Kd.R_drewN | apply Kd.R_drew)); exact HO_6.out) hb)); (have n1_ := Aside0.mk (blk_below (g := gb230) (o := .cells #[.int .i64 a0_0, .int .i64 a0_1, .int .i64 a0_2, .slice (some ad237) l0_3.length c0_3] 24 (0, 0)) (by (with_reducible repeat (first | refine blk_drewN ?_ _ | refine blk_drew ?_ | refine blk_alloc ?_ _)); exact BK230.out) hb)); (have n2_ := Aside0.mk (blk_below (g := gb238) (o := .cells #[.int .i64 ((rd_T38 l0_3 x43_3).f0), .slice (some ad240) ((rd_T38 l0_3 x43_3).f1).length c237_1] 38 (0, 0)) (by (with_reducible repeat (first | refine blk_drewN ?_ _ | refine blk_drew ?_ | refine blk_alloc ?_ _)); exact BK238.out) hb)); (have n3_ := Aside0.mk (below_step (by repeat (first | (with_reducible first | exact HB.out | apply below_alloc | apply pw_below_drewN | apply below_drew1 | refine below_set ?_ GE230.out | refine below_set ?_ GE238.out) | exact HB.out)) hb)); (clear HO_6); (clear BK230); (clear BK238); (clear HB); (have HO_6 := n0_); (have BK230 := n1_); (have BK238 := n2_); (have HB := n3_); (clear n0_ n1_ n2_ n3_); ((try clear hb)); ((try clear hb2)); ((try clear hk)); ((try clear hi))
                    refine hK.out _ _ ⟨(blk_cell BK230.out 0).trans rfl, (blk_cell BK230.out 1).trans rfl, (blk_cell BK230.out 2).trans rfl, (blk_cell BK230.out 3).trans rfl, (blk_cell BK238.out 0).trans rfl, (blk_cell BK238.out 1).trans rfl⟩ (fun hHeld => ?_)
                    clear hK K
                    refine norm_ (a' := ?_) ?_ ?_
                    rotate_left
                    · show Act.put _ (some 76) _ = _
                      simp only [Act.put, List.setIfInBounds_toArray, List.set_cons_zero, List.set_cons_succ, i64_w, i32_w]
                      rfl
                    refine pure_ (i := 8) (N := some 77) (v := ?_) (a' := ?_) #[true, true, true, true, true, true, true, true, true, false] rfl rfl (any_of HT_.out (by kernel_rfl)) (fun _ _ _ h => h) (Or.inl ⟨by rfl, ?_⟩) ?_ ?_
                    rotate_left
                    · intro w'
                      go_simp
                      with_reducible rfl
                    rotate_left
                    · simp only [Act.put, List.setIfInBounds_toArray, List.set_cons_zero, List.set_cons_succ, i64_w, i32_w]
                      rfl
                    refine pure_ (i := 9) (N := some 7) (v := ?_) (a' := ?_) #[true, true, true, true, true, true, true, true, true, true] rfl rfl (any_of HT_.out (by kernel_rfl)) (fun _ _ _ h => h) (Or.inl ⟨by rfl, ?_⟩) ?_ ?_
                    rotate_left
                    · intro w'
                      go_simp
                      with_reducible rfl
                    rotate_left
                    · simp only [Act.put, List.setIfInBounds_toArray, List.set_cons_zero, List.set_cons_succ, i64_w, i32_w]
                      rfl
                    refine done_ (done_of HT_.out (by kernel_rfl)) ?_
                    try go_wp2
                    (have n0_ := Aside0.mk (Kd.R_drew HO_6.out)); (have n1_ := Aside0.mk (blk_drew BK230.out)); (have n2_ := Aside0.mk (blk_drew BK238.out)); (have n3_ := Aside0.mk (below_drew1 HB.out)); (clear HO_6); (clear BK230); (clear BK238); (clear HB); (have HO_6 := n0_); (have BK230 := n1_); (have BK238 := n2_); (have HB := n3_); (clear n0_ n1_ n2_ n3_)
                    refine start_ (n := 14) (S := fun w' => w'.cell? ⟨gb230, 0, none⟩ = some (.int .i64 a0_0) ∧ w'.cell? ⟨gb230, 1, none⟩ = some (.int .i64 a0_1) ∧ w'.cell? ⟨gb230, 2, none⟩ = some (.int .i64 a0_2) ∧ w'.cell? ⟨gb230, 3, none⟩ = some (.slice (some ad237) l0_3.length c0_3) ∧ w'.cell? ⟨gb238, 0, none⟩ = some (.int .i64 ((rd_T38 l0_3 x43_3).f0)) ∧ w'.cell? ⟨gb238, 1, none⟩ = some (.slice (some ad240) ((rd_T38 l0_3 x43_3).f1).length c237_1)) (ds := []) #[false, false, false, false, false, false, false, false, false, false, false, false, false, false] (by kernel_rfl) rfl rfl ⟨(blk_cell BK230.out 0).trans rfl, (blk_cell BK230.out 1).trans rfl, (blk_cell BK230.out 2).trans rfl, (blk_cell BK230.out 3).trans rfl, (blk_cell BK238.out 0).trans rfl, (blk_cell BK238.out 1).trans rfl⟩ (fun hHeld => ?_); refine with_tabW coppicerref_FollowOf.tab20 coppicerref_FollowOf.bits20 (fun HT_ HW_ => ?_)
                    generalize w66.drew = w67 at HO_6 BK230 BK238 HB hHeld ⊢
                    refine pure_ (i := 1) (N := some 79) (v := ?_) (a' := ?_) #[false, true, false, false, false, false, false, false, false, false, false, false, false, false] rfl rfl (any_of HT_.out (by kernel_rfl)) (fun _ _ _ h => h) (Or.inl ⟨by rfl, ?_⟩) ?_ ?_
                    rotate_left
                    · intro w'
                      go_simp
                      with_reducible rfl
                    rotate_left
                    · simp only [Act.put, List.setIfInBounds_toArray, List.set_cons_zero, List.set_cons_succ, i64_w, i32_w]
                      rfl
                    refine pure_ (i := 3) (N := some 81) (v := ?_) (a' := ?_) #[false, true, false, true, false, false, false, false, false, false, false, false, false, false] rfl rfl (any_of HT_.out (by kernel_rfl)) (fun _ _ _ h => h) (Or.inl ⟨by rfl, ?_⟩) ?_ ?_
                    rotate_left
                    · intro w'
                      go_simp
                      with_reducible rfl
                    rotate_left
                    · simp only [Act.put, List.setIfInBounds_toArray, List.set_cons_zero, List.set_cons_succ, i64_w, i32_w]
                      rfl
                    refine pure_ (i := 4) (N := some 82) (v := ?_) (a' := ?_) #[false, true, false, true, true, false, false, false, false, false, false, false, false, false] rfl rfl (any_of HT_.out (by kernel_rfl)) (fun _ _ _ h => h) (Or.inl ⟨by rfl, ?_⟩) ?_ ?_
                    rotate_left
                    · intro w'
                      go_simp
                      with_reducible rfl
                    rotate_left
                    · simp only [Act.put, List.setIfInBounds_toArray, List.set_cons_zero, List.set_cons_succ, i64_w, i32_w]
                      rfl
                    refine take_ (i := 0) (N := some 78) (v := ?_) (a' := ?_) #[true, true, false, true, true, false, false, false, false, false, false, false, false, false] rfl rfl (take_ofW HT_.out HW_.out (by kernel_rfl)) (fun _ _ _ h => h) (Or.inl ⟨by rfl, ?_⟩) hHeld ?_ ?_
                    rotate_left
                    · rintro w' ⟨s0, s1, s2, s3, s4, s5⟩
                      go_simp
                      with_reducible rfl
                    rotate_left
                    · simp only [Act.put, List.setIfInBounds_toArray, List.set_cons_zero, List.set_cons_succ, i64_w, i32_w]
                      rfl
                    refine take_ (i := 2) (N := some 80) (v := ?_) (a' := ?_) #[true, true, true, true, true, false, false, false, false, false, false, false, false, false] rfl rfl (take_ofW HT_.out HW_.out (by kernel_rfl)) (fun _ _ _ h => h) (Or.inl ⟨by rfl, ?_⟩) hHeld ?_ ?_
                    rotate_left
                    · rintro w' ⟨s0, s1, s2, s3, s4, s5⟩
                      go_simp
                      with_reducible rfl
                    rotate_left
                    · simp only [Act.put, List.setIfInBounds_toArray, List.set_cons_zero, List.set_cons_succ, i64_w, i32_w]
                      rfl
                    refine pure_ (i := 5) (N := some 83) (v := ?_) (a' := ?_) #[true, true, true, true, true, true, false, false, false, false, false, false, false, false] rfl rfl (any_of HT_.out (by kernel_rfl)) (fun _ _ _ h => h) (Or.inl ⟨by rfl, ?_⟩) ?_ ?_
                    rotate_left
                    · intro w'
                      go_simp
                      with_reducible rfl
                    rotate_left
                    · simp only [Act.put, List.setIfInBounds_toArray, List.set_cons_zero, List.set_cons_succ, i64_w, i32_w]
                      rfl
                    refine one_ (i := 6) (N := some 84) #[true, true, true, true, true, true, true, false, false, false, false, false, false, false] rfl rfl (one_of HT_.out (by kernel_rfl)) (by decide) (fun K hK => ?_)
                    refine goes_ Try.func63 (by kernel_rfl) rfl #[.agg #[.int .i64 a0_0, .int .i64 a0_1, .int .i64 a0_2, .slice (some ad237) l0_3.length c0_3], .slice A65 y242.length c65] (by rfl) rfl rfl (by (try simp only [List.map_toArray, List.map_cons, List.map_nil]); first | done | rfl | (simp only [List.length_drop, List.length_take]; rfl)) ?_
                    with_reducible refine (coppicerref_Gone.calls k4 a0_0 a0_1 a0_2 _ _ l0_3 _ _ y242 false _ ?side1 ?side2 ?side3 ?side4 A40.out).mono ?_
                    (case side1 => repeat (first | exact (Kd.C_below HR0_3.out HB.out) | (with_reducible refine Kd.C_alloc ?_ _) | (with_reducible refine Kd.C_drewN ?_ _) | (with_reducible refine Kd.C_drew ?_)))
                    (case side2 => exact HC0_3.out)
                    (case side3 => repeat (first | exact (Kd.C_below HR245.out HB.out) | (with_reducible refine Kd.C_alloc ?_ _) | (with_reducible refine Kd.C_drewN ?_ _) | (with_reducible refine Kd.C_drew ?_)))
                    (case side4 => exact HC245.out)
                    rintro e w68 ⟨rfl, hb⟩
                    refine ⟨_, rfl, ?_⟩
                    (have n0_ := Aside0.mk (Kd.R_below (by (with_reducible repeat (first | apply Kd.R_alloc | apply Kd.R_drewN | apply Kd.R_drew)); exact HO_6.out) hb)); (have n1_ := Aside0.mk (blk_below (g := gb230) (o := .cells #[.int .i64 a0_0, .int .i64 a0_1, .int .i64 a0_2, .slice (some ad237) l0_3.length c0_3] 24 (0, 0)) (by (with_reducible repeat (first | refine blk_drewN ?_ _ | refine blk_drew ?_ | refine blk_alloc ?_ _)); exact BK230.out) hb)); (have n2_ := Aside0.mk (blk_below (g := gb238) (o := .cells #[.int .i64 ((rd_T38 l0_3 x43_3).f0), .slice (some ad240) ((rd_T38 l0_3 x43_3).f1).length c237_1] 38 (0, 0)) (by (with_reducible repeat (first | refine blk_drewN ?_ _ | refine blk_drew ?_ | refine blk_alloc ?_ _)); exact BK238.out) hb)); (have n3_ := Aside0.mk (below_step (by repeat (first | (with_reducible first | exact HB.out | apply below_alloc | apply pw_below_drewN | apply below_drew1 | refine below_set ?_ GE230.out | refine below_set ?_ GE238.out) | exact HB.out)) hb)); (clear HO_6); (clear BK230); (clear BK238); (clear HB); (have HO_6 := n0_); (have BK230 := n1_); (have BK238 := n2_); (have HB := n3_); (clear n0_ n1_ n2_ n3_); ((try clear hb)); ((try clear hb2)); ((try clear hk)); ((try clear hi))
                    refine hK.out _ _ ⟨(blk_cell BK230.out 0).trans rfl, (blk_cell BK230.out 1).trans rfl, (blk_cell BK230.out 2).trans rfl, (blk_cell BK230.out 3).trans rfl, (blk_cell BK238.out 0).trans rfl, (blk_cell BK238.out 1).trans rfl⟩ (fun hHeld => ?_)
                    clear hK K
                    refine norm_ (a' := ?_) ?_ ?_
                    rotate_left
                    · show Act.put _ (some 84) _ = _
                      simp only [Act.put, List.setIfInBounds_toArray, List.set_cons_zero, List.set_cons_succ, i64_w, i32_w]
                      rfl
                    refine pure_ (i := 7) (N := some 85) (v := ?_) (a' := ?_) #[true, true, true, true, true, true, true, true, false, false, false, false, false, false] rfl rfl (any_of HT_.out (by kernel_rfl)) (fun _ _ _ h => h) (Or.inl ⟨by rfl, ?_⟩) ?_ ?_
                    rotate_left
                    · intro w'
                      go_simp
                      with_reducible rfl
                    rotate_left
                    · simp only [Act.put, List.setIfInBounds_toArray, List.set_cons_zero, List.set_cons_succ, i64_w, i32_w]
                      rfl
                    refine pure_ (i := 8) (N := some 86) (v := undef) (a' := ?_) #[true, true, true, true, true, true, true, true, true, false, false, false, false, false] rfl rfl (any_of HT_.out (by kernel_rfl)) (fun _ _ _ h => h) (Or.inr ⟨by rfl, rfl⟩) ?_ ?_
                    rotate_left
                    · simp only [Act.put, List.setIfInBounds_toArray, List.set_cons_zero, List.set_cons_succ, i64_w, i32_w]
                      rfl
                    refine pure_ (i := 9) (N := some 87) (v := undef) (a' := ?_) #[true, true, true, true, true, true, true, true, true, true, false, false, false, false] rfl rfl (any_of HT_.out (by kernel_rfl)) (fun _ _ _ h => h) (Or.inr ⟨by rfl, rfl⟩) ?_ ?_
                    rotate_left
                    · simp only [Act.put, List.setIfInBounds_toArray, List.set_cons_zero, List.set_cons_succ, i64_w, i32_w]
                      rfl
                    refine pure_ (i := 10) (N := some 88) (v := undef) (a' := ?_) #[true, true, true, true, true, true, true, true, true, true, true, false, false, false] rfl rfl (any_of HT_.out (by kernel_rfl)) (fun _ _ _ h => h) (Or.inr ⟨by rfl, rfl⟩) ?_ ?_
                    rotate_left
                    · simp only [Act.put, List.setIfInBounds_toArray, List.set_cons_zero, List.set_cons_succ, i64_w, i32_w]
                      rfl
                    refine pure_ (i := 11) (N := some 89) (v := undef) (a' := ?_) #[true, true, true, true, true, true, true, true, true, true, true, true, false, false] rfl rfl (any_of HT_.out (by kernel_rfl)) (fun _ _ _ h => h) (Or.inr ⟨by rfl, rfl⟩) ?_ ?_
                    rotate_left
                    · simp only [Act.put, List.setIfInBounds_toArray, List.set_cons_zero, List.set_cons_succ, i64_w, i32_w]
                      rfl
                    refine pure_ (i := 12) (N := some 90) (v := undef) (a' := ?_) #[true, true, true, true, true, true, true, true, true, true, true, true, true, false] rfl rfl (any_of HT_.out (by kernel_rfl)) (fun _ _ _ h => h) (Or.inr ⟨by rfl, rfl⟩) ?_ ?_
                    rotate_left
                    · simp only [Act.put, List.setIfInBounds_toArray, List.set_cons_zero, List.set_cons_succ, i64_w, i32_w]
                      rfl
                    refine pure_ (i := 13) (N := some 91) (v := ?_) (a' := ?_) #[true, true, true, true, true, true, true, true, true, true, true, true, true, true] rfl rfl (any_of HT_.out (by kernel_rfl)) (fun _ _ _ h => h) (Or.inl ⟨by rfl, ?_⟩) ?_ ?_
                    rotate_left
                    · intro w'
                      go_simp
                      with_reducible rfl
                    rotate_left
                    · simp only [Act.put, List.setIfInBounds_toArray, List.set_cons_zero, List.set_cons_succ, i64_w, i32_w]
                      rfl
                    refine done_ (done_of HT_.out (by kernel_rfl)) ?_
                    try go_wp2
                    (first | go_roundg k4 | (simp only [← hji36]; go_roundg k4))
                    case measure => have := HK1.out; have := HJ12.out; have := HK3.out; have := HK4.out; omega
                    case rel => exact ⟨(x6_4), (Go.bits .or .u32 x7_4 t246), (ji36), (by first | rfl | (simp; done) | (simp [*]; done)), (by first | rfl | (simp; done) | (simp only [← hji36] <;> (first | rfl | simp)) | (simp [*]; done)), H', ⟨by have := HK1.out; have := HJ12.out; have := HK3.out; have := HK4.out; omega⟩, ⟨by (with_reducible repeat (first | apply Kd.R_alloc | apply Kd.R_drewN | apply Kd.R_drew)); exact HO_6.out⟩, ⟨by (with_reducible repeat (first | refine blk_drewN ?_ _ | refine blk_drew ?_ | refine blk_alloc ?_ _)); exact BK230.out⟩, ⟨by (with_reducible repeat (first | refine blk_drewN ?_ _ | refine blk_drew ?_ | refine blk_alloc ?_ _)); exact BK238.out⟩, ⟨by repeat (first | (with_reducible first | exact HB.out | apply below_alloc | apply pw_below_drewN | apply below_drew1 | refine below_set ?_ GE230.out | refine below_set ?_ GE238.out) | exact HB.out)⟩⟩
                  (subst c41); (have H1 : ((coppicerref_Has.f k4 x6_4 ((rd_T38 l0_3 x43_3).f0)).bind fun t248 => (if t248 = true then (coppicerref_FollowOf.l2 k4 t231 x6_4 (Go.bits .or .u32 x7_4 t246) x8_1 l0_3 (l0_3.length : Int) x43_3 ((rd_T38 l0_3 x43_3).f1) (((rd_T38 l0_3 x43_3).f1).length : Int) ji36 a0_0 a0_1 a0_2 l0_3 ((rd_T38 l0_3 x43_3).f0) ((rd_T38 l0_3 x43_3).f1)) else (if x6_4.length < 17592186044416 then (coppicerref_FollowOf.l2 k4 t231 (x6_4 ++ [((rd_T38 l0_3 x43_3).f0)]) (Go.bits .or .u32 x7_4 t246) x8_1 l0_3 (l0_3.length : Int) x43_3 ((rd_T38 l0_3 x43_3).f1) (((rd_T38 l0_3 x43_3).f1).length : Int) ji36 a0_0 a0_1 a0_2 l0_3 ((rd_T38 l0_3 x43_3).f0) ((rd_T38 l0_3 x43_3).f1)) else (none)))) = some r := by rw [if_pos rfl] at H; exact H); (clear H); (have H := H1); (clear H1); (replace H := Option.bind_eq_some_iff.mp H); (obtain ⟨t248, A420, H⟩ := H); (replace H : (if t248 = true then (coppicerref_FollowOf.l2 k4 t231 x6_4 (Go.bits .or .u32 x7_4 t246) x8_1 l0_3 (l0_3.length : Int) x43_3 ((rd_T38 l0_3 x43_3).f1) (((rd_T38 l0_3 x43_3).f1).length : Int) ji36 a0_0 a0_1 a0_2 l0_3 ((rd_T38 l0_3 x43_3).f0) ((rd_T38 l0_3 x43_3).f1)) else (if x6_4.length < 17592186044416 then (coppicerref_FollowOf.l2 k4 t231 (x6_4 ++ [((rd_T38 l0_3 x43_3).f0)]) (Go.bits .or .u32 x7_4 t246) x8_1 l0_3 (l0_3.length : Int) x43_3 ((rd_T38 l0_3 x43_3).f1) (((rd_T38 l0_3 x43_3).f1).length : Int) ji36 a0_0 a0_1 a0_2 l0_3 ((rd_T38 l0_3 x43_3).f0) ((rd_T38 l0_3 x43_3).f1)) else (none))) = some r := H); (have A42 := Aside0.mk A420); (clear A420)
                  by_cases c43 : t248 = true
                  · subst c43
                    (have H1 : (coppicerref_FollowOf.l2 k4 t231 x6_4 (Go.bits .or .u32 x7_4 t246) x8_1 l0_3 (l0_3.length : Int) x43_3 ((rd_T38 l0_3 x43_3).f1) (((rd_T38 l0_3 x43_3).f1).length : Int) ji36 a0_0 a0_1 a0_2 l0_3 ((rd_T38 l0_3 x43_3).f0) ((rd_T38 l0_3 x43_3).f1)) = some r := by rw [if_pos rfl] at H; exact H); (clear H); (have H := H1); (clear H1); (have H' := Aside0.mk H); (clear H); (have p240 : 0 ≤ (x55_4 : Int) := of_decide_eq_true (by assumption)); (have q240 : x55_4 < (((rd_T38 l0_3 x43_3).f1).length : Int) := of_decide_eq_true (by assumption)); (obtain ⟨ad240, e240, hx240_0⟩ := Kd.at_int HR237_1.out x55_4 p240 q240); (cases e240); (replace hx240_0 := (HB.out.cell (World.block_lt_of_cell? w _ hx240_0)).trans hx240_0); (replace p240 := eq_true p240); (replace q240 := eq_true q240)
                    try go_wp2
                    (have n0_ := Aside0.mk (Kd.R_drew HO_6.out)); (have n1_ := Aside0.mk (blk_drew BK230.out)); (have n2_ := Aside0.mk (blk_drew BK238.out)); (have n3_ := Aside0.mk (below_drew1 HB.out)); (clear HO_6); (clear BK230); (clear BK238); (clear HB); (have HO_6 := n0_); (have BK230 := n1_); (have BK238 := n2_); (have HB := n3_); (clear n0_ n1_ n2_ n3_); (obtain ⟨Ao45, co45, eo45⟩ := Kd.R_slice HO_6.out)
                    (first | subst eo45 | (injection eo45 with f1_ f2_ f3_; have f4_ := f1_.symm; have f5_ := f3_.symm; clear f1_ f2_ f3_; subst f4_; subst f5_))
                    (have p241 : 0 ≤ (x8_1 : Int) := of_decide_eq_true (by assumption)); (have q241 : x8_1 < (x6_4.length : Int) := of_decide_eq_true (by assumption)); (obtain ⟨ad241, e241, hx241_0⟩ := Kd.at_int (Kd.R_reads' HO_6.out).2.2 x8_1 p241 q241); (cases e241); (replace p241 := eq_true p241); (replace q241 := eq_true q241)
                    refine start_ (n := 9) (S := fun w' => w'.cell? ⟨gb230, 0, none⟩ = some (.int .i64 a0_0) ∧ w'.cell? ⟨gb230, 1, none⟩ = some (.int .i64 a0_1) ∧ w'.cell? ⟨gb230, 2, none⟩ = some (.int .i64 a0_2) ∧ w'.cell? ⟨gb230, 3, none⟩ = some (.slice (some ad237) l0_3.length c0_3) ∧ w'.cell? (ad241.add (x8_1).toNat) = some (.int .i64 (rd x6_4 x8_1))) (ds := []) #[false, false, false, false, false, false, false, false, false] (by kernel_rfl) rfl rfl ⟨(blk_cell BK230.out 0).trans rfl, (blk_cell BK230.out 1).trans rfl, (blk_cell BK230.out 2).trans rfl, (blk_cell BK230.out 3).trans rfl, hx241_0⟩ (fun hHeld => ?_); refine with_tabW coppicerref_FollowOf.tab18 coppicerref_FollowOf.bits18 (fun HT_ HW_ => ?_)
                    generalize wr.drew = w44 at HO_6 BK230 BK238 HB hx241_0 hHeld ⊢
                    refine pure_ (i := 0) (N := some 60) (v := ?_) (a' := ?_) #[true, false, false, false, false, false, false, false, false] rfl rfl (any_of HT_.out (by kernel_rfl)) (fun _ _ _ h => h) (Or.inl ⟨by rfl, ?_⟩) ?_ ?_
                    rotate_left
                    · intro w'
                      go_simp
                      with_reducible rfl
                    rotate_left
                    · simp only [Act.put, List.setIfInBounds_toArray, List.set_cons_zero, List.set_cons_succ, i64_w, i32_w]
                      rfl
                    refine pure_ (i := 1) (N := some 61) (v := ?_) (a' := ?_) #[true, true, false, false, false, false, false, false, false] rfl rfl (any_of HT_.out (by kernel_rfl)) (fun _ _ _ h => h) (Or.inl ⟨by rfl, ?_⟩) ?_ ?_
                    rotate_left
                    · intro w'
                      go_simp
                      with_reducible rfl
                    rotate_left
                    · simp only [Act.put, List.setIfInBounds_toArray, List.set_cons_zero, List.set_cons_succ, i64_w, i32_w]
                      rfl
                    refine pure_ (i := 3) (N := some 63) (v := ?_) (a' := ?_) #[true, true, false, true, false, false, false, false, false] rfl rfl (any_of HT_.out (by kernel_rfl)) (fun _ _ _ h => h) (Or.inl ⟨by rfl, ?_⟩) ?_ ?_
                    rotate_left
                    · intro w'
                      go_simp
                      with_reducible rfl
                    rotate_left
                    · simp only [Act.put, List.setIfInBounds_toArray, List.set_cons_zero, List.set_cons_succ, i64_w, i32_w]
                      rfl
                    refine pure_ (i := 4) (N := some 64) (v := ?_) (a' := ?_) #[true, true, false, true, true, false, false, false, false] rfl rfl (any_of HT_.out (by kernel_rfl)) (fun _ _ _ h => h) (Or.inl ⟨by rfl, ?_⟩) ?_ ?_
                    rotate_left
                    · intro w'
                      go_simp
                      with_reducible rfl
                    rotate_left
                    · simp only [Act.put, List.setIfInBounds_toArray, List.set_cons_zero, List.set_cons_succ, i64_w, i32_w]
                      rfl
                    refine pure_ (i := 5) (N := some 65) (v := ?_) (a' := ?_) #[true, true, false, true, true, true, false, false, false] rfl rfl (any_of HT_.out (by kernel_rfl)) (fun _ _ _ h => h) (Or.inl ⟨by rfl, ?_⟩) ?_ ?_
                    rotate_left
                    · intro w'
                      go_simp
                      with_reducible rfl
                    rotate_left
                    · simp only [Act.put, List.setIfInBounds_toArray, List.set_cons_zero, List.set_cons_succ, i64_w, i32_w]
                      rfl
                    refine take_ (i := 2) (N := some 62) (v := ?_) (a' := ?_) #[true, true, true, true, true, true, false, false, false] rfl rfl (take_ofW HT_.out HW_.out (by kernel_rfl)) (fun _ _ _ h => h) (Or.inl ⟨by rfl, ?_⟩) hHeld ?_ ?_
                    rotate_left
                    · rintro w' ⟨s0, s1, s2, s3, s4⟩
                      go_simp
                      with_reducible rfl
                    rotate_left
                    · simp only [Act.put, List.setIfInBounds_toArray, List.set_cons_zero, List.set_cons_succ, i64_w, i32_w]
                      rfl
                    refine take_ (i := 6) (N := some 66) (v := ?_) (a' := ?_) #[true, true, true, true, true, true, true, false, false] rfl rfl (take_ofW HT_.out HW_.out (by kernel_rfl)) (fun _ _ _ h => h) (Or.inl ⟨by rfl, ?_⟩) hHeld ?_ ?_
                    rotate_left
                    · rintro w' ⟨s0, s1, s2, s3, s4⟩
                      go_simp
                      with_reducible rfl
                    rotate_left
                    · simp only [Act.put, List.setIfInBounds_toArray, List.set_cons_zero, List.set_cons_succ, i64_w, i32_w]
                      rfl
                    refine pure_ (i := 7) (N := some 67) (v := ?_) (a' := ?_) #[true, true, true, true, true, true, true, true, false] rfl rfl (any_of HT_.out (by kernel_rfl)) (fun _ _ _ h => h) (Or.inl ⟨by rfl, ?_⟩) ?_ ?_
                    rotate_left
                    · intro w'
                      go_simp
                      with_reducible rfl
                    rotate_left
                    · simp only [Act.put, List.setIfInBounds_toArray, List.set_cons_zero, List.set_cons_succ, i64_w, i32_w]
                      rfl
                    refine pure_ (i := 8) (N := some 68) (v := ?_) (a' := ?_) #[true, true, true, true, true, true, true, true, true] rfl rfl (any_of HT_.out (by kernel_rfl)) (fun _ _ _ h => h) (Or.inl ⟨by rfl, ?_⟩) ?_ ?_
                    rotate_left
                    · intro w'
                      go_simp
                      with_reducible rfl
                    rotate_left
                    · simp only [Act.put, List.setIfInBounds_toArray, List.set_cons_zero, List.set_cons_succ, i64_w, i32_w]
                      rfl
                    refine done_ (done_of HT_.out (by kernel_rfl)) ?_
                    try go_wp2
                    (have n0_ := Aside0.mk (Kd.R_drew HO_6.out)); (have n1_ := Aside0.mk (blk_drew BK230.out)); (have n2_ := Aside0.mk (blk_drew BK238.out)); (have n3_ := Aside0.mk (below_drew1 HB.out)); (clear HO_6); (clear BK230); (clear BK238); (clear HB); (have HO_6 := n0_); (have BK230 := n1_); (have BK238 := n2_); (have HB := n3_); (clear n0_ n1_ n2_ n3_); (have q47 : ((ji36) : Int) ≤ ((((rd_T38 l0_3 x43_3).f1).length : Int) : Int) := of_decide_eq_true (by assumption)); (obtain ⟨i047, hi047, _, hsz47, _⟩ := info_parts info3); (have hroom47 : ((rd_T38 l0_3 x43_3).f1).length ≤ c237_1 := HC237_1.out); (have hC47 : Kd.C (Kd.int .i64) _ (some ad240) ((rd_T38 l0_3 x43_3).f1).length ((rd_T38 l0_3 x43_3).f1) := HR237_1.out); (have q047 : (0 : Int) ≤ ((ji36) : Int) := of_decide_eq_true (by assumption)); (have hcut47 := cut_from (P := Try.prog) 33 3 .i64 Try.underlying33 hi047 1 hsz47 (some ad240) ((rd_T38 l0_3 x43_3).f1).length c237_1 (ji36) q047 q47); (have hr47 := Kd.C_drop (m := ((ji36) : Int).toNat) (c := c237_1) hC47 (by omega) hroom47); (obtain ⟨A47, hA47⟩ : ∃ Aq_, Aq_ = (if c237_1 = ((ji36) : Int).toNat then (some ad240) else ((some ad240) : Option Addr).map (·.add (((ji36) : Int).toNat * 1))) := ⟨_, rfl⟩); (obtain ⟨c47, hc47⟩ : ∃ cq_, cq_ = c237_1 - ((ji36) : Int).toNat := ⟨_, rfl⟩); (have hy47 : y242.length = ((rd_T38 l0_3 x43_3).f1).length - ((ji36) : Int).toNat := (by rw [Ny242.out, List.length_drop] <;> omega)); (rw [show (((rd_T38 l0_3 x43_3).f1)).drop ((ji36) : Int).toNat = y242 from Ny242.out.symm] at hr47); (replace hr47 : Kd.C (Kd.int .i64) _ A47 y242.length y242 := (by rw [hA47]; exact hr47))
                    (rw [← hy47, ← hA47, ← hc47] at hcut47); (have HR245 := Aside0.mk hr47); (have HC245 := Aside0.mk (show y242.length ≤ c47 from by rw [hy47, hc47]; exact Nat.sub_le_sub_right hroom47 _)); (clear hr47 hC47 hroom47 hi047 hsz47 hc47); (have KY47 := Aside0.mk hy47); (have KA47 := Aside0.mk hA47); (clear hy47 hA47); (replace q47 := eq_true q47)
                    refine start_ (n := 10) (S := fun w' => w'.cell? ⟨gb230, 0, none⟩ = some (.int .i64 a0_0) ∧ w'.cell? ⟨gb230, 1, none⟩ = some (.int .i64 a0_1) ∧ w'.cell? ⟨gb230, 2, none⟩ = some (.int .i64 a0_2) ∧ w'.cell? ⟨gb230, 3, none⟩ = some (.slice (some ad237) l0_3.length c0_3) ∧ w'.cell? ⟨gb238, 0, none⟩ = some (.int .i64 ((rd_T38 l0_3 x43_3).f0)) ∧ w'.cell? ⟨gb238, 1, none⟩ = some (.slice (some ad240) ((rd_T38 l0_3 x43_3).f1).length c237_1)) (ds := []) #[false, false, false, false, false, false, false, false, false, false] (by kernel_rfl) rfl rfl ⟨(blk_cell BK230.out 0).trans rfl, (blk_cell BK230.out 1).trans rfl, (blk_cell BK230.out 2).trans rfl, (blk_cell BK230.out 3).trans rfl, (blk_cell BK238.out 0).trans rfl, (blk_cell BK238.out 1).trans rfl⟩ (fun hHeld => ?_); refine with_tabW coppicerref_FollowOf.tab19 coppicerref_FollowOf.bits19 (fun HT_ HW_ => ?_)
                    generalize w44.drew = w46 at HO_6 BK230 BK238 HB HR245 hHeld ⊢
                    refine pure_ (i := 0) (N := some 69) (v := ?_) (a' := ?_) #[true, false, false, false, false, false, false, false, false, false] rfl rfl (any_of HT_.out (by kernel_rfl)) (fun _ _ _ h => h) (Or.inl ⟨by rfl, ?_⟩) ?_ ?_
                    rotate_left
                    · intro w'
                      go_simp
                      with_reducible rfl
                    rotate_left
                    · simp only [Act.put, List.setIfInBounds_toArray, List.set_cons_zero, List.set_cons_succ, i64_w, i32_w]
                      rfl
                    refine pure_ (i := 2) (N := some 71) (v := ?_) (a' := ?_) #[true, false, true, false, false, false, false, false, false, false] rfl rfl (any_of HT_.out (by kernel_rfl)) (fun _ _ _ h => h) (Or.inl ⟨by rfl, ?_⟩) ?_ ?_
                    rotate_left
                    · intro w'
                      go_simp
                      with_reducible rfl
                    rotate_left
                    · simp only [Act.put, List.setIfInBounds_toArray, List.set_cons_zero, List.set_cons_succ, i64_w, i32_w]
                      rfl
                    refine pure_ (i := 4) (N := some 73) (v := ?_) (a' := ?_) #[true, false, true, false, true, false, false, false, false, false] rfl rfl (any_of HT_.out (by kernel_rfl)) (fun _ _ _ h => h) (Or.inl ⟨by rfl, ?_⟩) ?_ ?_
                    rotate_left
                    · intro w'
                      go_simp
                      with_reducible rfl
                    rotate_left
                    · simp only [Act.put, List.setIfInBounds_toArray, List.set_cons_zero, List.set_cons_succ, i64_w, i32_w]
                      rfl
                    refine pure_ (i := 5) (N := some 74) (v := ?_) (a' := ?_) #[true, false, true, false, true, true, false, false, false, false] rfl rfl (any_of HT_.out (by kernel_rfl)) (fun _ _ _ h => h) (Or.inl ⟨by rfl, ?_⟩) ?_ ?_
                    rotate_left
                    · intro w'
                      go_simp
                      with_reducible rfl
                    rotate_left
                    · simp only [Act.put, List.setIfInBounds_toArray, List.set_cons_zero, List.set_cons_succ, i64_w, i32_w]
                      rfl
                    refine take_ (i := 1) (N := some 70) (v := ?_) (a' := ?_) #[true, true, true, false, true, true, false, false, false, false] rfl rfl (take_ofW HT_.out HW_.out (by kernel_rfl)) (fun _ _ _ h => h) (Or.inl ⟨by rfl, ?_⟩) hHeld ?_ ?_
                    rotate_left
                    · rintro w' ⟨s0, s1, s2, s3, s4, s5⟩
                      go_simp
                      with_reducible rfl
                    rotate_left
                    · simp only [Act.put, List.setIfInBounds_toArray, List.set_cons_zero, List.set_cons_succ, i64_w, i32_w]
                      rfl
                    refine take_ (i := 3) (N := some 72) (v := ?_) (a' := ?_) #[true, true, true, true, true, true, false, false, false, false] rfl rfl (take_ofW HT_.out HW_.out (by kernel_rfl)) (fun _ _ _ h => h) (Or.inl ⟨by rfl, ?_⟩) hHeld ?_ ?_
                    rotate_left
                    · rintro w' ⟨s0, s1, s2, s3, s4, s5⟩
                      go_simp
                      with_reducible rfl
                    rotate_left
                    · simp only [Act.put, List.setIfInBounds_toArray, List.set_cons_zero, List.set_cons_succ, i64_w, i32_w]
                      rfl
                    refine pure_ (i := 6) (N := some 75) (v := ?_) (a' := ?_) #[true, true, true, true, true, true, true, false, false, false] rfl rfl (any_of HT_.out (by kernel_rfl)) (fun _ _ _ h => h) (Or.inl ⟨by rfl, ?_⟩) ?_ ?_
                    rotate_left
                    · intro w'
                      go_simp
                      with_reducible rfl
                    rotate_left
                    · simp only [Act.put, List.setIfInBounds_toArray, List.set_cons_zero, List.set_cons_succ, i64_w, i32_w]
                      rfl
                    refine one_ (i := 7) (N := some 76) #[true, true, true, true, true, true, true, true, false, false] rfl rfl (one_of HT_.out (by kernel_rfl)) (by decide) (fun K hK => ?_)
                    refine goes_ Try.func36 (by kernel_rfl) rfl #[.agg #[.int .i64 a0_0, .int .i64 a0_1, .int .i64 a0_2, .slice (some ad237) l0_3.length c0_3], .slice A47 y242.length c47] (by rfl) rfl rfl (by (try simp only [List.map_toArray, List.map_cons, List.map_nil]); first | done | rfl | (simp only [List.length_drop, List.length_take]; rfl)) ?_
                    with_reducible refine (coppicerref_Firsts.calls k4 a0_0 a0_1 a0_2 _ _ l0_3 _ _ y242 t246 _ ?side1 ?side2 ?side3 ?side4 A39.out).mono ?_
                    (case side1 => repeat (first | exact (Kd.C_below HR0_3.out HB.out) | (with_reducible refine Kd.C_alloc ?_ _) | (with_reducible refine Kd.C_drewN ?_ _) | (with_reducible refine Kd.C_drew ?_)))
                    (case side2 => exact HC0_3.out)
                    (case side3 => repeat (first | exact (Kd.C_below HR245.out HB.out) | (with_reducible refine Kd.C_alloc ?_ _) | (with_reducible refine Kd.C_drewN ?_ _) | (with_reducible refine Kd.C_drew ?_)))
                    (case side4 => exact HC245.out)
                    rintro e w48 ⟨rfl, hb⟩
                    refine ⟨_, rfl, ?_⟩
                    (have n0_ := Aside0.mk (Kd.R_below (by (with_reducible repeat (first | apply Kd.R_alloc | apply Kd.R_drewN | apply Kd.R_drew)); exact HO_6.out) hb)); (have n1_ := Aside0.mk (blk_below (g := gb230) (o := .cells #[.int .i64 a0_0, .int .i64 a0_1, .int .i64 a0_2, .slice (some ad237) l0_3.length c0_3] 24 (0, 0)) (by (with_reducible repeat (first | refine blk_drewN ?_ _ | refine blk_drew ?_ | refine blk_alloc ?_ _)); exact BK230.out) hb)); (have n2_ := Aside0.mk (blk_below (g := gb238) (o := .cells #[.int .i64 ((rd_T38 l0_3 x43_3).f0), .slice (some ad240) ((rd_T38 l0_3 x43_3).f1).length c237_1] 38 (0, 0)) (by (with_reducible repeat (first | refine blk_drewN ?_ _ | refine blk_drew ?_ | refine blk_alloc ?_ _)); exact BK238.out) hb)); (have n3_ := Aside0.mk (below_step (by repeat (first | (with_reducible first | exact HB.out | apply below_alloc | apply pw_below_drewN | apply below_drew1 | refine below_set ?_ GE230.out | refine below_set ?_ GE238.out) | exact HB.out)) hb)); (clear HO_6); (clear BK230); (clear BK238); (clear HB); (have HO_6 := n0_); (have BK230 := n1_); (have BK238 := n2_); (have HB := n3_); (clear n0_ n1_ n2_ n3_); ((try clear hb)); ((try clear hb2)); ((try clear hk)); ((try clear hi))
                    refine hK.out _ _ ⟨(blk_cell BK230.out 0).trans rfl, (blk_cell BK230.out 1).trans rfl, (blk_cell BK230.out 2).trans rfl, (blk_cell BK230.out 3).trans rfl, (blk_cell BK238.out 0).trans rfl, (blk_cell BK238.out 1).trans rfl⟩ (fun hHeld => ?_)
                    clear hK K
                    refine norm_ (a' := ?_) ?_ ?_
                    rotate_left
                    · show Act.put _ (some 76) _ = _
                      simp only [Act.put, List.setIfInBounds_toArray, List.set_cons_zero, List.set_cons_succ, i64_w, i32_w]
                      rfl
                    refine pure_ (i := 8) (N := some 77) (v := ?_) (a' := ?_) #[true, true, true, true, true, true, true, true, true, false] rfl rfl (any_of HT_.out (by kernel_rfl)) (fun _ _ _ h => h) (Or.inl ⟨by rfl, ?_⟩) ?_ ?_
                    rotate_left
                    · intro w'
                      go_simp
                      with_reducible rfl
                    rotate_left
                    · simp only [Act.put, List.setIfInBounds_toArray, List.set_cons_zero, List.set_cons_succ, i64_w, i32_w]
                      rfl
                    refine pure_ (i := 9) (N := some 7) (v := ?_) (a' := ?_) #[true, true, true, true, true, true, true, true, true, true] rfl rfl (any_of HT_.out (by kernel_rfl)) (fun _ _ _ h => h) (Or.inl ⟨by rfl, ?_⟩) ?_ ?_
                    rotate_left
                    · intro w'
                      go_simp
                      with_reducible rfl
                    rotate_left
                    · simp only [Act.put, List.setIfInBounds_toArray, List.set_cons_zero, List.set_cons_succ, i64_w, i32_w]
                      rfl
                    refine done_ (done_of HT_.out (by kernel_rfl)) ?_
                    try go_wp2
                    (have n0_ := Aside0.mk (Kd.R_drew HO_6.out)); (have n1_ := Aside0.mk (blk_drew BK230.out)); (have n2_ := Aside0.mk (blk_drew BK238.out)); (have n3_ := Aside0.mk (below_drew1 HB.out)); (clear HO_6); (clear BK230); (clear BK238); (clear HB); (have HO_6 := n0_); (have BK230 := n1_); (have BK238 := n2_); (have HB := n3_); (clear n0_ n1_ n2_ n3_)
                    refine start_ (n := 14) (S := fun w' => w'.cell? ⟨gb230, 0, none⟩ = some (.int .i64 a0_0) ∧ w'.cell? ⟨gb230, 1, none⟩ = some (.int .i64 a0_1) ∧ w'.cell? ⟨gb230, 2, none⟩ = some (.int .i64 a0_2) ∧ w'.cell? ⟨gb230, 3, none⟩ = some (.slice (some ad237) l0_3.length c0_3) ∧ w'.cell? ⟨gb238, 0, none⟩ = some (.int .i64 ((rd_T38 l0_3 x43_3).f0)) ∧ w'.cell? ⟨gb238, 1, none⟩ = some (.slice (some ad240) ((rd_T38 l0_3 x43_3).f1).length c237_1)) (ds := []) #[false, false, false, false, false, false, false, false, false, false, false, false, false, false] (by kernel_rfl) rfl rfl ⟨(blk_cell BK230.out 0).trans rfl, (blk_cell BK230.out 1).trans rfl, (blk_cell BK230.out 2).trans rfl, (blk_cell BK230.out 3).trans rfl, (blk_cell BK238.out 0).trans rfl, (blk_cell BK238.out 1).trans rfl⟩ (fun hHeld => ?_); refine with_tabW coppicerref_FollowOf.tab20 coppicerref_FollowOf.bits20 (fun HT_ HW_ => ?_)
                    generalize w48.drew = w49 at HO_6 BK230 BK238 HB hHeld ⊢
                    refine pure_ (i := 1) (N := some 79) (v := ?_) (a' := ?_) #[false, true, false, false, false, false, false, false, false, false, false, false, false, false] rfl rfl (any_of HT_.out (by kernel_rfl)) (fun _ _ _ h => h) (Or.inl ⟨by rfl, ?_⟩) ?_ ?_
                    rotate_left
                    · intro w'
                      go_simp
                      with_reducible rfl
                    rotate_left
                    · simp only [Act.put, List.setIfInBounds_toArray, List.set_cons_zero, List.set_cons_succ, i64_w, i32_w]
                      rfl
                    refine pure_ (i := 3) (N := some 81) (v := ?_) (a' := ?_) #[false, true, false, true, false, false, false, false, false, false, false, false, false, false] rfl rfl (any_of HT_.out (by kernel_rfl)) (fun _ _ _ h => h) (Or.inl ⟨by rfl, ?_⟩) ?_ ?_
                    rotate_left
                    · intro w'
                      go_simp
                      with_reducible rfl
                    rotate_left
                    · simp only [Act.put, List.setIfInBounds_toArray, List.set_cons_zero, List.set_cons_succ, i64_w, i32_w]
                      rfl
                    refine pure_ (i := 4) (N := some 82) (v := ?_) (a' := ?_) #[false, true, false, true, true, false, false, false, false, false, false, false, false, false] rfl rfl (any_of HT_.out (by kernel_rfl)) (fun _ _ _ h => h) (Or.inl ⟨by rfl, ?_⟩) ?_ ?_
                    rotate_left
                    · intro w'
                      go_simp
                      with_reducible rfl
                    rotate_left
                    · simp only [Act.put, List.setIfInBounds_toArray, List.set_cons_zero, List.set_cons_succ, i64_w, i32_w]
                      rfl
                    refine take_ (i := 0) (N := some 78) (v := ?_) (a' := ?_) #[true, true, false, true, true, false, false, false, false, false, false, false, false, false] rfl rfl (take_ofW HT_.out HW_.out (by kernel_rfl)) (fun _ _ _ h => h) (Or.inl ⟨by rfl, ?_⟩) hHeld ?_ ?_
                    rotate_left
                    · rintro w' ⟨s0, s1, s2, s3, s4, s5⟩
                      go_simp
                      with_reducible rfl
                    rotate_left
                    · simp only [Act.put, List.setIfInBounds_toArray, List.set_cons_zero, List.set_cons_succ, i64_w, i32_w]
                      rfl
                    refine take_ (i := 2) (N := some 80) (v := ?_) (a' := ?_) #[true, true, true, true, true, false, false, false, false, false, false, false, false, false] rfl rfl (take_ofW HT_.out HW_.out (by kernel_rfl)) (fun _ _ _ h => h) (Or.inl ⟨by rfl, ?_⟩) hHeld ?_ ?_
                    rotate_left
                    · rintro w' ⟨s0, s1, s2, s3, s4, s5⟩
                      go_simp
                      with_reducible rfl
                    rotate_left
                    · simp only [Act.put, List.setIfInBounds_toArray, List.set_cons_zero, List.set_cons_succ, i64_w, i32_w]
                      rfl
                    refine pure_ (i := 5) (N := some 83) (v := ?_) (a' := ?_) #[true, true, true, true, true, true, false, false, false, false, false, false, false, false] rfl rfl (any_of HT_.out (by kernel_rfl)) (fun _ _ _ h => h) (Or.inl ⟨by rfl, ?_⟩) ?_ ?_
                    rotate_left
                    · intro w'
                      go_simp
                      with_reducible rfl
                    rotate_left
                    · simp only [Act.put, List.setIfInBounds_toArray, List.set_cons_zero, List.set_cons_succ, i64_w, i32_w]
                      rfl
                    refine one_ (i := 6) (N := some 84) #[true, true, true, true, true, true, true, false, false, false, false, false, false, false] rfl rfl (one_of HT_.out (by kernel_rfl)) (by decide) (fun K hK => ?_)
                    refine goes_ Try.func63 (by kernel_rfl) rfl #[.agg #[.int .i64 a0_0, .int .i64 a0_1, .int .i64 a0_2, .slice (some ad237) l0_3.length c0_3], .slice A47 y242.length c47] (by rfl) rfl rfl (by (try simp only [List.map_toArray, List.map_cons, List.map_nil]); first | done | rfl | (simp only [List.length_drop, List.length_take]; rfl)) ?_
                    with_reducible refine (coppicerref_Gone.calls k4 a0_0 a0_1 a0_2 _ _ l0_3 _ _ y242 true _ ?side1 ?side2 ?side3 ?side4 A40.out).mono ?_
                    (case side1 => repeat (first | exact (Kd.C_below HR0_3.out HB.out) | (with_reducible refine Kd.C_alloc ?_ _) | (with_reducible refine Kd.C_drewN ?_ _) | (with_reducible refine Kd.C_drew ?_)))
                    (case side2 => exact HC0_3.out)
                    (case side3 => repeat (first | exact (Kd.C_below HR245.out HB.out) | (with_reducible refine Kd.C_alloc ?_ _) | (with_reducible refine Kd.C_drewN ?_ _) | (with_reducible refine Kd.C_drew ?_)))
                    (case side4 => exact HC245.out)
                    rintro e w50 ⟨rfl, hb⟩
                    refine ⟨_, rfl, ?_⟩
                    (have n0_ := Aside0.mk (Kd.R_below (by (with_reducible repeat (first | apply Kd.R_alloc | apply Kd.R_drewN | apply Kd.R_drew)); exact HO_6.out) hb)); (have n1_ := Aside0.mk (blk_below (g := gb230) (o := .cells #[.int .i64 a0_0, .int .i64 a0_1, .int .i64 a0_2, .slice (some ad237) l0_3.length c0_3] 24 (0, 0)) (by (with_reducible repeat (first | refine blk_drewN ?_ _ | refine blk_drew ?_ | refine blk_alloc ?_ _)); exact BK230.out) hb)); (have n2_ := Aside0.mk (blk_below (g := gb238) (o := .cells #[.int .i64 ((rd_T38 l0_3 x43_3).f0), .slice (some ad240) ((rd_T38 l0_3 x43_3).f1).length c237_1] 38 (0, 0)) (by (with_reducible repeat (first | refine blk_drewN ?_ _ | refine blk_drew ?_ | refine blk_alloc ?_ _)); exact BK238.out) hb)); (have n3_ := Aside0.mk (below_step (by repeat (first | (with_reducible first | exact HB.out | apply below_alloc | apply pw_below_drewN | apply below_drew1 | refine below_set ?_ GE230.out | refine below_set ?_ GE238.out) | exact HB.out)) hb)); (clear HO_6); (clear BK230); (clear BK238); (clear HB); (have HO_6 := n0_); (have BK230 := n1_); (have BK238 := n2_); (have HB := n3_); (clear n0_ n1_ n2_ n3_); ((try clear hb)); ((try clear hb2)); ((try clear hk)); ((try clear hi))
                    refine hK.out _ _ ⟨(blk_cell BK230.out 0).trans rfl, (blk_cell BK230.out 1).trans rfl, (blk_cell BK230.out 2).trans rfl, (blk_cell BK230.out 3).trans rfl, (blk_cell BK238.out 0).trans rfl, (blk_cell BK238.out 1).trans rfl⟩ (fun hHeld => ?_)
                    clear hK K
                    refine norm_ (a' := ?_) ?_ ?_
                    rotate_left
                    · show Act.put _ (some 84) _ = _
                      simp only [Act.put, List.setIfInBounds_toArray, List.set_cons_zero, List.set_cons_succ, i64_w, i32_w]
                      rfl
                    refine pure_ (i := 7) (N := some 85) (v := ?_) (a' := ?_) #[true, true, true, true, true, true, true, true, false, false, false, false, false, false] rfl rfl (any_of HT_.out (by kernel_rfl)) (fun _ _ _ h => h) (Or.inl ⟨by rfl, ?_⟩) ?_ ?_
                    rotate_left
                    · intro w'
                      go_simp
                      with_reducible rfl
                    rotate_left
                    · simp only [Act.put, List.setIfInBounds_toArray, List.set_cons_zero, List.set_cons_succ, i64_w, i32_w]
                      rfl
                    refine pure_ (i := 8) (N := some 86) (v := ?_) (a' := ?_) #[true, true, true, true, true, true, true, true, true, false, false, false, false, false] rfl rfl (any_of HT_.out (by kernel_rfl)) (fun _ _ _ h => h) (Or.inl ⟨by rfl, ?_⟩) ?_ ?_
                    rotate_left
                    · intro w'
                      go_simp
                      with_reducible rfl
                    rotate_left
                    · simp only [Act.put, List.setIfInBounds_toArray, List.set_cons_zero, List.set_cons_succ, i64_w, i32_w]
                      rfl
                    refine pure_ (i := 9) (N := some 87) (v := ?_) (a' := ?_) #[true, true, true, true, true, true, true, true, true, true, false, false, false, false] rfl rfl (any_of HT_.out (by kernel_rfl)) (fun _ _ _ h => h) (Or.inl ⟨by rfl, ?_⟩) ?_ ?_
                    rotate_left
                    · intro w'
                      go_simp
                      with_reducible rfl
                    rotate_left
                    · simp only [Act.put, List.setIfInBounds_toArray, List.set_cons_zero, List.set_cons_succ, i64_w, i32_w]
                      rfl
                    refine take_ (i := 10) (N := some 88) (v := ?_) (a' := ?_) #[true, true, true, true, true, true, true, true, true, true, true, false, false, false] rfl rfl (take_ofW HT_.out HW_.out (by kernel_rfl)) (fun _ _ _ h => h) (Or.inl ⟨by rfl, ?_⟩) hHeld ?_ ?_
                    rotate_left
                    · rintro w' ⟨s0, s1, s2, s3, s4, s5⟩
                      go_simp
                      with_reducible rfl
                    rotate_left
                    · simp only [Act.put, List.setIfInBounds_toArray, List.set_cons_zero, List.set_cons_succ, i64_w, i32_w]
                      rfl
                    refine one_ (i := 11) (N := some 89) #[true, true, true, true, true, true, true, true, true, true, true, true, false, false] rfl rfl (one_of HT_.out (by kernel_rfl)) (by decide) (fun K hK => ?_)
                    refine goes_ Try.func46 (by kernel_rfl) rfl #[.slice (some ad241) x6_4.length co45, .int .i64 ((rd_T38 l0_3 x43_3).f0)] (by rfl) rfl rfl (by (try simp only [List.map_toArray, List.map_cons, List.map_nil]); first | done | rfl | (simp only [List.length_drop, List.length_take]; rfl)) ?_
                    with_reducible refine (coppicerref_Has.calls k4 _ _ x6_4 ((rd_T38 l0_3 x43_3).f0) true _ ?side1 ?side2 A42.out).mono ?_
                    (case side1 => repeat (first | exact (Kd.R_reads' HO_6.out).2.2 | (with_reducible refine Kd.C_alloc ?_ _) | (with_reducible refine Kd.C_drewN ?_ _) | (with_reducible refine Kd.C_drew ?_)))
                    (case side2 => exact (Kd.R_reads' HO_6.out).2.1)
                    rintro e w' ⟨rfl, ⟨nd, rfl⟩⟩
                    refine ⟨_, rfl, ?_⟩
                    refine hK.out _ _ ⟨(blk_cell BK230.out 0).trans rfl, (blk_cell BK230.out 1).trans rfl, (blk_cell BK230.out 2).trans rfl, (blk_cell BK230.out 3).trans rfl, (blk_cell BK238.out 0).trans rfl, (blk_cell BK238.out 1).trans rfl⟩ (fun hHeld => ?_)
                    clear hK K
                    refine norm_ (a' := ?_) ?_ ?_
                    rotate_left
                    · show Act.put _ (some 89) _ = _
                      simp only [Act.put, List.setIfInBounds_toArray, List.set_cons_zero, List.set_cons_succ, i64_w, i32_w]
                      rfl
                    refine pure_ (i := 12) (N := some 90) (v := ?_) (a' := ?_) #[true, true, true, true, true, true, true, true, true, true, true, true, true, false] rfl rfl (any_of HT_.out (by kernel_rfl)) (fun _ _ _ h => h) (Or.inl ⟨by rfl, ?_⟩) ?_ ?_
                    rotate_left
                    · intro w'
                      go_simp
                      with_reducible rfl
                    rotate_left
                    · simp only [Act.put, List.setIfInBounds_toArray, List.set_cons_zero, List.set_cons_succ, i64_w, i32_w]
                      rfl
                    refine pure_ (i := 13) (N := some 91) (v := ?_) (a' := ?_) #[true, true, true, true, true, true, true, true, true, true, true, true, true, true] rfl rfl (any_of HT_.out (by kernel_rfl)) (fun _ _ _ h => h) (Or.inl ⟨by rfl, ?_⟩) ?_ ?_
                    rotate_left
                    · intro w'
                      go_simp
                      with_reducible rfl
                    rotate_left
                    · simp only [Act.put, List.setIfInBounds_toArray, List.set_cons_zero, List.set_cons_succ, i64_w, i32_w]
                      rfl
                    refine done_ (done_of HT_.out (by kernel_rfl)) ?_
                    try go_wp2
                    (first | go_roundg k4 | (simp only [← hji36]; go_roundg k4))
                    case measure => have := HK1.out; have := HJ12.out; have := HK3.out; have := HK4.out; omega
                    case rel => exact ⟨(x6_4), (Go.bits .or .u32 x7_4 t246), (ji36), (by first | rfl | (simp; done) | (simp [*]; done)), (by first | rfl | (simp; done) | (simp only [← hji36] <;> (first | rfl | simp)) | (simp [*]; done)), H', ⟨by have := HK1.out; have := HJ12.out; have := HK3.out; have := HK4.out; omega⟩, ⟨by (with_reducible repeat (first | apply Kd.R_alloc | apply Kd.R_drewN | apply Kd.R_drew)); exact HO_6.out⟩, ⟨by (with_reducible repeat (first | refine blk_drewN ?_ _ | refine blk_drew ?_ | refine blk_alloc ?_ _)); exact BK230.out⟩, ⟨by (with_reducible repeat (first | refine blk_drewN ?_ _ | refine blk_drew ?_ | refine blk_alloc ?_ _)); exact BK238.out⟩, ⟨by repeat (first | (with_reducible first | exact HB.out | apply below_alloc | apply pw_below_drewN | apply below_drew1 | refine below_set ?_ GE230.out | refine below_set ?_ GE238.out) | exact HB.out)⟩⟩
                  (replace c43 := Bool.eq_false_iff.mpr c43); (subst c43); (have H1 : (if x6_4.length < 17592186044416 then (coppicerref_FollowOf.l2 k4 t231 (x6_4 ++ [((rd_T38 l0_3 x43_3).f0)]) (Go.bits .or .u32 x7_4 t246) x8_1 l0_3 (l0_3.length : Int) x43_3 ((rd_T38 l0_3 x43_3).f1) (((rd_T38 l0_3 x43_3).f1).length : Int) ji36 a0_0 a0_1 a0_2 l0_3 ((rd_T38 l0_3 x43_3).f0) ((rd_T38 l0_3 x43_3).f1)) else (none)) = some r := by rw [if_neg (show ¬ (false = true) by decide)] at H; exact H); (clear H); (have H := H1); (clear H1)
                  by_cases c51 : x6_4.length < 17592186044416
                  rotate_left
                  · rw [if_neg c51] at H
                    exact absurd H (by simp)
                  (rw [if_pos c51] at H); (have LMc51 := Aside0.mk c51); (clear c51); (obtain ⟨y249, hy249⟩ : ∃ y_ : List Int, y_ = (x6_4 ++ [((rd_T38 l0_3 x43_3).f0)]) := ⟨_, rfl⟩); (replace H : (coppicerref_FollowOf.l2 k4 t231 y249 (Go.bits .or .u32 x7_4 t246) x8_1 l0_3 (l0_3.length : Int) x43_3 ((rd_T38 l0_3 x43_3).f1) (((rd_T38 l0_3 x43_3).f1).length : Int) ji36 a0_0 a0_1 a0_2 l0_3 ((rd_T38 l0_3 x43_3).f0) ((rd_T38 l0_3 x43_3).f1)) = some r := by first | (rw [hy249]; with_reducible exact H) | (have H2_ := (Option.bind_some _ _).symm.trans H; rw [hy249]; with_reducible exact H2_) | (have H2_ := (Option.bind_some _ _).symm.trans H; with_reducible exact H2_) | with_reducible exact H | (rw [hy249]; exact H) | exact H); (have Ny249 := Aside0.mk hy249); (clear hy249); (have H' := Aside0.mk H); (clear H); (have p240 : 0 ≤ (x55_4 : Int) := of_decide_eq_true (by assumption)); (have q240 : x55_4 < (((rd_T38 l0_3 x43_3).f1).length : Int) := of_decide_eq_true (by assumption)); (obtain ⟨ad240, e240, hx240_0⟩ := Kd.at_int HR237_1.out x55_4 p240 q240); (cases e240); (replace hx240_0 := (HB.out.cell (World.block_lt_of_cell? w _ hx240_0)).trans hx240_0); (replace p240 := eq_true p240); (replace q240 := eq_true q240)
                  try go_wp2
                  (have n0_ := Aside0.mk (Kd.R_drew HO_6.out)); (have n1_ := Aside0.mk (blk_drew BK230.out)); (have n2_ := Aside0.mk (blk_drew BK238.out)); (have n3_ := Aside0.mk (below_drew1 HB.out)); (clear HO_6); (clear BK230); (clear BK238); (clear HB); (have HO_6 := n0_); (have BK230 := n1_); (have BK238 := n2_); (have HB := n3_); (clear n0_ n1_ n2_ n3_); (obtain ⟨Ao53, co53, eo53⟩ := Kd.R_slice HO_6.out)
                  (first | subst eo53 | (injection eo53 with f1_ f2_ f3_; have f4_ := f1_.symm; have f5_ := f3_.symm; clear f1_ f2_ f3_; subst f4_; subst f5_))
                  (have p241 : 0 ≤ (x8_1 : Int) := of_decide_eq_true (by assumption)); (have q241 : x8_1 < (x6_4.length : Int) := of_decide_eq_true (by assumption)); (obtain ⟨ad241, e241, hx241_0⟩ := Kd.at_int (Kd.R_reads' HO_6.out).2.2 x8_1 p241 q241); (cases e241); (replace p241 := eq_true p241); (replace q241 := eq_true q241)
                  refine start_ (n := 9) (S := fun w' => w'.cell? ⟨gb230, 0, none⟩ = some (.int .i64 a0_0) ∧ w'.cell? ⟨gb230, 1, none⟩ = some (.int .i64 a0_1) ∧ w'.cell? ⟨gb230, 2, none⟩ = some (.int .i64 a0_2) ∧ w'.cell? ⟨gb230, 3, none⟩ = some (.slice (some ad237) l0_3.length c0_3) ∧ w'.cell? (ad241.add (x8_1).toNat) = some (.int .i64 (rd x6_4 x8_1))) (ds := []) #[false, false, false, false, false, false, false, false, false] (by kernel_rfl) rfl rfl ⟨(blk_cell BK230.out 0).trans rfl, (blk_cell BK230.out 1).trans rfl, (blk_cell BK230.out 2).trans rfl, (blk_cell BK230.out 3).trans rfl, hx241_0⟩ (fun hHeld => ?_); refine with_tabW coppicerref_FollowOf.tab18 coppicerref_FollowOf.bits18 (fun HT_ HW_ => ?_)
                  generalize wr.drew = w52 at HO_6 BK230 BK238 HB hx241_0 hHeld ⊢
                  refine pure_ (i := 0) (N := some 60) (v := ?_) (a' := ?_) #[true, false, false, false, false, false, false, false, false] rfl rfl (any_of HT_.out (by kernel_rfl)) (fun _ _ _ h => h) (Or.inl ⟨by rfl, ?_⟩) ?_ ?_
                  rotate_left
                  · intro w'
                    go_simp
                    with_reducible rfl
                  rotate_left
                  · simp only [Act.put, List.setIfInBounds_toArray, List.set_cons_zero, List.set_cons_succ, i64_w, i32_w]
                    rfl
                  refine pure_ (i := 1) (N := some 61) (v := ?_) (a' := ?_) #[true, true, false, false, false, false, false, false, false] rfl rfl (any_of HT_.out (by kernel_rfl)) (fun _ _ _ h => h) (Or.inl ⟨by rfl, ?_⟩) ?_ ?_
                  rotate_left
                  · intro w'
                    go_simp
                    with_reducible rfl
                  rotate_left
                  · simp only [Act.put, List.setIfInBounds_toArray, List.set_cons_zero, List.set_cons_succ, i64_w, i32_w]
                    rfl
                  refine pure_ (i := 3) (N := some 63) (v := ?_) (a' := ?_) #[true, true, false, true, false, false, false, false, false] rfl rfl (any_of HT_.out (by kernel_rfl)) (fun _ _ _ h => h) (Or.inl ⟨by rfl, ?_⟩) ?_ ?_
                  rotate_left
                  · intro w'
                    go_simp
                    with_reducible rfl
                  rotate_left
                  · simp only [Act.put, List.setIfInBounds_toArray, List.set_cons_zero, List.set_cons_succ, i64_w, i32_w]
                    rfl
                  refine pure_ (i := 4) (N := some 64) (v := ?_) (a' := ?_) #[true, true, false, true, true, false, false, false, false] rfl rfl (any_of HT_.out (by kernel_rfl)) (fun _ _ _ h => h) (Or.inl ⟨by rfl, ?_⟩) ?_ ?_
                  rotate_left
                  · intro w'
                    go_simp
                    with_reducible rfl
                  rotate_left
                  · simp only [Act.put, List.setIfInBounds_toArray, List.set_cons_zero, List.set_cons_succ, i64_w, i32_w]
                    rfl
                  refine pure_ (i := 5) (N := some 65) (v := ?_) (a' := ?_) #[true, true, false, true, true, true, false, false, false] rfl rfl (any_of HT_.out (by kernel_rfl)) (fun _ _ _ h => h) (Or.inl ⟨by rfl, ?_⟩) ?_ ?_
                  rotate_left
                  · intro w'
                    go_simp
                    with_reducible rfl
                  rotate_left
                  · simp only [Act.put, List.setIfInBounds_toArray, List.set_cons_zero, List.set_cons_succ, i64_w, i32_w]
                    rfl
                  refine take_ (i := 2) (N := some 62) (v := ?_) (a' := ?_) #[true, true, true, true, true, true, false, false, false] rfl rfl (take_ofW HT_.out HW_.out (by kernel_rfl)) (fun _ _ _ h => h) (Or.inl ⟨by rfl, ?_⟩) hHeld ?_ ?_
                  rotate_left
                  · rintro w' ⟨s0, s1, s2, s3, s4⟩
                    go_simp
                    with_reducible rfl
                  rotate_left
                  · simp only [Act.put, List.setIfInBounds_toArray, List.set_cons_zero, List.set_cons_succ, i64_w, i32_w]
                    rfl
                  refine take_ (i := 6) (N := some 66) (v := ?_) (a' := ?_) #[true, true, true, true, true, true, true, false, false] rfl rfl (take_ofW HT_.out HW_.out (by kernel_rfl)) (fun _ _ _ h => h) (Or.inl ⟨by rfl, ?_⟩) hHeld ?_ ?_
                  rotate_left
                  · rintro w' ⟨s0, s1, s2, s3, s4⟩
                    go_simp
                    with_reducible rfl
                  rotate_left
                  · simp only [Act.put, List.setIfInBounds_toArray, List.set_cons_zero, List.set_cons_succ, i64_w, i32_w]
                    rfl
                  refine pure_ (i := 7) (N := some 67) (v := ?_) (a' := ?_) #[true, true, true, true, true, true, true, true, false] rfl rfl (any_of HT_.out (by kernel_rfl)) (fun _ _ _ h => h) (Or.inl ⟨by rfl, ?_⟩) ?_ ?_
                  rotate_left
                  · intro w'
                    go_simp
                    with_reducible rfl
                  rotate_left
                  · simp only [Act.put, List.setIfInBounds_toArray, List.set_cons_zero, List.set_cons_succ, i64_w, i32_w]
                    rfl
                  refine pure_ (i := 8) (N := some 68) (v := ?_) (a' := ?_) #[true, true, true, true, true, true, true, true, true] rfl rfl (any_of HT_.out (by kernel_rfl)) (fun _ _ _ h => h) (Or.inl ⟨by rfl, ?_⟩) ?_ ?_
                  rotate_left
                  · intro w'
                    go_simp
                    with_reducible rfl
                  rotate_left
                  · simp only [Act.put, List.setIfInBounds_toArray, List.set_cons_zero, List.set_cons_succ, i64_w, i32_w]
                    rfl
                  refine done_ (done_of HT_.out (by kernel_rfl)) ?_
                  try go_wp2
                  (have n0_ := Aside0.mk (Kd.R_drew HO_6.out)); (have n1_ := Aside0.mk (blk_drew BK230.out)); (have n2_ := Aside0.mk (blk_drew BK238.out)); (have n3_ := Aside0.mk (below_drew1 HB.out)); (clear HO_6); (clear BK230); (clear BK238); (clear HB); (have HO_6 := n0_); (have BK230 := n1_); (have BK238 := n2_); (have HB := n3_); (clear n0_ n1_ n2_ n3_); (have q55 : ((ji36) : Int) ≤ ((((rd_T38 l0_3 x43_3).f1).length : Int) : Int) := of_decide_eq_true (by assumption)); (obtain ⟨i055, hi055, _, hsz55, _⟩ := info_parts info3); (have hroom55 : ((rd_T38 l0_3 x43_3).f1).length ≤ c237_1 := HC237_1.out); (have hC55 : Kd.C (Kd.int .i64) _ (some ad240) ((rd_T38 l0_3 x43_3).f1).length ((rd_T38 l0_3 x43_3).f1) := HR237_1.out); (have q055 : (0 : Int) ≤ ((ji36) : Int) := of_decide_eq_true (by assumption)); (have hcut55 := cut_from (P := Try.prog) 33 3 .i64 Try.underlying33 hi055 1 hsz55 (some ad240) ((rd_T38 l0_3 x43_3).f1).length c237_1 (ji36) q055 q55); (have hr55 := Kd.C_drop (m := ((ji36) : Int).toNat) (c := c237_1) hC55 (by omega) hroom55); (obtain ⟨A55, hA55⟩ : ∃ Aq_, Aq_ = (if c237_1 = ((ji36) : Int).toNat then (some ad240) else ((some ad240) : Option Addr).map (·.add (((ji36) : Int).toNat * 1))) := ⟨_, rfl⟩); (obtain ⟨c55, hc55⟩ : ∃ cq_, cq_ = c237_1 - ((ji36) : Int).toNat := ⟨_, rfl⟩); (have hy55 : y242.length = ((rd_T38 l0_3 x43_3).f1).length - ((ji36) : Int).toNat := (by rw [Ny242.out, List.length_drop] <;> omega)); (rw [show (((rd_T38 l0_3 x43_3).f1)).drop ((ji36) : Int).toNat = y242 from Ny242.out.symm] at hr55); (replace hr55 : Kd.C (Kd.int .i64) _ A55 y242.length y242 := (by rw [hA55]; exact hr55))
                  (rw [← hy55, ← hA55, ← hc55] at hcut55); (have HR245 := Aside0.mk hr55); (have HC245 := Aside0.mk (show y242.length ≤ c55 from by rw [hy55, hc55]; exact Nat.sub_le_sub_right hroom55 _)); (clear hr55 hC55 hroom55 hi055 hsz55 hc55); (have KY55 := Aside0.mk hy55); (have KA55 := Aside0.mk hA55); (clear hy55 hA55); (replace q55 := eq_true q55)
                  refine start_ (n := 10) (S := fun w' => w'.cell? ⟨gb230, 0, none⟩ = some (.int .i64 a0_0) ∧ w'.cell? ⟨gb230, 1, none⟩ = some (.int .i64 a0_1) ∧ w'.cell? ⟨gb230, 2, none⟩ = some (.int .i64 a0_2) ∧ w'.cell? ⟨gb230, 3, none⟩ = some (.slice (some ad237) l0_3.length c0_3) ∧ w'.cell? ⟨gb238, 0, none⟩ = some (.int .i64 ((rd_T38 l0_3 x43_3).f0)) ∧ w'.cell? ⟨gb238, 1, none⟩ = some (.slice (some ad240) ((rd_T38 l0_3 x43_3).f1).length c237_1)) (ds := []) #[false, false, false, false, false, false, false, false, false, false] (by kernel_rfl) rfl rfl ⟨(blk_cell BK230.out 0).trans rfl, (blk_cell BK230.out 1).trans rfl, (blk_cell BK230.out 2).trans rfl, (blk_cell BK230.out 3).trans rfl, (blk_cell BK238.out 0).trans rfl, (blk_cell BK238.out 1).trans rfl⟩ (fun hHeld => ?_); refine with_tabW coppicerref_FollowOf.tab19 coppicerref_FollowOf.bits19 (fun HT_ HW_ => ?_)
                  generalize w52.drew = w54 at HO_6 BK230 BK238 HB HR245 hHeld ⊢
                  refine pure_ (i := 0) (N := some 69) (v := ?_) (a' := ?_) #[true, false, false, false, false, false, false, false, false, false] rfl rfl (any_of HT_.out (by kernel_rfl)) (fun _ _ _ h => h) (Or.inl ⟨by rfl, ?_⟩) ?_ ?_
                  rotate_left
                  · intro w'
                    go_simp
                    with_reducible rfl
                  rotate_left
                  · simp only [Act.put, List.setIfInBounds_toArray, List.set_cons_zero, List.set_cons_succ, i64_w, i32_w]
                    rfl
                  refine pure_ (i := 2) (N := some 71) (v := ?_) (a' := ?_) #[true, false, true, false, false, false, false, false, false, false] rfl rfl (any_of HT_.out (by kernel_rfl)) (fun _ _ _ h => h) (Or.inl ⟨by rfl, ?_⟩) ?_ ?_
                  rotate_left
                  · intro w'
                    go_simp
                    with_reducible rfl
                  rotate_left
                  · simp only [Act.put, List.setIfInBounds_toArray, List.set_cons_zero, List.set_cons_succ, i64_w, i32_w]
                    rfl
                  refine pure_ (i := 4) (N := some 73) (v := ?_) (a' := ?_) #[true, false, true, false, true, false, false, false, false, false] rfl rfl (any_of HT_.out (by kernel_rfl)) (fun _ _ _ h => h) (Or.inl ⟨by rfl, ?_⟩) ?_ ?_
                  rotate_left
                  · intro w'
                    go_simp
                    with_reducible rfl
                  rotate_left
                  · simp only [Act.put, List.setIfInBounds_toArray, List.set_cons_zero, List.set_cons_succ, i64_w, i32_w]
                    rfl
                  refine pure_ (i := 5) (N := some 74) (v := ?_) (a' := ?_) #[true, false, true, false, true, true, false, false, false, false] rfl rfl (any_of HT_.out (by kernel_rfl)) (fun _ _ _ h => h) (Or.inl ⟨by rfl, ?_⟩) ?_ ?_
                  rotate_left
                  · intro w'
                    go_simp
                    with_reducible rfl
                  rotate_left
                  · simp only [Act.put, List.setIfInBounds_toArray, List.set_cons_zero, List.set_cons_succ, i64_w, i32_w]
                    rfl
                  refine take_ (i := 1) (N := some 70) (v := ?_) (a' := ?_) #[true, true, true, false, true, true, false, false, false, false] rfl rfl (take_ofW HT_.out HW_.out (by kernel_rfl)) (fun _ _ _ h => h) (Or.inl ⟨by rfl, ?_⟩) hHeld ?_ ?_
                  rotate_left
                  · rintro w' ⟨s0, s1, s2, s3, s4, s5⟩
                    go_simp
                    with_reducible rfl
                  rotate_left
                  · simp only [Act.put, List.setIfInBounds_toArray, List.set_cons_zero, List.set_cons_succ, i64_w, i32_w]
                    rfl
                  refine take_ (i := 3) (N := some 72) (v := ?_) (a' := ?_) #[true, true, true, true, true, true, false, false, false, false] rfl rfl (take_ofW HT_.out HW_.out (by kernel_rfl)) (fun _ _ _ h => h) (Or.inl ⟨by rfl, ?_⟩) hHeld ?_ ?_
                  rotate_left
                  · rintro w' ⟨s0, s1, s2, s3, s4, s5⟩
                    go_simp
                    with_reducible rfl
                  rotate_left
                  · simp only [Act.put, List.setIfInBounds_toArray, List.set_cons_zero, List.set_cons_succ, i64_w, i32_w]
                    rfl
                  refine pure_ (i := 6) (N := some 75) (v := ?_) (a' := ?_) #[true, true, true, true, true, true, true, false, false, false] rfl rfl (any_of HT_.out (by kernel_rfl)) (fun _ _ _ h => h) (Or.inl ⟨by rfl, ?_⟩) ?_ ?_
                  rotate_left
                  · intro w'
                    go_simp
                    with_reducible rfl
                  rotate_left
                  · simp only [Act.put, List.setIfInBounds_toArray, List.set_cons_zero, List.set_cons_succ, i64_w, i32_w]
                    rfl
                  refine one_ (i := 7) (N := some 76) #[true, true, true, true, true, true, true, true, false, false] rfl rfl (one_of HT_.out (by kernel_rfl)) (by decide) (fun K hK => ?_)
                  refine goes_ Try.func36 (by kernel_rfl) rfl #[.agg #[.int .i64 a0_0, .int .i64 a0_1, .int .i64 a0_2, .slice (some ad237) l0_3.length c0_3], .slice A55 y242.length c55] (by rfl) rfl rfl (by (try simp only [List.map_toArray, List.map_cons, List.map_nil]); first | done | rfl | (simp only [List.length_drop, List.length_take]; rfl)) ?_
                  with_reducible refine (coppicerref_Firsts.calls k4 a0_0 a0_1 a0_2 _ _ l0_3 _ _ y242 t246 _ ?side1 ?side2 ?side3 ?side4 A39.out).mono ?_
                  (case side1 => repeat (first | exact (Kd.C_below HR0_3.out HB.out) | (with_reducible refine Kd.C_alloc ?_ _) | (with_reducible refine Kd.C_drewN ?_ _) | (with_reducible refine Kd.C_drew ?_)))
                  (case side2 => exact HC0_3.out)
                  (case side3 => repeat (first | exact (Kd.C_below HR245.out HB.out) | (with_reducible refine Kd.C_alloc ?_ _) | (with_reducible refine Kd.C_drewN ?_ _) | (with_reducible refine Kd.C_drew ?_)))
                  (case side4 => exact HC245.out)
                  rintro e w56 ⟨rfl, hb⟩
                  refine ⟨_, rfl, ?_⟩
                  (have n0_ := Aside0.mk (Kd.R_below (by (with_reducible repeat (first | apply Kd.R_alloc | apply Kd.R_drewN | apply Kd.R_drew)); exact HO_6.out) hb)); (have n1_ := Aside0.mk (blk_below (g := gb230) (o := .cells #[.int .i64 a0_0, .int .i64 a0_1, .int .i64 a0_2, .slice (some ad237) l0_3.length c0_3] 24 (0, 0)) (by (with_reducible repeat (first | refine blk_drewN ?_ _ | refine blk_drew ?_ | refine blk_alloc ?_ _)); exact BK230.out) hb)); (have n2_ := Aside0.mk (blk_below (g := gb238) (o := .cells #[.int .i64 ((rd_T38 l0_3 x43_3).f0), .slice (some ad240) ((rd_T38 l0_3 x43_3).f1).length c237_1] 38 (0, 0)) (by (with_reducible repeat (first | refine blk_drewN ?_ _ | refine blk_drew ?_ | refine blk_alloc ?_ _)); exact BK238.out) hb)); (have n3_ := Aside0.mk (below_step (by repeat (first | (with_reducible first | exact HB.out | apply below_alloc | apply pw_below_drewN | apply below_drew1 | refine below_set ?_ GE230.out | refine below_set ?_ GE238.out) | exact HB.out)) hb)); (clear HO_6); (clear BK230); (clear BK238); (clear HB); (have HO_6 := n0_); (have BK230 := n1_); (have BK238 := n2_); (have HB := n3_); (clear n0_ n1_ n2_ n3_); ((try clear hb)); ((try clear hb2)); ((try clear hk)); ((try clear hi))
                  refine hK.out _ _ ⟨(blk_cell BK230.out 0).trans rfl, (blk_cell BK230.out 1).trans rfl, (blk_cell BK230.out 2).trans rfl, (blk_cell BK230.out 3).trans rfl, (blk_cell BK238.out 0).trans rfl, (blk_cell BK238.out 1).trans rfl⟩ (fun hHeld => ?_)
                  clear hK K
                  refine norm_ (a' := ?_) ?_ ?_
                  rotate_left
                  · show Act.put _ (some 76) _ = _
                    simp only [Act.put, List.setIfInBounds_toArray, List.set_cons_zero, List.set_cons_succ, i64_w, i32_w]
                    rfl
                  refine pure_ (i := 8) (N := some 77) (v := ?_) (a' := ?_) #[true, true, true, true, true, true, true, true, true, false] rfl rfl (any_of HT_.out (by kernel_rfl)) (fun _ _ _ h => h) (Or.inl ⟨by rfl, ?_⟩) ?_ ?_
                  rotate_left
                  · intro w'
                    go_simp
                    with_reducible rfl
                  rotate_left
                  · simp only [Act.put, List.setIfInBounds_toArray, List.set_cons_zero, List.set_cons_succ, i64_w, i32_w]
                    rfl
                  refine pure_ (i := 9) (N := some 7) (v := ?_) (a' := ?_) #[true, true, true, true, true, true, true, true, true, true] rfl rfl (any_of HT_.out (by kernel_rfl)) (fun _ _ _ h => h) (Or.inl ⟨by rfl, ?_⟩) ?_ ?_
                  rotate_left
                  · intro w'
                    go_simp
                    with_reducible rfl
                  rotate_left
                  · simp only [Act.put, List.setIfInBounds_toArray, List.set_cons_zero, List.set_cons_succ, i64_w, i32_w]
                    rfl
                  refine done_ (done_of HT_.out (by kernel_rfl)) ?_
                  try go_wp2
                  (have n0_ := Aside0.mk (Kd.R_drew HO_6.out)); (have n1_ := Aside0.mk (blk_drew BK230.out)); (have n2_ := Aside0.mk (blk_drew BK238.out)); (have n3_ := Aside0.mk (below_drew1 HB.out)); (clear HO_6); (clear BK230); (clear BK238); (clear HB); (have HO_6 := n0_); (have BK230 := n1_); (have BK238 := n2_); (have HB := n3_); (clear n0_ n1_ n2_ n3_)
                  refine start_ (n := 14) (S := fun w' => w'.cell? ⟨gb230, 0, none⟩ = some (.int .i64 a0_0) ∧ w'.cell? ⟨gb230, 1, none⟩ = some (.int .i64 a0_1) ∧ w'.cell? ⟨gb230, 2, none⟩ = some (.int .i64 a0_2) ∧ w'.cell? ⟨gb230, 3, none⟩ = some (.slice (some ad237) l0_3.length c0_3) ∧ w'.cell? ⟨gb238, 0, none⟩ = some (.int .i64 ((rd_T38 l0_3 x43_3).f0)) ∧ w'.cell? ⟨gb238, 1, none⟩ = some (.slice (some ad240) ((rd_T38 l0_3 x43_3).f1).length c237_1)) (ds := []) #[false, false, false, false, false, false, false, false, false, false, false, false, false, false] (by kernel_rfl) rfl rfl ⟨(blk_cell BK230.out 0).trans rfl, (blk_cell BK230.out 1).trans rfl, (blk_cell BK230.out 2).trans rfl, (blk_cell BK230.out 3).trans rfl, (blk_cell BK238.out 0).trans rfl, (blk_cell BK238.out 1).trans rfl⟩ (fun hHeld => ?_); refine with_tabW coppicerref_FollowOf.tab20 coppicerref_FollowOf.bits20 (fun HT_ HW_ => ?_)
                  generalize w56.drew = w57 at HO_6 BK230 BK238 HB hHeld ⊢
                  refine pure_ (i := 1) (N := some 79) (v := ?_) (a' := ?_) #[false, true, false, false, false, false, false, false, false, false, false, false, false, false] rfl rfl (any_of HT_.out (by kernel_rfl)) (fun _ _ _ h => h) (Or.inl ⟨by rfl, ?_⟩) ?_ ?_
                  rotate_left
                  · intro w'
                    go_simp
                    with_reducible rfl
                  rotate_left
                  · simp only [Act.put, List.setIfInBounds_toArray, List.set_cons_zero, List.set_cons_succ, i64_w, i32_w]
                    rfl
                  refine pure_ (i := 3) (N := some 81) (v := ?_) (a' := ?_) #[false, true, false, true, false, false, false, false, false, false, false, false, false, false] rfl rfl (any_of HT_.out (by kernel_rfl)) (fun _ _ _ h => h) (Or.inl ⟨by rfl, ?_⟩) ?_ ?_
                  rotate_left
                  · intro w'
                    go_simp
                    with_reducible rfl
                  rotate_left
                  · simp only [Act.put, List.setIfInBounds_toArray, List.set_cons_zero, List.set_cons_succ, i64_w, i32_w]
                    rfl
                  refine pure_ (i := 4) (N := some 82) (v := ?_) (a' := ?_) #[false, true, false, true, true, false, false, false, false, false, false, false, false, false] rfl rfl (any_of HT_.out (by kernel_rfl)) (fun _ _ _ h => h) (Or.inl ⟨by rfl, ?_⟩) ?_ ?_
                  rotate_left
                  · intro w'
                    go_simp
                    with_reducible rfl
                  rotate_left
                  · simp only [Act.put, List.setIfInBounds_toArray, List.set_cons_zero, List.set_cons_succ, i64_w, i32_w]
                    rfl
                  refine take_ (i := 0) (N := some 78) (v := ?_) (a' := ?_) #[true, true, false, true, true, false, false, false, false, false, false, false, false, false] rfl rfl (take_ofW HT_.out HW_.out (by kernel_rfl)) (fun _ _ _ h => h) (Or.inl ⟨by rfl, ?_⟩) hHeld ?_ ?_
                  rotate_left
                  · rintro w' ⟨s0, s1, s2, s3, s4, s5⟩
                    go_simp
                    with_reducible rfl
                  rotate_left
                  · simp only [Act.put, List.setIfInBounds_toArray, List.set_cons_zero, List.set_cons_succ, i64_w, i32_w]
                    rfl
                  refine take_ (i := 2) (N := some 80) (v := ?_) (a' := ?_) #[true, true, true, true, true, false, false, false, false, false, false, false, false, false] rfl rfl (take_ofW HT_.out HW_.out (by kernel_rfl)) (fun _ _ _ h => h) (Or.inl ⟨by rfl, ?_⟩) hHeld ?_ ?_
                  rotate_left
                  · rintro w' ⟨s0, s1, s2, s3, s4, s5⟩
                    go_simp
                    with_reducible rfl
                  rotate_left
                  · simp only [Act.put, List.setIfInBounds_toArray, List.set_cons_zero, List.set_cons_succ, i64_w, i32_w]
                    rfl
                  refine pure_ (i := 5) (N := some 83) (v := ?_) (a' := ?_) #[true, true, true, true, true, true, false, false, false, false, false, false, false, false] rfl rfl (any_of HT_.out (by kernel_rfl)) (fun _ _ _ h => h) (Or.inl ⟨by rfl, ?_⟩) ?_ ?_
                  rotate_left
                  · intro w'
                    go_simp
                    with_reducible rfl
                  rotate_left
                  · simp only [Act.put, List.setIfInBounds_toArray, List.set_cons_zero, List.set_cons_succ, i64_w, i32_w]
                    rfl
                  refine one_ (i := 6) (N := some 84) #[true, true, true, true, true, true, true, false, false, false, false, false, false, false] rfl rfl (one_of HT_.out (by kernel_rfl)) (by decide) (fun K hK => ?_)
                  refine goes_ Try.func63 (by kernel_rfl) rfl #[.agg #[.int .i64 a0_0, .int .i64 a0_1, .int .i64 a0_2, .slice (some ad237) l0_3.length c0_3], .slice A55 y242.length c55] (by rfl) rfl rfl (by (try simp only [List.map_toArray, List.map_cons, List.map_nil]); first | done | rfl | (simp only [List.length_drop, List.length_take]; rfl)) ?_
                  with_reducible refine (coppicerref_Gone.calls k4 a0_0 a0_1 a0_2 _ _ l0_3 _ _ y242 true _ ?side1 ?side2 ?side3 ?side4 A40.out).mono ?_
                  (case side1 => repeat (first | exact (Kd.C_below HR0_3.out HB.out) | (with_reducible refine Kd.C_alloc ?_ _) | (with_reducible refine Kd.C_drewN ?_ _) | (with_reducible refine Kd.C_drew ?_)))
                  (case side2 => exact HC0_3.out)
                  (case side3 => repeat (first | exact (Kd.C_below HR245.out HB.out) | (with_reducible refine Kd.C_alloc ?_ _) | (with_reducible refine Kd.C_drewN ?_ _) | (with_reducible refine Kd.C_drew ?_)))
                  (case side4 => exact HC245.out)
                  rintro e w58 ⟨rfl, hb⟩
                  refine ⟨_, rfl, ?_⟩
                  (have n0_ := Aside0.mk (Kd.R_below (by (with_reducible repeat (first | apply Kd.R_alloc | apply Kd.R_drewN | apply Kd.R_drew)); exact HO_6.out) hb)); (have n1_ := Aside0.mk (blk_below (g := gb230) (o := .cells #[.int .i64 a0_0, .int .i64 a0_1, .int .i64 a0_2, .slice (some ad237) l0_3.length c0_3] 24 (0, 0)) (by (with_reducible repeat (first | refine blk_drewN ?_ _ | refine blk_drew ?_ | refine blk_alloc ?_ _)); exact BK230.out) hb)); (have n2_ := Aside0.mk (blk_below (g := gb238) (o := .cells #[.int .i64 ((rd_T38 l0_3 x43_3).f0), .slice (some ad240) ((rd_T38 l0_3 x43_3).f1).length c237_1] 38 (0, 0)) (by (with_reducible repeat (first | refine blk_drewN ?_ _ | refine blk_drew ?_ | refine blk_alloc ?_ _)); exact BK238.out) hb)); (have n3_ := Aside0.mk (below_step (by repeat (first | (with_reducible first | exact HB.out | apply below_alloc | apply pw_below_drewN | apply below_drew1 | refine below_set ?_ GE230.out | refine below_set ?_ GE238.out) | exact HB.out)) hb)); (clear HO_6); (clear BK230); (clear BK238); (clear HB); (have HO_6 := n0_); (have BK230 := n1_); (have BK238 := n2_); (have HB := n3_); (clear n0_ n1_ n2_ n3_); ((try clear hb)); ((try clear hb2)); ((try clear hk)); ((try clear hi))
                  refine hK.out _ _ ⟨(blk_cell BK230.out 0).trans rfl, (blk_cell BK230.out 1).trans rfl, (blk_cell BK230.out 2).trans rfl, (blk_cell BK230.out 3).trans rfl, (blk_cell BK238.out 0).trans rfl, (blk_cell BK238.out 1).trans rfl⟩ (fun hHeld => ?_)
                  clear hK K
                  refine norm_ (a' := ?_) ?_ ?_
                  rotate_left
                  · show Act.put _ (some 84) _ = _
                    simp only [Act.put, List.setIfInBounds_toArray, List.set_cons_zero, List.set_cons_succ, i64_w, i32_w]
                    rfl
                  refine pure_ (i := 7) (N := some 85) (v := ?_) (a' := ?_) #[true, true, true, true, true, true, true, true, false, false, false, false, false, false] rfl rfl (any_of HT_.out (by kernel_rfl)) (fun _ _ _ h => h) (Or.inl ⟨by rfl, ?_⟩) ?_ ?_
                  rotate_left
                  · intro w'
                    go_simp
                    with_reducible rfl
                  rotate_left
                  · simp only [Act.put, List.setIfInBounds_toArray, List.set_cons_zero, List.set_cons_succ, i64_w, i32_w]
                    rfl
                  refine pure_ (i := 8) (N := some 86) (v := ?_) (a' := ?_) #[true, true, true, true, true, true, true, true, true, false, false, false, false, false] rfl rfl (any_of HT_.out (by kernel_rfl)) (fun _ _ _ h => h) (Or.inl ⟨by rfl, ?_⟩) ?_ ?_
                  rotate_left
                  · intro w'
                    go_simp
                    with_reducible rfl
                  rotate_left
                  · simp only [Act.put, List.setIfInBounds_toArray, List.set_cons_zero, List.set_cons_succ, i64_w, i32_w]
                    rfl
                  refine pure_ (i := 9) (N := some 87) (v := ?_) (a' := ?_) #[true, true, true, true, true, true, true, true, true, true, false, false, false, false] rfl rfl (any_of HT_.out (by kernel_rfl)) (fun _ _ _ h => h) (Or.inl ⟨by rfl, ?_⟩) ?_ ?_
                  rotate_left
                  · intro w'
                    go_simp
                    with_reducible rfl
                  rotate_left
                  · simp only [Act.put, List.setIfInBounds_toArray, List.set_cons_zero, List.set_cons_succ, i64_w, i32_w]
                    rfl
                  refine take_ (i := 10) (N := some 88) (v := ?_) (a' := ?_) #[true, true, true, true, true, true, true, true, true, true, true, false, false, false] rfl rfl (take_ofW HT_.out HW_.out (by kernel_rfl)) (fun _ _ _ h => h) (Or.inl ⟨by rfl, ?_⟩) hHeld ?_ ?_
                  rotate_left
                  · rintro w' ⟨s0, s1, s2, s3, s4, s5⟩
                    go_simp
                    with_reducible rfl
                  rotate_left
                  · simp only [Act.put, List.setIfInBounds_toArray, List.set_cons_zero, List.set_cons_succ, i64_w, i32_w]
                    rfl
                  refine one_ (i := 11) (N := some 89) #[true, true, true, true, true, true, true, true, true, true, true, true, false, false] rfl rfl (one_of HT_.out (by kernel_rfl)) (by decide) (fun K hK => ?_)
                  refine goes_ Try.func46 (by kernel_rfl) rfl #[.slice (some ad241) x6_4.length co53, .int .i64 ((rd_T38 l0_3 x43_3).f0)] (by rfl) rfl rfl (by (try simp only [List.map_toArray, List.map_cons, List.map_nil]); first | done | rfl | (simp only [List.length_drop, List.length_take]; rfl)) ?_
                  with_reducible refine (coppicerref_Has.calls k4 _ _ x6_4 ((rd_T38 l0_3 x43_3).f0) false _ ?side1 ?side2 A42.out).mono ?_
                  (case side1 => repeat (first | exact (Kd.R_reads' HO_6.out).2.2 | (with_reducible refine Kd.C_alloc ?_ _) | (with_reducible refine Kd.C_drewN ?_ _) | (with_reducible refine Kd.C_drew ?_)))
                  (case side2 => exact (Kd.R_reads' HO_6.out).2.1)
                  rintro e w' ⟨rfl, ⟨nd, rfl⟩⟩
                  refine ⟨_, rfl, ?_⟩
                  refine hK.out _ _ ⟨(blk_cell BK230.out 0).trans rfl, (blk_cell BK230.out 1).trans rfl, (blk_cell BK230.out 2).trans rfl, (blk_cell BK230.out 3).trans rfl, (blk_cell BK238.out 0).trans rfl, (blk_cell BK238.out 1).trans rfl⟩ (fun hHeld => ?_)
                  clear hK K
                  refine norm_ (a' := ?_) ?_ ?_
                  rotate_left
                  · show Act.put _ (some 89) _ = _
                    simp only [Act.put, List.setIfInBounds_toArray, List.set_cons_zero, List.set_cons_succ, i64_w, i32_w]
                    rfl
                  refine pure_ (i := 12) (N := some 90) (v := ?_) (a' := ?_) #[true, true, true, true, true, true, true, true, true, true, true, true, true, false] rfl rfl (any_of HT_.out (by kernel_rfl)) (fun _ _ _ h => h) (Or.inl ⟨by rfl, ?_⟩) ?_ ?_
                  rotate_left
                  · intro w'
                    go_simp
                    with_reducible rfl
                  rotate_left
                  · simp only [Act.put, List.setIfInBounds_toArray, List.set_cons_zero, List.set_cons_succ, i64_w, i32_w]
                    rfl
                  refine pure_ (i := 13) (N := some 91) (v := ?_) (a' := ?_) #[true, true, true, true, true, true, true, true, true, true, true, true, true, true] rfl rfl (any_of HT_.out (by kernel_rfl)) (fun _ _ _ h => h) (Or.inl ⟨by rfl, ?_⟩) ?_ ?_
                  rotate_left
                  · intro w'
                    go_simp
                    with_reducible rfl
                  rotate_left
                  · simp only [Act.put, List.setIfInBounds_toArray, List.set_cons_zero, List.set_cons_succ, i64_w, i32_w]
                    rfl
                  refine done_ (done_of HT_.out (by kernel_rfl)) ?_
                  (have hnb59 := NB238_230.out); (have hnc59 := NB230_238.out); (have hcz60_0 : w58.cell? ⟨gb238, 0, none⟩ = some (.int .i64 ((rd_T38 l0_3 x43_3).f0)) := (blk_cell BK238.out 0).trans rfl); (have hcz60_1 : w58.cell? ⟨gb238, 1, none⟩ = some (.slice (some ad240) ((rd_T38 l0_3 x43_3).f1).length c237_1) := (blk_cell BK238.out 1).trans rfl); (have hfz60_0 := blk_frozen BK238.out 0); (have hfz60_1 := blk_frozen BK238.out 1)
                  try go_wp2_with (first | ((with_reducible refine gate_builtin (b := .append) (xs := #[.tmp 92, .tmp 95]) rfl ?_); at_builtin; refine Kd.R_append (Kd.int .i64) (w0 := w) w.heap.size rfl (.tmp 92) (.tmp 95) 33 3 (.int .i64 0) 8 rfl Try.underlying33 info3 rfl (by decide) (by omega) (.slice (some ad241) x6_4.length co53) x6_4 ((rd_T38 l0_3 x43_3).f0) [.int .i64 ((rd_T38 l0_3 x43_3).f0)] (fun _ => True) (fun _ => False) rfl rfl ?aP (fun _ hk => hk.elim) ?aF ?aO ?aB ?aS ?aL ?_; (case aP => exact rfl); (case aB => exact (by repeat (first | (with_reducible first | exact HB.out | apply below_alloc | apply pw_below_drewN | apply below_drew1 | refine below_set ?_ GE230.out | refine below_set ?_ GE238.out) | exact HB.out))); (case aF => exact (fun _ _ => trivial)); (case aO => exact (by (with_reducible repeat (first | apply Kd.R_alloc | apply Kd.R_drewN | apply Kd.R_drew)); exact HO_6.out)); (case aS => exact (below_size (by repeat (first | (with_reducible first | exact HB.out | apply below_alloc | apply pw_below_drewN | apply below_drew1 | refine below_set ?_ GE230.out | refine below_set ?_ GE238.out) | exact HB.out)))); (case aL => have := LMc51.out; omega); intro v250 w61 ho hb hg hat; rw [← Ny249.out] at ho; have n0_ := Aside0.mk (blk_grown (g := gb230) (o := .cells #[.int .i64 a0_0, .int .i64 a0_1, .int .i64 a0_2, .slice (some ad237) l0_3.length c0_3] 24 (0, 0)) (by (with_reducible repeat (first | refine blk_drewN ?_ _ | refine blk_drew ?_ | refine blk_alloc ?_ _)); exact BK230.out) hg (Kd.R_ne HO_6.out BK230.out (by decide))); have n1_ := Aside0.mk (blk_grown (g := gb238) (o := .cells #[.int .i64 ((rd_T38 l0_3 x43_3).f0), .slice (some ad240) ((rd_T38 l0_3 x43_3).f1).length c237_1] 38 (0, 0)) (by (with_reducible repeat (first | refine blk_drewN ?_ _ | refine blk_drew ?_ | refine blk_alloc ?_ _)); exact BK238.out) hg (Kd.R_ne HO_6.out BK238.out (by decide))); have n2_ := Aside0.mk (hb); have n3_ := Aside0.mk (ho); clear BK230; clear BK238; clear HB; clear HO_6; have BK230 := n0_; have BK238 := n1_; have HB := n2_; have HO251 := n3_; clear n0_ n1_ n2_ n3_; clear ho hb hg hat))
                  (first | go_roundg k4 | (simp only [← hji36]; go_roundg k4))
                  case measure => have := HK1.out; have := HJ12.out; have := HK3.out; have := HK4.out; omega
                  case rel => exact ⟨(y249), (Go.bits .or .u32 x7_4 t246), (ji36), (by first | rfl | (simp; done) | (simp [*]; done)), (by first | rfl | (simp; done) | (simp only [← hji36] <;> (first | rfl | simp)) | (simp [*]; done)), H', ⟨by have := HK1.out; have := HJ12.out; have := HK3.out; have := HK4.out; omega⟩, ⟨by (with_reducible repeat (first | apply Kd.R_alloc | apply Kd.R_drewN | apply Kd.R_drew)); exact HO251.out⟩, ⟨by (with_reducible repeat (first | refine blk_drewN ?_ _ | refine blk_drew ?_ | refine blk_alloc ?_ _)); exact BK230.out⟩, ⟨by (with_reducible repeat (first | refine blk_drewN ?_ _ | refine blk_drew ?_ | refine blk_alloc ?_ _)); exact BK238.out⟩, ⟨by repeat (first | (with_reducible first | exact HB.out | apply below_alloc | apply pw_below_drewN | apply below_drew1 | refine below_set ?_ GE230.out | refine below_set ?_ GE238.out) | exact HB.out)⟩⟩
end Go.Proofs.Ytnjfcbhbebokeaa.PAheadFollows
