-- Printed by a turn of a template of the kit, and shortened: remarks and what nothing here uses are left out.
import Derived.Test.YtlmagjgjaajeiaaQPTurnerTakesx0
import Derived.Test.YtlmagjgjaajeiaaQPTurnerTakesx8
namespace Go.Proofs.Ytlmagjgjaajeiaa.PTurnerTakes
open Go.RowKit Go.Proofs.YtlmagjgjaajeiaaW.PrintWords Go.Proofs.YtlmagjgjaajeiaaW.PrintLast Go.Proofs.YtlmagjgjaajeiaaW.PrintMore
attribute [local go_sem] max2_int min2_int max_two min_two max_three min_three max_four min_four
set_option linter.unusedVariables false
set_option linter.unusedSimpArgs false
mutual
def coppicerref_Before.l0 : Nat → Int → Int → Int → Int → List (List Int) → List (List (List Int)) → Int → Int → Int → List (List Int) → Int → Int → Int → Int → List (List Int) → Int → Int → Option (Int × Int × (List (List Int)) × Int × Int)
  | 0, _, _, _, _, _, _, _, _, _, _, _, _, _, _, _, _, _ => none
  | k + 1, x6, x200000, x200001, x200002, x200003, x200004, x200005, x201000, x201001, x201002, x201003, x201004, x203000, x203001, x203002, x203003, x203004 => if x6 < x203000 then (coppicerref_Before.l1 k x6 ([] : List Int) 0 x200000 x200001 x200002 x200003 x200004 x200005 x201000 x201001 x201002 x201003 x201004 x203000 x203001 x203002 x203003 x203004) else (some (x203000, x203001, x203002, x203003, x203004))
def coppicerref_Before.l1 : Nat → Int → List Int → Int → Int → Int → Int → List (List Int) → List (List (List Int)) → Int → Int → Int → List (List Int) → Int → Int → Int → Int → List (List Int) → Int → Int → Option (Int × Int × (List (List Int)) × Int × Int)
  | 0, _, _, _, _, _, _, _, _, _, _, _, _, _, _, _, _, _, _, _ => none
  | k + 1, x6, x7, x8, x200000, x200001, x200002, x200003, x200004, x200005, x201000, x201001, x201002, x201003, x201004, x203000, x203001, x203002, x203003, x203004 => if x8 < x200001 then (if x201000 = 0 then (none) else (if 0 ≤ (wrap64 (Int.tdiv x6 x201000)) then (if (wrap64 (Int.tdiv x6 x201000)) < (x200003.length : Int) then (if 0 ≤ x8 then (if x8 < ((rd_L1 x200003 (wrap64 (Int.tdiv x6 x201000))).length : Int) then (if (wrap64 (Int.tdiv x6 x201000)) < (x200004.length : Int) then (if x8 < ((rd_L2 x200004 (wrap64 (Int.tdiv x6 x201000))).length : Int) then ((coppicerref_Leads.f k x201000 x201001 x201002 x201003 x201004 (Int.tmod x6 x201000) (rd_L1 (rd_L2 x200004 (wrap64 (Int.tdiv x6 x201000))) x8)).bind fun t207 => (if x7.length < 17592186044416 then (coppicerref_Before.l1 k x6 (x7 ++ [wrap64 ((wrap64 ((rd (rd_L1 x200003 (wrap64 (Int.tdiv x6 x201000))) x8) * x201000)) + t207)]) (wrap64 (x8 + 1)) x200000 x200001 x200002 x200003 x200004 x200005 x201000 x201001 x201002 x201003 x201004 x203000 x203001 x203002 x203003 x203004) else (none))) else (none)) else (none)) else (none)) else (none)) else (none)) else (none))) else (if x203002.length < 5864062014805 then ((some (x203002 ++ [x7] : List (List Int))).bind fun y211 => (if x201000 = 0 then (none) else ((coppicerref_Bit.f x201004 (Int.tmod x6 x201000)).bind fun t214 => (if t214 = true then (if 0 ≤ (IntKind.u64.wrap (x6)) then (coppicerref_Before.l0 k (wrap64 (x6 + 1)) x200000 x200001 x200002 x200003 x200004 x200005 x201000 x201001 x201002 x201003 x201004 x203000 x203001 y211 x203003 ((x203004 + (shl .u32 1 (IntKind.u64.wrap (x6)))) % 4294967296)) else (none)) else (coppicerref_Before.l0 k (wrap64 (x6 + 1)) x200000 x200001 x200002 x200003 x200004 x200005 x201000 x201001 x201002 x201003 x201004 x203000 x203001 y211 x203003 x203004))))) else (none))
end
def coppicerref_Before.f (k : Nat) (a0_0 : Int) (a0_1 : Int) (a0_2 : Int) (l0_3 : List (List Int)) (l0_4 : List (List (List Int))) (a0_5 : Int) (a1_0 : Int) (a1_1 : Int) (l1_2 : List (List Int)) (a1_3 : Int) (a1_4 : Int) : Option (Int × Int × (List (List Int)) × Int × Int) := coppicerref_Before.l0 k 0 a0_0 a0_1 a0_2 l0_3 l0_4 a0_5 a1_0 a1_1 l1_2 a1_3 a1_4 (wrap64 (a0_0 * a1_0)) a0_1 ([] : List (List Int)) (wrap64 ((wrap64 (a0_5 * a1_0)) + a1_3)) 0
theorem coppicerref_Before.mono_l : ∀ k, (∀ y0 y1 y2 y3 y4 y5 y6 y7 y8 y9 y10 y11 y12 y13 y14 y15 y16, LeO (coppicerref_Before.l0 k y0 y1 y2 y3 y4 y5 y6 y7 y8 y9 y10 y11 y12 y13 y14 y15 y16) (coppicerref_Before.l0 (k + 1) y0 y1 y2 y3 y4 y5 y6 y7 y8 y9 y10 y11 y12 y13 y14 y15 y16)) ∧ (∀ y0 y1 y2 y3 y4 y5 y6 y7 y8 y9 y10 y11 y12 y13 y14 y15 y16 y17 y18, LeO (coppicerref_Before.l1 k y0 y1 y2 y3 y4 y5 y6 y7 y8 y9 y10 y11 y12 y13 y14 y15 y16 y17 y18) (coppicerref_Before.l1 (k + 1) y0 y1 y2 y3 y4 y5 y6 y7 y8 y9 y10 y11 y12 y13 y14 y15 y16 y17 y18))
  | 0 => ⟨fun _ _ _ _ _ _ _ _ _ _ _ _ _ _ _ _ _ r h => by simp [coppicerref_Before.l0] at h, fun _ _ _ _ _ _ _ _ _ _ _ _ _ _ _ _ _ _ _ r h => by simp [coppicerref_Before.l1] at h⟩
  | k + 1 => by
    obtain ⟨ih0, ih1⟩ := coppicerref_Before.mono_l k
    refine ⟨?_, ?_⟩
    · intro y0 y1 y2 y3 y4 y5 y6 y7 y8 y9 y10 y11 y12 y13 y14 y15 y16
      unfold coppicerref_Before.l0
      repeat' first
      | (with_reducible exact ih0 _ _ _ _ _ _ _ _ _ _ _ _ _ _ _ _ _)
      | (with_reducible exact ih1 _ _ _ _ _ _ _ _ _ _ _ _ _ _ _ _ _ _ _)
      | (with_reducible exact coppicerref_Leads.mono _ _ _ _ _ _ _ _)
      | (with_reducible exact LeO.refl _)
      | (with_reducible exact LeO.none _)
      | (with_reducible refine LeO.ite ?_ ?_)
      | (with_reducible refine LeO.bind ?_ (fun _ => ?_))
      | exact ih0 _ _ _ _ _ _ _ _ _ _ _ _ _ _ _ _ _
      | exact ih1 _ _ _ _ _ _ _ _ _ _ _ _ _ _ _ _ _ _ _
      | exact coppicerref_Leads.mono _ _ _ _ _ _ _ _
      | exact LeO.none _
      | refine LeO.ite ?_ ?_
      | refine LeO.bind ?_ (fun _ => ?_)
    · intro y0 y1 y2 y3 y4 y5 y6 y7 y8 y9 y10 y11 y12 y13 y14 y15 y16 y17 y18
      unfold coppicerref_Before.l1
      repeat' first
      | (with_reducible exact ih0 _ _ _ _ _ _ _ _ _ _ _ _ _ _ _ _ _)
      | (with_reducible exact ih1 _ _ _ _ _ _ _ _ _ _ _ _ _ _ _ _ _ _ _)
      | (with_reducible exact coppicerref_Leads.mono _ _ _ _ _ _ _ _)
      | (with_reducible exact LeO.refl _)
      | (with_reducible exact LeO.none _)
      | (with_reducible refine LeO.ite ?_ ?_)
      | (with_reducible refine LeO.bind ?_ (fun _ => ?_))
      | exact ih0 _ _ _ _ _ _ _ _ _ _ _ _ _ _ _ _ _
      | exact ih1 _ _ _ _ _ _ _ _ _ _ _ _ _ _ _ _ _ _ _
      | exact coppicerref_Leads.mono _ _ _ _ _ _ _ _
      | exact LeO.none _
      | refine LeO.ite ?_ ?_
      | refine LeO.bind ?_ (fun _ => ?_)
theorem coppicerref_Before.mono : ∀ a0 a1 a2 a3 a4 a5 a6 a7 a8 a9 a10 k, LeO (coppicerref_Before.f k a0 a1 a2 a3 a4 a5 a6 a7 a8 a9 a10) (coppicerref_Before.f (k + 1) a0 a1 a2 a3 a4 a5 a6 a7 a8 a9 a10) := by
  intro a0 a1 a2 a3 a4 a5 a6 a7 a8 a9 a10 k
  obtain ⟨ih0, ih1⟩ := coppicerref_Before.mono_l k
  unfold coppicerref_Before.f
  repeat' first
      | (with_reducible exact ih0 _ _ _ _ _ _ _ _ _ _ _ _ _ _ _ _ _)
      | (with_reducible exact ih1 _ _ _ _ _ _ _ _ _ _ _ _ _ _ _ _ _ _ _)
      | (with_reducible exact coppicerref_Leads.mono _ _ _ _ _ _ _ _)
      | (with_reducible exact LeO.refl _)
      | (with_reducible exact LeO.none _)
      | (with_reducible refine LeO.ite ?_ ?_)
      | (with_reducible refine LeO.bind ?_ (fun _ => ?_))
      | exact ih0 _ _ _ _ _ _ _ _ _ _ _ _ _ _ _ _ _
      | exact ih1 _ _ _ _ _ _ _ _ _ _ _ _ _ _ _ _ _ _ _
      | exact coppicerref_Leads.mono _ _ _ _ _ _ _ _
      | exact LeO.none _
      | refine LeO.ite ?_ ?_
      | refine LeO.bind ?_ (fun _ => ?_)
def coppicerref_Before.T9 : Bool × List (List Nat × List Nat) := (true, [([], []), ([], []), ([1], [1]), ([], []), ([], []), ([4], [4]), ([3, 5], [3, 5]), ([2, 6], [2, 6]), ([7], [7]), ([], []), ([8, 9], [8, 9]), ([10], [10]), ([], []), ([12], [12]), ([11, 13], [11, 13]), ([], []), ([], []), ([], []), ([17], [17]), ([16, 18], [16, 18]), ([], []), ([20], [20]), ([], []), ([], []), ([23], [23]), ([22, 24], [22, 24]), ([21, 25], [21, 25]), ([26], [26]), ([], []), ([27, 28], [27, 28]), ([29], [29]), ([15, 19, 30], [15, 19, 30]), ([14, 31], [14, 31]), ([32], [32]), ([0, 33, 31], [0, 33]), ([34, 34, 0, 1, 2, 3, 4, 5, 6, 7, 8, 9, 10, 11, 12, 13, 14, 15, 16, 17, 18, 19, 20, 21, 22, 23, 24, 25, 26, 27, 28, 29, 30, 31, 32, 33, 34], [0, 34])])
def coppicerref_Before.B9 : List Nat := [0, 0, 2, 0, 0, 16, 56, 126, 254, 0, 1022, 2046, 0, 4096, 16382, 0, 0, 0, 131072, 458752, 0, 1048576, 0, 0, 8388608, 29360128, 66060288, 133169152, 0, 535822336, 1072693248, 2147450880, 4294967294, 8589934590, 17179869183, 34359738367]
theorem coppicerref_Before.tab9 : rtab .any (opsOf Try.f25 9) = coppicerref_Before.T9 := by kernel_rfl
theorem coppicerref_Before.bits9 : waitsOk coppicerref_Before.T9.2 coppicerref_Before.B9 = true := by kernel_rfl
set_option maxHeartbeats 8000000 in
set_option maxRecDepth 100000 in
theorem coppicerref_Before.calls (k : Nat) (a0_0 : Int) (a0_1 : Int) (a0_2 : Int) (A0_3 : Option Addr) (c0_3 : Nat) (l0_3 : List (List Int)) (A0_4 : Option Addr) (c0_4 : Nat) (l0_4 : List (List (List Int))) (a0_5 : Int) (a1_0 : Int) (a1_1 : Int) (A1_2 : Option Addr) (c1_2 : Nat) (l1_2 : List (List Int)) (a1_3 : Int) (a1_4 : Int) (r1 : Int) (r2 : Int) (r3 : List (List Int)) (r4 : Int) (r5 : Int) (w : World) (hr0_3 : Kd.C (Kd.slice 3 (Kd.int .i64)) w A0_3 l0_3.length l0_3) (hc0_3 : l0_3.length ≤ c0_3) (hr0_4 : Kd.C (Kd.slice 26 (Kd.slice 3 (Kd.int .i64))) w A0_4 l0_4.length l0_4) (hc0_4 : l0_4.length ≤ c0_4) (hr1_2 : Kd.C (Kd.slice 3 (Kd.int .i64)) w A1_2 l1_2.length l1_2) (hc1_2 : l1_2.length ≤ c1_2) (h : coppicerref_Before.f k a0_0 a0_1 a0_2 l0_3 l0_4 a0_5 a1_0 a1_1 l1_2 a1_3 a1_4 = some (r1, r2, r3, r4, r5)) :
    Calls Try.prog 25 #[.agg #[.int .i64 a0_0, .int .i64 a0_1, .int .i64 a0_2, .slice A0_3 l0_3.length c0_3, .slice A0_4 l0_4.length c0_4, .int .i64 a0_5], .agg #[.int .i64 a1_0, .int .i64 a1_1, .slice A1_2 l1_2.length c1_2, .int .i64 a1_3, .int .u32 a1_4]] w fun e w' => ∃ v2_ : Value, e = .returned (.agg #[.int .i64 r1, .int .i64 r2, v2_, .int .i64 r4, .int .u32 r5]) ∧ Kd.S (Kd.slice 3 (Kd.int .i64)) 26 w' w.heap.size (fun _ => True) v2_ r3 ∧ Below w.heap.size w w' := by
  (have hu25 := Try.underlying25); (have hu43 := Try.underlying43); (have HR0_3 := Aside0.mk hr0_3); (have HC0_3 := Aside0.mk hc0_3); (clear hr0_3 hc0_3); (have HR0_4 := Aside0.mk hr0_4); (have HC0_4 := Aside0.mk hc0_4); (clear hr0_4 hc0_4); (have HR1_2 := Aside0.mk hr1_2); (have HC1_2 := Aside0.mk hc1_2); (clear hr1_2 hc1_2); (have HB := Aside0.mk (Below.refl w.heap.size w)); (have H : (coppicerref_Before.l0 k 0 a0_0 a0_1 a0_2 l0_3 l0_4 a0_5 a1_0 a1_1 l1_2 a1_3 a1_4 (wrap64 (a0_0 * a1_0)) a0_1 ([] : List (List Int)) (wrap64 ((wrap64 (a0_5 * a1_0)) + a1_3)) 0) = some (r1, r2, r3, r4, r5) := h); (clear h); (have H' := Aside0.mk H); (clear H)
  go_enter Try.func25, Try.ntmps25
  go_wp2_with (first | ((with_reducible refine gate_dst (N := 2) rfl ?_); refine box_event ?hg (N := 2) ?hd (cs := #[.int .i64 a0_0, .int .i64 a0_1, .int .i64 a0_2, .slice A0_3 l0_3.length c0_3, .slice A0_4 l0_4.length c0_4, .int .i64 a0_5]) (t := 25) ?hr ?_; (case hd => rfl); (case hg => rfl); (case hr => first | (go_simp; done) | (go_simp; rfl)); intro gb199 hg w3 hbox hb; have n0_ := Aside0.mk (below_step (by repeat (first | (with_reducible first | exact HB.out | apply below_alloc | apply pw_below_drewN | apply below_drew1) | exact HB.out)) hb); have n1_ := Aside0.mk (hbox); have n2_ := Aside0.mk ((by rw [hg]; exact (below_size (by repeat (first | (with_reducible first | exact HB.out | apply below_alloc | apply pw_below_drewN | apply below_drew1) | exact HB.out))) : w.heap.size ≤ gb199)); have n3_ := Aside0.mk ((by rw [hg]; exact (below_size (by repeat (first | (with_reducible first | exact HB.out | apply below_alloc | apply pw_below_drewN | apply below_drew1) | exact HB.out))) : w.heap.size ≤ gb199)); clear HB; have HB := n0_; have BK199 := n1_; have GW199 := n2_; have GE199 := n3_; clear n0_ n1_ n2_ n3_; clear hb hbox hg) | ((with_reducible refine gate_dst (N := 3) rfl ?_); refine box_event ?hg (N := 3) ?hd (cs := #[.int .i64 a1_0, .int .i64 a1_1, .slice A1_2 l1_2.length c1_2, .int .i64 a1_3, .int .u32 a1_4]) (t := 43) ?hr ?_; (case hd => rfl); (case hg => rfl); (case hr => first | (go_simp; done) | (go_simp; rfl)); intro gb200 hg w4 hbox hb; have n0_ := Aside0.mk (blk_below (g := gb199) (o := .cells #[.int .i64 a0_0, .int .i64 a0_1, .int .i64 a0_2, .slice A0_3 l0_3.length c0_3, .slice A0_4 l0_4.length c0_4, .int .i64 a0_5] 25 (0, 0)) (by (with_reducible repeat (first | refine blk_drewN ?_ _ | refine blk_drew ?_ | refine blk_alloc ?_ _)); exact BK199.out) hb); have n1_ := Aside0.mk (below_step (by repeat (first | (with_reducible first | exact HB.out | apply below_alloc | apply pw_below_drewN | apply below_drew1 | refine below_set ?_ GE199.out) | exact HB.out)) hb); have n2_ := Aside0.mk (hbox); have n3_ := Aside0.mk ((by rw [hg]; exact (below_size (by repeat (first | (with_reducible first | exact HB.out | apply below_alloc | apply pw_below_drewN | apply below_drew1 | refine below_set ?_ GE199.out) | exact HB.out))) : w.heap.size ≤ gb200)); have n4_ := Aside0.mk ((by rw [hg]; exact (below_size (by repeat (first | (with_reducible first | exact HB.out | apply below_alloc | apply pw_below_drewN | apply below_drew1 | refine below_set ?_ GE199.out) | exact HB.out))) : w.heap.size ≤ gb200)); have n5_ := Aside0.mk ((by rw [hg]; exact Nat.ne_of_lt (blk_lt (g := gb199) (o := .cells #[.int .i64 a0_0, .int .i64 a0_1, .int .i64 a0_2, .slice A0_3 l0_3.length c0_3, .slice A0_4 l0_4.length c0_4, .int .i64 a0_5] 25 (0, 0)) (by (with_reducible repeat (first | refine blk_drewN ?_ _ | refine blk_drew ?_ | refine blk_alloc ?_ _)); exact BK199.out)) : gb199 ≠ gb200)); have n6_ := Aside0.mk ((by rw [hg]; exact Nat.ne_of_gt (blk_lt (g := gb199) (o := .cells #[.int .i64 a0_0, .int .i64 a0_1, .int .i64 a0_2, .slice A0_3 l0_3.length c0_3, .slice A0_4 l0_4.length c0_4, .int .i64 a0_5] 25 (0, 0)) (by (with_reducible repeat (first | refine blk_drewN ?_ _ | refine blk_drew ?_ | refine blk_alloc ?_ _)); exact BK199.out)) : gb200 ≠ gb199)); clear BK199; clear HB; have BK199 := n0_; have HB := n1_; have BK200 := n2_; have GW200 := n3_; have GE200 := n4_; have NB199_200 := n5_; have NB200_199 := n6_; clear n0_ n1_ n2_ n3_ n4_ n5_ n6_; clear hb hbox hg) | ((with_reducible refine gate_dst (N := 4) rfl ?_); refine box_event ?hg (N := 4) ?hd (cs := #[.int .i64 0, .int .i64 0, .slice none 0 0, .int .i64 0, .int .u32 0]) (t := 43) ?hr ?_; (case hd => rfl); (case hg => rfl); (case hr => first | (go_simp; done) | (go_simp; rfl)); intro gb201 hg w5 hbox hb; have n0_ := Aside0.mk (blk_below (g := gb199) (o := .cells #[.int .i64 a0_0, .int .i64 a0_1, .int .i64 a0_2, .slice A0_3 l0_3.length c0_3, .slice A0_4 l0_4.length c0_4, .int .i64 a0_5] 25 (0, 0)) (by (with_reducible repeat (first | refine blk_drewN ?_ _ | refine blk_drew ?_ | refine blk_alloc ?_ _)); exact BK199.out) hb); have n1_ := Aside0.mk (blk_below (g := gb200) (o := .cells #[.int .i64 a1_0, .int .i64 a1_1, .slice A1_2 l1_2.length c1_2, .int .i64 a1_3, .int .u32 a1_4] 43 (0, 0)) (by (with_reducible repeat (first | refine blk_drewN ?_ _ | refine blk_drew ?_ | refine blk_alloc ?_ _)); exact BK200.out) hb); have n2_ := Aside0.mk (below_step (by repeat (first | (with_reducible first | exact HB.out | apply below_alloc | apply pw_below_drewN | apply below_drew1 | refine below_set ?_ GE199.out | refine below_set ?_ GE200.out) | exact HB.out)) hb); have n3_ := Aside0.mk (hbox); have n4_ := Aside0.mk ((by rw [hg]; exact (below_size (by repeat (first | (with_reducible first | exact HB.out | apply below_alloc | apply pw_below_drewN | apply below_drew1 | refine below_set ?_ GE199.out | refine below_set ?_ GE200.out) | exact HB.out))) : w.heap.size ≤ gb201)); have n5_ := Aside0.mk ((by rw [hg]; exact (below_size (by repeat (first | (with_reducible first | exact HB.out | apply below_alloc | apply pw_below_drewN | apply below_drew1 | refine below_set ?_ GE199.out | refine below_set ?_ GE200.out) | exact HB.out))) : w.heap.size ≤ gb201)); have n6_ := Aside0.mk ((by rw [hg]; exact Nat.ne_of_lt (blk_lt (g := gb199) (o := .cells #[.int .i64 a0_0, .int .i64 a0_1, .int .i64 a0_2, .slice A0_3 l0_3.length c0_3, .slice A0_4 l0_4.length c0_4, .int .i64 a0_5] 25 (0, 0)) (by (with_reducible repeat (first | refine blk_drewN ?_ _ | refine blk_drew ?_ | refine blk_alloc ?_ _)); exact BK199.out)) : gb199 ≠ gb201)); have n7_ := Aside0.mk ((by rw [hg]; exact Nat.ne_of_gt (blk_lt (g := gb199) (o := .cells #[.int .i64 a0_0, .int .i64 a0_1, .int .i64 a0_2, .slice A0_3 l0_3.length c0_3, .slice A0_4 l0_4.length c0_4, .int .i64 a0_5] 25 (0, 0)) (by (with_reducible repeat (first | refine blk_drewN ?_ _ | refine blk_drew ?_ | refine blk_alloc ?_ _)); exact BK199.out)) : gb201 ≠ gb199)); have n8_ := Aside0.mk ((by rw [hg]; exact Nat.ne_of_lt (blk_lt (g := gb200) (o := .cells #[.int .i64 a1_0, .int .i64 a1_1, .slice A1_2 l1_2.length c1_2, .int .i64 a1_3, .int .u32 a1_4] 43 (0, 0)) (by (with_reducible repeat (first | refine blk_drewN ?_ _ | refine blk_drew ?_ | refine blk_alloc ?_ _)); exact BK200.out)) : gb200 ≠ gb201)); have n9_ := Aside0.mk ((by rw [hg]; exact Nat.ne_of_gt (blk_lt (g := gb200) (o := .cells #[.int .i64 a1_0, .int .i64 a1_1, .slice A1_2 l1_2.length c1_2, .int .i64 a1_3, .int .u32 a1_4] 43 (0, 0)) (by (with_reducible repeat (first | refine blk_drewN ?_ _ | refine blk_drew ?_ | refine blk_alloc ?_ _)); exact BK200.out)) : gb201 ≠ gb200)); clear BK199; clear BK200; clear HB; have BK199 := n0_; have BK200 := n1_; have HB := n2_; have BK201 := n3_; have GW201 := n4_; have GE201 := n5_; have NB199_201 := n6_; have NB201_199 := n7_; have NB200_201 := n8_; have NB201_200 := n9_; clear n0_ n1_ n2_ n3_ n4_ n5_ n6_ n7_ n8_ n9_; clear hb hbox hg; have hnb6 := NB199_200.out; have hnc6 := NB200_199.out; have hnb7 := NB199_201.out; have hnc7 := NB201_199.out; have hcz8_0 : w5.cell? ⟨gb199, 0, none⟩ = some (.int .i64 a0_0) := (blk_cell BK199.out 0).trans rfl; have hcz8_1 : w5.cell? ⟨gb199, 1, none⟩ = some (.int .i64 a0_1) := (blk_cell BK199.out 1).trans rfl; have hcz8_2 : w5.cell? ⟨gb199, 2, none⟩ = some (.int .i64 a0_2) := (blk_cell BK199.out 2).trans rfl; have hcz8_3 : w5.cell? ⟨gb199, 3, none⟩ = some (.slice A0_3 l0_3.length c0_3) := (blk_cell BK199.out 3).trans rfl; have hcz8_4 : w5.cell? ⟨gb199, 4, none⟩ = some (.slice A0_4 l0_4.length c0_4) := (blk_cell BK199.out 4).trans rfl; have hcz8_5 : w5.cell? ⟨gb199, 5, none⟩ = some (.int .i64 a0_5) := (blk_cell BK199.out 5).trans rfl; have hfz8_0 := blk_frozen BK199.out 0; have hfz8_1 := blk_frozen BK199.out 1; have hfz8_2 := blk_frozen BK199.out 2; have hfz8_3 := blk_frozen BK199.out 3; have hfz8_4 := blk_frozen BK199.out 4; have hfz8_5 := blk_frozen BK199.out 5; have hnb9 := NB200_201.out; have hnc9 := NB201_200.out; have hcz10_0 : w5.cell? ⟨gb200, 0, none⟩ = some (.int .i64 a1_0) := (blk_cell BK200.out 0).trans rfl; have hcz10_1 : w5.cell? ⟨gb200, 1, none⟩ = some (.int .i64 a1_1) := (blk_cell BK200.out 1).trans rfl; have hcz10_2 : w5.cell? ⟨gb200, 2, none⟩ = some (.slice A1_2 l1_2.length c1_2) := (blk_cell BK200.out 2).trans rfl; have hcz10_3 : w5.cell? ⟨gb200, 3, none⟩ = some (.int .i64 a1_3) := (blk_cell BK200.out 3).trans rfl; have hcz10_4 : w5.cell? ⟨gb200, 4, none⟩ = some (.int .u32 a1_4) := (blk_cell BK200.out 4).trans rfl; have hfz10_0 := blk_frozen BK200.out 0; have hfz10_1 := blk_frozen BK200.out 1; have hfz10_2 := blk_frozen BK200.out 2; have hfz10_3 := blk_frozen BK200.out 3; have hfz10_4 := blk_frozen BK200.out 4) | ((with_reducible refine gate_dst (N := 5) rfl ?_); refine box_event ?hg (N := 5) ?hd (cs := #[.int .i64 0, .int .i64 0, .slice none 0 0, .int .i64 0, .int .u32 0]) (t := 43) ?hr ?_; (case hd => rfl); (case hg => rfl); (case hr => first | (go_simp; done) | (go_simp; rfl)); intro gb202 hg w11 hbox hb; have n0_ := Aside0.mk (blk_below (g := gb199) (o := .cells #[.int .i64 a0_0, .int .i64 a0_1, .int .i64 a0_2, .slice A0_3 l0_3.length c0_3, .slice A0_4 l0_4.length c0_4, .int .i64 a0_5] 25 (0, 0)) (by (with_reducible repeat (first | refine blk_drewN ?_ _ | refine blk_drew ?_ | refine blk_alloc ?_ _)); exact BK199.out) hb); have n1_ := Aside0.mk (blk_below (g := gb200) (o := .cells #[.int .i64 a1_0, .int .i64 a1_1, .slice A1_2 l1_2.length c1_2, .int .i64 a1_3, .int .u32 a1_4] 43 (0, 0)) (by (with_reducible repeat (first | refine blk_drewN ?_ _ | refine blk_drew ?_ | refine blk_alloc ?_ _)); exact BK200.out) hb); have n2_ := Aside0.mk (blk_below (g := gb201) (o := .cells #[.int .i64 0, .int .i64 0, .slice none 0 0, .int .i64 0, .int .u32 0] 43 (0, 0)) (by (with_reducible repeat (first | refine blk_drewN ?_ _ | refine blk_drew ?_ | refine blk_alloc ?_ _)); exact BK201.out) hb); have n3_ := Aside0.mk (below_step (by repeat (first | (with_reducible first | exact HB.out | apply below_alloc | apply pw_below_drewN | apply below_drew1 | refine below_set ?_ GE199.out | refine below_set ?_ GE200.out | refine below_set ?_ GE201.out) | exact HB.out)) hb); have n4_ := Aside0.mk (hbox); have n5_ := Aside0.mk ((by rw [hg]; exact (below_size (by repeat (first | (with_reducible first | exact HB.out | apply below_alloc | apply pw_below_drewN | apply below_drew1 | refine below_set ?_ GE199.out | refine below_set ?_ GE200.out | refine below_set ?_ GE201.out) | exact HB.out))) : w.heap.size ≤ gb202)); have n6_ := Aside0.mk ((by rw [hg]; exact (below_size (by repeat (first | (with_reducible first | exact HB.out | apply below_alloc | apply pw_below_drewN | apply below_drew1 | refine below_set ?_ GE199.out | refine below_set ?_ GE200.out | refine below_set ?_ GE201.out) | exact HB.out))) : w.heap.size ≤ gb202)); have n7_ := Aside0.mk ((by rw [hg]; exact Nat.ne_of_lt (blk_lt (g := gb199) (o := .cells #[.int .i64 a0_0, .int .i64 a0_1, .int .i64 a0_2, .slice A0_3 l0_3.length c0_3, .slice A0_4 l0_4.length c0_4, .int .i64 a0_5] 25 (0, 0)) (by (with_reducible repeat (first | refine blk_drewN ?_ _ | refine blk_drew ?_ | refine blk_alloc ?_ _)); exact BK199.out)) : gb199 ≠ gb202)); have n8_ := Aside0.mk ((by rw [hg]; exact Nat.ne_of_gt (blk_lt (g := gb199) (o := .cells #[.int .i64 a0_0, .int .i64 a0_1, .int .i64 a0_2, .slice A0_3 l0_3.length c0_3, .slice A0_4 l0_4.length c0_4, .int .i64 a0_5] 25 (0, 0)) (by (with_reducible repeat (first | refine blk_drewN ?_ _ | refine blk_drew ?_ | refine blk_alloc ?_ _)); exact BK199.out)) : gb202 ≠ gb199)); have n9_ := Aside0.mk ((by rw [hg]; exact Nat.ne_of_lt (blk_lt (g := gb200) (o := .cells #[.int .i64 a1_0, .int .i64 a1_1, .slice A1_2 l1_2.length c1_2, .int .i64 a1_3, .int .u32 a1_4] 43 (0, 0)) (by (with_reducible repeat (first | refine blk_drewN ?_ _ | refine blk_drew ?_ | refine blk_alloc ?_ _)); exact BK200.out)) : gb200 ≠ gb202)); have n10_ := Aside0.mk ((by rw [hg]; exact Nat.ne_of_gt (blk_lt (g := gb200) (o := .cells #[.int .i64 a1_0, .int .i64 a1_1, .slice A1_2 l1_2.length c1_2, .int .i64 a1_3, .int .u32 a1_4] 43 (0, 0)) (by (with_reducible repeat (first | refine blk_drewN ?_ _ | refine blk_drew ?_ | refine blk_alloc ?_ _)); exact BK200.out)) : gb202 ≠ gb200)); have n11_ := Aside0.mk ((by rw [hg]; exact Nat.ne_of_lt (blk_lt (g := gb201) (o := .cells #[.int .i64 0, .int .i64 0, .slice none 0 0, .int .i64 0, .int .u32 0] 43 (0, 0)) (by (with_reducible repeat (first | refine blk_drewN ?_ _ | refine blk_drew ?_ | refine blk_alloc ?_ _)); exact BK201.out)) : gb201 ≠ gb202)); have n12_ := Aside0.mk ((by rw [hg]; exact Nat.ne_of_gt (blk_lt (g := gb201) (o := .cells #[.int .i64 0, .int .i64 0, .slice none 0 0, .int .i64 0, .int .u32 0] 43 (0, 0)) (by (with_reducible repeat (first | refine blk_drewN ?_ _ | refine blk_drew ?_ | refine blk_alloc ?_ _)); exact BK201.out)) : gb202 ≠ gb201)); clear BK199; clear BK200; clear BK201; clear HB; have BK199 := n0_; have BK200 := n1_; have BK201 := n2_; have HB := n3_; have BK202 := n4_; have GW202 := n5_; have GE202 := n6_; have NB199_202 := n7_; have NB202_199 := n8_; have NB200_202 := n9_; have NB202_200 := n10_; have NB201_202 := n11_; have NB202_201 := n12_; clear n0_ n1_ n2_ n3_ n4_ n5_ n6_ n7_ n8_ n9_ n10_ n11_ n12_; clear hb hbox hg; have hnb12 := NB202_199.out; have hnc12 := NB199_202.out; have hnb13 := NB202_200.out; have hnc13 := NB200_202.out; have hnb14 := NB202_201.out; have hnc14 := NB201_202.out; have hcz15_0 : w11.cell? ⟨gb202, 0, none⟩ = some (.int .i64 0) := (blk_cell BK202.out 0).trans rfl; have hcz15_1 : w11.cell? ⟨gb202, 1, none⟩ = some (.int .i64 0) := (blk_cell BK202.out 1).trans rfl; have hcz15_2 : w11.cell? ⟨gb202, 2, none⟩ = some (.slice none 0 0) := (blk_cell BK202.out 2).trans rfl; have hcz15_3 : w11.cell? ⟨gb202, 3, none⟩ = some (.int .i64 0) := (blk_cell BK202.out 3).trans rfl; have hcz15_4 : w11.cell? ⟨gb202, 4, none⟩ = some (.int .u32 0) := (blk_cell BK202.out 4).trans rfl; have hfz15_0 := blk_frozen BK202.out 0; have hfz15_1 := blk_frozen BK202.out 1; have hfz15_2 := blk_frozen BK202.out 2; have hfz15_3 := blk_frozen BK202.out 3; have hfz15_4 := blk_frozen BK202.out 4))
  go_loopg [6] k (fun kq v6 w' => ∃ (x6_1 : Int) (x203002_1 : List (List Int)) (x203004_1 : Int) (u203002 : Value), v6 = .int .i64 x6_1 ∧ Aside0 (coppicerref_Before.l0 kq x6_1 a0_0 a0_1 a0_2 l0_3 l0_4 a0_5 a1_0 a1_1 l1_2 a1_3 a1_4 (wrap64 (a0_0 * a1_0)) a0_1 x203002_1 (wrap64 ((wrap64 (a0_5 * a1_0)) + a1_3)) x203004_1 = some (r1, r2, r3, r4, r5)) ∧ Aside0 (kq ≤ k) ∧ Aside0 (Kd.S (Kd.slice 3 (Kd.int .i64)) 26 w' w.heap.size (fun _ => True) u203002 x203002_1) ∧ Aside0 (w'.heap[gb199]? = some (.cells #[.int .i64 a0_0, .int .i64 a0_1, .int .i64 a0_2, (.slice A0_3 l0_3.length c0_3), (.slice A0_4 l0_4.length c0_4), .int .i64 a0_5] 25 (0, 0))) ∧ Aside0 (w'.heap[gb200]? = some (.cells #[.int .i64 a1_0, .int .i64 a1_1, (.slice A1_2 l1_2.length c1_2), .int .i64 a1_3, .int .u32 a1_4] 43 (0, 0))) ∧ Aside0 (w'.heap[gb201]? = some (.cells #[.int .i64 0, .int .i64 0, (.slice none 0 0), .int .i64 0, .int .u32 0] 43 (0, 0))) ∧ Aside0 (w'.heap[gb202]? = some (.cells #[.int .i64 (wrap64 (a0_0 * a1_0)), .int .i64 a0_1, u203002, .int .i64 (wrap64 ((wrap64 (a0_5 * a1_0)) + a1_3)), .int .u32 x203004_1] 43 (0, 0))) ∧ Aside0 (Below w.heap.size w w'))
  case atStart => exact ⟨(0), (([] : List (List Int))), (0), (.slice none 0 0), (by first | rfl | (simp; done) | (simp [*]; done)), H', ⟨Nat.le_refl _⟩, ⟨by first | exact Kd.S_nil _ _ _ _ _ | exact Kd.N_nil _ _ _ _ _ | exact Kd.V_nil _ _ _ _ _ | exact Kd.Q_nil _ _ _ _ _ | exact Kd.R_nil _ _ _ _ _ | (go_simp; exact Kd.S_nil _ _ _ _ _)⟩, ⟨by (with_reducible repeat (first | refine blk_drewN ?_ _ | refine blk_drew ?_ | refine blk_alloc ?_ _)); refine blk_far ?_ NB199_202.out _; (with_reducible repeat (first | refine blk_drewN ?_ _ | refine blk_drew ?_ | refine blk_alloc ?_ _)); refine blk_far ?_ NB199_202.out _; (with_reducible repeat (first | refine blk_drewN ?_ _ | refine blk_drew ?_ | refine blk_alloc ?_ _)); refine blk_far ?_ NB199_202.out _; (with_reducible repeat (first | refine blk_drewN ?_ _ | refine blk_drew ?_ | refine blk_alloc ?_ _)); refine blk_far ?_ NB199_202.out _; (with_reducible repeat (first | refine blk_drewN ?_ _ | refine blk_drew ?_ | refine blk_alloc ?_ _)); refine blk_far ?_ NB199_202.out _; (with_reducible repeat (first | refine blk_drewN ?_ _ | refine blk_drew ?_ | refine blk_alloc ?_ _)); exact BK199.out⟩, ⟨by (with_reducible repeat (first | refine blk_drewN ?_ _ | refine blk_drew ?_ | refine blk_alloc ?_ _)); refine blk_far ?_ NB200_202.out _; (with_reducible repeat (first | refine blk_drewN ?_ _ | refine blk_drew ?_ | refine blk_alloc ?_ _)); refine blk_far ?_ NB200_202.out _; (with_reducible repeat (first | refine blk_drewN ?_ _ | refine blk_drew ?_ | refine blk_alloc ?_ _)); refine blk_far ?_ NB200_202.out _; (with_reducible repeat (first | refine blk_drewN ?_ _ | refine blk_drew ?_ | refine blk_alloc ?_ _)); refine blk_far ?_ NB200_202.out _; (with_reducible repeat (first | refine blk_drewN ?_ _ | refine blk_drew ?_ | refine blk_alloc ?_ _)); refine blk_far ?_ NB200_202.out _; (with_reducible repeat (first | refine blk_drewN ?_ _ | refine blk_drew ?_ | refine blk_alloc ?_ _)); exact BK200.out⟩, ⟨by (with_reducible repeat (first | refine blk_drewN ?_ _ | refine blk_drew ?_ | refine blk_alloc ?_ _)); refine blk_far ?_ NB201_202.out _; (with_reducible repeat (first | refine blk_drewN ?_ _ | refine blk_drew ?_ | refine blk_alloc ?_ _)); refine blk_far ?_ NB201_202.out _; (with_reducible repeat (first | refine blk_drewN ?_ _ | refine blk_drew ?_ | refine blk_alloc ?_ _)); refine blk_far ?_ NB201_202.out _; (with_reducible repeat (first | refine blk_drewN ?_ _ | refine blk_drew ?_ | refine blk_alloc ?_ _)); refine blk_far ?_ NB201_202.out _; (with_reducible repeat (first | refine blk_drewN ?_ _ | refine blk_drew ?_ | refine blk_alloc ?_ _)); refine blk_far ?_ NB201_202.out _; (with_reducible repeat (first | refine blk_drewN ?_ _ | refine blk_drew ?_ | refine blk_alloc ?_ _)); exact BK201.out⟩, ⟨by (with_reducible repeat (first | refine blk_drewN ?_ _ | refine blk_drew ?_ | refine blk_alloc ?_ _)); refine blk_put (cs := #[.int .i64 (wrap64 (a0_0 * a1_0)), .int .i64 a0_1, .slice none 0 0, .int .i64 (wrap64 ((wrap64 (a0_5 * a1_0)) + a1_3)), .int .u32 0]) ?_ 4 _ rfl; (with_reducible repeat (first | refine blk_drewN ?_ _ | refine blk_drew ?_ | refine blk_alloc ?_ _)); refine blk_put (cs := #[.int .i64 (wrap64 (a0_0 * a1_0)), .int .i64 a0_1, .slice none 0 0, .int .i64 0, .int .u32 0]) ?_ 3 _ rfl; (with_reducible repeat (first | refine blk_drewN ?_ _ | refine blk_drew ?_ | refine blk_alloc ?_ _)); refine blk_put (cs := #[.int .i64 (wrap64 (a0_0 * a1_0)), .int .i64 a0_1, .slice none 0 0, .int .i64 0, .int .u32 0]) ?_ 2 _ rfl; (with_reducible repeat (first | refine blk_drewN ?_ _ | refine blk_drew ?_ | refine blk_alloc ?_ _)); refine blk_put (cs := #[.int .i64 (wrap64 (a0_0 * a1_0)), .int .i64 0, .slice none 0 0, .int .i64 0, .int .u32 0]) ?_ 1 _ rfl; (with_reducible repeat (first | refine blk_drewN ?_ _ | refine blk_drew ?_ | refine blk_alloc ?_ _)); refine blk_put (cs := #[.int .i64 0, .int .i64 0, .slice none 0 0, .int .i64 0, .int .u32 0]) ?_ 0 _ rfl; (with_reducible repeat (first | refine blk_drewN ?_ _ | refine blk_drew ?_ | refine blk_alloc ?_ _)); exact BK202.out⟩, ⟨by repeat (first | (with_reducible first | exact HB.out | apply below_alloc | apply pw_below_drewN | apply below_drew1 | refine below_set ?_ GE199.out | refine below_set ?_ GE200.out | refine below_set ?_ GE201.out | refine below_set ?_ GE202.out) | exact HB.out)⟩⟩
  case round =>
    (clear H'); (try clear c1); (try clear c2); (try clear p2); (try clear c6); (try clear p6); (try clear c7); (try clear c9); (try clear c12); (try clear c13); (try clear c14); (try clear hcz10_0); (try clear hcz10_1); (try clear hcz10_2); (try clear hcz10_3); (try clear hcz10_4); (try clear hcz15_0); (try clear hcz15_1); (try clear hcz15_2); (try clear hcz15_3); (try clear hcz15_4); (try clear hcz8_0); (try clear hcz8_1); (try clear hcz8_2); (try clear hcz8_3); (try clear hcz8_4); (try clear hcz8_5); (try clear hfz10_0); (try clear hfz10_1); (try clear hfz10_2); (try clear hfz10_3); (try clear hfz10_4); (try clear hfz15_0); (try clear hfz15_1); (try clear hfz15_2); (try clear hfz15_3); (try clear hfz15_4); (try clear hfz8_0); (try clear hfz8_1); (try clear hfz8_2); (try clear hfz8_3); (try clear hfz8_4); (try clear hfz8_5); (obtain ⟨x6_1, x203002_1, x203004_1, u203002, rfl, HA, HK1, HO_203002, BK199, BK200, BK201, BK202, HB⟩ := hrel)
    cases gk with
    | zero => exact absurd HA.out (by simp [coppicerref_Before.l0])
    | succ k1 =>
      (have H := HA.out); (clear HA); (simp only [coppicerref_Before.l0] at H)
      by_cases c16 : x6_1 < (wrap64 (a0_0 * a1_0))
      rotate_left
      · rw [if_neg c16] at H
        (have c16b0 : decide (x6_1 < (wrap64 (a0_0 * a1_0))) = false := decide_eq_false c16); (clear c16); (simp only [Option.some.injEq, Prod.mk.injEq] at H); (obtain ⟨rfl, rfl, rfl, rfl, rfl⟩ := H); (have hnb73 := NB202_199.out); (have hnc73 := NB199_202.out); (have hnb74 := NB202_200.out); (have hnc74 := NB200_202.out); (have hnb75 := NB202_201.out); (have hnc75 := NB201_202.out); (have hcz76_0 : wr.cell? ⟨gb202, 0, none⟩ = some (.int .i64 (wrap64 (a0_0 * a1_0))) := (blk_cell BK202.out 0).trans rfl); (have hcz76_1 : wr.cell? ⟨gb202, 1, none⟩ = some (.int .i64 a0_1) := (blk_cell BK202.out 1).trans rfl); (have hcz76_2 : wr.cell? ⟨gb202, 2, none⟩ = some (u203002) := (blk_cell BK202.out 2).trans rfl); (have hcz76_3 : wr.cell? ⟨gb202, 3, none⟩ = some (.int .i64 (wrap64 ((wrap64 (a0_5 * a1_0)) + a1_3))) := (blk_cell BK202.out 3).trans rfl); (have hcz76_4 : wr.cell? ⟨gb202, 4, none⟩ = some (.int .u32 x203004_1) := (blk_cell BK202.out 4).trans rfl); (have hfz76_0 := blk_frozen BK202.out 0); (have hfz76_1 := blk_frozen BK202.out 1); (have hfz76_2 := blk_frozen BK202.out 2); (have hfz76_3 := blk_frozen BK202.out 3); (have hfz76_4 := blk_frozen BK202.out 4); (have hnb77 := NB201_199.out); (have hnc77 := NB199_201.out); (have hnb78 := NB201_200.out); (have hnc78 := NB200_201.out); (have hcz79_0 : wr.cell? ⟨gb201, 0, none⟩ = some (.int .i64 0) := (blk_cell BK201.out 0).trans rfl); (have hcz79_1 : wr.cell? ⟨gb201, 1, none⟩ = some (.int .i64 0) := (blk_cell BK201.out 1).trans rfl); (have hcz79_2 : wr.cell? ⟨gb201, 2, none⟩ = some (.slice none 0 0) := (blk_cell BK201.out 2).trans rfl); (have hcz79_3 : wr.cell? ⟨gb201, 3, none⟩ = some (.int .i64 0) := (blk_cell BK201.out 3).trans rfl)
        (have hcz79_4 : wr.cell? ⟨gb201, 4, none⟩ = some (.int .u32 0) := (blk_cell BK201.out 4).trans rfl); (have hfz79_0 := blk_frozen BK201.out 0); (have hfz79_1 := blk_frozen BK201.out 1); (have hfz79_2 := blk_frozen BK201.out 2); (have hfz79_3 := blk_frozen BK201.out 3); (have hfz79_4 := blk_frozen BK201.out 4); (obtain ⟨Ao80, co80, eo80⟩ := Kd.S_slice HO_203002.out); (subst eo80)
        go_wp2
        refine bodyPost_ret (results_cell_row rfl _ _ gb201 43 #[.int .i64 (wrap64 (a0_0 * a1_0)), .int .i64 a0_1, .slice Ao80 x203002_1.length co80, .int .i64 (wrap64 ((wrap64 (a0_5 * a1_0)) + a1_3)), .int .u32 x203004_1] (0, 0) _ rfl (by (with_reducible repeat (first | refine blk_drewN ?_ _ | refine blk_drew ?_ | refine blk_alloc ?_ _)); refine blk_put (cs := #[.int .i64 (wrap64 (a0_0 * a1_0)), .int .i64 a0_1, .slice Ao80 x203002_1.length co80, .int .i64 (wrap64 ((wrap64 (a0_5 * a1_0)) + a1_3)), .int .u32 0]) ?_ 4 _ rfl; (with_reducible repeat (first | refine blk_drewN ?_ _ | refine blk_drew ?_ | refine blk_alloc ?_ _)); refine blk_put (cs := #[.int .i64 (wrap64 (a0_0 * a1_0)), .int .i64 a0_1, .slice Ao80 x203002_1.length co80, .int .i64 0, .int .u32 0]) ?_ 3 _ rfl; (with_reducible repeat (first | refine blk_drewN ?_ _ | refine blk_drew ?_ | refine blk_alloc ?_ _)); refine blk_put (cs := #[.int .i64 (wrap64 (a0_0 * a1_0)), .int .i64 a0_1, .slice none 0 0, .int .i64 0, .int .u32 0]) ?_ 2 _ rfl; (with_reducible repeat (first | refine blk_drewN ?_ _ | refine blk_drew ?_ | refine blk_alloc ?_ _)); refine blk_put (cs := #[.int .i64 (wrap64 (a0_0 * a1_0)), .int .i64 0, .slice none 0 0, .int .i64 0, .int .u32 0]) ?_ 1 _ rfl; (with_reducible repeat (first | refine blk_drewN ?_ _ | refine blk_drew ?_ | refine blk_alloc ?_ _)); refine blk_put (cs := #[.int .i64 0, .int .i64 0, .slice none 0 0, .int .i64 0, .int .u32 0]) ?_ 0 _ rfl; (with_reducible repeat (first | refine blk_drewN ?_ _ | refine blk_drew ?_ | refine blk_alloc ?_ _)); exact BK201.out) Try.underlying43 rfl (by kernel_rfl)) rfl ?_
        exact ⟨_, by first | rfl | (simp [errW_none, errW_some] <;> rfl) | (simp [*, errW_none, errW_some] <;> rfl), by (with_reducible repeat (first | apply Kd.S_alloc | apply Kd.S_drewN | apply Kd.S_drew)); exact Kd.S_mono (Kd.S_far (p := ⟨gb201, 4, none⟩) (Kd.S_far (p := ⟨gb201, 3, none⟩) (Kd.S_far (p := ⟨gb201, 2, none⟩) (Kd.S_far (p := ⟨gb201, 1, none⟩) (Kd.S_far (p := ⟨gb201, 0, none⟩) (Kd.S_types HO_203002.out BK201.out (by decide)) (fun _ hk => hk.2) (.int .i64 (wrap64 (a0_0 * a1_0)))) (fun _ hk => hk.2) (.int .i64 a0_1)) (fun _ hk => hk.2) (.slice Ao80 x203002_1.length co80)) (fun _ hk => hk.2) (.int .i64 (wrap64 ((wrap64 (a0_5 * a1_0)) + a1_3)))) (fun _ hk => hk.2) (.int .u32 x203004_1)) (fun _ hk => trivial), by repeat (first | (with_reducible first | exact HB.out | apply below_alloc | apply pw_below_drewN | apply below_drew1 | refine below_set ?_ GE199.out | refine below_set ?_ GE200.out | refine below_set ?_ GE201.out | refine below_set ?_ GE202.out) | exact HB.out)⟩
      (rw [if_pos c16] at H); (have c16b0 : decide (x6_1 < (wrap64 (a0_0 * a1_0))) = true := decide_eq_true c16); (clear c16); (have H' := Aside0.mk H); (clear H); (have hnb17 := NB202_199.out); (have hnc17 := NB199_202.out); (have hnb18 := NB202_200.out); (have hnc18 := NB200_202.out); (have hnb19 := NB202_201.out); (have hnc19 := NB201_202.out); (have hcz20_0 : wr.cell? ⟨gb202, 0, none⟩ = some (.int .i64 (wrap64 (a0_0 * a1_0))) := (blk_cell BK202.out 0).trans rfl); (have hcz20_1 : wr.cell? ⟨gb202, 1, none⟩ = some (.int .i64 a0_1) := (blk_cell BK202.out 1).trans rfl); (have hcz20_2 : wr.cell? ⟨gb202, 2, none⟩ = some (u203002) := (blk_cell BK202.out 2).trans rfl); (have hcz20_3 : wr.cell? ⟨gb202, 3, none⟩ = some (.int .i64 (wrap64 ((wrap64 (a0_5 * a1_0)) + a1_3))) := (blk_cell BK202.out 3).trans rfl); (have hcz20_4 : wr.cell? ⟨gb202, 4, none⟩ = some (.int .u32 x203004_1) := (blk_cell BK202.out 4).trans rfl); (have hfz20_0 := blk_frozen BK202.out 0); (have hfz20_1 := blk_frozen BK202.out 1); (have hfz20_2 := blk_frozen BK202.out 2); (have hfz20_3 := blk_frozen BK202.out 3); (have hfz20_4 := blk_frozen BK202.out 4)
      go_wp2
      go_loopg [7, 8] k1 (fun kq v7 v8 w' => ∃ (x7_2 : List Int) (x8_2 : Int), v8 = .int .i64 x8_2 ∧ Aside0 (coppicerref_Before.l1 kq x6_1 x7_2 x8_2 a0_0 a0_1 a0_2 l0_3 l0_4 a0_5 a1_0 a1_1 l1_2 a1_3 a1_4 (wrap64 (a0_0 * a1_0)) a0_1 x203002_1 (wrap64 ((wrap64 (a0_5 * a1_0)) + a1_3)) x203004_1 = some (r1, r2, r3, r4, r5)) ∧ Aside0 (kq ≤ k1) ∧ Aside0 (Kd.R (Kd.int .i64) 3 w' w.heap.size (fun _ => True) v7 x7_2) ∧ Aside0 (Kd.S (Kd.slice 3 (Kd.int .i64)) 26 w' w.heap.size (fun k_ => some k_ ≠ (v7 : Value).ownBlock) u203002 x203002_1) ∧ Aside0 (w'.heap[gb199]? = some (.cells #[.int .i64 a0_0, .int .i64 a0_1, .int .i64 a0_2, (.slice A0_3 l0_3.length c0_3), (.slice A0_4 l0_4.length c0_4), .int .i64 a0_5] 25 (0, 0))) ∧ Aside0 (w'.heap[gb200]? = some (.cells #[.int .i64 a1_0, .int .i64 a1_1, (.slice A1_2 l1_2.length c1_2), .int .i64 a1_3, .int .u32 a1_4] 43 (0, 0))) ∧ Aside0 (w'.heap[gb201]? = some (.cells #[.int .i64 0, .int .i64 0, (.slice none 0 0), .int .i64 0, .int .u32 0] 43 (0, 0))) ∧ Aside0 (w'.heap[gb202]? = some (.cells #[.int .i64 (wrap64 (a0_0 * a1_0)), .int .i64 a0_1, u203002, .int .i64 (wrap64 ((wrap64 (a0_5 * a1_0)) + a1_3)), .int .u32 x203004_1] 43 (0, 0))) ∧ Aside0 (Below w.heap.size w w'))
      case atStart => exact ⟨(([] : List Int)), (0), (by first | rfl | (simp; done) | (simp [*]; done)), H', ⟨Nat.le_refl _⟩, ⟨by first | exact Kd.R_nil _ _ _ _ _ | exact Kd.N_nil _ _ _ _ _ | exact Kd.V_nil _ _ _ _ _ | exact Kd.Q_nil _ _ _ _ _ | exact Kd.S_nil _ _ _ _ _ | (go_simp; exact Kd.R_nil _ _ _ _ _)⟩, ⟨by (with_reducible repeat (first | apply Kd.S_alloc | apply Kd.S_drewN | apply Kd.S_drew)); exact Kd.S_mono HO_203002.out (fun _ hk => (by simp [Value.ownBlock]))⟩, ⟨by (with_reducible repeat (first | refine blk_drewN ?_ _ | refine blk_drew ?_ | refine blk_alloc ?_ _)); exact BK199.out⟩, ⟨by (with_reducible repeat (first | refine blk_drewN ?_ _ | refine blk_drew ?_ | refine blk_alloc ?_ _)); exact BK200.out⟩, ⟨by (with_reducible repeat (first | refine blk_drewN ?_ _ | refine blk_drew ?_ | refine blk_alloc ?_ _)); exact BK201.out⟩, ⟨by (with_reducible repeat (first | refine blk_drewN ?_ _ | refine blk_drew ?_ | refine blk_alloc ?_ _)); exact BK202.out⟩, ⟨by repeat (first | (with_reducible first | exact HB.out | apply below_alloc | apply pw_below_drewN | apply below_drew1 | refine below_set ?_ GE199.out | refine below_set ?_ GE200.out | refine below_set ?_ GE201.out | refine below_set ?_ GE202.out) | exact HB.out)⟩⟩
      case round =>
        (clear H'); (try clear c1); (try clear c2); (try clear p2); (try clear c6); (try clear p6); (try clear c7); (try clear c9); (try clear c12); (try clear c13); (try clear c14); (try clear c16); (try clear c16b0); (try clear c17); (try clear c18); (try clear c19); (try clear hcz10_0); (try clear hcz10_1); (try clear hcz10_2); (try clear hcz10_3); (try clear hcz10_4); (try clear hcz15_0); (try clear hcz15_1); (try clear hcz15_2); (try clear hcz15_3); (try clear hcz15_4); (try clear hcz20_0); (try clear hcz20_1); (try clear hcz20_2); (try clear hcz20_3); (try clear hcz20_4); (try clear hcz8_0); (try clear hcz8_1); (try clear hcz8_2); (try clear hcz8_3); (try clear hcz8_4); (try clear hcz8_5); (try clear hfz10_0); (try clear hfz10_1); (try clear hfz10_2); (try clear hfz10_3); (try clear hfz10_4); (try clear hfz15_0); (try clear hfz15_1); (try clear hfz15_2); (try clear hfz15_3); (try clear hfz15_4); (try clear hfz20_0); (try clear hfz20_1); (try clear hfz20_2); (try clear hfz20_3); (try clear hfz20_4); (try clear hfz8_0); (try clear hfz8_1); (try clear hfz8_2); (try clear hfz8_3); (try clear hfz8_4); (try clear hfz8_5); (try clear p2); (try clear p6); (obtain ⟨x7_2, x8_2, rfl, HA, HK2, HO_7, HO_203002, BK199, BK200, BK201, BK202, HB⟩ := hrel)
        cases gk with
        | zero => exact absurd HA.out (by simp [coppicerref_Before.l1])
        | succ k2 =>
          (have H := HA.out); (clear HA); (simp only [coppicerref_Before.l1] at H)
          by_cases c21 : x8_2 < a0_1
          rotate_left
          · rw [if_neg c21] at H
            (have c21b0 : decide (x8_2 < a0_1) = false := decide_eq_false c21); (clear c21)
            by_cases c39 : x203002_1.length < 5864062014805
            rotate_left
            · rw [if_neg c39] at H
              exact absurd H (by simp)
            (rw [if_pos c39] at H); (have LMc39 := Aside0.mk c39); (clear c39); (obtain ⟨y211, hy211⟩ : ∃ y_ : List (List Int), y_ = (x203002_1 ++ [x7_2]) := ⟨_, rfl⟩); (replace H : (if a1_0 = 0 then (none) else ((coppicerref_Bit.f a1_4 (Int.tmod x6_1 a1_0)).bind fun t214 => (if t214 = true then (if 0 ≤ (IntKind.u64.wrap (x6_1)) then (coppicerref_Before.l0 k2 (wrap64 (x6_1 + 1)) a0_0 a0_1 a0_2 l0_3 l0_4 a0_5 a1_0 a1_1 l1_2 a1_3 a1_4 (wrap64 (a0_0 * a1_0)) a0_1 y211 (wrap64 ((wrap64 (a0_5 * a1_0)) + a1_3)) ((x203004_1 + (shl .u32 1 (IntKind.u64.wrap (x6_1)))) % 4294967296)) else (none)) else (coppicerref_Before.l0 k2 (wrap64 (x6_1 + 1)) a0_0 a0_1 a0_2 l0_3 l0_4 a0_5 a1_0 a1_1 l1_2 a1_3 a1_4 (wrap64 (a0_0 * a1_0)) a0_1 y211 (wrap64 ((wrap64 (a0_5 * a1_0)) + a1_3)) x203004_1)))) = some (r1, r2, r3, r4, r5) := by first | (rw [hy211]; with_reducible exact H) | (have H2_ := (Option.bind_some _ _).symm.trans H; rw [hy211]; with_reducible exact H2_) | (have H2_ := (Option.bind_some _ _).symm.trans H; with_reducible exact H2_) | with_reducible exact H | (rw [hy211]; exact H) | exact H); (have Ny211 := Aside0.mk hy211); (clear hy211)
            by_cases c40 : a1_0 = 0
            · rw [if_pos c40] at H
              exact absurd H (by simp)
            (rw [if_neg c40] at H); (have c40b0 : (a1_0 == 0) = false := beq_eq_false_iff_ne.mpr c40); (have c40b1 : (a1_0 != 0) = true := bne_iff_ne.mpr c40); (replace H := Option.bind_eq_some_iff.mp H); (obtain ⟨t214, A410, H⟩ := H); (replace H : (if t214 = true then (if 0 ≤ (IntKind.u64.wrap (x6_1)) then (coppicerref_Before.l0 k2 (wrap64 (x6_1 + 1)) a0_0 a0_1 a0_2 l0_3 l0_4 a0_5 a1_0 a1_1 l1_2 a1_3 a1_4 (wrap64 (a0_0 * a1_0)) a0_1 y211 (wrap64 ((wrap64 (a0_5 * a1_0)) + a1_3)) ((x203004_1 + (shl .u32 1 (IntKind.u64.wrap (x6_1)))) % 4294967296)) else (none)) else (coppicerref_Before.l0 k2 (wrap64 (x6_1 + 1)) a0_0 a0_1 a0_2 l0_3 l0_4 a0_5 a1_0 a1_1 l1_2 a1_3 a1_4 (wrap64 (a0_0 * a1_0)) a0_1 y211 (wrap64 ((wrap64 (a0_5 * a1_0)) + a1_3)) x203004_1)) = some (r1, r2, r3, r4, r5) := H); (have A41 := Aside0.mk A410); (clear A410)
            by_cases c42 : t214 = true
            rotate_left
            · replace c42 := Bool.eq_false_iff.mpr c42
              (subst c42); (have H1 : (coppicerref_Before.l0 k2 (wrap64 (x6_1 + 1)) a0_0 a0_1 a0_2 l0_3 l0_4 a0_5 a1_0 a1_1 l1_2 a1_3 a1_4 (wrap64 (a0_0 * a1_0)) a0_1 y211 (wrap64 ((wrap64 (a0_5 * a1_0)) + a1_3)) x203004_1) = some (r1, r2, r3, r4, r5) := by rw [if_neg (show ¬ (false = true) by decide)] at H; exact H); (clear H); (have H := H1); (clear H1); (have H' := Aside0.mk H); (clear H); (have hnb60 := NB199_200.out); (have hnc60 := NB200_199.out); (have hnb61 := NB199_201.out); (have hnc61 := NB201_199.out); (have hnb62 := NB199_202.out); (have hnc62 := NB202_199.out); (have hcz63_0 : wr.cell? ⟨gb199, 0, none⟩ = some (.int .i64 a0_0) := (blk_cell BK199.out 0).trans rfl); (have hcz63_1 : wr.cell? ⟨gb199, 1, none⟩ = some (.int .i64 a0_1) := (blk_cell BK199.out 1).trans rfl); (have hcz63_2 : wr.cell? ⟨gb199, 2, none⟩ = some (.int .i64 a0_2) := (blk_cell BK199.out 2).trans rfl); (have hcz63_3 : wr.cell? ⟨gb199, 3, none⟩ = some (.slice A0_3 l0_3.length c0_3) := (blk_cell BK199.out 3).trans rfl); (have hcz63_4 : wr.cell? ⟨gb199, 4, none⟩ = some (.slice A0_4 l0_4.length c0_4) := (blk_cell BK199.out 4).trans rfl); (have hcz63_5 : wr.cell? ⟨gb199, 5, none⟩ = some (.int .i64 a0_5) := (blk_cell BK199.out 5).trans rfl); (have hfz63_0 := blk_frozen BK199.out 0); (have hfz63_1 := blk_frozen BK199.out 1); (have hfz63_2 := blk_frozen BK199.out 2); (have hfz63_3 := blk_frozen BK199.out 3); (have hfz63_4 := blk_frozen BK199.out 4); (have hfz63_5 := blk_frozen BK199.out 5); (have hnb64 := NB202_200.out); (have hnc64 := NB200_202.out); (have hnb65 := NB202_201.out); (have hnc65 := NB201_202.out); (have hcz66_0 : wr.cell? ⟨gb202, 0, none⟩ = some (.int .i64 (wrap64 (a0_0 * a1_0))) := (blk_cell BK202.out 0).trans rfl)
              (have hcz66_1 : wr.cell? ⟨gb202, 1, none⟩ = some (.int .i64 a0_1) := (blk_cell BK202.out 1).trans rfl); (have hcz66_2 : wr.cell? ⟨gb202, 2, none⟩ = some (u203002) := (blk_cell BK202.out 2).trans rfl); (have hcz66_3 : wr.cell? ⟨gb202, 3, none⟩ = some (.int .i64 (wrap64 ((wrap64 (a0_5 * a1_0)) + a1_3))) := (blk_cell BK202.out 3).trans rfl); (have hcz66_4 : wr.cell? ⟨gb202, 4, none⟩ = some (.int .u32 x203004_1) := (blk_cell BK202.out 4).trans rfl); (have hfz66_0 := blk_frozen BK202.out 0); (have hfz66_1 := blk_frozen BK202.out 1); (have hfz66_2 := blk_frozen BK202.out 2); (have hfz66_3 := blk_frozen BK202.out 3); (have hfz66_4 := blk_frozen BK202.out 4); (obtain ⟨Ao68, co68, eo68⟩ := Kd.R_slice HO_7.out); (subst eo68)
              try go_wp2_with (first | ((with_reducible refine gate_builtin (b := .append) (xs := #[.tmp 73, .tmp 75]) rfl ?_); at_builtin; refine Kd.S_append (Kd.slice 3 (Kd.int .i64)) (w0 := w) w.heap.size rfl (.tmp 73) (.tmp 75) 22 26 (.slice none 0 0) 24 rfl Try.underlying22 info26 rfl (by decide) (by omega) u203002 x203002_1 x7_2 [.slice Ao68 x7_2.length co68] (fun _ => True) (fun k_ => some k_ = (.slice Ao68 x7_2.length co68 : Value).ownBlock) rfl rfl ?aP (fun k_ hk_ => ((Kd.R_mono (ok' := fun k_ => ((fun _ => True)) k_ ∧ some k_ ≠ (u203002 : Value).ownBlock) (Kd.R_apart' (HO_7.out) (Kd.S_typed HO_203002.out) (by decide)) (fun k_ hk => ⟨trivial, hk.2⟩))).1 k_ hk_.symm) ?aF ?aO ?aB ?aS ?aL ?_; (case aP => exact Kd.M_row (Kd.R_mono (Kd.R_tight rfl (Kd.R_mono (ok' := fun k_ => ((fun _ => True)) k_ ∧ some k_ ≠ (u203002 : Value).ownBlock) (Kd.R_apart' (HO_7.out) (Kd.S_typed HO_203002.out) (by decide)) (fun k_ hk => ⟨trivial, hk.2⟩))) (fun _ h_ => h_))); (case aB => exact (by repeat (first | (with_reducible first | exact HB.out | apply below_alloc | apply pw_below_drewN | apply below_drew1 | refine below_set ?_ GE199.out | refine below_set ?_ GE200.out | refine below_set ?_ GE201.out | refine below_set ?_ GE202.out) | exact HB.out))); (case aF => exact (fun _ _ => trivial)); (case aO => exact (by (with_reducible repeat (first | apply Kd.S_alloc | apply Kd.S_drewN | apply Kd.S_drew)); exact Kd.S_mono HO_203002.out (fun k_ hk => ⟨trivial, fun e_ => hk e_⟩))); (case aS => exact (below_size (by repeat (first | (with_reducible first | exact HB.out | apply below_alloc | apply pw_below_drewN | apply below_drew1 | refine below_set ?_ GE199.out | refine below_set ?_ GE200.out | refine below_set ?_ GE201.out | refine below_set ?_ GE202.out) | exact HB.out)))); (case aL => have := LMc39.out; omega); intro v212 w67 ho hb hg hat; rw [← Ny211.out] at ho; have n0_ := Aside0.mk (blk_grown (g := gb199) (o := .cells #[.int .i64 a0_0, .int .i64 a0_1, .int .i64 a0_2, .slice A0_3 l0_3.length c0_3, .slice A0_4 l0_4.length c0_4, .int .i64 a0_5] 25 (0, 0)) (by (with_reducible repeat (first | refine blk_drewN ?_ _ | refine blk_drew ?_ | refine blk_alloc ?_ _)); exact BK199.out) hg (Kd.S_ne HO_203002.out BK199.out (by decide))); have n1_ := Aside0.mk (blk_grown (g := gb200) (o := .cells #[.int .i64 a1_0, .int .i64 a1_1, .slice A1_2 l1_2.length c1_2, .int .i64 a1_3, .int .u32 a1_4] 43 (0, 0)) (by (with_reducible repeat (first | refine blk_drewN ?_ _ | refine blk_drew ?_ | refine blk_alloc ?_ _)); exact BK200.out) hg (Kd.S_ne HO_203002.out BK200.out (by decide))); have n2_ := Aside0.mk (blk_grown (g := gb201) (o := .cells #[.int .i64 0, .int .i64 0, .slice none 0 0, .int .i64 0, .int .u32 0] 43 (0, 0)) (by (with_reducible repeat (first | refine blk_drewN ?_ _ | refine blk_drew ?_ | refine blk_alloc ?_ _)); exact BK201.out) hg (Kd.S_ne HO_203002.out BK201.out (by decide))); have n3_ := Aside0.mk (blk_grown (g := gb202) (o := .cells #[.int .i64 (wrap64 (a0_0 * a1_0)), .int .i64 a0_1, u203002, .int .i64 (wrap64 ((wrap64 (a0_5 * a1_0)) + a1_3)), .int .u32 x203004_1] 43 (0, 0)) (by (with_reducible repeat (first | refine blk_drewN ?_ _ | refine blk_drew ?_ | refine blk_alloc ?_ _)); exact BK202.out) hg (Kd.S_ne HO_203002.out BK202.out (by decide))); have n4_ := Aside0.mk (hb); have n5_ := Aside0.mk (ho); clear BK199; clear BK200; clear BK201; clear BK202; clear HB; clear HO_203002; clear HO_7; have BK199 := n0_; have BK200 := n1_; have BK201 := n2_; have BK202 := n3_; have HB := n4_; have HO213 := n5_; clear n0_ n1_ n2_ n3_ n4_ n5_; clear ho hb hg hat; obtain ⟨Ao69, co69, eo69⟩ := Kd.S_slice HO213.out; subst eo69; have hcz70_0 : w67.cell? ⟨gb202, 0, none⟩ = some (.int .i64 (wrap64 (a0_0 * a1_0))) := (blk_cell BK202.out 0).trans rfl; have hcz70_1 : w67.cell? ⟨gb202, 1, none⟩ = some (.int .i64 a0_1) := (blk_cell BK202.out 1).trans rfl; have hcz70_2 : w67.cell? ⟨gb202, 2, none⟩ = some (u203002) := (blk_cell BK202.out 2).trans rfl; have hcz70_3 : w67.cell? ⟨gb202, 3, none⟩ = some (.int .i64 (wrap64 ((wrap64 (a0_5 * a1_0)) + a1_3))) := (blk_cell BK202.out 3).trans rfl; have hcz70_4 : w67.cell? ⟨gb202, 4, none⟩ = some (.int .u32 x203004_1) := (blk_cell BK202.out 4).trans rfl; have hfz70_0 := blk_frozen BK202.out 0; have hfz70_1 := blk_frozen BK202.out 1; have hfz70_2 := blk_frozen BK202.out 2; have hfz70_3 := blk_frozen BK202.out 3; have hfz70_4 := blk_frozen BK202.out 4))
              (have n0_ : Aside0 (Kd.S (Kd.slice 3 (Kd.int .i64)) 26 (w67.setCell ⟨gb202, 2, none⟩ (.slice Ao69 y211.length co69)) w.heap.size (fun _ => True) (.slice Ao69 y211.length co69) y211) := ⟨by (with_reducible repeat (first | apply Kd.S_alloc | apply Kd.S_drewN | apply Kd.S_drew)); exact Kd.S_mono (Kd.S_far (p := ⟨gb202, 2, none⟩) (Kd.S_types HO213.out BK202.out (by decide)) (fun _ hk => hk.2) (.slice Ao69 y211.length co69)) (fun _ hk => trivial)⟩); (have n1_ : Aside0 ((w67.setCell ⟨gb202, 2, none⟩ (.slice Ao69 y211.length co69)).heap[gb199]? = some (.cells #[.int .i64 a0_0, .int .i64 a0_1, .int .i64 a0_2, .slice A0_3 l0_3.length c0_3, .slice A0_4 l0_4.length c0_4, .int .i64 a0_5] 25 (0, 0))) := ⟨by (with_reducible repeat (first | refine blk_drewN ?_ _ | refine blk_drew ?_ | refine blk_alloc ?_ _)); refine blk_far ?_ NB199_202.out _; (with_reducible repeat (first | refine blk_drewN ?_ _ | refine blk_drew ?_ | refine blk_alloc ?_ _)); exact BK199.out⟩); (have n2_ : Aside0 ((w67.setCell ⟨gb202, 2, none⟩ (.slice Ao69 y211.length co69)).heap[gb200]? = some (.cells #[.int .i64 a1_0, .int .i64 a1_1, .slice A1_2 l1_2.length c1_2, .int .i64 a1_3, .int .u32 a1_4] 43 (0, 0))) := ⟨by (with_reducible repeat (first | refine blk_drewN ?_ _ | refine blk_drew ?_ | refine blk_alloc ?_ _)); refine blk_far ?_ NB200_202.out _; (with_reducible repeat (first | refine blk_drewN ?_ _ | refine blk_drew ?_ | refine blk_alloc ?_ _)); exact BK200.out⟩); (have n3_ : Aside0 ((w67.setCell ⟨gb202, 2, none⟩ (.slice Ao69 y211.length co69)).heap[gb201]? = some (.cells #[.int .i64 0, .int .i64 0, .slice none 0 0, .int .i64 0, .int .u32 0] 43 (0, 0))) := ⟨by (with_reducible repeat (first | refine blk_drewN ?_ _ | refine blk_drew ?_ | refine blk_alloc ?_ _)); refine blk_far ?_ NB201_202.out _; (with_reducible repeat (first | refine blk_drewN ?_ _ | refine blk_drew ?_ | refine blk_alloc ?_ _)); exact BK201.out⟩)
              (have n4_ : Aside0 ((w67.setCell ⟨gb202, 2, none⟩ (.slice Ao69 y211.length co69)).heap[gb202]? = some (.cells #[.int .i64 (wrap64 (a0_0 * a1_0)), .int .i64 a0_1, .slice Ao69 y211.length co69, .int .i64 (wrap64 ((wrap64 (a0_5 * a1_0)) + a1_3)), .int .u32 x203004_1] 43 (0, 0))) := ⟨by (with_reducible repeat (first | refine blk_drewN ?_ _ | refine blk_drew ?_ | refine blk_alloc ?_ _)); refine blk_put (cs := #[.int .i64 (wrap64 (a0_0 * a1_0)), .int .i64 a0_1, u203002, .int .i64 (wrap64 ((wrap64 (a0_5 * a1_0)) + a1_3)), .int .u32 x203004_1]) ?_ 2 _ rfl; (with_reducible repeat (first | refine blk_drewN ?_ _ | refine blk_drew ?_ | refine blk_alloc ?_ _)); exact BK202.out⟩); (have n5_ : Aside0 (Below w.heap.size w (w67.setCell ⟨gb202, 2, none⟩ (.slice Ao69 y211.length co69))) := ⟨by repeat (first | (with_reducible first | exact HB.out | apply below_alloc | apply pw_below_drewN | apply below_drew1 | refine below_set ?_ GE199.out | refine below_set ?_ GE200.out | refine below_set ?_ GE201.out | refine below_set ?_ GE202.out) | exact HB.out)⟩); ((try clear HO213)); ((try clear BK199)); ((try clear BK200)); ((try clear BK201)); ((try clear BK202)); ((try clear HB)); (generalize (w67.setCell ⟨gb202, 2, none⟩ (.slice Ao69 y211.length co69)) = w71 at n0_ n1_ n2_ n3_ n4_ n5_ ⊢); (have HO213 := n0_); (have BK199 := n1_); (have BK200 := n2_); (have BK201 := n3_); (have BK202 := n4_); (have HB := n5_); (clear n0_ n1_ n2_ n3_ n4_ n5_); (have n0_ := Aside0.mk (Kd.S_drew HO213.out)); (have n1_ := Aside0.mk (blk_drew BK199.out)); (have n2_ := Aside0.mk (blk_drew BK200.out))
              (have n3_ := Aside0.mk (blk_drew BK201.out)); (have n4_ := Aside0.mk (blk_drew BK202.out)); (have n5_ := Aside0.mk (below_drew1 HB.out)); (clear HO213); (clear BK199); (clear BK200); (clear BK201); (clear BK202); (clear HB); (have HO213 := n0_); (have BK199 := n1_); (have BK200 := n2_); (have BK201 := n3_); (have BK202 := n4_); (have HB := n5_); (clear n0_ n1_ n2_ n3_ n4_ n5_)
              refine start_ (n := 7) (S := fun w' => w'.cell? ⟨gb200, 0, none⟩ = some (.int .i64 a1_0) ∧ w'.cell? ⟨gb200, 1, none⟩ = some (.int .i64 a1_1) ∧ w'.cell? ⟨gb200, 2, none⟩ = some (.slice A1_2 l1_2.length c1_2) ∧ w'.cell? ⟨gb200, 3, none⟩ = some (.int .i64 a1_3) ∧ w'.cell? ⟨gb200, 4, none⟩ = some (.int .u32 a1_4)) (ds := []) #[false, false, false, false, false, false, false] (by kernel_rfl) rfl rfl ⟨(blk_cell BK200.out 0).trans rfl, (blk_cell BK200.out 1).trans rfl, (blk_cell BK200.out 2).trans rfl, (blk_cell BK200.out 3).trans rfl, (blk_cell BK200.out 4).trans rfl⟩ (fun hHeld => ?_)
              generalize w71.drew = w72 at HO213 BK199 BK200 BK201 BK202 HB hHeld ⊢
              refine pure_ (i := 0) (N := some 78) (v := ?_) (a' := ?_) #[true, false, false, false, false, false, false] rfl rfl (by kernel_rfl) (fun _ _ _ h => h) (Or.inl ⟨by rfl, ?_⟩) ?_ ?_
              rotate_left
              · intro w'
                go_simp
                with_reducible rfl
              rotate_left
              · simp only [Act.put, List.setIfInBounds_toArray, List.set_cons_zero, List.set_cons_succ, i64_w, i32_w]
                rfl
              refine pure_ (i := 2) (N := some 80) (v := ?_) (a' := ?_) #[true, false, true, false, false, false, false] rfl rfl (by kernel_rfl) (fun _ _ _ h => h) (Or.inl ⟨by rfl, ?_⟩) ?_ ?_
              rotate_left
              · intro w'
                go_simp
                with_reducible rfl
              rotate_left
              · simp only [Act.put, List.setIfInBounds_toArray, List.set_cons_zero, List.set_cons_succ, i64_w, i32_w]
                rfl
              refine pure_ (i := 3) (N := some 81) (v := ?_) (a' := ?_) #[true, false, true, true, false, false, false] rfl rfl (by kernel_rfl) (fun _ _ _ h => h) (Or.inl ⟨by rfl, ?_⟩) ?_ ?_
              rotate_left
              · intro w'
                go_simp
                with_reducible rfl
              rotate_left
              · simp only [Act.put, List.setIfInBounds_toArray, List.set_cons_zero, List.set_cons_succ, i64_w, i32_w]
                rfl
              refine take_ (i := 1) (N := some 79) (v := ?_) (a' := ?_) #[true, true, true, true, false, false, false] rfl rfl (by kernel_rfl) (fun _ _ _ h => h) (Or.inl ⟨by rfl, ?_⟩) hHeld ?_ ?_
              rotate_left
              · rintro w' ⟨s0, s1, s2, s3, s4⟩
                go_simp
                with_reducible rfl
              rotate_left
              · simp only [Act.put, List.setIfInBounds_toArray, List.set_cons_zero, List.set_cons_succ, i64_w, i32_w]
                rfl
              refine take_ (i := 4) (N := some 82) (v := ?_) (a' := ?_) #[true, true, true, true, true, false, false] rfl rfl (by kernel_rfl) (fun _ _ _ h => h) (Or.inl ⟨by rfl, ?_⟩) hHeld ?_ ?_
              rotate_left
              · rintro w' ⟨s0, s1, s2, s3, s4⟩
                go_simp
                with_reducible rfl
              rotate_left
              · simp only [Act.put, List.setIfInBounds_toArray, List.set_cons_zero, List.set_cons_succ, i64_w, i32_w]
                rfl
              refine pure_ (i := 5) (N := some 83) (v := ?_) (a' := ?_) #[true, true, true, true, true, true, false] rfl rfl (by kernel_rfl) (fun _ _ _ h => h) (Or.inl ⟨by rfl, ?_⟩) ?_ ?_
              rotate_left
              · intro w'
                go_simp
                with_reducible rfl
              rotate_left
              · simp only [Act.put, List.setIfInBounds_toArray, List.set_cons_zero, List.set_cons_succ, i64_w, i32_w]
                rfl
              refine one_ (i := 6) (N := some 84) #[true, true, true, true, true, true, true] rfl rfl (by kernel_rfl) (by decide) (fun K hK => ?_)
              refine goes_ Try.func47 (by kernel_rfl) rfl #[.int .u32 a1_4, .int .i64 (Int.tmod x6_1 a1_0)] (by rfl) rfl rfl (by (try simp only [List.map_toArray, List.map_cons, List.map_nil]); first | done | rfl | (simp only [List.length_drop, List.length_take]; rfl)) ?_
              with_reducible refine (coppicerref_Bit.calls a1_4 (Int.tmod x6_1 a1_0) false _ A41.out).mono ?_
              rintro e w' ⟨rfl, ⟨nd, rfl⟩⟩
              refine ⟨_, rfl, ?_⟩
              refine hK.out _ _ ⟨(blk_cell BK200.out 0).trans rfl, (blk_cell BK200.out 1).trans rfl, (blk_cell BK200.out 2).trans rfl, (blk_cell BK200.out 3).trans rfl, (blk_cell BK200.out 4).trans rfl⟩ (fun hHeld => ?_)
              clear hK K
              refine norm_ (a' := ?_) ?_ ?_
              rotate_left
              · show Act.put _ (some 84) _ = _
                simp only [Act.put, List.setIfInBounds_toArray, List.set_cons_zero, List.set_cons_succ, i64_w, i32_w]
                rfl
              refine done_ (by kernel_rfl) ?_
              try go_wp2
              go_roundg k2
              case measure => have := HK1.out; have := HK2.out; omega
              case rel => exact ⟨(wrap64 (x6_1 + 1)), (y211), (x203004_1), (.slice Ao69 y211.length co69), (by first | rfl | (simp; done) | (simp [*]; done)), H', ⟨by have := HK1.out; have := HK2.out; omega⟩, ⟨by (with_reducible repeat (first | apply Kd.S_alloc | apply Kd.S_drewN | apply Kd.S_drew)); exact HO213.out⟩, ⟨by (with_reducible repeat (first | refine blk_drewN ?_ _ | refine blk_drew ?_ | refine blk_alloc ?_ _)); exact BK199.out⟩, ⟨by (with_reducible repeat (first | refine blk_drewN ?_ _ | refine blk_drew ?_ | refine blk_alloc ?_ _)); exact BK200.out⟩, ⟨by (with_reducible repeat (first | refine blk_drewN ?_ _ | refine blk_drew ?_ | refine blk_alloc ?_ _)); exact BK201.out⟩, ⟨by (with_reducible repeat (first | refine blk_drewN ?_ _ | refine blk_drew ?_ | refine blk_alloc ?_ _)); exact BK202.out⟩, ⟨by repeat (first | (with_reducible first | exact HB.out | apply below_alloc | apply pw_below_drewN | apply below_drew1 | refine below_set ?_ GE199.out | refine below_set ?_ GE200.out | refine below_set ?_ GE201.out | refine below_set ?_ GE202.out) | exact HB.out)⟩⟩
            (subst c42); (have H1 : (if 0 ≤ (IntKind.u64.wrap (x6_1)) then (coppicerref_Before.l0 k2 (wrap64 (x6_1 + 1)) a0_0 a0_1 a0_2 l0_3 l0_4 a0_5 a1_0 a1_1 l1_2 a1_3 a1_4 (wrap64 (a0_0 * a1_0)) a0_1 y211 (wrap64 ((wrap64 (a0_5 * a1_0)) + a1_3)) ((x203004_1 + (shl .u32 1 (IntKind.u64.wrap (x6_1)))) % 4294967296)) else (none)) = some (r1, r2, r3, r4, r5) := by rw [if_pos rfl] at H; exact H); (clear H); (have H := H1); (clear H1); (obtain ⟨ji43, hji43⟩ : ∃ j_ : Int, (IntKind.u64.wrap (x6_1)) = j_ := ⟨_, rfl⟩); (replace H : (if 0 ≤ (ji43) then (coppicerref_Before.l0 k2 (wrap64 (x6_1 + 1)) a0_0 a0_1 a0_2 l0_3 l0_4 a0_5 a1_0 a1_1 l1_2 a1_3 a1_4 (wrap64 (a0_0 * a1_0)) a0_1 y211 (wrap64 ((wrap64 (a0_5 * a1_0)) + a1_3)) ((x203004_1 + (shl .u32 1 (ji43))) % 4294967296)) else (none)) = some (r1, r2, r3, r4, r5) := by first | (rw [hji43] at H; exact H) | (simp only [hji43] at H ⊢; exact H)); ((try rw [hji43] at A41))
            by_cases c44 : 0 ≤ (ji43)
            rotate_left
            · rw [if_neg c44] at H
              exact absurd H (by simp)
            (rw [if_pos c44] at H); (have c44b0 := eq_true c44); (have c44b1 : decide (0 ≤ (ji43)) = true := decide_eq_true c44); (clear c44); (obtain ⟨ji45, hji45⟩ : ∃ j_ : Int, (shl .u32 1 (ji43)) = j_ := ⟨_, rfl⟩); (replace H : (coppicerref_Before.l0 k2 (wrap64 (x6_1 + 1)) a0_0 a0_1 a0_2 l0_3 l0_4 a0_5 a1_0 a1_1 l1_2 a1_3 a1_4 (wrap64 (a0_0 * a1_0)) a0_1 y211 (wrap64 ((wrap64 (a0_5 * a1_0)) + a1_3)) ((x203004_1 + (ji45)) % 4294967296)) = some (r1, r2, r3, r4, r5) := by first | (rw [hji45] at H; exact H) | (simp only [hji45] at H ⊢; exact H)); ((try rw [hji45] at A41)); (have hji45_ : (IntKind.u32.wrap (1 * 2 ^ min (ji43).toNat 32)) = ji45 := hji45); (have hji45z : (ji43) ≤ 32 → (IntKind.u32.wrap (1 * 2 ^ (ji43).toNat)) = ji45 := shl_small hji45); (have hji45u : (IntKind.u32.wrap (2 ^ min (ji43).toNat 32)) = ji45 := by have h_ := hji45_; rw [Int.one_mul] at h_; exact h_); (have hji45v : (ji43) ≤ 32 → (IntKind.u32.wrap (2 ^ (ji43).toNat)) = ji45 := fun hle_ => by have h_ := hji45z hle_; rw [Int.one_mul] at h_; exact h_); (have H' := Aside0.mk H); (clear H); (have hnb46 := NB199_200.out); (have hnc46 := NB200_199.out); (have hnb47 := NB199_201.out); (have hnc47 := NB201_199.out); (have hnb48 := NB199_202.out); (have hnc48 := NB202_199.out); (have hcz49_0 : wr.cell? ⟨gb199, 0, none⟩ = some (.int .i64 a0_0) := (blk_cell BK199.out 0).trans rfl); (have hcz49_1 : wr.cell? ⟨gb199, 1, none⟩ = some (.int .i64 a0_1) := (blk_cell BK199.out 1).trans rfl); (have hcz49_2 : wr.cell? ⟨gb199, 2, none⟩ = some (.int .i64 a0_2) := (blk_cell BK199.out 2).trans rfl); (have hcz49_3 : wr.cell? ⟨gb199, 3, none⟩ = some (.slice A0_3 l0_3.length c0_3) := (blk_cell BK199.out 3).trans rfl)
            (have hcz49_4 : wr.cell? ⟨gb199, 4, none⟩ = some (.slice A0_4 l0_4.length c0_4) := (blk_cell BK199.out 4).trans rfl); (have hcz49_5 : wr.cell? ⟨gb199, 5, none⟩ = some (.int .i64 a0_5) := (blk_cell BK199.out 5).trans rfl); (have hfz49_0 := blk_frozen BK199.out 0); (have hfz49_1 := blk_frozen BK199.out 1); (have hfz49_2 := blk_frozen BK199.out 2); (have hfz49_3 := blk_frozen BK199.out 3); (have hfz49_4 := blk_frozen BK199.out 4); (have hfz49_5 := blk_frozen BK199.out 5); (have hnb50 := NB202_200.out); (have hnc50 := NB200_202.out); (have hnb51 := NB202_201.out); (have hnc51 := NB201_202.out); (have hcz52_0 : wr.cell? ⟨gb202, 0, none⟩ = some (.int .i64 (wrap64 (a0_0 * a1_0))) := (blk_cell BK202.out 0).trans rfl); (have hcz52_1 : wr.cell? ⟨gb202, 1, none⟩ = some (.int .i64 a0_1) := (blk_cell BK202.out 1).trans rfl); (have hcz52_2 : wr.cell? ⟨gb202, 2, none⟩ = some (u203002) := (blk_cell BK202.out 2).trans rfl); (have hcz52_3 : wr.cell? ⟨gb202, 3, none⟩ = some (.int .i64 (wrap64 ((wrap64 (a0_5 * a1_0)) + a1_3))) := (blk_cell BK202.out 3).trans rfl); (have hcz52_4 : wr.cell? ⟨gb202, 4, none⟩ = some (.int .u32 x203004_1) := (blk_cell BK202.out 4).trans rfl); (have hfz52_0 := blk_frozen BK202.out 0); (have hfz52_1 := blk_frozen BK202.out 1); (have hfz52_2 := blk_frozen BK202.out 2); (have hfz52_3 := blk_frozen BK202.out 3); (have hfz52_4 := blk_frozen BK202.out 4); (obtain ⟨Ao54, co54, eo54⟩ := Kd.R_slice HO_7.out); (subst eo54)
            try go_wp2_with (first | ((with_reducible refine gate_builtin (b := .append) (xs := #[.tmp 73, .tmp 75]) rfl ?_); at_builtin; refine Kd.S_append (Kd.slice 3 (Kd.int .i64)) (w0 := w) w.heap.size rfl (.tmp 73) (.tmp 75) 22 26 (.slice none 0 0) 24 rfl Try.underlying22 info26 rfl (by decide) (by omega) u203002 x203002_1 x7_2 [.slice Ao54 x7_2.length co54] (fun _ => True) (fun k_ => some k_ = (.slice Ao54 x7_2.length co54 : Value).ownBlock) rfl rfl ?aP (fun k_ hk_ => ((Kd.R_mono (ok' := fun k_ => ((fun _ => True)) k_ ∧ some k_ ≠ (u203002 : Value).ownBlock) (Kd.R_apart' (HO_7.out) (Kd.S_typed HO_203002.out) (by decide)) (fun k_ hk => ⟨trivial, hk.2⟩))).1 k_ hk_.symm) ?aF ?aO ?aB ?aS ?aL ?_; (case aP => exact Kd.M_row (Kd.R_mono (Kd.R_tight rfl (Kd.R_mono (ok' := fun k_ => ((fun _ => True)) k_ ∧ some k_ ≠ (u203002 : Value).ownBlock) (Kd.R_apart' (HO_7.out) (Kd.S_typed HO_203002.out) (by decide)) (fun k_ hk => ⟨trivial, hk.2⟩))) (fun _ h_ => h_))); (case aB => exact (by repeat (first | (with_reducible first | exact HB.out | apply below_alloc | apply pw_below_drewN | apply below_drew1 | refine below_set ?_ GE199.out | refine below_set ?_ GE200.out | refine below_set ?_ GE201.out | refine below_set ?_ GE202.out) | exact HB.out))); (case aF => exact (fun _ _ => trivial)); (case aO => exact (by (with_reducible repeat (first | apply Kd.S_alloc | apply Kd.S_drewN | apply Kd.S_drew)); exact Kd.S_mono HO_203002.out (fun k_ hk => ⟨trivial, fun e_ => hk e_⟩))); (case aS => exact (below_size (by repeat (first | (with_reducible first | exact HB.out | apply below_alloc | apply pw_below_drewN | apply below_drew1 | refine below_set ?_ GE199.out | refine below_set ?_ GE200.out | refine below_set ?_ GE201.out | refine below_set ?_ GE202.out) | exact HB.out)))); (case aL => have := LMc39.out; omega); intro v212 w53 ho hb hg hat; rw [← Ny211.out] at ho; have n0_ := Aside0.mk (blk_grown (g := gb199) (o := .cells #[.int .i64 a0_0, .int .i64 a0_1, .int .i64 a0_2, .slice A0_3 l0_3.length c0_3, .slice A0_4 l0_4.length c0_4, .int .i64 a0_5] 25 (0, 0)) (by (with_reducible repeat (first | refine blk_drewN ?_ _ | refine blk_drew ?_ | refine blk_alloc ?_ _)); exact BK199.out) hg (Kd.S_ne HO_203002.out BK199.out (by decide))); have n1_ := Aside0.mk (blk_grown (g := gb200) (o := .cells #[.int .i64 a1_0, .int .i64 a1_1, .slice A1_2 l1_2.length c1_2, .int .i64 a1_3, .int .u32 a1_4] 43 (0, 0)) (by (with_reducible repeat (first | refine blk_drewN ?_ _ | refine blk_drew ?_ | refine blk_alloc ?_ _)); exact BK200.out) hg (Kd.S_ne HO_203002.out BK200.out (by decide))); have n2_ := Aside0.mk (blk_grown (g := gb201) (o := .cells #[.int .i64 0, .int .i64 0, .slice none 0 0, .int .i64 0, .int .u32 0] 43 (0, 0)) (by (with_reducible repeat (first | refine blk_drewN ?_ _ | refine blk_drew ?_ | refine blk_alloc ?_ _)); exact BK201.out) hg (Kd.S_ne HO_203002.out BK201.out (by decide))); have n3_ := Aside0.mk (blk_grown (g := gb202) (o := .cells #[.int .i64 (wrap64 (a0_0 * a1_0)), .int .i64 a0_1, u203002, .int .i64 (wrap64 ((wrap64 (a0_5 * a1_0)) + a1_3)), .int .u32 x203004_1] 43 (0, 0)) (by (with_reducible repeat (first | refine blk_drewN ?_ _ | refine blk_drew ?_ | refine blk_alloc ?_ _)); exact BK202.out) hg (Kd.S_ne HO_203002.out BK202.out (by decide))); have n4_ := Aside0.mk (hb); have n5_ := Aside0.mk (ho); clear BK199; clear BK200; clear BK201; clear BK202; clear HB; clear HO_203002; clear HO_7; have BK199 := n0_; have BK200 := n1_; have BK201 := n2_; have BK202 := n3_; have HB := n4_; have HO213 := n5_; clear n0_ n1_ n2_ n3_ n4_ n5_; clear ho hb hg hat; obtain ⟨Ao55, co55, eo55⟩ := Kd.S_slice HO213.out; subst eo55; have hcz56_0 : w53.cell? ⟨gb202, 0, none⟩ = some (.int .i64 (wrap64 (a0_0 * a1_0))) := (blk_cell BK202.out 0).trans rfl; have hcz56_1 : w53.cell? ⟨gb202, 1, none⟩ = some (.int .i64 a0_1) := (blk_cell BK202.out 1).trans rfl; have hcz56_2 : w53.cell? ⟨gb202, 2, none⟩ = some (u203002) := (blk_cell BK202.out 2).trans rfl; have hcz56_3 : w53.cell? ⟨gb202, 3, none⟩ = some (.int .i64 (wrap64 ((wrap64 (a0_5 * a1_0)) + a1_3))) := (blk_cell BK202.out 3).trans rfl; have hcz56_4 : w53.cell? ⟨gb202, 4, none⟩ = some (.int .u32 x203004_1) := (blk_cell BK202.out 4).trans rfl; have hfz56_0 := blk_frozen BK202.out 0; have hfz56_1 := blk_frozen BK202.out 1; have hfz56_2 := blk_frozen BK202.out 2; have hfz56_3 := blk_frozen BK202.out 3; have hfz56_4 := blk_frozen BK202.out 4))
            (have n0_ : Aside0 (Kd.S (Kd.slice 3 (Kd.int .i64)) 26 (w53.setCell ⟨gb202, 2, none⟩ (.slice Ao55 y211.length co55)) w.heap.size (fun _ => True) (.slice Ao55 y211.length co55) y211) := ⟨by (with_reducible repeat (first | apply Kd.S_alloc | apply Kd.S_drewN | apply Kd.S_drew)); exact Kd.S_mono (Kd.S_far (p := ⟨gb202, 2, none⟩) (Kd.S_types HO213.out BK202.out (by decide)) (fun _ hk => hk.2) (.slice Ao55 y211.length co55)) (fun _ hk => trivial)⟩); (have n1_ : Aside0 ((w53.setCell ⟨gb202, 2, none⟩ (.slice Ao55 y211.length co55)).heap[gb199]? = some (.cells #[.int .i64 a0_0, .int .i64 a0_1, .int .i64 a0_2, .slice A0_3 l0_3.length c0_3, .slice A0_4 l0_4.length c0_4, .int .i64 a0_5] 25 (0, 0))) := ⟨by (with_reducible repeat (first | refine blk_drewN ?_ _ | refine blk_drew ?_ | refine blk_alloc ?_ _)); refine blk_far ?_ NB199_202.out _; (with_reducible repeat (first | refine blk_drewN ?_ _ | refine blk_drew ?_ | refine blk_alloc ?_ _)); exact BK199.out⟩); (have n2_ : Aside0 ((w53.setCell ⟨gb202, 2, none⟩ (.slice Ao55 y211.length co55)).heap[gb200]? = some (.cells #[.int .i64 a1_0, .int .i64 a1_1, .slice A1_2 l1_2.length c1_2, .int .i64 a1_3, .int .u32 a1_4] 43 (0, 0))) := ⟨by (with_reducible repeat (first | refine blk_drewN ?_ _ | refine blk_drew ?_ | refine blk_alloc ?_ _)); refine blk_far ?_ NB200_202.out _; (with_reducible repeat (first | refine blk_drewN ?_ _ | refine blk_drew ?_ | refine blk_alloc ?_ _)); exact BK200.out⟩); (have n3_ : Aside0 ((w53.setCell ⟨gb202, 2, none⟩ (.slice Ao55 y211.length co55)).heap[gb201]? = some (.cells #[.int .i64 0, .int .i64 0, .slice none 0 0, .int .i64 0, .int .u32 0] 43 (0, 0))) := ⟨by (with_reducible repeat (first | refine blk_drewN ?_ _ | refine blk_drew ?_ | refine blk_alloc ?_ _)); refine blk_far ?_ NB201_202.out _; (with_reducible repeat (first | refine blk_drewN ?_ _ | refine blk_drew ?_ | refine blk_alloc ?_ _)); exact BK201.out⟩)
            (have n4_ : Aside0 ((w53.setCell ⟨gb202, 2, none⟩ (.slice Ao55 y211.length co55)).heap[gb202]? = some (.cells #[.int .i64 (wrap64 (a0_0 * a1_0)), .int .i64 a0_1, .slice Ao55 y211.length co55, .int .i64 (wrap64 ((wrap64 (a0_5 * a1_0)) + a1_3)), .int .u32 x203004_1] 43 (0, 0))) := ⟨by (with_reducible repeat (first | refine blk_drewN ?_ _ | refine blk_drew ?_ | refine blk_alloc ?_ _)); refine blk_put (cs := #[.int .i64 (wrap64 (a0_0 * a1_0)), .int .i64 a0_1, u203002, .int .i64 (wrap64 ((wrap64 (a0_5 * a1_0)) + a1_3)), .int .u32 x203004_1]) ?_ 2 _ rfl; (with_reducible repeat (first | refine blk_drewN ?_ _ | refine blk_drew ?_ | refine blk_alloc ?_ _)); exact BK202.out⟩); (have n5_ : Aside0 (Below w.heap.size w (w53.setCell ⟨gb202, 2, none⟩ (.slice Ao55 y211.length co55))) := ⟨by repeat (first | (with_reducible first | exact HB.out | apply below_alloc | apply pw_below_drewN | apply below_drew1 | refine below_set ?_ GE199.out | refine below_set ?_ GE200.out | refine below_set ?_ GE201.out | refine below_set ?_ GE202.out) | exact HB.out)⟩); ((try clear HO213)); ((try clear BK199)); ((try clear BK200)); ((try clear BK201)); ((try clear BK202)); ((try clear HB)); (generalize (w53.setCell ⟨gb202, 2, none⟩ (.slice Ao55 y211.length co55)) = w57 at n0_ n1_ n2_ n3_ n4_ n5_ ⊢); (have HO213 := n0_); (have BK199 := n1_); (have BK200 := n2_); (have BK201 := n3_); (have BK202 := n4_); (have HB := n5_); (clear n0_ n1_ n2_ n3_ n4_ n5_); (have n0_ := Aside0.mk (Kd.S_drew HO213.out)); (have n1_ := Aside0.mk (blk_drew BK199.out)); (have n2_ := Aside0.mk (blk_drew BK200.out))
            (have n3_ := Aside0.mk (blk_drew BK201.out)); (have n4_ := Aside0.mk (blk_drew BK202.out)); (have n5_ := Aside0.mk (below_drew1 HB.out)); (clear HO213); (clear BK199); (clear BK200); (clear BK201); (clear BK202); (clear HB); (have HO213 := n0_); (have BK199 := n1_); (have BK200 := n2_); (have BK201 := n3_); (have BK202 := n4_); (have HB := n5_); (clear n0_ n1_ n2_ n3_ n4_ n5_)
            refine start_ (n := 7) (S := fun w' => w'.cell? ⟨gb200, 0, none⟩ = some (.int .i64 a1_0) ∧ w'.cell? ⟨gb200, 1, none⟩ = some (.int .i64 a1_1) ∧ w'.cell? ⟨gb200, 2, none⟩ = some (.slice A1_2 l1_2.length c1_2) ∧ w'.cell? ⟨gb200, 3, none⟩ = some (.int .i64 a1_3) ∧ w'.cell? ⟨gb200, 4, none⟩ = some (.int .u32 a1_4)) (ds := []) #[false, false, false, false, false, false, false] (by kernel_rfl) rfl rfl ⟨(blk_cell BK200.out 0).trans rfl, (blk_cell BK200.out 1).trans rfl, (blk_cell BK200.out 2).trans rfl, (blk_cell BK200.out 3).trans rfl, (blk_cell BK200.out 4).trans rfl⟩ (fun hHeld => ?_)
            generalize w57.drew = w58 at HO213 BK199 BK200 BK201 BK202 HB hHeld ⊢
            refine pure_ (i := 0) (N := some 78) (v := ?_) (a' := ?_) #[true, false, false, false, false, false, false] rfl rfl (by kernel_rfl) (fun _ _ _ h => h) (Or.inl ⟨by rfl, ?_⟩) ?_ ?_
            rotate_left
            · intro w'
              go_simp
              with_reducible rfl
            rotate_left
            · simp only [Act.put, List.setIfInBounds_toArray, List.set_cons_zero, List.set_cons_succ, i64_w, i32_w]
              rfl
            refine pure_ (i := 2) (N := some 80) (v := ?_) (a' := ?_) #[true, false, true, false, false, false, false] rfl rfl (by kernel_rfl) (fun _ _ _ h => h) (Or.inl ⟨by rfl, ?_⟩) ?_ ?_
            rotate_left
            · intro w'
              go_simp
              with_reducible rfl
            rotate_left
            · simp only [Act.put, List.setIfInBounds_toArray, List.set_cons_zero, List.set_cons_succ, i64_w, i32_w]
              rfl
            refine pure_ (i := 3) (N := some 81) (v := ?_) (a' := ?_) #[true, false, true, true, false, false, false] rfl rfl (by kernel_rfl) (fun _ _ _ h => h) (Or.inl ⟨by rfl, ?_⟩) ?_ ?_
            rotate_left
            · intro w'
              go_simp
              with_reducible rfl
            rotate_left
            · simp only [Act.put, List.setIfInBounds_toArray, List.set_cons_zero, List.set_cons_succ, i64_w, i32_w]
              rfl
            refine take_ (i := 1) (N := some 79) (v := ?_) (a' := ?_) #[true, true, true, true, false, false, false] rfl rfl (by kernel_rfl) (fun _ _ _ h => h) (Or.inl ⟨by rfl, ?_⟩) hHeld ?_ ?_
            rotate_left
            · rintro w' ⟨s0, s1, s2, s3, s4⟩
              go_simp
              with_reducible rfl
            rotate_left
            · simp only [Act.put, List.setIfInBounds_toArray, List.set_cons_zero, List.set_cons_succ, i64_w, i32_w]
              rfl
            refine take_ (i := 4) (N := some 82) (v := ?_) (a' := ?_) #[true, true, true, true, true, false, false] rfl rfl (by kernel_rfl) (fun _ _ _ h => h) (Or.inl ⟨by rfl, ?_⟩) hHeld ?_ ?_
            rotate_left
            · rintro w' ⟨s0, s1, s2, s3, s4⟩
              go_simp
              with_reducible rfl
            rotate_left
            · simp only [Act.put, List.setIfInBounds_toArray, List.set_cons_zero, List.set_cons_succ, i64_w, i32_w]
              rfl
            refine pure_ (i := 5) (N := some 83) (v := ?_) (a' := ?_) #[true, true, true, true, true, true, false] rfl rfl (by kernel_rfl) (fun _ _ _ h => h) (Or.inl ⟨by rfl, ?_⟩) ?_ ?_
            rotate_left
            · intro w'
              go_simp
              with_reducible rfl
            rotate_left
            · simp only [Act.put, List.setIfInBounds_toArray, List.set_cons_zero, List.set_cons_succ, i64_w, i32_w]
              rfl
            refine one_ (i := 6) (N := some 84) #[true, true, true, true, true, true, true] rfl rfl (by kernel_rfl) (by decide) (fun K hK => ?_)
            refine goes_ Try.func47 (by kernel_rfl) rfl #[.int .u32 a1_4, .int .i64 (Int.tmod x6_1 a1_0)] (by rfl) rfl rfl (by (try simp only [List.map_toArray, List.map_cons, List.map_nil]); first | done | rfl | (simp only [List.length_drop, List.length_take]; rfl)) ?_
            with_reducible refine (coppicerref_Bit.calls a1_4 (Int.tmod x6_1 a1_0) true _ A41.out).mono ?_
            rintro e w' ⟨rfl, ⟨nd, rfl⟩⟩
            refine ⟨_, rfl, ?_⟩
            refine hK.out _ _ ⟨(blk_cell BK200.out 0).trans rfl, (blk_cell BK200.out 1).trans rfl, (blk_cell BK200.out 2).trans rfl, (blk_cell BK200.out 3).trans rfl, (blk_cell BK200.out 4).trans rfl⟩ (fun hHeld => ?_)
            clear hK K
            refine norm_ (a' := ?_) ?_ ?_
            rotate_left
            · show Act.put _ (some 84) _ = _
              simp only [Act.put, List.setIfInBounds_toArray, List.set_cons_zero, List.set_cons_succ, i64_w, i32_w]
              rfl
            refine done_ (by kernel_rfl) ?_
            (have hcz59_0 : w58.cell? ⟨gb202, 0, none⟩ = some (.int .i64 (wrap64 (a0_0 * a1_0))) := (blk_cell BK202.out 0).trans rfl); (have hcz59_1 : w58.cell? ⟨gb202, 1, none⟩ = some (.int .i64 a0_1) := (blk_cell BK202.out 1).trans rfl); (have hcz59_2 : w58.cell? ⟨gb202, 2, none⟩ = some (.slice Ao55 y211.length co55) := (blk_cell BK202.out 2).trans rfl); (have hcz59_3 : w58.cell? ⟨gb202, 3, none⟩ = some (.int .i64 (wrap64 ((wrap64 (a0_5 * a1_0)) + a1_3))) := (blk_cell BK202.out 3).trans rfl); (have hcz59_4 : w58.cell? ⟨gb202, 4, none⟩ = some (.int .u32 x203004_1) := (blk_cell BK202.out 4).trans rfl); (have hfz59_0 := blk_frozen BK202.out 0); (have hfz59_1 := blk_frozen BK202.out 1); (have hfz59_2 := blk_frozen BK202.out 2); (have hfz59_3 := blk_frozen BK202.out 3); (have hfz59_4 := blk_frozen BK202.out 4)
            try go_wp2
            (first | go_roundg k2 | (simp only [← hji45]; go_roundg k2) | (simp only [← hji43, ← hji45]; go_roundg k2))
            case measure => have := HK1.out; have := HK2.out; omega
            case rel => exact ⟨(wrap64 (x6_1 + 1)), (y211), ((x203004_1 + (ji45)) % 4294967296), (.slice Ao55 y211.length co55), (by first | rfl | (simp; done) | (simp [*]; done)), H', ⟨by have := HK1.out; have := HK2.out; omega⟩, ⟨by (with_reducible repeat (first | apply Kd.S_alloc | apply Kd.S_drewN | apply Kd.S_drew)); exact Kd.S_mono (Kd.S_far (p := ⟨gb202, 4, none⟩) (Kd.S_types HO213.out BK202.out (by decide)) (fun _ hk => hk.2) (.int .u32 ((x203004_1 + (ji45)) % 4294967296))) (fun _ hk => trivial)⟩, ⟨by (with_reducible repeat (first | refine blk_drewN ?_ _ | refine blk_drew ?_ | refine blk_alloc ?_ _)); refine blk_far ?_ NB199_202.out _; (with_reducible repeat (first | refine blk_drewN ?_ _ | refine blk_drew ?_ | refine blk_alloc ?_ _)); exact BK199.out⟩, ⟨by (with_reducible repeat (first | refine blk_drewN ?_ _ | refine blk_drew ?_ | refine blk_alloc ?_ _)); refine blk_far ?_ NB200_202.out _; (with_reducible repeat (first | refine blk_drewN ?_ _ | refine blk_drew ?_ | refine blk_alloc ?_ _)); exact BK200.out⟩, ⟨by (with_reducible repeat (first | refine blk_drewN ?_ _ | refine blk_drew ?_ | refine blk_alloc ?_ _)); refine blk_far ?_ NB201_202.out _; (with_reducible repeat (first | refine blk_drewN ?_ _ | refine blk_drew ?_ | refine blk_alloc ?_ _)); exact BK201.out⟩, ⟨by (with_reducible repeat (first | refine blk_drewN ?_ _ | refine blk_drew ?_ | refine blk_alloc ?_ _)); refine blk_put (cs := #[.int .i64 (wrap64 (a0_0 * a1_0)), .int .i64 a0_1, .slice Ao55 y211.length co55, .int .i64 (wrap64 ((wrap64 (a0_5 * a1_0)) + a1_3)), .int .u32 x203004_1]) ?_ 4 _ rfl; (with_reducible repeat (first | refine blk_drewN ?_ _ | refine blk_drew ?_ | refine blk_alloc ?_ _)); exact BK202.out⟩, ⟨by repeat (first | (with_reducible first | exact HB.out | apply below_alloc | apply pw_below_drewN | apply below_drew1 | refine below_set ?_ GE199.out | refine below_set ?_ GE200.out | refine below_set ?_ GE201.out | refine below_set ?_ GE202.out) | exact HB.out)⟩⟩
          (rw [if_pos c21] at H); (have c21b0 : decide (x8_2 < a0_1) = true := decide_eq_true c21); (clear c21)
          by_cases c22 : a1_0 = 0
          · rw [if_pos c22] at H
            exact absurd H (by simp)
          (rw [if_neg c22] at H); (have c22b0 : (a1_0 == 0) = false := beq_eq_false_iff_ne.mpr c22); (have c22b1 : (a1_0 != 0) = true := bne_iff_ne.mpr c22); (obtain ⟨ji23, hji23⟩ : ∃ j_ : Int, (wrap64 (Int.tdiv x6_1 a1_0)) = j_ := ⟨_, rfl⟩); (replace H : (if 0 ≤ (ji23) then (if (ji23) < (l0_3.length : Int) then (if 0 ≤ x8_2 then (if x8_2 < ((rd_L1 l0_3 (ji23)).length : Int) then (if (ji23) < (l0_4.length : Int) then (if x8_2 < ((rd_L2 l0_4 (ji23)).length : Int) then ((coppicerref_Leads.f k2 a1_0 a1_1 l1_2 a1_3 a1_4 (Int.tmod x6_1 a1_0) (rd_L1 (rd_L2 l0_4 (ji23)) x8_2)).bind fun t207 => (if x7_2.length < 17592186044416 then (coppicerref_Before.l1 k2 x6_1 (x7_2 ++ [wrap64 ((wrap64 ((rd (rd_L1 l0_3 (ji23)) x8_2) * a1_0)) + t207)]) (wrap64 (x8_2 + 1)) a0_0 a0_1 a0_2 l0_3 l0_4 a0_5 a1_0 a1_1 l1_2 a1_3 a1_4 (wrap64 (a0_0 * a1_0)) a0_1 x203002_1 (wrap64 ((wrap64 (a0_5 * a1_0)) + a1_3)) x203004_1) else (none))) else (none)) else (none)) else (none)) else (none)) else (none)) else (none)) = some (r1, r2, r3, r4, r5) := by first | (rw [hji23] at H; exact H) | (simp only [hji23] at H ⊢; exact H)); (have hji23w : (IntKind.i64.wrap (Int.tdiv x6_1 a1_0)) = ji23 := (i64_w _).trans hji23)
          by_cases c24 : 0 ≤ (ji23)
          rotate_left
          · rw [if_neg c24] at H
            exact absurd H (by simp)
          (rw [if_pos c24] at H); (have c24b0 : decide (0 ≤ (ji23)) = true := decide_eq_true c24); (clear c24)
          by_cases c25 : (ji23) < (l0_3.length : Int)
          rotate_left
          · rw [if_neg c25] at H
            exact absurd H (by simp)
          (rw [if_pos c25] at H); (have c25b0 : decide ((ji23) < (l0_3.length : Int)) = true := decide_eq_true c25); (clear c25)
          by_cases c26 : 0 ≤ x8_2
          rotate_left
          · rw [if_neg c26] at H
            exact absurd H (by simp)
          (rw [if_pos c26] at H); (have c26b0 : decide (0 ≤ x8_2) = true := decide_eq_true c26); (clear c26)
          by_cases c27 : x8_2 < ((rd_L1 l0_3 (ji23)).length : Int)
          rotate_left
          · rw [if_neg c27] at H
            exact absurd H (by simp)
          (rw [if_pos c27] at H); (have c27b0 : decide (x8_2 < ((rd_L1 l0_3 (ji23)).length : Int)) = true := decide_eq_true c27); (clear c27)
          by_cases c28 : (ji23) < (l0_4.length : Int)
          rotate_left
          · rw [if_neg c28] at H
            exact absurd H (by simp)
          (rw [if_pos c28] at H); (have c28b0 : decide ((ji23) < (l0_4.length : Int)) = true := decide_eq_true c28); (clear c28)
          by_cases c29 : x8_2 < ((rd_L2 l0_4 (ji23)).length : Int)
          rotate_left
          · rw [if_neg c29] at H
            exact absurd H (by simp)
          (rw [if_pos c29] at H); (have c29b0 : decide (x8_2 < ((rd_L2 l0_4 (ji23)).length : Int)) = true := decide_eq_true c29); (clear c29); (replace H := Option.bind_eq_some_iff.mp H); (obtain ⟨t207, A300, H⟩ := H); (replace H : (if x7_2.length < 17592186044416 then (coppicerref_Before.l1 k2 x6_1 (x7_2 ++ [wrap64 ((wrap64 ((rd (rd_L1 l0_3 (ji23)) x8_2) * a1_0)) + t207)]) (wrap64 (x8_2 + 1)) a0_0 a0_1 a0_2 l0_3 l0_4 a0_5 a1_0 a1_1 l1_2 a1_3 a1_4 (wrap64 (a0_0 * a1_0)) a0_1 x203002_1 (wrap64 ((wrap64 (a0_5 * a1_0)) + a1_3)) x203004_1) else (none)) = some (r1, r2, r3, r4, r5) := H); (have A30 := Aside0.mk A300); (clear A300)
          by_cases c31 : x7_2.length < 17592186044416
          rotate_left
          · rw [if_neg c31] at H
            exact absurd H (by simp)
          (rw [if_pos c31] at H); (have LMc31 := Aside0.mk c31); (clear c31); (obtain ⟨y208, hy208⟩ : ∃ y_ : List Int, y_ = (x7_2 ++ [wrap64 ((wrap64 ((rd (rd_L1 l0_3 (ji23)) x8_2) * a1_0)) + t207)]) := ⟨_, rfl⟩); (replace H : (coppicerref_Before.l1 k2 x6_1 y208 (wrap64 (x8_2 + 1)) a0_0 a0_1 a0_2 l0_3 l0_4 a0_5 a1_0 a1_1 l1_2 a1_3 a1_4 (wrap64 (a0_0 * a1_0)) a0_1 x203002_1 (wrap64 ((wrap64 (a0_5 * a1_0)) + a1_3)) x203004_1) = some (r1, r2, r3, r4, r5) := by first | (rw [hy208]; with_reducible exact H) | (have H2_ := (Option.bind_some _ _).symm.trans H; rw [hy208]; with_reducible exact H2_) | (have H2_ := (Option.bind_some _ _).symm.trans H; with_reducible exact H2_) | with_reducible exact H | (rw [hy208]; exact H) | exact H); (have Ny208 := Aside0.mk hy208); (clear hy208); (have H' := Aside0.mk H); (clear H); (have hnb32 := NB199_200.out); (have hnc32 := NB200_199.out); (have hnb33 := NB199_201.out); (have hnc33 := NB201_199.out); (have hnb34 := NB199_202.out); (have hnc34 := NB202_199.out); (have hcz35_0 : wr.cell? ⟨gb199, 0, none⟩ = some (.int .i64 a0_0) := (blk_cell BK199.out 0).trans rfl); (have hcz35_1 : wr.cell? ⟨gb199, 1, none⟩ = some (.int .i64 a0_1) := (blk_cell BK199.out 1).trans rfl); (have hcz35_2 : wr.cell? ⟨gb199, 2, none⟩ = some (.int .i64 a0_2) := (blk_cell BK199.out 2).trans rfl); (have hcz35_3 : wr.cell? ⟨gb199, 3, none⟩ = some (.slice A0_3 l0_3.length c0_3) := (blk_cell BK199.out 3).trans rfl); (have hcz35_4 : wr.cell? ⟨gb199, 4, none⟩ = some (.slice A0_4 l0_4.length c0_4) := (blk_cell BK199.out 4).trans rfl); (have hcz35_5 : wr.cell? ⟨gb199, 5, none⟩ = some (.int .i64 a0_5) := (blk_cell BK199.out 5).trans rfl)
          (have hfz35_0 := blk_frozen BK199.out 0); (have hfz35_1 := blk_frozen BK199.out 1); (have hfz35_2 := blk_frozen BK199.out 2); (have hfz35_3 := blk_frozen BK199.out 3); (have hfz35_4 := blk_frozen BK199.out 4); (have hfz35_5 := blk_frozen BK199.out 5)
          try go_wp2
          (have n0_ := Aside0.mk (Kd.R_drew HO_7.out)); (have n1_ := Aside0.mk (Kd.S_drew HO_203002.out)); (have n2_ := Aside0.mk (blk_drew BK199.out)); (have n3_ := Aside0.mk (blk_drew BK200.out)); (have n4_ := Aside0.mk (blk_drew BK201.out)); (have n5_ := Aside0.mk (blk_drew BK202.out)); (have n6_ := Aside0.mk (below_drew1 HB.out)); (clear HO_7); (clear HO_203002); (clear BK199); (clear BK200); (clear BK201); (clear BK202); (clear HB); (have HO_7 := n0_); (have HO_203002 := n1_); (have BK199 := n2_); (have BK200 := n3_); (have BK201 := n4_); (have BK202 := n5_); (have HB := n6_); (clear n0_ n1_ n2_ n3_ n4_ n5_ n6_); (have p203 : 0 ≤ ((ji23) : Int) := of_decide_eq_true (by assumption)); (have q203 : (ji23) < (l0_3.length : Int) := of_decide_eq_true (by assumption)); (obtain ⟨ad203, A203_0, c203_0, e203, hx203_0, hl203_0, hi203_0⟩ := at_L1 HR0_3.out (ji23) p203 q203); (have hw203_0 := hx203_0); (cases e203); (replace hx203_0 := (HB.out.cell (World.block_lt_of_cell? w _ hx203_0)).trans hx203_0); (have HR203_0 := Aside0.mk hi203_0); (have HC203_0 := Aside0.mk hl203_0); (clear hi203_0 hl203_0); (replace p203 := eq_true p203); (replace q203 := eq_true q203); (have p204 : 0 ≤ (x8_2 : Int) := of_decide_eq_true (by assumption)); (have q204 : x8_2 < ((rd_L1 l0_3 (ji23)).length : Int) := of_decide_eq_true (by assumption)); (obtain ⟨ad204, e204, hx204_0⟩ := Kd.at_int HR203_0.out x8_2 p204 q204); (have hw204_0 := hx204_0); (cases e204); (replace hx204_0 := (HB.out.cell (World.block_lt_of_cell? w _ hx204_0)).trans hx204_0); (replace p204 := eq_true p204); (replace q204 := eq_true q204); (have p205 : 0 ≤ ((ji23) : Int) := of_decide_eq_true (by assumption)); (have q205 : (ji23) < (l0_4.length : Int) := of_decide_eq_true (by assumption))
          (obtain ⟨ad205, A205_0, c205_0, e205, hx205_0, hl205_0, hi205_0⟩ := at_L2 HR0_4.out (ji23) p205 q205); (have hw205_0 := hx205_0); (cases e205); (replace hx205_0 := (HB.out.cell (World.block_lt_of_cell? w _ hx205_0)).trans hx205_0); (have HR205_0 := Aside0.mk hi205_0); (have HC205_0 := Aside0.mk hl205_0); (clear hi205_0 hl205_0); (replace p205 := eq_true p205); (replace q205 := eq_true q205); (have p206 : 0 ≤ (x8_2 : Int) := of_decide_eq_true (by assumption)); (have q206 : x8_2 < ((rd_L2 l0_4 (ji23)).length : Int) := of_decide_eq_true (by assumption)); (obtain ⟨ad206, A206_0, c206_0, e206, hx206_0, hl206_0, hi206_0⟩ := at_L1 HR205_0.out x8_2 p206 q206); (have hw206_0 := hx206_0); (cases e206); (replace hx206_0 := (HB.out.cell (World.block_lt_of_cell? w _ hx206_0)).trans hx206_0); (have HR206_0 := Aside0.mk hi206_0); (have HC206_0 := Aside0.mk hl206_0); (clear hi206_0 hl206_0); (replace p206 := eq_true p206); (replace q206 := eq_true q206)
          refine start_ (n := 36) (S := fun w' => w'.cell? ⟨gb199, 0, none⟩ = some (.int .i64 a0_0) ∧ w'.cell? ⟨gb199, 1, none⟩ = some (.int .i64 a0_1) ∧ w'.cell? ⟨gb199, 2, none⟩ = some (.int .i64 a0_2) ∧ w'.cell? ⟨gb199, 3, none⟩ = some (.slice (some ad203) l0_3.length c0_3) ∧ w'.cell? ⟨gb199, 4, none⟩ = some (.slice (some ad205) l0_4.length c0_4) ∧ w'.cell? ⟨gb199, 5, none⟩ = some (.int .i64 a0_5) ∧ w'.cell? ⟨gb200, 0, none⟩ = some (.int .i64 a1_0) ∧ w'.cell? ⟨gb200, 1, none⟩ = some (.int .i64 a1_1) ∧ w'.cell? ⟨gb200, 2, none⟩ = some (.slice A1_2 l1_2.length c1_2) ∧ w'.cell? ⟨gb200, 3, none⟩ = some (.int .i64 a1_3) ∧ w'.cell? ⟨gb200, 4, none⟩ = some (.int .u32 a1_4) ∧ w'.cell? (ad203.add ((ji23)).toNat) = some (.slice (some ad204) (rd_L1 l0_3 (ji23)).length c203_0) ∧ w'.cell? (ad204.add (x8_2).toNat) = some (.int .i64 (rd (rd_L1 l0_3 (ji23)) x8_2)) ∧ w'.cell? (ad205.add ((ji23)).toNat) = some (.slice (some ad206) (rd_L2 l0_4 (ji23)).length c205_0) ∧ w'.cell? (ad206.add (x8_2).toNat) = some (.slice A206_0 (rd_L1 (rd_L2 l0_4 (ji23)) x8_2).length c206_0)) (ds := []) #[false, false, false, false, false, false, false, false, false, false, false, false, false, false, false, false, false, false, false, false, false, false, false, false, false, false, false, false, false, false, false, false, false, false, false, false] (by kernel_rfl) rfl rfl ⟨(blk_cell BK199.out 0).trans rfl, (blk_cell BK199.out 1).trans rfl, (blk_cell BK199.out 2).trans rfl, (blk_cell BK199.out 3).trans rfl, (blk_cell BK199.out 4).trans rfl, (blk_cell BK199.out 5).trans rfl, (blk_cell BK200.out 0).trans rfl, (blk_cell BK200.out 1).trans rfl, (blk_cell BK200.out 2).trans rfl, (blk_cell BK200.out 3).trans rfl, (blk_cell BK200.out 4).trans rfl, ((HB.out.cell (World.block_lt_of_cell? w _ hw203_0)).trans hw203_0), ((HB.out.cell (World.block_lt_of_cell? w _ hw204_0)).trans hw204_0), ((HB.out.cell (World.block_lt_of_cell? w _ hw205_0)).trans hw205_0), ((HB.out.cell (World.block_lt_of_cell? w _ hw206_0)).trans hw206_0)⟩ (fun hHeld => ?_); refine with_tabW coppicerref_Before.tab9 coppicerref_Before.bits9 (fun HT_ HW_ => ?_)
          generalize wr.drew = w36 at HO_7 HO_203002 BK199 BK200 BK201 BK202 HB HR203_0 HR205_0 HR206_0 hx203_0 hx204_0 hx205_0 hx206_0 hHeld ⊢
          refine pure_ (i := 0) (N := some 37) (v := ?_) (a' := ?_) #[true, false, false, false, false, false, false, false, false, false, false, false, false, false, false, false, false, false, false, false, false, false, false, false, false, false, false, false, false, false, false, false, false, false, false, false] rfl rfl (any_of HT_.out (by kernel_rfl)) (fun _ _ _ h => h) (Or.inl ⟨by rfl, ?_⟩) ?_ ?_
          rotate_left
          · intro w'
            go_simp
            with_reducible rfl
          rotate_left
          · simp only [Act.put, List.setIfInBounds_toArray, List.set_cons_zero, List.set_cons_succ, i64_w, i32_w]
            rfl
          refine pure_ (i := 1) (N := some 38) (v := ?_) (a' := ?_) #[true, true, false, false, false, false, false, false, false, false, false, false, false, false, false, false, false, false, false, false, false, false, false, false, false, false, false, false, false, false, false, false, false, false, false, false] rfl rfl (any_of HT_.out (by kernel_rfl)) (fun _ _ _ h => h) (Or.inl ⟨by rfl, ?_⟩) ?_ ?_
          rotate_left
          · intro w'
            go_simp
            with_reducible rfl
          rotate_left
          · simp only [Act.put, List.setIfInBounds_toArray, List.set_cons_zero, List.set_cons_succ, i64_w, i32_w]
            rfl
          refine pure_ (i := 3) (N := some 40) (v := ?_) (a' := ?_) #[true, true, false, true, false, false, false, false, false, false, false, false, false, false, false, false, false, false, false, false, false, false, false, false, false, false, false, false, false, false, false, false, false, false, false, false] rfl rfl (any_of HT_.out (by kernel_rfl)) (fun _ _ _ h => h) (Or.inl ⟨by rfl, ?_⟩) ?_ ?_
          rotate_left
          · intro w'
            go_simp
            with_reducible rfl
          rotate_left
          · simp only [Act.put, List.setIfInBounds_toArray, List.set_cons_zero, List.set_cons_succ, i64_w, i32_w]
            rfl
          refine pure_ (i := 4) (N := some 41) (v := ?_) (a' := ?_) #[true, true, false, true, true, false, false, false, false, false, false, false, false, false, false, false, false, false, false, false, false, false, false, false, false, false, false, false, false, false, false, false, false, false, false, false] rfl rfl (any_of HT_.out (by kernel_rfl)) (fun _ _ _ h => h) (Or.inl ⟨by rfl, ?_⟩) ?_ ?_
          rotate_left
          · intro w'
            go_simp
            with_reducible rfl
          rotate_left
          · simp only [Act.put, List.setIfInBounds_toArray, List.set_cons_zero, List.set_cons_succ, i64_w, i32_w]
            rfl
          refine pure_ (i := 9) (N := some 46) (v := ?_) (a' := ?_) #[true, true, false, true, true, false, false, false, false, true, false, false, false, false, false, false, false, false, false, false, false, false, false, false, false, false, false, false, false, false, false, false, false, false, false, false] rfl rfl (any_of HT_.out (by kernel_rfl)) (fun _ _ _ h => h) (Or.inl ⟨by rfl, ?_⟩) ?_ ?_
          rotate_left
          · intro w'
            go_simp
            with_reducible rfl
          rotate_left
          · simp only [Act.put, List.setIfInBounds_toArray, List.set_cons_zero, List.set_cons_succ, i64_w, i32_w]
            rfl
          refine pure_ (i := 12) (N := some 49) (v := ?_) (a' := ?_) #[true, true, false, true, true, false, false, false, false, true, false, false, true, false, false, false, false, false, false, false, false, false, false, false, false, false, false, false, false, false, false, false, false, false, false, false] rfl rfl (any_of HT_.out (by kernel_rfl)) (fun _ _ _ h => h) (Or.inl ⟨by rfl, ?_⟩) ?_ ?_
          rotate_left
          · intro w'
            go_simp
            with_reducible rfl
          rotate_left
          · simp only [Act.put, List.setIfInBounds_toArray, List.set_cons_zero, List.set_cons_succ, i64_w, i32_w]
            rfl
          refine pure_ (i := 16) (N := some 53) (v := ?_) (a' := ?_) #[true, true, false, true, true, false, false, false, false, true, false, false, true, false, false, false, true, false, false, false, false, false, false, false, false, false, false, false, false, false, false, false, false, false, false, false] rfl rfl (any_of HT_.out (by kernel_rfl)) (fun _ _ _ h => h) (Or.inl ⟨by rfl, ?_⟩) ?_ ?_
          rotate_left
          · intro w'
            go_simp
            with_reducible rfl
          rotate_left
          · simp only [Act.put, List.setIfInBounds_toArray, List.set_cons_zero, List.set_cons_succ, i64_w, i32_w]
            rfl
          refine pure_ (i := 17) (N := some 54) (v := ?_) (a' := ?_) #[true, true, false, true, true, false, false, false, false, true, false, false, true, false, false, false, true, true, false, false, false, false, false, false, false, false, false, false, false, false, false, false, false, false, false, false] rfl rfl (any_of HT_.out (by kernel_rfl)) (fun _ _ _ h => h) (Or.inl ⟨by rfl, ?_⟩) ?_ ?_
          rotate_left
          · intro w'
            go_simp
            with_reducible rfl
          rotate_left
          · simp only [Act.put, List.setIfInBounds_toArray, List.set_cons_zero, List.set_cons_succ, i64_w, i32_w]
            rfl
          refine pure_ (i := 20) (N := some 57) (v := ?_) (a' := ?_) #[true, true, false, true, true, false, false, false, false, true, false, false, true, false, false, false, true, true, false, false, true, false, false, false, false, false, false, false, false, false, false, false, false, false, false, false] rfl rfl (any_of HT_.out (by kernel_rfl)) (fun _ _ _ h => h) (Or.inl ⟨by rfl, ?_⟩) ?_ ?_
          rotate_left
          · intro w'
            go_simp
            with_reducible rfl
          rotate_left
          · simp only [Act.put, List.setIfInBounds_toArray, List.set_cons_zero, List.set_cons_succ, i64_w, i32_w]
            rfl
          refine pure_ (i := 22) (N := some 59) (v := ?_) (a' := ?_) #[true, true, false, true, true, false, false, false, false, true, false, false, true, false, false, false, true, true, false, false, true, false, true, false, false, false, false, false, false, false, false, false, false, false, false, false] rfl rfl (any_of HT_.out (by kernel_rfl)) (fun _ _ _ h => h) (Or.inl ⟨by rfl, ?_⟩) ?_ ?_
          rotate_left
          · intro w'
            go_simp
            with_reducible rfl
          rotate_left
          · simp only [Act.put, List.setIfInBounds_toArray, List.set_cons_zero, List.set_cons_succ, i64_w, i32_w]
            rfl
          refine pure_ (i := 23) (N := some 60) (v := ?_) (a' := ?_) #[true, true, false, true, true, false, false, false, false, true, false, false, true, false, false, false, true, true, false, false, true, false, true, true, false, false, false, false, false, false, false, false, false, false, false, false] rfl rfl (any_of HT_.out (by kernel_rfl)) (fun _ _ _ h => h) (Or.inl ⟨by rfl, ?_⟩) ?_ ?_
          rotate_left
          · intro w'
            go_simp
            with_reducible rfl
          rotate_left
          · simp only [Act.put, List.setIfInBounds_toArray, List.set_cons_zero, List.set_cons_succ, i64_w, i32_w]
            rfl
          refine pure_ (i := 28) (N := some 65) (v := ?_) (a' := ?_) #[true, true, false, true, true, false, false, false, false, true, false, false, true, false, false, false, true, true, false, false, true, false, true, true, false, false, false, false, true, false, false, false, false, false, false, false] rfl rfl (any_of HT_.out (by kernel_rfl)) (fun _ _ _ h => h) (Or.inl ⟨by rfl, ?_⟩) ?_ ?_
          rotate_left
          · intro w'
            go_simp
            with_reducible rfl
          rotate_left
          · simp only [Act.put, List.setIfInBounds_toArray, List.set_cons_zero, List.set_cons_succ, i64_w, i32_w]
            rfl
          refine take_ (i := 2) (N := some 39) (v := ?_) (a' := ?_) #[true, true, true, true, true, false, false, false, false, true, false, false, true, false, false, false, true, true, false, false, true, false, true, true, false, false, false, false, true, false, false, false, false, false, false, false] rfl rfl (take_ofW HT_.out HW_.out (by kernel_rfl)) (fun _ _ _ h => h) (Or.inl ⟨by rfl, ?_⟩) hHeld ?_ ?_
          rotate_left
          · rintro w' ⟨s0, s1, s2, s3, s4, s5, s6, s7, s8, s9, s10, s11, s12, s13, s14⟩
            go_simp
            with_reducible rfl
          rotate_left
          · simp only [Act.put, List.setIfInBounds_toArray, List.set_cons_zero, List.set_cons_succ, i64_w, i32_w]
            rfl
          refine take_ (i := 5) (N := some 42) (v := ?_) (a' := ?_) #[true, true, true, true, true, true, false, false, false, true, false, false, true, false, false, false, true, true, false, false, true, false, true, true, false, false, false, false, true, false, false, false, false, false, false, false] rfl rfl (take_ofW HT_.out HW_.out (by kernel_rfl)) (fun _ _ _ h => h) (Or.inl ⟨by rfl, ?_⟩) hHeld ?_ ?_
          rotate_left
          · rintro w' ⟨s0, s1, s2, s3, s4, s5, s6, s7, s8, s9, s10, s11, s12, s13, s14⟩
            go_simp
            with_reducible rfl
          rotate_left
          · simp only [Act.put, List.setIfInBounds_toArray, List.set_cons_zero, List.set_cons_succ, i64_w, i32_w]
            rfl
          refine pure_ (i := 6) (N := some 43) (v := ?_) (a' := ?_) #[true, true, true, true, true, true, true, false, false, true, false, false, true, false, false, false, true, true, false, false, true, false, true, true, false, false, false, false, true, false, false, false, false, false, false, false] rfl rfl (any_of HT_.out (by kernel_rfl)) (fun _ _ _ h => h) (Or.inl ⟨by rfl, ?_⟩) ?_ ?_
          rotate_left
          · intro w'
            go_simp
            with_reducible rfl
          rotate_left
          · simp only [Act.put, List.setIfInBounds_toArray, List.set_cons_zero, List.set_cons_succ, i64_w, i32_w]
            rfl
          refine pure_ (i := 7) (N := some 44) (v := ?_) (a' := ?_) #[true, true, true, true, true, true, true, true, false, true, false, false, true, false, false, false, true, true, false, false, true, false, true, true, false, false, false, false, true, false, false, false, false, false, false, false] rfl rfl (any_of HT_.out (by kernel_rfl)) (fun _ _ _ h => h) (Or.inl ⟨by rfl, ?_⟩) ?_ ?_
          rotate_left
          · intro w'
            go_simp
            with_reducible rfl
          rotate_left
          · simp only [Act.put, List.setIfInBounds_toArray, List.set_cons_zero, List.set_cons_succ, i64_w, i32_w]
            rfl
          refine take_ (i := 8) (N := some 45) (v := ?_) (a' := ?_) #[true, true, true, true, true, true, true, true, true, true, false, false, true, false, false, false, true, true, false, false, true, false, true, true, false, false, false, false, true, false, false, false, false, false, false, false] rfl rfl (take_ofW HT_.out HW_.out (by kernel_rfl)) (fun _ _ _ h => h) (Or.inl ⟨by rfl, ?_⟩) hHeld ?_ ?_
          rotate_left
          · rintro w' ⟨s0, s1, s2, s3, s4, s5, s6, s7, s8, s9, s10, s11, s12, s13, s14⟩
            go_simp
            with_reducible rfl
          rotate_left
          · simp only [Act.put, List.setIfInBounds_toArray, List.set_cons_zero, List.set_cons_succ, i64_w, i32_w]
            rfl
          refine pure_ (i := 10) (N := some 47) (v := ?_) (a' := ?_) #[true, true, true, true, true, true, true, true, true, true, true, false, true, false, false, false, true, true, false, false, true, false, true, true, false, false, false, false, true, false, false, false, false, false, false, false] rfl rfl (any_of HT_.out (by kernel_rfl)) (fun _ _ _ h => h) (Or.inl ⟨by rfl, ?_⟩) ?_ ?_
          rotate_left
          · intro w'
            go_simp
            with_reducible rfl
          rotate_left
          · simp only [Act.put, List.setIfInBounds_toArray, List.set_cons_zero, List.set_cons_succ, i64_w, i32_w]
            rfl
          refine take_ (i := 11) (N := some 48) (v := ?_) (a' := ?_) #[true, true, true, true, true, true, true, true, true, true, true, true, true, false, false, false, true, true, false, false, true, false, true, true, false, false, false, false, true, false, false, false, false, false, false, false] rfl rfl (take_ofW HT_.out HW_.out (by kernel_rfl)) (fun _ _ _ h => h) (Or.inl ⟨by rfl, ?_⟩) hHeld ?_ ?_
          rotate_left
          · rintro w' ⟨s0, s1, s2, s3, s4, s5, s6, s7, s8, s9, s10, s11, s12, s13, s14⟩
            go_simp
            with_reducible rfl
          rotate_left
          · simp only [Act.put, List.setIfInBounds_toArray, List.set_cons_zero, List.set_cons_succ, i64_w, i32_w]
            rfl
          refine take_ (i := 13) (N := some 50) (v := ?_) (a' := ?_) #[true, true, true, true, true, true, true, true, true, true, true, true, true, true, false, false, true, true, false, false, true, false, true, true, false, false, false, false, true, false, false, false, false, false, false, false] rfl rfl (take_ofW HT_.out HW_.out (by kernel_rfl)) (fun _ _ _ h => h) (Or.inl ⟨by rfl, ?_⟩) hHeld ?_ ?_
          rotate_left
          · rintro w' ⟨s0, s1, s2, s3, s4, s5, s6, s7, s8, s9, s10, s11, s12, s13, s14⟩
            go_simp
            with_reducible rfl
          rotate_left
          · simp only [Act.put, List.setIfInBounds_toArray, List.set_cons_zero, List.set_cons_succ, i64_w, i32_w]
            rfl
          refine pure_ (i := 14) (N := some 51) (v := ?_) (a' := ?_) #[true, true, true, true, true, true, true, true, true, true, true, true, true, true, true, false, true, true, false, false, true, false, true, true, false, false, false, false, true, false, false, false, false, false, false, false] rfl rfl (any_of HT_.out (by kernel_rfl)) (fun _ _ _ h => h) (Or.inl ⟨by rfl, ?_⟩) ?_ ?_
          rotate_left
          · intro w'
            go_simp
            with_reducible rfl
          rotate_left
          · simp only [Act.put, List.setIfInBounds_toArray, List.set_cons_zero, List.set_cons_succ, i64_w, i32_w]
            rfl
          refine take_ (i := 15) (N := some 52) (v := ?_) (a' := ?_) #[true, true, true, true, true, true, true, true, true, true, true, true, true, true, true, true, true, true, false, false, true, false, true, true, false, false, false, false, true, false, false, false, false, false, false, false] rfl rfl (take_ofW HT_.out HW_.out (by kernel_rfl)) (fun _ _ _ h => h) (Or.inl ⟨by rfl, ?_⟩) hHeld ?_ ?_
          rotate_left
          · rintro w' ⟨s0, s1, s2, s3, s4, s5, s6, s7, s8, s9, s10, s11, s12, s13, s14⟩
            go_simp
            with_reducible rfl
          rotate_left
          · simp only [Act.put, List.setIfInBounds_toArray, List.set_cons_zero, List.set_cons_succ, i64_w, i32_w]
            rfl
          refine take_ (i := 18) (N := some 55) (v := ?_) (a' := ?_) #[true, true, true, true, true, true, true, true, true, true, true, true, true, true, true, true, true, true, true, false, true, false, true, true, false, false, false, false, true, false, false, false, false, false, false, false] rfl rfl (take_ofW HT_.out HW_.out (by kernel_rfl)) (fun _ _ _ h => h) (Or.inl ⟨by rfl, ?_⟩) hHeld ?_ ?_
          rotate_left
          · rintro w' ⟨s0, s1, s2, s3, s4, s5, s6, s7, s8, s9, s10, s11, s12, s13, s14⟩
            go_simp
            with_reducible rfl
          rotate_left
          · simp only [Act.put, List.setIfInBounds_toArray, List.set_cons_zero, List.set_cons_succ, i64_w, i32_w]
            rfl
          refine pure_ (i := 19) (N := some 56) (v := ?_) (a' := ?_) #[true, true, true, true, true, true, true, true, true, true, true, true, true, true, true, true, true, true, true, true, true, false, true, true, false, false, false, false, true, false, false, false, false, false, false, false] rfl rfl (any_of HT_.out (by kernel_rfl)) (fun _ _ _ h => h) (Or.inl ⟨by rfl, ?_⟩) ?_ ?_
          rotate_left
          · intro w'
            go_simp
            with_reducible rfl
          rotate_left
          · simp only [Act.put, List.setIfInBounds_toArray, List.set_cons_zero, List.set_cons_succ, i64_w, i32_w]
            rfl
          refine take_ (i := 21) (N := some 58) (v := ?_) (a' := ?_) #[true, true, true, true, true, true, true, true, true, true, true, true, true, true, true, true, true, true, true, true, true, true, true, true, false, false, false, false, true, false, false, false, false, false, false, false] rfl rfl (take_ofW HT_.out HW_.out (by kernel_rfl)) (fun _ _ _ h => h) (Or.inl ⟨by rfl, ?_⟩) hHeld ?_ ?_
          rotate_left
          · rintro w' ⟨s0, s1, s2, s3, s4, s5, s6, s7, s8, s9, s10, s11, s12, s13, s14⟩
            go_simp
            with_reducible rfl
          rotate_left
          · simp only [Act.put, List.setIfInBounds_toArray, List.set_cons_zero, List.set_cons_succ, i64_w, i32_w]
            rfl
          refine take_ (i := 24) (N := some 61) (v := ?_) (a' := ?_) #[true, true, true, true, true, true, true, true, true, true, true, true, true, true, true, true, true, true, true, true, true, true, true, true, true, false, false, false, true, false, false, false, false, false, false, false] rfl rfl (take_ofW HT_.out HW_.out (by kernel_rfl)) (fun _ _ _ h => h) (Or.inl ⟨by rfl, ?_⟩) hHeld ?_ ?_
          rotate_left
          · rintro w' ⟨s0, s1, s2, s3, s4, s5, s6, s7, s8, s9, s10, s11, s12, s13, s14⟩
            go_simp
            with_reducible rfl
          rotate_left
          · simp only [Act.put, List.setIfInBounds_toArray, List.set_cons_zero, List.set_cons_succ, i64_w, i32_w]
            rfl
          refine pure_ (i := 25) (N := some 62) (v := ?_) (a' := ?_) #[true, true, true, true, true, true, true, true, true, true, true, true, true, true, true, true, true, true, true, true, true, true, true, true, true, true, false, false, true, false, false, false, false, false, false, false] rfl rfl (any_of HT_.out (by kernel_rfl)) (fun _ _ _ h => h) (Or.inl ⟨by rfl, ?_⟩) ?_ ?_
          rotate_left
          · intro w'
            go_simp
            with_reducible rfl
          rotate_left
          · simp only [Act.put, List.setIfInBounds_toArray, List.set_cons_zero, List.set_cons_succ, i64_w, i32_w]
            rfl
          refine pure_ (i := 26) (N := some 63) (v := ?_) (a' := ?_) #[true, true, true, true, true, true, true, true, true, true, true, true, true, true, true, true, true, true, true, true, true, true, true, true, true, true, true, false, true, false, false, false, false, false, false, false] rfl rfl (any_of HT_.out (by kernel_rfl)) (fun _ _ _ h => h) (Or.inl ⟨by rfl, ?_⟩) ?_ ?_
          rotate_left
          · intro w'
            go_simp
            with_reducible rfl
          rotate_left
          · simp only [Act.put, List.setIfInBounds_toArray, List.set_cons_zero, List.set_cons_succ, i64_w, i32_w]
            rfl
          refine take_ (i := 27) (N := some 64) (v := ?_) (a' := ?_) #[true, true, true, true, true, true, true, true, true, true, true, true, true, true, true, true, true, true, true, true, true, true, true, true, true, true, true, true, true, false, false, false, false, false, false, false] rfl rfl (take_ofW HT_.out HW_.out (by kernel_rfl)) (fun _ _ _ h => h) (Or.inl ⟨by rfl, ?_⟩) hHeld ?_ ?_
          rotate_left
          · rintro w' ⟨s0, s1, s2, s3, s4, s5, s6, s7, s8, s9, s10, s11, s12, s13, s14⟩
            go_simp
            with_reducible rfl
          rotate_left
          · simp only [Act.put, List.setIfInBounds_toArray, List.set_cons_zero, List.set_cons_succ, i64_w, i32_w]
            rfl
          refine pure_ (i := 29) (N := some 66) (v := ?_) (a' := ?_) #[true, true, true, true, true, true, true, true, true, true, true, true, true, true, true, true, true, true, true, true, true, true, true, true, true, true, true, true, true, true, false, false, false, false, false, false] rfl rfl (any_of HT_.out (by kernel_rfl)) (fun _ _ _ h => h) (Or.inl ⟨by rfl, ?_⟩) ?_ ?_
          rotate_left
          · intro w'
            go_simp
            with_reducible rfl
          rotate_left
          · simp only [Act.put, List.setIfInBounds_toArray, List.set_cons_zero, List.set_cons_succ, i64_w, i32_w]
            rfl
          refine take_ (i := 30) (N := some 67) (v := ?_) (a' := ?_) #[true, true, true, true, true, true, true, true, true, true, true, true, true, true, true, true, true, true, true, true, true, true, true, true, true, true, true, true, true, true, true, false, false, false, false, false] rfl rfl (take_ofW HT_.out HW_.out (by kernel_rfl)) (fun _ _ _ h => h) (Or.inl ⟨by rfl, ?_⟩) hHeld ?_ ?_
          rotate_left
          · rintro w' ⟨s0, s1, s2, s3, s4, s5, s6, s7, s8, s9, s10, s11, s12, s13, s14⟩
            go_simp
            with_reducible rfl
          rotate_left
          · simp only [Act.put, List.setIfInBounds_toArray, List.set_cons_zero, List.set_cons_succ, i64_w, i32_w]
            rfl
          refine one_ (i := 31) (N := some 68) #[true, true, true, true, true, true, true, true, true, true, true, true, true, true, true, true, true, true, true, true, true, true, true, true, true, true, true, true, true, true, true, true, false, false, false, false] rfl rfl (one_of HT_.out (by kernel_rfl)) (by decide) (fun K hK => ?_)
          refine goes_ Try.func46 (by kernel_rfl) rfl #[.agg #[.int .i64 a1_0, .int .i64 a1_1, .slice A1_2 l1_2.length c1_2, .int .i64 a1_3, .int .u32 a1_4], .int .i64 (Int.tmod x6_1 a1_0), .slice A206_0 (rd_L1 (rd_L2 l0_4 (ji23)) x8_2).length c206_0] (by rfl) rfl rfl (by (try simp only [List.map_toArray, List.map_cons, List.map_nil]); first | done | (simp only [hji23]; rfl) | rfl | (simp only [List.length_drop, List.length_take]; rfl)) ?_
          with_reducible refine (coppicerref_Leads.calls k2 a1_0 a1_1 _ _ l1_2 a1_3 a1_4 (Int.tmod x6_1 a1_0) _ _ (rd_L1 (rd_L2 l0_4 (ji23)) x8_2) t207 _ ?side1 ?side2 ?side3 ?side4 A30.out).mono ?_
          (case side1 => repeat (first | exact (Kd.C_below HR1_2.out HB.out) | (with_reducible refine Kd.C_alloc ?_ _) | (with_reducible refine Kd.C_drewN ?_ _) | (with_reducible refine Kd.C_drew ?_)))
          (case side2 => exact HC1_2.out)
          (case side3 => repeat (first | exact (Kd.C_below HR206_0.out HB.out) | (with_reducible refine Kd.C_alloc ?_ _) | (with_reducible refine Kd.C_drewN ?_ _) | (with_reducible refine Kd.C_drew ?_)))
          (case side4 => exact HC206_0.out)
          rintro e w37 ⟨rfl, hb⟩
          refine ⟨_, rfl, ?_⟩
          (have n0_ := Aside0.mk (Kd.R_below (by (with_reducible repeat (first | apply Kd.R_alloc | apply Kd.R_drewN | apply Kd.R_drew)); exact HO_7.out) hb)); (have n1_ := Aside0.mk (Kd.S_below (by (with_reducible repeat (first | apply Kd.S_alloc | apply Kd.S_drewN | apply Kd.S_drew)); exact HO_203002.out) hb)); (have n2_ := Aside0.mk (blk_below (g := gb199) (o := .cells #[.int .i64 a0_0, .int .i64 a0_1, .int .i64 a0_2, .slice (some ad203) l0_3.length c0_3, .slice (some ad205) l0_4.length c0_4, .int .i64 a0_5] 25 (0, 0)) (by (with_reducible repeat (first | refine blk_drewN ?_ _ | refine blk_drew ?_ | refine blk_alloc ?_ _)); exact BK199.out) hb)); (have n3_ := Aside0.mk (blk_below (g := gb200) (o := .cells #[.int .i64 a1_0, .int .i64 a1_1, .slice A1_2 l1_2.length c1_2, .int .i64 a1_3, .int .u32 a1_4] 43 (0, 0)) (by (with_reducible repeat (first | refine blk_drewN ?_ _ | refine blk_drew ?_ | refine blk_alloc ?_ _)); exact BK200.out) hb)); (have n4_ := Aside0.mk (blk_below (g := gb201) (o := .cells #[.int .i64 0, .int .i64 0, .slice none 0 0, .int .i64 0, .int .u32 0] 43 (0, 0)) (by (with_reducible repeat (first | refine blk_drewN ?_ _ | refine blk_drew ?_ | refine blk_alloc ?_ _)); exact BK201.out) hb)); (have n5_ := Aside0.mk (blk_below (g := gb202) (o := .cells #[.int .i64 (wrap64 (a0_0 * a1_0)), .int .i64 a0_1, u203002, .int .i64 (wrap64 ((wrap64 (a0_5 * a1_0)) + a1_3)), .int .u32 x203004_1] 43 (0, 0)) (by (with_reducible repeat (first | refine blk_drewN ?_ _ | refine blk_drew ?_ | refine blk_alloc ?_ _)); exact BK202.out) hb))
          (have n6_ := Aside0.mk (below_step (by repeat (first | (with_reducible first | exact HB.out | apply below_alloc | apply pw_below_drewN | apply below_drew1 | refine below_set ?_ GE199.out | refine below_set ?_ GE200.out | refine below_set ?_ GE201.out | refine below_set ?_ GE202.out) | exact HB.out)) hb)); (clear HO_7); (clear HO_203002); (clear BK199); (clear BK200); (clear BK201); (clear BK202); (clear HB); (have HO_7 := n0_); (have HO_203002 := n1_); (have BK199 := n2_); (have BK200 := n3_); (have BK201 := n4_); (have BK202 := n5_); (have HB := n6_); (clear n0_ n1_ n2_ n3_ n4_ n5_ n6_); ((try clear hb)); ((try clear hb2)); ((try clear hk)); ((try clear hi))
          refine hK.out _ _ ⟨(blk_cell BK199.out 0).trans rfl, (blk_cell BK199.out 1).trans rfl, (blk_cell BK199.out 2).trans rfl, (blk_cell BK199.out 3).trans rfl, (blk_cell BK199.out 4).trans rfl, (blk_cell BK199.out 5).trans rfl, (blk_cell BK200.out 0).trans rfl, (blk_cell BK200.out 1).trans rfl, (blk_cell BK200.out 2).trans rfl, (blk_cell BK200.out 3).trans rfl, (blk_cell BK200.out 4).trans rfl, ((HB.out.cell (World.block_lt_of_cell? w _ hw203_0)).trans hw203_0), ((HB.out.cell (World.block_lt_of_cell? w _ hw204_0)).trans hw204_0), ((HB.out.cell (World.block_lt_of_cell? w _ hw205_0)).trans hw205_0), ((HB.out.cell (World.block_lt_of_cell? w _ hw206_0)).trans hw206_0)⟩ (fun hHeld => ?_)
          clear hK K
          refine norm_ (a' := ?_) ?_ ?_
          rotate_left
          · show Act.put _ (some 68) _ = _
            simp only [Act.put, List.setIfInBounds_toArray, List.set_cons_zero, List.set_cons_succ, i64_w, i32_w]
            rfl
          refine pure_ (i := 32) (N := some 69) (v := ?_) (a' := ?_) #[true, true, true, true, true, true, true, true, true, true, true, true, true, true, true, true, true, true, true, true, true, true, true, true, true, true, true, true, true, true, true, true, true, false, false, false] rfl rfl (any_of HT_.out (by kernel_rfl)) (fun _ _ _ h => h) (Or.inl ⟨by rfl, ?_⟩) ?_ ?_
          rotate_left
          · intro w'
            go_simp
            with_reducible rfl
          rotate_left
          · simp only [Act.put, List.setIfInBounds_toArray, List.set_cons_zero, List.set_cons_succ, i64_w, i32_w]
            rfl
          refine one_ (i := 33) (N := some 70) #[true, true, true, true, true, true, true, true, true, true, true, true, true, true, true, true, true, true, true, true, true, true, true, true, true, true, true, true, true, true, true, true, true, true, false, false] rfl rfl (one_of HT_.out (by kernel_rfl)) (by decide) (fun K hK => ?_)
          refine value_ (w1 := ?_) (v := ?_) (by rfl) rfl ?_ ?_
          rotate_left 2
          · go_simp
            constructor
            · rfl
            rfl
          refine hK.out _ _ ⟨(blk_cell (blk_alloc BK199.out _) 0).trans rfl, (blk_cell (blk_alloc BK199.out _) 1).trans rfl, (blk_cell (blk_alloc BK199.out _) 2).trans rfl, (blk_cell (blk_alloc BK199.out _) 3).trans rfl, (blk_cell (blk_alloc BK199.out _) 4).trans rfl, (blk_cell (blk_alloc BK199.out _) 5).trans rfl, (blk_cell (blk_alloc BK200.out _) 0).trans rfl, (blk_cell (blk_alloc BK200.out _) 1).trans rfl, (blk_cell (blk_alloc BK200.out _) 2).trans rfl, (blk_cell (blk_alloc BK200.out _) 3).trans rfl, (blk_cell (blk_alloc BK200.out _) 4).trans rfl, (World.cell?_alloc_lt _ _ _ (World.block_lt_of_cell? _ _ (((HB.out.cell (World.block_lt_of_cell? w _ hw203_0)).trans hw203_0)))).trans (((HB.out.cell (World.block_lt_of_cell? w _ hw203_0)).trans hw203_0)), (World.cell?_alloc_lt _ _ _ (World.block_lt_of_cell? _ _ (((HB.out.cell (World.block_lt_of_cell? w _ hw204_0)).trans hw204_0)))).trans (((HB.out.cell (World.block_lt_of_cell? w _ hw204_0)).trans hw204_0)), (World.cell?_alloc_lt _ _ _ (World.block_lt_of_cell? _ _ (((HB.out.cell (World.block_lt_of_cell? w _ hw205_0)).trans hw205_0)))).trans (((HB.out.cell (World.block_lt_of_cell? w _ hw205_0)).trans hw205_0)), (World.cell?_alloc_lt _ _ _ (World.block_lt_of_cell? _ _ (((HB.out.cell (World.block_lt_of_cell? w _ hw206_0)).trans hw206_0)))).trans (((HB.out.cell (World.block_lt_of_cell? w _ hw206_0)).trans hw206_0))⟩ (fun hHeld => ?_)
          clear hK K
          refine norm_ (a' := ?_) ?_ ?_
          rotate_left
          · show Act.put _ (some 70) _ = _
            simp only [Act.put, List.setIfInBounds_toArray, List.set_cons_zero, List.set_cons_succ, i64_w, i32_w]
            rfl
          refine one_ (i := 34) (N := some 71) #[true, true, true, true, true, true, true, true, true, true, true, true, true, true, true, true, true, true, true, true, true, true, true, true, true, true, true, true, true, true, true, true, true, true, true, false] rfl rfl (one_of HT_.out (by kernel_rfl)) (by decide) (fun K hK => ?_)
          refine Kd.R_append_step (Kd.int .i64) (w0 := w) w.heap.size (by rfl) (.tmp 37) (.tmp 70) 26 3 (.int .i64 0) 8 rfl Try.underlying26 info3 rfl (by decide) (by omega) u7 x7_2 (wrap64 ((wrap64 ((rd (rd_L1 l0_3 (ji23)) x8_2) * a1_0)) + t207)) [.int .i64 (wrap64 ((wrap64 ((rd (rd_L1 l0_3 (ji23)) x8_2) * a1_0)) + t207))] (fun _ => True) (fun _ => False) rfl rfl ?aP (fun _ hk => hk.elim) ?aF ?aO ?aB ?aS ?aL ?_
          (case aP => exact rfl)
          (case aB => exact (by repeat (first | (with_reducible first | exact HB.out | apply below_alloc | apply pw_below_drewN | apply below_drew1 | refine below_set ?_ GE199.out | refine below_set ?_ GE200.out | refine below_set ?_ GE201.out | refine below_set ?_ GE202.out) | exact HB.out)))
          (case aF => exact (fun _ _ => trivial))
          (case aO => exact (by (with_reducible repeat (first | apply Kd.R_alloc | apply Kd.R_drewN | apply Kd.R_drew)); exact HO_7.out))
          (case aS => exact (below_size (by repeat (first | (with_reducible first | exact HB.out | apply below_alloc | apply pw_below_drewN | apply below_drew1 | refine below_set ?_ GE199.out | refine below_set ?_ GE200.out | refine below_set ?_ GE201.out | refine below_set ?_ GE202.out) | exact HB.out))))
          (case aL => have := LMc31.out; omega)
          intro v209 w38 ho hb hg hat
          (rw [← Ny208.out] at ho); (have n0_ := Aside0.mk (Kd.S_after (ok := (fun _ => True)) (by (with_reducible repeat (first | apply Kd.S_alloc | apply Kd.S_drewN | apply Kd.S_drew)); exact Kd.S_mono HO_203002.out (fun _ hk => ⟨trivial, hk⟩)) hg hat)); (have n1_ := Aside0.mk (blk_grown (g := gb199) (o := .cells #[.int .i64 a0_0, .int .i64 a0_1, .int .i64 a0_2, .slice (some ad203) l0_3.length c0_3, .slice (some ad205) l0_4.length c0_4, .int .i64 a0_5] 25 (0, 0)) (by (with_reducible repeat (first | refine blk_drewN ?_ _ | refine blk_drew ?_ | refine blk_alloc ?_ _)); exact BK199.out) hg (Kd.R_ne HO_7.out BK199.out (by decide)))); (have n2_ := Aside0.mk (blk_grown (g := gb200) (o := .cells #[.int .i64 a1_0, .int .i64 a1_1, .slice A1_2 l1_2.length c1_2, .int .i64 a1_3, .int .u32 a1_4] 43 (0, 0)) (by (with_reducible repeat (first | refine blk_drewN ?_ _ | refine blk_drew ?_ | refine blk_alloc ?_ _)); exact BK200.out) hg (Kd.R_ne HO_7.out BK200.out (by decide)))); (have n3_ := Aside0.mk (blk_grown (g := gb201) (o := .cells #[.int .i64 0, .int .i64 0, .slice none 0 0, .int .i64 0, .int .u32 0] 43 (0, 0)) (by (with_reducible repeat (first | refine blk_drewN ?_ _ | refine blk_drew ?_ | refine blk_alloc ?_ _)); exact BK201.out) hg (Kd.R_ne HO_7.out BK201.out (by decide)))); (have n4_ := Aside0.mk (blk_grown (g := gb202) (o := .cells #[.int .i64 (wrap64 (a0_0 * a1_0)), .int .i64 a0_1, u203002, .int .i64 (wrap64 ((wrap64 (a0_5 * a1_0)) + a1_3)), .int .u32 x203004_1] 43 (0, 0)) (by (with_reducible repeat (first | refine blk_drewN ?_ _ | refine blk_drew ?_ | refine blk_alloc ?_ _)); exact BK202.out) hg (Kd.R_ne HO_7.out BK202.out (by decide))))
          (have n5_ := Aside0.mk (hb)); (have n6_ := Aside0.mk (ho)); (clear HO_203002); (clear BK199); (clear BK200); (clear BK201); (clear BK202); (clear HB); (clear HO_7); (have HO_203002 := n0_); (have BK199 := n1_); (have BK200 := n2_); (have BK201 := n3_); (have BK202 := n4_); (have HB := n5_); (have HO210 := n6_); (clear n0_ n1_ n2_ n3_ n4_ n5_ n6_); (clear ho hb hg hat)
          refine hK.out _ _ ⟨(blk_cell BK199.out 0).trans rfl, (blk_cell BK199.out 1).trans rfl, (blk_cell BK199.out 2).trans rfl, (blk_cell BK199.out 3).trans rfl, (blk_cell BK199.out 4).trans rfl, (blk_cell BK199.out 5).trans rfl, (blk_cell BK200.out 0).trans rfl, (blk_cell BK200.out 1).trans rfl, (blk_cell BK200.out 2).trans rfl, (blk_cell BK200.out 3).trans rfl, (blk_cell BK200.out 4).trans rfl, ((HB.out.cell (World.block_lt_of_cell? w _ hw203_0)).trans hw203_0), ((HB.out.cell (World.block_lt_of_cell? w _ hw204_0)).trans hw204_0), ((HB.out.cell (World.block_lt_of_cell? w _ hw205_0)).trans hw205_0), ((HB.out.cell (World.block_lt_of_cell? w _ hw206_0)).trans hw206_0)⟩ (fun hHeld => ?_)
          clear hK K
          refine norm_ (a' := ?_) ?_ ?_
          rotate_left
          · show Act.put _ (some 71) _ = _
            simp only [Act.put, List.setIfInBounds_toArray, List.set_cons_zero, List.set_cons_succ, i64_w, i32_w]
            rfl
          refine pure_ (i := 35) (N := some 7) (v := ?_) (a' := ?_) #[true, true, true, true, true, true, true, true, true, true, true, true, true, true, true, true, true, true, true, true, true, true, true, true, true, true, true, true, true, true, true, true, true, true, true, true] rfl rfl (any_of HT_.out (by kernel_rfl)) (fun _ _ _ h => h) (Or.inl ⟨by rfl, ?_⟩) ?_ ?_
          rotate_left
          · intro w'
            go_simp
            with_reducible rfl
          rotate_left
          · simp only [Act.put, List.setIfInBounds_toArray, List.set_cons_zero, List.set_cons_succ, i64_w, i32_w]
            rfl
          refine done_ (done_of HT_.out (by kernel_rfl)) ?_
          try go_wp2
          (first | go_roundg k2 | (simp only [← hji23]; go_roundg k2))
          case measure => have := HK1.out; have := HK2.out; omega
          case rel => exact ⟨(y208), (wrap64 (x8_2 + 1)), (by first | rfl | (simp; done) | (simp [*]; done)), H', ⟨by have := HK1.out; have := HK2.out; omega⟩, ⟨by (with_reducible repeat (first | apply Kd.R_alloc | apply Kd.R_drewN | apply Kd.R_drew)); exact HO210.out⟩, ⟨by (with_reducible repeat (first | apply Kd.S_alloc | apply Kd.S_drewN | apply Kd.S_drew)); exact Kd.S_mono HO_203002.out (fun _ hk => hk.2)⟩, ⟨by (with_reducible repeat (first | refine blk_drewN ?_ _ | refine blk_drew ?_ | refine blk_alloc ?_ _)); exact BK199.out⟩, ⟨by (with_reducible repeat (first | refine blk_drewN ?_ _ | refine blk_drew ?_ | refine blk_alloc ?_ _)); exact BK200.out⟩, ⟨by (with_reducible repeat (first | refine blk_drewN ?_ _ | refine blk_drew ?_ | refine blk_alloc ?_ _)); exact BK201.out⟩, ⟨by (with_reducible repeat (first | refine blk_drewN ?_ _ | refine blk_drew ?_ | refine blk_alloc ?_ _)); exact BK202.out⟩, ⟨by repeat (first | (with_reducible first | exact HB.out | apply below_alloc | apply pw_below_drewN | apply below_drew1 | refine below_set ?_ GE199.out | refine below_set ?_ GE200.out | refine below_set ?_ GE201.out | refine below_set ?_ GE202.out) | exact HB.out)⟩⟩
end Go.Proofs.Ytlmagjgjaajeiaa.PTurnerTakes
