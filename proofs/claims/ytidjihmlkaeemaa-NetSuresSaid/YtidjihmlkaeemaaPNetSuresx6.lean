-- Written by a program of this session: a turn of the print kit's own.
import Derived.Test.YtidjihmlkaeemaaPNetSuresx0
import Derived.Test.YtidjihmlkaeemaaPNetSuresx5
namespace Go.Proofs.Ytidjihmlkaeemaa.PNetSures
open Go.RowKit Go.Proofs.YtidjihmlkaeemaaW.PrintWords Go.Proofs.YtidjihmlkaeemaaW.PrintLast Go.Proofs.YtidjihmlkaeemaaW.PrintMore
attribute [local go_sem] max2_int min2_int max_two min_two max_three min_three max_four min_four   -- for this text's walks alone
set_option linter.unusedVariables false
set_option linter.unusedSimpArgs false

/-! ### coppicerref_Sure: function 22 -/
mutual
def coppicerref_Sure.l0 : Nat → List (List Int) → Int → Int → Int → List (S31) → Int → Int → Int → Int → List (List Int) → Int → Int → Option (Int × Int × (List (List Int)) × Int × Int × Bool)
  | 0, _, _, _, _, _, _, _, _, _, _, _, _ => none
  | k + 1, x4, x6, x168000, x168001, x168002, x168003, x168004, x173000, x173001, x173002, x173003, x173004 => if x6 < (x4.length : Int) then (coppicerref_Sure.l1 k x4 x6 ([] : List Int) 0 x168000 x168001 x168002 x168003 x168004 x173000 x173001 x173002 x173003 x173004) else (some ((x4.length : Int), x173001, x173002, x173003, x173004, true))
def coppicerref_Sure.l1 : Nat → List (List Int) → Int → List Int → Int → Int → Int → List (S31) → Int → Int → Int → Int → List (List Int) → Int → Int → Option (Int × Int × (List (List Int)) × Int × Int × Bool)
  | 0, _, _, _, _, _, _, _, _, _, _, _, _, _, _ => none
  | k + 1, x4, x6, x7, x8, x168000, x168001, x168002, x168003, x168004, x173000, x173001, x173002, x173003, x173004 => if x8 < x168001 then ((some (([] : List Int) : List Int)).bind fun y173 => (if 0 ≤ x6 then (if x6 < (x4.length : Int) then (if y173.length + (rd_L3 x4 x6).length < 17592186044416 then ((some (y173 ++ (rd_L3 x4 x6) : List Int)).bind fun y177 => (if y177.length < 17592186044416 then ((some (y177 ++ [x8] : List Int)).bind fun y180 => ((coppicerref_NetLeads.f k x168000 x168001 x168002 x168003 x168004 y180).bind fun t183 => (coppicerref_Sure.l2 k x4 x6 x7 x8 y180 t183 (-1) (x4.length : Int) 0 x168000 x168001 x168002 x168003 x168004 x173000 x173001 x173002 x173003 x173004))) else (none))) else (none)) else (none)) else (none))) else (if x173002.length < 5864062014805 then ((some (x173002 ++ [x7] : List (List Int))).bind fun y195 => (if (x4.length : Int) > 7 then (some (0, 0, ([] : List (List Int)), 0, 0, false)) else (if 0 ≤ x6 then (if x6 < (x4.length : Int) then ((coppicerref_NetLeads.f k x168000 x168001 x168002 x168003 x168004 (rd_L3 x4 x6)).bind fun t199 => (if (Go.bits .and .u32 t199 x168004) = 0 then (coppicerref_Sure.l0 k x4 (wrap64 (x6 + 1)) x168000 x168001 x168002 x168003 x168004 x173000 x173001 y195 x173003 x173004) else (if 0 ≤ (IntKind.u64.wrap (x6)) then (coppicerref_Sure.l0 k x4 (wrap64 (x6 + 1)) x168000 x168001 x168002 x168003 x168004 x173000 x173001 y195 x173003 ((x173004 + (shl .u32 1 (IntKind.u64.wrap (x6)))) % 4294967296)) else (none)))) else (none)) else (none)))) else (none))
def coppicerref_Sure.l2 : Nat → List (List Int) → Int → List Int → Int → List Int → Int → Int → Int → Int → Int → Int → List (S31) → Int → Int → Int → Int → List (List Int) → Int → Int → Option (Int × Int × (List (List Int)) × Int × Int × Bool)
  | 0, _, _, _, _, _, _, _, _, _, _, _, _, _, _, _, _, _, _, _ => none
  | k + 1, x4, x6, x7, x8, x9, x10, x11, x43, x44, x168000, x168001, x168002, x168003, x168004, x173000, x173001, x173002, x173003, x173004 => if x44 < x43 then (if 0 ≤ x44 then (if x44 < (x4.length : Int) then (if x11 < 0 then ((coppicerref_NetLeads.f k x168000 x168001 x168002 x168003 x168004 (rd_L3 x4 x44)).bind fun t185 => (if t185 = x10 then (coppicerref_Sure.l2 k x4 x6 x7 x8 x9 x10 x44 x43 (wrap64 (x44 + 1)) x168000 x168001 x168002 x168003 x168004 x173000 x173001 x173002 x173003 x173004) else (coppicerref_Sure.l2 k x4 x6 x7 x8 x9 x10 x11 x43 (wrap64 (x44 + 1)) x168000 x168001 x168002 x168003 x168004 x173000 x173001 x173002 x173003 x173004))) else (coppicerref_Sure.l2 k x4 x6 x7 x8 x9 x10 x11 x43 (wrap64 (x44 + 1)) x168000 x168001 x168002 x168003 x168004 x173000 x173001 x173002 x173003 x173004)) else (none)) else (none)) else (if x11 < 0 then (if x4.length < 5864062014805 then (if x7.length < 17592186044416 then (coppicerref_Sure.l1 k (x4 ++ [x9]) x6 (x7 ++ [(x4.length : Int)]) (wrap64 (x8 + 1)) x168000 x168001 x168002 x168003 x168004 x173000 x173001 x173002 x173003 x173004) else (none)) else (none)) else (if x7.length < 17592186044416 then (coppicerref_Sure.l1 k x4 x6 (x7 ++ [x11]) (wrap64 (x8 + 1)) x168000 x168001 x168002 x168003 x168004 x173000 x173001 x173002 x173003 x173004) else (none)))
end
def coppicerref_Sure.f (k : Nat) (a0_0 : Int) (a0_1 : Int) (l0_2 : List (S31)) (a0_3 : Int) (a0_4 : Int) : Option (Int × Int × (List (List Int)) × Int × Int × Bool) := coppicerref_Sure.l0 k (([[]] : List (List Int))) 0 a0_0 a0_1 l0_2 a0_3 a0_4 0 a0_1 ([] : List (List Int)) 0 0
theorem coppicerref_Sure.mono_l : ∀ k, (∀ y0 y1 y2 y3 y4 y5 y6 y7 y8 y9 y10 y11, LeO (coppicerref_Sure.l0 k y0 y1 y2 y3 y4 y5 y6 y7 y8 y9 y10 y11) (coppicerref_Sure.l0 (k + 1) y0 y1 y2 y3 y4 y5 y6 y7 y8 y9 y10 y11)) ∧ (∀ y0 y1 y2 y3 y4 y5 y6 y7 y8 y9 y10 y11 y12 y13, LeO (coppicerref_Sure.l1 k y0 y1 y2 y3 y4 y5 y6 y7 y8 y9 y10 y11 y12 y13) (coppicerref_Sure.l1 (k + 1) y0 y1 y2 y3 y4 y5 y6 y7 y8 y9 y10 y11 y12 y13)) ∧ (∀ y0 y1 y2 y3 y4 y5 y6 y7 y8 y9 y10 y11 y12 y13 y14 y15 y16 y17 y18, LeO (coppicerref_Sure.l2 k y0 y1 y2 y3 y4 y5 y6 y7 y8 y9 y10 y11 y12 y13 y14 y15 y16 y17 y18) (coppicerref_Sure.l2 (k + 1) y0 y1 y2 y3 y4 y5 y6 y7 y8 y9 y10 y11 y12 y13 y14 y15 y16 y17 y18))
  | 0 => ⟨fun _ _ _ _ _ _ _ _ _ _ _ _ r h => by simp [coppicerref_Sure.l0] at h, fun _ _ _ _ _ _ _ _ _ _ _ _ _ _ r h => by simp [coppicerref_Sure.l1] at h, fun _ _ _ _ _ _ _ _ _ _ _ _ _ _ _ _ _ _ _ r h => by simp [coppicerref_Sure.l2] at h⟩
  | k + 1 => by
    obtain ⟨ih0, ih1, ih2⟩ := coppicerref_Sure.mono_l k
    refine ⟨?_, ?_, ?_⟩
    · intro y0 y1 y2 y3 y4 y5 y6 y7 y8 y9 y10 y11
      unfold coppicerref_Sure.l0
      repeat' first
      | (with_reducible exact ih0 _ _ _ _ _ _ _ _ _ _ _ _)
      | (with_reducible exact ih1 _ _ _ _ _ _ _ _ _ _ _ _ _ _)
      | (with_reducible exact ih2 _ _ _ _ _ _ _ _ _ _ _ _ _ _ _ _ _ _ _)
      | (with_reducible exact coppicerref_NetLeads.mono _ _ _ _ _ _ _)
      | (with_reducible exact LeO.refl _)
      | (with_reducible exact LeO.none _)
      | (with_reducible refine LeO.ite ?_ ?_)
      | (with_reducible refine LeO.bind ?_ (fun _ => ?_))
      | exact ih0 _ _ _ _ _ _ _ _ _ _ _ _
      | exact ih1 _ _ _ _ _ _ _ _ _ _ _ _ _ _
      | exact ih2 _ _ _ _ _ _ _ _ _ _ _ _ _ _ _ _ _ _ _
      | exact coppicerref_NetLeads.mono _ _ _ _ _ _ _
      | exact LeO.none _
      | refine LeO.ite ?_ ?_
      | refine LeO.bind ?_ (fun _ => ?_)
    · intro y0 y1 y2 y3 y4 y5 y6 y7 y8 y9 y10 y11 y12 y13
      unfold coppicerref_Sure.l1
      repeat' first
      | (with_reducible exact ih0 _ _ _ _ _ _ _ _ _ _ _ _)
      | (with_reducible exact ih1 _ _ _ _ _ _ _ _ _ _ _ _ _ _)
      | (with_reducible exact ih2 _ _ _ _ _ _ _ _ _ _ _ _ _ _ _ _ _ _ _)
      | (with_reducible exact coppicerref_NetLeads.mono _ _ _ _ _ _ _)
      | (with_reducible exact LeO.refl _)
      | (with_reducible exact LeO.none _)
      | (with_reducible refine LeO.ite ?_ ?_)
      | (with_reducible refine LeO.bind ?_ (fun _ => ?_))
      | exact ih0 _ _ _ _ _ _ _ _ _ _ _ _
      | exact ih1 _ _ _ _ _ _ _ _ _ _ _ _ _ _
      | exact ih2 _ _ _ _ _ _ _ _ _ _ _ _ _ _ _ _ _ _ _
      | exact coppicerref_NetLeads.mono _ _ _ _ _ _ _
      | exact LeO.none _
      | refine LeO.ite ?_ ?_
      | refine LeO.bind ?_ (fun _ => ?_)
    · intro y0 y1 y2 y3 y4 y5 y6 y7 y8 y9 y10 y11 y12 y13 y14 y15 y16 y17 y18
      unfold coppicerref_Sure.l2
      repeat' first
      | (with_reducible exact ih0 _ _ _ _ _ _ _ _ _ _ _ _)
      | (with_reducible exact ih1 _ _ _ _ _ _ _ _ _ _ _ _ _ _)
      | (with_reducible exact ih2 _ _ _ _ _ _ _ _ _ _ _ _ _ _ _ _ _ _ _)
      | (with_reducible exact coppicerref_NetLeads.mono _ _ _ _ _ _ _)
      | (with_reducible exact LeO.refl _)
      | (with_reducible exact LeO.none _)
      | (with_reducible refine LeO.ite ?_ ?_)
      | (with_reducible refine LeO.bind ?_ (fun _ => ?_))
      | exact ih0 _ _ _ _ _ _ _ _ _ _ _ _
      | exact ih1 _ _ _ _ _ _ _ _ _ _ _ _ _ _
      | exact ih2 _ _ _ _ _ _ _ _ _ _ _ _ _ _ _ _ _ _ _
      | exact coppicerref_NetLeads.mono _ _ _ _ _ _ _
      | exact LeO.none _
      | refine LeO.ite ?_ ?_
      | refine LeO.bind ?_ (fun _ => ?_)
theorem coppicerref_Sure.mono : ∀ a0 a1 a2 a3 a4 k, LeO (coppicerref_Sure.f k a0 a1 a2 a3 a4) (coppicerref_Sure.f (k + 1) a0 a1 a2 a3 a4) := by
  intro a0 a1 a2 a3 a4 k
  obtain ⟨ih0, ih1, ih2⟩ := coppicerref_Sure.mono_l k
  unfold coppicerref_Sure.f
  repeat' first
      | (with_reducible exact ih0 _ _ _ _ _ _ _ _ _ _ _ _)
      | (with_reducible exact ih1 _ _ _ _ _ _ _ _ _ _ _ _ _ _)
      | (with_reducible exact ih2 _ _ _ _ _ _ _ _ _ _ _ _ _ _ _ _ _ _ _)
      | (with_reducible exact coppicerref_NetLeads.mono _ _ _ _ _ _ _)
      | (with_reducible exact LeO.refl _)
      | (with_reducible exact LeO.none _)
      | (with_reducible refine LeO.ite ?_ ?_)
      | (with_reducible refine LeO.bind ?_ (fun _ => ?_))
      | exact ih0 _ _ _ _ _ _ _ _ _ _ _ _
      | exact ih1 _ _ _ _ _ _ _ _ _ _ _ _ _ _
      | exact ih2 _ _ _ _ _ _ _ _ _ _ _ _ _ _ _ _ _ _ _
      | exact coppicerref_NetLeads.mono _ _ _ _ _ _ _
      | exact LeO.none _
      | refine LeO.ite ?_ ?_
      | refine LeO.bind ?_ (fun _ => ?_)
def coppicerref_Sure.T26 : Bool × List (List Nat × List Nat) := (true, [([], []), ([], []), ([], []), ([1, 2], [1, 2]), ([3], [3]), ([0, 4], [0, 4]), ([], []), ([6], [6]), ([5, 7], [5, 7]), ([8], [8])])
def coppicerref_Sure.B26 : List Nat := [0, 0, 0, 6, 14, 31, 0, 64, 255, 511]
theorem coppicerref_Sure.tab26 : rtab .any (opsOf Try.f22 26) = coppicerref_Sure.T26 := by kernel_rfl
theorem coppicerref_Sure.bits26 : waitsOk coppicerref_Sure.T26.2 coppicerref_Sure.B26 = true := by kernel_rfl
set_option maxHeartbeats 8000000 in
set_option maxRecDepth 100000 in
theorem coppicerref_Sure.calls (k : Nat) (a0_0 : Int) (a0_1 : Int) (A0_2 : Option Addr) (c0_2 : Nat) (l0_2 : List (S31)) (a0_3 : Int) (a0_4 : Int) (r1 : Int) (r2 : Int) (r3 : List (List Int)) (r4 : Int) (r5 : Int) (r6 : Bool) (w : World) (hr0_2 : Kd.C k31 w A0_2 l0_2.length l0_2) (hc0_2 : l0_2.length ≤ c0_2) (h : coppicerref_Sure.f k a0_0 a0_1 l0_2 a0_3 a0_4 = some (r1, r2, r3, r4, r5, r6)) :
    Calls Try.prog 22 #[.agg #[.int .i64 a0_0, .int .i64 a0_1, .slice A0_2 l0_2.length c0_2, .int .u32 a0_3, .int .u32 a0_4]] w fun e w' => ∃ v2_ : Value, e = .returned (.tuple #[.agg #[.int .i64 r1, .int .i64 r2, v2_, .int .i64 r4, .int .u32 r5], .bool r6]) ∧ Kd.S (Kd.slice 3 (Kd.int .i64)) 33 w' w.heap.size (fun _ => True) v2_ r3 ∧ Below w.heap.size w w' := by
  have hu25 := Try.underlying25
  have hu41 := Try.underlying41
  have HR0_2 := Aside0.mk hr0_2
  have HC0_2 := Aside0.mk hc0_2
  clear hr0_2 hc0_2
  have HB := Aside0.mk (Below.refl w.heap.size w)
  have H : (coppicerref_Sure.l0 k (([[]] : List (List Int))) 0 a0_0 a0_1 l0_2 a0_3 a0_4 0 a0_1 ([] : List (List Int)) 0 0) = some (r1, r2, r3, r4, r5, r6) := h
  clear h
  obtain ⟨y169, hy169⟩ : ∃ y_ : List (List Int), y_ = (([[]] : List (List Int))) := ⟨_, rfl⟩
  replace H : (coppicerref_Sure.l0 k y169 0 a0_0 a0_1 l0_2 a0_3 a0_4 0 a0_1 ([] : List (List Int)) 0 0) = some (r1, r2, r3, r4, r5, r6) := by first | (rw [hy169]; with_reducible exact H) | (have H2_ := (Option.bind_some _ _).symm.trans H; rw [hy169]; with_reducible exact H2_) | (have H2_ := (Option.bind_some _ _).symm.trans H; with_reducible exact H2_) | with_reducible exact H | (rw [hy169]; exact H) | exact H
  have Ny169 := Aside0.mk hy169
  clear hy169
  have H' := Aside0.mk H
  clear H
  go_enter Try.func22, Try.ntmps22
  go_wp2_with (first | ((with_reducible refine gate_dst (N := 1) rfl ?_); refine box_event ?hg (N := 1) ?hd (cs := #[.int .i64 a0_0, .int .i64 a0_1, .slice A0_2 l0_2.length c0_2, .int .u32 a0_3, .int .u32 a0_4]) (t := 25) ?hr ?_; (case hd => rfl); (case hg => rfl); (case hr => first | (go_simp; done) | (go_simp; rfl)); intro gb167 hg w2 hbox hb; have n0_ := Aside0.mk (below_step (by repeat (first | (with_reducible first | exact HB.out | apply below_alloc | apply pw_below_drewN | apply below_drew1) | exact HB.out)) hb); have n1_ := Aside0.mk (hbox); have n2_ := Aside0.mk ((by rw [hg]; exact (below_size (by repeat (first | (with_reducible first | exact HB.out | apply below_alloc | apply pw_below_drewN | apply below_drew1) | exact HB.out))) : w.heap.size ≤ gb167)); have n3_ := Aside0.mk ((by rw [hg]; exact (below_size (by repeat (first | (with_reducible first | exact HB.out | apply below_alloc | apply pw_below_drewN | apply below_drew1) | exact HB.out))) : w.heap.size ≤ gb167)); clear HB; have HB := n0_; have BK167 := n1_; have GW167 := n2_; have GE167 := n3_; clear n0_ n1_ n2_ n3_; clear hb hbox hg) | ((with_reducible refine gate_dst (N := 2) rfl ?_); refine box_event ?hg (N := 2) ?hd (cs := #[.int .i64 0, .int .i64 0, .slice none 0 0, .int .i64 0, .int .u32 0]) (t := 41) ?hr ?_; (case hd => rfl); (case hg => rfl); (case hr => first | (go_simp; done) | (go_simp; rfl)); intro gb168 hg w3 hbox hb; have n0_ := Aside0.mk (blk_below (g := gb167) (o := .cells #[.int .i64 a0_0, .int .i64 a0_1, .slice A0_2 l0_2.length c0_2, .int .u32 a0_3, .int .u32 a0_4] 25 (0, 0)) (by (with_reducible repeat (first | refine blk_drewN ?_ _ | refine blk_drew ?_ | refine blk_alloc ?_ _)); exact BK167.out) hb); have n1_ := Aside0.mk (below_step (by repeat (first | (with_reducible first | exact HB.out | apply below_alloc | apply pw_below_drewN | apply below_drew1 | refine below_set ?_ GE167.out) | exact HB.out)) hb); have n2_ := Aside0.mk (hbox); have n3_ := Aside0.mk ((by rw [hg]; exact (below_size (by repeat (first | (with_reducible first | exact HB.out | apply below_alloc | apply pw_below_drewN | apply below_drew1 | refine below_set ?_ GE167.out) | exact HB.out))) : w.heap.size ≤ gb168)); have n4_ := Aside0.mk ((by rw [hg]; exact (below_size (by repeat (first | (with_reducible first | exact HB.out | apply below_alloc | apply pw_below_drewN | apply below_drew1 | refine below_set ?_ GE167.out) | exact HB.out))) : w.heap.size ≤ gb168)); have n5_ := Aside0.mk ((by rw [hg]; exact Nat.ne_of_lt (blk_lt (g := gb167) (o := .cells #[.int .i64 a0_0, .int .i64 a0_1, .slice A0_2 l0_2.length c0_2, .int .u32 a0_3, .int .u32 a0_4] 25 (0, 0)) (by (with_reducible repeat (first | refine blk_drewN ?_ _ | refine blk_drew ?_ | refine blk_alloc ?_ _)); exact BK167.out)) : gb167 ≠ gb168)); have n6_ := Aside0.mk ((by rw [hg]; exact Nat.ne_of_gt (blk_lt (g := gb167) (o := .cells #[.int .i64 a0_0, .int .i64 a0_1, .slice A0_2 l0_2.length c0_2, .int .u32 a0_3, .int .u32 a0_4] 25 (0, 0)) (by (with_reducible repeat (first | refine blk_drewN ?_ _ | refine blk_drew ?_ | refine blk_alloc ?_ _)); exact BK167.out)) : gb168 ≠ gb167)); clear BK167; clear HB; have BK167 := n0_; have HB := n1_; have BK168 := n2_; have GW168 := n3_; have GE168 := n4_; have NB167_168 := n5_; have NB168_167 := n6_; clear n0_ n1_ n2_ n3_ n4_ n5_ n6_; clear hb hbox hg) | ((with_reducible refine gate_dst (N := 14) rfl ?_); refine Kd.S_lit (Kd.slice 3 (Kd.int .i64)) _ 33 ?hg (N := 14) ?hd (xs := ([[]] : List (List Int))) (inner := [.slice none 0 0]) (ok := fun _ => True) (okp := fun _ => True) ?hr ?hp (fun _ hk => hk) trivial (Below.refl _ _) (Nat.le_refl _) (by simp) ?_; (case hd => rfl); (case hg => rfl); (case hr => first | (go_simp; done) | (go_simp; rfl)); (case hp => exact (Reps.one (show Kd.M (Kd.slice 3 (Kd.int .i64)) _ _ _ [] [.slice none 0 0] from ⟨_, rfl, Kd.R_nil _ _ _ _ _⟩) (Reps.none _ _))); intro v170 w4 ho5 hb hg_ hnew_; clear hg_ hnew_; (first | rw [← Ny169.out] at ho5 | (simp only [Int.reduceToNat] at ho5; rw [← Ny169.out] at ho5)); have n0_ := Aside0.mk (Kd.S_lower ho5 (below_size (by repeat (first | (with_reducible first | exact HB.out | apply below_alloc | apply pw_below_drewN | apply below_drew1 | refine below_set ?_ GE167.out | refine below_set ?_ GE168.out) | exact HB.out)))); have n1_ := Aside0.mk (blk_below (g := gb167) (o := .cells #[.int .i64 a0_0, .int .i64 a0_1, .slice A0_2 l0_2.length c0_2, .int .u32 a0_3, .int .u32 a0_4] 25 (0, 0)) (by (with_reducible repeat (first | refine blk_drewN ?_ _ | refine blk_drew ?_ | refine blk_alloc ?_ _)); exact BK167.out) hb); have n2_ := Aside0.mk (blk_below (g := gb168) (o := .cells #[.int .i64 0, .int .i64 0, .slice none 0 0, .int .i64 0, .int .u32 0] 41 (0, 0)) (by (with_reducible repeat (first | refine blk_drewN ?_ _ | refine blk_drew ?_ | refine blk_alloc ?_ _)); exact BK168.out) hb); have n3_ := Aside0.mk (below_step (by repeat (first | (with_reducible first | exact HB.out | apply below_alloc | apply pw_below_drewN | apply below_drew1 | refine below_set ?_ GE167.out | refine below_set ?_ GE168.out) | exact HB.out)) hb); clear BK167; clear BK168; clear HB; have HO171 := n0_; have BK167 := n1_; have BK168 := n2_; have HB := n3_; clear n0_ n1_ n2_ n3_; clear hb ho5; have hnb6 := NB167_168.out; have hnc6 := NB168_167.out; have hcz7_0 : w4.cell? ⟨gb167, 0, none⟩ = some (.int .i64 a0_0) := (blk_cell BK167.out 0).trans rfl; have hcz7_1 : w4.cell? ⟨gb167, 1, none⟩ = some (.int .i64 a0_1) := (blk_cell BK167.out 1).trans rfl; have hcz7_2 : w4.cell? ⟨gb167, 2, none⟩ = some (.slice A0_2 l0_2.length c0_2) := (blk_cell BK167.out 2).trans rfl; have hcz7_3 : w4.cell? ⟨gb167, 3, none⟩ = some (.int .u32 a0_3) := (blk_cell BK167.out 3).trans rfl; have hcz7_4 : w4.cell? ⟨gb167, 4, none⟩ = some (.int .u32 a0_4) := (blk_cell BK167.out 4).trans rfl; have hfz7_0 := blk_frozen BK167.out 0; have hfz7_1 := blk_frozen BK167.out 1; have hfz7_2 := blk_frozen BK167.out 2; have hfz7_3 := blk_frozen BK167.out 3; have hfz7_4 := blk_frozen BK167.out 4) | ((with_reducible refine gate_dst (N := 5) rfl ?_); refine box_event ?hg (N := 5) ?hd (cs := #[.int .i64 0, .int .i64 0, .slice none 0 0, .int .i64 0, .int .u32 0]) (t := 41) ?hr ?_; (case hd => rfl); (case hg => rfl); (case hr => first | (go_simp; done) | (go_simp; rfl)); intro gb172 hg w8 hbox hb; have n0_ := Aside0.mk (Kd.S_below (by (with_reducible repeat (first | apply Kd.S_alloc | apply Kd.S_drewN | apply Kd.S_drew)); exact HO171.out) hb); have n1_ := Aside0.mk (blk_below (g := gb167) (o := .cells #[.int .i64 a0_0, .int .i64 a0_1, .slice A0_2 l0_2.length c0_2, .int .u32 a0_3, .int .u32 a0_4] 25 (0, 0)) (by (with_reducible repeat (first | refine blk_drewN ?_ _ | refine blk_drew ?_ | refine blk_alloc ?_ _)); exact BK167.out) hb); have n2_ := Aside0.mk (blk_below (g := gb168) (o := .cells #[.int .i64 0, .int .i64 0, .slice none 0 0, .int .i64 0, .int .u32 0] 41 (0, 0)) (by (with_reducible repeat (first | refine blk_drewN ?_ _ | refine blk_drew ?_ | refine blk_alloc ?_ _)); exact BK168.out) hb); have n3_ := Aside0.mk (below_step (by repeat (first | (with_reducible first | exact HB.out | apply below_alloc | apply pw_below_drewN | apply below_drew1 | refine below_set ?_ GE167.out | refine below_set ?_ GE168.out) | exact HB.out)) hb); have n4_ := Aside0.mk (hbox); have n5_ := Aside0.mk ((by rw [hg]; exact (below_size (by repeat (first | (with_reducible first | exact HB.out | apply below_alloc | apply pw_below_drewN | apply below_drew1 | refine below_set ?_ GE167.out | refine below_set ?_ GE168.out) | exact HB.out))) : w.heap.size ≤ gb172)); have n6_ := Aside0.mk ((by rw [hg]; exact (below_size (by repeat (first | (with_reducible first | exact HB.out | apply below_alloc | apply pw_below_drewN | apply below_drew1 | refine below_set ?_ GE167.out | refine below_set ?_ GE168.out) | exact HB.out))) : w.heap.size ≤ gb172)); have n7_ := Aside0.mk ((by rw [hg]; exact Nat.ne_of_lt (blk_lt (g := gb167) (o := .cells #[.int .i64 a0_0, .int .i64 a0_1, .slice A0_2 l0_2.length c0_2, .int .u32 a0_3, .int .u32 a0_4] 25 (0, 0)) (by (with_reducible repeat (first | refine blk_drewN ?_ _ | refine blk_drew ?_ | refine blk_alloc ?_ _)); exact BK167.out)) : gb167 ≠ gb172)); have n8_ := Aside0.mk ((by rw [hg]; exact Nat.ne_of_gt (blk_lt (g := gb167) (o := .cells #[.int .i64 a0_0, .int .i64 a0_1, .slice A0_2 l0_2.length c0_2, .int .u32 a0_3, .int .u32 a0_4] 25 (0, 0)) (by (with_reducible repeat (first | refine blk_drewN ?_ _ | refine blk_drew ?_ | refine blk_alloc ?_ _)); exact BK167.out)) : gb172 ≠ gb167)); have n9_ := Aside0.mk ((by rw [hg]; exact Nat.ne_of_lt (blk_lt (g := gb168) (o := .cells #[.int .i64 0, .int .i64 0, .slice none 0 0, .int .i64 0, .int .u32 0] 41 (0, 0)) (by (with_reducible repeat (first | refine blk_drewN ?_ _ | refine blk_drew ?_ | refine blk_alloc ?_ _)); exact BK168.out)) : gb168 ≠ gb172)); have n10_ := Aside0.mk ((by rw [hg]; exact Nat.ne_of_gt (blk_lt (g := gb168) (o := .cells #[.int .i64 0, .int .i64 0, .slice none 0 0, .int .i64 0, .int .u32 0] 41 (0, 0)) (by (with_reducible repeat (first | refine blk_drewN ?_ _ | refine blk_drew ?_ | refine blk_alloc ?_ _)); exact BK168.out)) : gb172 ≠ gb168)); clear HO171; clear BK167; clear BK168; clear HB; have HO171 := n0_; have BK167 := n1_; have BK168 := n2_; have HB := n3_; have BK172 := n4_; have GW172 := n5_; have GE172 := n6_; have NB167_172 := n7_; have NB172_167 := n8_; have NB168_172 := n9_; have NB172_168 := n10_; clear n0_ n1_ n2_ n3_ n4_ n5_ n6_ n7_ n8_ n9_ n10_; clear hb hbox hg; have hnb9 := NB172_167.out; have hnc9 := NB167_172.out; have hnb10 := NB172_168.out; have hnc10 := NB168_172.out; have hcz11_0 : w8.cell? ⟨gb172, 0, none⟩ = some (.int .i64 0) := (blk_cell BK172.out 0).trans rfl; have hcz11_1 : w8.cell? ⟨gb172, 1, none⟩ = some (.int .i64 0) := (blk_cell BK172.out 1).trans rfl; have hcz11_2 : w8.cell? ⟨gb172, 2, none⟩ = some (.slice none 0 0) := (blk_cell BK172.out 2).trans rfl; have hcz11_3 : w8.cell? ⟨gb172, 3, none⟩ = some (.int .i64 0) := (blk_cell BK172.out 3).trans rfl; have hcz11_4 : w8.cell? ⟨gb172, 4, none⟩ = some (.int .u32 0) := (blk_cell BK172.out 4).trans rfl; have hfz11_0 := blk_frozen BK172.out 0; have hfz11_1 := blk_frozen BK172.out 1; have hfz11_2 := blk_frozen BK172.out 2; have hfz11_3 := blk_frozen BK172.out 3; have hfz11_4 := blk_frozen BK172.out 4))
  go_loopg [4, 6] k (fun kq v4 v6 w' => ∃ (x4_1 : List (List Int)) (x6_1 : Int) (x169000_1 : Int) (x169001_1 : Int) (x169003_1 : Int) (x169004_1 : Int) (x173002_1 : List (List Int)) (x173004_1 : Int) (u173002 : Value), v6 = .int .i64 x6_1 ∧ Aside0 (coppicerref_Sure.l0 kq x4_1 x6_1 a0_0 a0_1 l0_2 a0_3 a0_4 0 a0_1 x173002_1 0 x173004_1 = some (r1, r2, r3, r4, r5, r6)) ∧ Aside0 (kq ≤ k) ∧ Aside0 (Kd.S (Kd.slice 3 (Kd.int .i64)) 33 w' w.heap.size (fun k_ => some k_ ≠ (u173002 : Value).ownBlock) v4 x4_1) ∧ Aside0 (Kd.S (Kd.slice 3 (Kd.int .i64)) 33 w' w.heap.size (fun k_ => some k_ ≠ (v4 : Value).ownBlock) u173002 x173002_1) ∧ Aside0 (w'.heap[gb167]? = some (.cells #[.int .i64 a0_0, .int .i64 a0_1, (.slice A0_2 l0_2.length c0_2), .int .u32 a0_3, .int .u32 a0_4] 25 (0, 0))) ∧ Aside0 (w'.heap[gb168]? = some (.cells #[.int .i64 x169000_1, .int .i64 x169001_1, (.slice none 0 0), .int .i64 x169003_1, .int .u32 x169004_1] 41 (0, 0))) ∧ Aside0 (w'.heap[gb172]? = some (.cells #[.int .i64 0, .int .i64 a0_1, u173002, .int .i64 0, .int .u32 x173004_1] 41 (0, 0))) ∧ Aside0 (Below w.heap.size w w'))
  case atStart => exact ⟨(y169), (0), (0), (0), (0), (0), (([] : List (List Int))), (0), (.slice none 0 0), (by first | rfl | (simp; done) | (simp [*]; done)), H', ⟨Nat.le_refl _⟩, ⟨by (with_reducible repeat (first | apply Kd.S_alloc | apply Kd.S_drewN | apply Kd.S_drew)); exact Kd.S_mono (Kd.S_far (p := ⟨gb172, 4, none⟩) (Kd.S_far (p := ⟨gb172, 3, none⟩) (Kd.S_far (p := ⟨gb172, 2, none⟩) (Kd.S_far (p := ⟨gb172, 1, none⟩) (Kd.S_far (p := ⟨gb172, 0, none⟩) (Kd.S_types HO171.out BK172.out (by decide)) (fun _ hk => hk.2) (.int .i64 0)) (fun _ hk => hk.2) (.int .i64 a0_1)) (fun _ hk => hk.2) (.slice none 0 0)) (fun _ hk => hk.2) (.int .i64 0)) (fun _ hk => hk.2) (.int .u32 0)) (fun _ hk => (by simp [Value.ownBlock]))⟩, ⟨by first | exact Kd.S_nil _ _ _ _ _ | exact Kd.N_nil _ _ _ _ _ | exact Kd.V_nil _ _ _ _ _ | exact Kd.Q_nil _ _ _ _ _ | exact Kd.R_nil _ _ _ _ _ | (go_simp; exact Kd.S_nil _ _ _ _ _)⟩, ⟨by (with_reducible repeat (first | refine blk_drewN ?_ _ | refine blk_drew ?_ | refine blk_alloc ?_ _)); refine blk_far ?_ NB167_172.out _; (with_reducible repeat (first | refine blk_drewN ?_ _ | refine blk_drew ?_ | refine blk_alloc ?_ _)); refine blk_far ?_ NB167_172.out _; (with_reducible repeat (first | refine blk_drewN ?_ _ | refine blk_drew ?_ | refine blk_alloc ?_ _)); refine blk_far ?_ NB167_172.out _; (with_reducible repeat (first | refine blk_drewN ?_ _ | refine blk_drew ?_ | refine blk_alloc ?_ _)); refine blk_far ?_ NB167_172.out _; (with_reducible repeat (first | refine blk_drewN ?_ _ | refine blk_drew ?_ | refine blk_alloc ?_ _)); refine blk_far ?_ NB167_172.out _; (with_reducible repeat (first | refine blk_drewN ?_ _ | refine blk_drew ?_ | refine blk_alloc ?_ _)); exact BK167.out⟩, ⟨by (with_reducible repeat (first | refine blk_drewN ?_ _ | refine blk_drew ?_ | refine blk_alloc ?_ _)); refine blk_far ?_ NB168_172.out _; (with_reducible repeat (first | refine blk_drewN ?_ _ | refine blk_drew ?_ | refine blk_alloc ?_ _)); refine blk_far ?_ NB168_172.out _; (with_reducible repeat (first | refine blk_drewN ?_ _ | refine blk_drew ?_ | refine blk_alloc ?_ _)); refine blk_far ?_ NB168_172.out _; (with_reducible repeat (first | refine blk_drewN ?_ _ | refine blk_drew ?_ | refine blk_alloc ?_ _)); refine blk_far ?_ NB168_172.out _; (with_reducible repeat (first | refine blk_drewN ?_ _ | refine blk_drew ?_ | refine blk_alloc ?_ _)); refine blk_far ?_ NB168_172.out _; (with_reducible repeat (first | refine blk_drewN ?_ _ | refine blk_drew ?_ | refine blk_alloc ?_ _)); exact BK168.out⟩, ⟨by (with_reducible repeat (first | refine blk_drewN ?_ _ | refine blk_drew ?_ | refine blk_alloc ?_ _)); refine blk_put (cs := #[.int .i64 0, .int .i64 a0_1, .slice none 0 0, .int .i64 0, .int .u32 0]) ?_ 4 _ rfl; (with_reducible repeat (first | refine blk_drewN ?_ _ | refine blk_drew ?_ | refine blk_alloc ?_ _)); refine blk_put (cs := #[.int .i64 0, .int .i64 a0_1, .slice none 0 0, .int .i64 0, .int .u32 0]) ?_ 3 _ rfl; (with_reducible repeat (first | refine blk_drewN ?_ _ | refine blk_drew ?_ | refine blk_alloc ?_ _)); refine blk_put (cs := #[.int .i64 0, .int .i64 a0_1, .slice none 0 0, .int .i64 0, .int .u32 0]) ?_ 2 _ rfl; (with_reducible repeat (first | refine blk_drewN ?_ _ | refine blk_drew ?_ | refine blk_alloc ?_ _)); refine blk_put (cs := #[.int .i64 0, .int .i64 0, .slice none 0 0, .int .i64 0, .int .u32 0]) ?_ 1 _ rfl; (with_reducible repeat (first | refine blk_drewN ?_ _ | refine blk_drew ?_ | refine blk_alloc ?_ _)); refine blk_put (cs := #[.int .i64 0, .int .i64 0, .slice none 0 0, .int .i64 0, .int .u32 0]) ?_ 0 _ rfl; (with_reducible repeat (first | refine blk_drewN ?_ _ | refine blk_drew ?_ | refine blk_alloc ?_ _)); exact BK172.out⟩, ⟨by repeat (first | (with_reducible first | exact HB.out | apply below_alloc | apply pw_below_drewN | apply below_drew1 | refine below_set ?_ GE167.out | refine below_set ?_ GE168.out | refine below_set ?_ GE172.out) | exact HB.out)⟩⟩
  case round =>
    clear H'
    try clear c1
    try clear c2
    try clear p2
    try clear c6
    try clear c9
    try clear c10
    try clear hcz11_0
    try clear hcz11_1
    try clear hcz11_2
    try clear hcz11_3
    try clear hcz11_4
    try clear hcz7_0
    try clear hcz7_1
    try clear hcz7_2
    try clear hcz7_3
    try clear hcz7_4
    try clear hfz11_0
    try clear hfz11_1
    try clear hfz11_2
    try clear hfz11_3
    try clear hfz11_4
    try clear hfz7_0
    try clear hfz7_1
    try clear hfz7_2
    try clear hfz7_3
    try clear hfz7_4
    obtain ⟨x4_1, x6_1, x169000_1, x169001_1, x169003_1, x169004_1, x173002_1, x173004_1, u173002, rfl, HA, HK1, HO_4, HO_173002, BK167, BK168, BK172, HB⟩ := hrel
    cases gk with
    | zero => exact absurd HA.out (by simp [coppicerref_Sure.l0])
    | succ k1 =>
      have H := HA.out
      clear HA
      simp only [coppicerref_Sure.l0] at H
      by_cases c12 : x6_1 < (x4_1.length : Int)
      · rw [if_pos c12] at H
        have c12b0 : decide (x6_1 < (x4_1.length : Int)) = true := decide_eq_true c12
        clear c12
        have H' := Aside0.mk H
        clear H
        obtain ⟨Ao13, co13, eo13⟩ := Kd.S_slice HO_4.out
        subst eo13
        go_wp2
        go_loopg [4, 7, 8] k1 (fun kq v4 v7 v8 w' => ∃ (x4_2 : List (List Int)) (x7_2 : List Int) (x8_2 : Int), v8 = .int .i64 x8_2 ∧ Aside0 (coppicerref_Sure.l1 kq x4_2 x6_1 x7_2 x8_2 a0_0 a0_1 l0_2 a0_3 a0_4 0 a0_1 x173002_1 0 x173004_1 = some (r1, r2, r3, r4, r5, r6)) ∧ Aside0 (kq ≤ k1) ∧ Aside0 (Kd.S (Kd.slice 3 (Kd.int .i64)) 33 w' w.heap.size (fun k_ => some k_ ≠ (v7 : Value).ownBlock ∧ some k_ ≠ (u173002 : Value).ownBlock) v4 x4_2) ∧ Aside0 (Kd.R (Kd.int .i64) 3 w' w.heap.size (fun _ => True) v7 x7_2) ∧ Aside0 (Kd.S (Kd.slice 3 (Kd.int .i64)) 33 w' w.heap.size (fun k_ => some k_ ≠ (v4 : Value).ownBlock ∧ some k_ ≠ (v7 : Value).ownBlock) u173002 x173002_1) ∧ Aside0 (w'.heap[gb167]? = some (.cells #[.int .i64 a0_0, .int .i64 a0_1, (.slice A0_2 l0_2.length c0_2), .int .u32 a0_3, .int .u32 a0_4] 25 (0, 0))) ∧ Aside0 (w'.heap[gb168]? = some (.cells #[.int .i64 x169000_1, .int .i64 x169001_1, (.slice none 0 0), .int .i64 x169003_1, .int .u32 x169004_1] 41 (0, 0))) ∧ Aside0 (w'.heap[gb172]? = some (.cells #[.int .i64 0, .int .i64 a0_1, u173002, .int .i64 0, .int .u32 x173004_1] 41 (0, 0))) ∧ Aside0 (Below w.heap.size w w'))
        case atStart => exact ⟨(x4_1), (([] : List Int)), (0), (by first | rfl | (simp; done) | (simp [*]; done)), H', ⟨Nat.le_refl _⟩, ⟨by (with_reducible repeat (first | apply Kd.S_alloc | apply Kd.S_drewN | apply Kd.S_drew)); exact Kd.S_mono HO_4.out (fun _ hk => ⟨(by simp [Value.ownBlock]), hk⟩)⟩, ⟨by first | exact Kd.R_nil _ _ _ _ _ | exact Kd.N_nil _ _ _ _ _ | exact Kd.V_nil _ _ _ _ _ | exact Kd.Q_nil _ _ _ _ _ | exact Kd.S_nil _ _ _ _ _ | (go_simp; exact Kd.R_nil _ _ _ _ _)⟩, ⟨by (with_reducible repeat (first | apply Kd.S_alloc | apply Kd.S_drewN | apply Kd.S_drew)); exact Kd.S_mono HO_173002.out (fun _ hk => ⟨hk, (by simp [Value.ownBlock])⟩)⟩, ⟨by (with_reducible repeat (first | refine blk_drewN ?_ _ | refine blk_drew ?_ | refine blk_alloc ?_ _)); exact BK167.out⟩, ⟨by (with_reducible repeat (first | refine blk_drewN ?_ _ | refine blk_drew ?_ | refine blk_alloc ?_ _)); exact BK168.out⟩, ⟨by (with_reducible repeat (first | refine blk_drewN ?_ _ | refine blk_drew ?_ | refine blk_alloc ?_ _)); exact BK172.out⟩, ⟨by repeat (first | (with_reducible first | exact HB.out | apply below_alloc | apply pw_below_drewN | apply below_drew1 | refine below_set ?_ GE167.out | refine below_set ?_ GE168.out | refine below_set ?_ GE172.out) | exact HB.out)⟩⟩
        case round =>
          clear H'
          try clear c1
          try clear c2
          try clear p2
          try clear c6
          try clear c9
          try clear c10
          try clear c12
          try clear c12b0
          try clear hcz11_0
          try clear hcz11_1
          try clear hcz11_2
          try clear hcz11_3
          try clear hcz11_4
          try clear hcz7_0
          try clear hcz7_1
          try clear hcz7_2
          try clear hcz7_3
          try clear hcz7_4
          try clear hfz11_0
          try clear hfz11_1
          try clear hfz11_2
          try clear hfz11_3
          try clear hfz11_4
          try clear hfz7_0
          try clear hfz7_1
          try clear hfz7_2
          try clear hfz7_3
          try clear hfz7_4
          try clear p2
          obtain ⟨x4_2, x7_2, x8_2, rfl, HA, HK2, HO_4, HO_7, HO_173002, BK167, BK168, BK172, HB⟩ := hrel
          cases gk with
          | zero => exact absurd HA.out (by simp [coppicerref_Sure.l1])
          | succ k2 =>
            have H := HA.out
            clear HA
            simp only [coppicerref_Sure.l1] at H
            by_cases c14 : x8_2 < a0_1
            · rw [if_pos c14] at H
              have c14b0 : decide (x8_2 < a0_1) = true := decide_eq_true c14
              clear c14
              obtain ⟨y173, hy173⟩ : ∃ y_ : List Int, y_ = (([] : List Int)) := ⟨_, rfl⟩
              replace H : (if 0 ≤ x6_1 then (if x6_1 < (x4_2.length : Int) then (if y173.length + (rd_L3 x4_2 x6_1).length < 17592186044416 then ((some (y173 ++ (rd_L3 x4_2 x6_1) : List Int)).bind fun y177 => (if y177.length < 17592186044416 then ((some (y177 ++ [x8_2] : List Int)).bind fun y180 => ((coppicerref_NetLeads.f k2 a0_0 a0_1 l0_2 a0_3 a0_4 y180).bind fun t183 => (coppicerref_Sure.l2 k2 x4_2 x6_1 x7_2 x8_2 y180 t183 (-1) (x4_2.length : Int) 0 a0_0 a0_1 l0_2 a0_3 a0_4 0 a0_1 x173002_1 0 x173004_1))) else (none))) else (none)) else (none)) else (none)) = some (r1, r2, r3, r4, r5, r6) := by first | (rw [hy173]; with_reducible exact H) | (have H2_ := (Option.bind_some _ _).symm.trans H; rw [hy173]; with_reducible exact H2_) | (have H2_ := (Option.bind_some _ _).symm.trans H; with_reducible exact H2_) | with_reducible exact H | (rw [hy173]; exact H) | exact H
              have Ny173 := Aside0.mk hy173
              clear hy173
              by_cases c15 : 0 ≤ x6_1
              · rw [if_pos c15] at H
                have c15b0 : decide (0 ≤ x6_1) = true := decide_eq_true c15
                clear c15
                by_cases c16 : x6_1 < (x4_2.length : Int)
                · rw [if_pos c16] at H
                  have c16b0 : decide (x6_1 < (x4_2.length : Int)) = true := decide_eq_true c16
                  clear c16
                  by_cases c17 : y173.length + (rd_L3 x4_2 x6_1).length < 17592186044416
                  · rw [if_pos c17] at H
                    have LMc17 := Aside0.mk c17
                    clear c17
                    obtain ⟨y177, hy177⟩ : ∃ y_ : List Int, y_ = (y173 ++ (rd_L3 x4_2 x6_1)) := ⟨_, rfl⟩
                    replace H : (if y177.length < 17592186044416 then ((some (y177 ++ [x8_2] : List Int)).bind fun y180 => ((coppicerref_NetLeads.f k2 a0_0 a0_1 l0_2 a0_3 a0_4 y180).bind fun t183 => (coppicerref_Sure.l2 k2 x4_2 x6_1 x7_2 x8_2 y180 t183 (-1) (x4_2.length : Int) 0 a0_0 a0_1 l0_2 a0_3 a0_4 0 a0_1 x173002_1 0 x173004_1))) else (none)) = some (r1, r2, r3, r4, r5, r6) := by first | (rw [hy177]; with_reducible exact H) | (have H2_ := (Option.bind_some _ _).symm.trans H; rw [hy177]; with_reducible exact H2_) | (have H2_ := (Option.bind_some _ _).symm.trans H; with_reducible exact H2_) | with_reducible exact H | (rw [hy177]; exact H) | exact H
                    have Ny177 := Aside0.mk hy177
                    clear hy177
                    by_cases c18 : y177.length < 17592186044416
                    · rw [if_pos c18] at H
                      have LMc18 := Aside0.mk c18
                      clear c18
                      obtain ⟨y180, hy180⟩ : ∃ y_ : List Int, y_ = (y177 ++ [x8_2]) := ⟨_, rfl⟩
                      replace H : ((coppicerref_NetLeads.f k2 a0_0 a0_1 l0_2 a0_3 a0_4 y180).bind fun t183 => (coppicerref_Sure.l2 k2 x4_2 x6_1 x7_2 x8_2 y180 t183 (-1) (x4_2.length : Int) 0 a0_0 a0_1 l0_2 a0_3 a0_4 0 a0_1 x173002_1 0 x173004_1)) = some (r1, r2, r3, r4, r5, r6) := by first | (rw [hy180]; with_reducible exact H) | (have H2_ := (Option.bind_some _ _).symm.trans H; rw [hy180]; with_reducible exact H2_) | (have H2_ := (Option.bind_some _ _).symm.trans H; with_reducible exact H2_) | with_reducible exact H | (rw [hy180]; exact H) | exact H
                      have Ny180 := Aside0.mk hy180
                      clear hy180
                      replace H := Option.bind_eq_some_iff.mp H
                      obtain ⟨t183, A190, H⟩ := H
                      replace H : (coppicerref_Sure.l2 k2 x4_2 x6_1 x7_2 x8_2 y180 t183 (-1) (x4_2.length : Int) 0 a0_0 a0_1 l0_2 a0_3 a0_4 0 a0_1 x173002_1 0 x173004_1) = some (r1, r2, r3, r4, r5, r6) := H
                      have A19 := Aside0.mk A190
                      clear A190
                      have H' := Aside0.mk H
                      clear H
                      have hnb20 := NB167_168.out
                      have hnc20 := NB168_167.out
                      have hnb21 := NB167_172.out
                      have hnc21 := NB172_167.out
                      have hcz22_0 : wr.cell? ⟨gb167, 0, none⟩ = some (.int .i64 a0_0) := (blk_cell BK167.out 0).trans rfl
                      have hcz22_1 : wr.cell? ⟨gb167, 1, none⟩ = some (.int .i64 a0_1) := (blk_cell BK167.out 1).trans rfl
                      have hcz22_2 : wr.cell? ⟨gb167, 2, none⟩ = some (.slice A0_2 l0_2.length c0_2) := (blk_cell BK167.out 2).trans rfl
                      have hcz22_3 : wr.cell? ⟨gb167, 3, none⟩ = some (.int .u32 a0_3) := (blk_cell BK167.out 3).trans rfl
                      have hcz22_4 : wr.cell? ⟨gb167, 4, none⟩ = some (.int .u32 a0_4) := (blk_cell BK167.out 4).trans rfl
                      have hfz22_0 := blk_frozen BK167.out 0
                      have hfz22_1 := blk_frozen BK167.out 1
                      have hfz22_2 := blk_frozen BK167.out 2
                      have hfz22_3 := blk_frozen BK167.out 3
                      have hfz22_4 := blk_frozen BK167.out 4
                      go_wp2_with (first | ((with_reducible refine gate_dst (N := 30) rfl ?_); refine Kd.R_lit (Kd.int .i64) _ 3 ?hg (N := 30) ?hd (xs := ([] : List Int)) (inner := []) (ok := fun _ => True) (okp := fun _ => True) ?hr ?hp (fun _ hk => hk) trivial (Below.refl _ _) (Nat.le_refl _) (by simp) ?_; (case hd => rfl); (case hg => rfl); (case hr => first | (go_simp; done) | (go_simp; rfl)); (case hp => exact (Reps.none _ _)); intro v174 w23 ho24 hb hg_ hnew_; clear hg_ hnew_; (first | rw [← Ny173.out] at ho24 | (simp only [Int.reduceToNat] at ho24; rw [← Ny173.out] at ho24)); have n0_ := Aside0.mk (Kd.S_elder' (by (with_reducible repeat (first | apply Kd.S_alloc | apply Kd.S_drewN | apply Kd.S_drew)); exact HO_4.out) (Kd.R_base ho24) hb); have n1_ := Aside0.mk (Kd.R_elder' (by (with_reducible repeat (first | apply Kd.R_alloc | apply Kd.R_drewN | apply Kd.R_drew)); exact HO_7.out) (Kd.R_base ho24) hb); have n2_ := Aside0.mk (Kd.S_elder' (by (with_reducible repeat (first | apply Kd.S_alloc | apply Kd.S_drewN | apply Kd.S_drew)); exact HO_173002.out) (Kd.R_base ho24) hb); have n3_ := Aside0.mk (Kd.R_lower (Kd.R_new' ho24 (Kd.R_lt (by (with_reducible repeat (first | apply Kd.R_alloc | apply Kd.R_drewN | apply Kd.R_drew)); exact HO_7.out))) (below_size (by repeat (first | (with_reducible first | exact HB.out | apply below_alloc | apply pw_below_drewN | apply below_drew1 | refine below_set ?_ GE167.out | refine below_set ?_ GE168.out | refine below_set ?_ GE172.out) | exact HB.out)))); have n4_ := Aside0.mk (blk_below (g := gb167) (o := .cells #[.int .i64 a0_0, .int .i64 a0_1, .slice A0_2 l0_2.length c0_2, .int .u32 a0_3, .int .u32 a0_4] 25 (0, 0)) (by (with_reducible repeat (first | refine blk_drewN ?_ _ | refine blk_drew ?_ | refine blk_alloc ?_ _)); exact BK167.out) hb); have n5_ := Aside0.mk (blk_below (g := gb168) (o := .cells #[.int .i64 x169000_1, .int .i64 x169001_1, .slice none 0 0, .int .i64 x169003_1, .int .u32 x169004_1] 41 (0, 0)) (by (with_reducible repeat (first | refine blk_drewN ?_ _ | refine blk_drew ?_ | refine blk_alloc ?_ _)); exact BK168.out) hb); have n6_ := Aside0.mk (blk_below (g := gb172) (o := .cells #[.int .i64 0, .int .i64 a0_1, u173002, .int .i64 0, .int .u32 x173004_1] 41 (0, 0)) (by (with_reducible repeat (first | refine blk_drewN ?_ _ | refine blk_drew ?_ | refine blk_alloc ?_ _)); exact BK172.out) hb); have n7_ := Aside0.mk (below_step (by repeat (first | (with_reducible first | exact HB.out | apply below_alloc | apply pw_below_drewN | apply below_drew1 | refine below_set ?_ GE167.out | refine below_set ?_ GE168.out | refine below_set ?_ GE172.out) | exact HB.out)) hb); clear HO_4; clear HO_7; clear HO_173002; clear BK167; clear BK168; clear BK172; clear HB; have HO_4 := n0_; have HO_7 := n1_; have HO_173002 := n2_; have HO175 := n3_; have BK167 := n4_; have BK168 := n5_; have BK172 := n6_; have HB := n7_; clear n0_ n1_ n2_ n3_ n4_ n5_ n6_ n7_; clear hb ho24; obtain ⟨Ao25, co25, eo25⟩ := Kd.S_slice HO_4.out; subst eo25; have p176 : 0 ≤ (x6_1 : Int) := of_decide_eq_true (by first | (with_reducible assumption) | assumption); have q176 : x6_1 < (x4_2.length : Int) := of_decide_eq_true (by first | (with_reducible assumption) | assumption); obtain ⟨ad176, A176_0, c176_0, e176, hx176_0, hl176_0, hi176_0⟩ := at_L3 (Kd.S_reads' HO_4.out).2.2 x6_1 p176 q176; cases e176; obtain ⟨ce176, hce176, hMe176, hcc176⟩ := Kd.S_get HO_4.out [] x6_1 p176 (by first | exact q176 | exact of_decide_eq_true (by first | (with_reducible assumption) | assumption) | (have e_ := (Kd.S_reads' HO_4.out).1; omega)); obtain ⟨ve176_0, rfl, ge176_0⟩ := hMe176; have hv176_0 := hcc176 0 _ rfl; rw [Nat.add_zero, show ((Kd.slice 3 (Kd.int .i64))).sz = 1 from rfl, Nat.mul_one] at hv176_0; replace hv176_0 := Option.some.inj (hv176_0.symm.trans hx176_0); rw [hv176_0] at ge176_0; have HL176_0 := Aside0.mk (show Kd.R (Kd.int .i64) 3 _ _ _ _ (rd_L3 x4_2 x6_1) from ge176_0); clear hv176_0 ge176_0; clear hcc176 hce176; have HR176_0 := Aside0.mk hi176_0; have HC176_0 := Aside0.mk hl176_0; clear hi176_0 hl176_0; replace p176 := eq_true p176; replace q176 := eq_true q176) | ((with_reducible refine gate_builtin (b := .append) (xs := #[.tmp 30, .tmp 34]) rfl ?_); at_builtin; refine Kd.R_append_rows (Kd.int .i64) (w0 := w) w.heap.size rfl (.tmp 30) (.tmp 34) 33 3 (.int .i64 0) 8 rfl Try.underlying33 info3 rfl (by decide) (by omega) v174 y173 (rd_L3 x4_2 x6_1) _ _ _ (fun k_ => some k_ ≠ (u7 : Value).ownBlock) (fun _ => False) rfl rfl ?aO ?aR (fun _ _ h => h) (fun _ h => h.elim) ?aF ?aB ?aS ?aL ?_; (case aR => repeat (first | exact (by repeat (first | (with_reducible exact HR176_0.out) | (with_reducible refine Kd.C_alloc ?_ _) | (with_reducible refine Kd.C_drewN ?_ _) | (with_reducible refine Kd.C_drew ?_) | exact HR176_0.out)) | (with_reducible refine Kd.C_alloc ?_ _) | (with_reducible refine Kd.C_drewN ?_ _) | (with_reducible refine Kd.C_drew ?_))); (case aB => exact (by repeat (first | (with_reducible first | exact HB.out | apply below_alloc | apply pw_below_drewN | apply below_drew1 | refine below_set ?_ GE167.out | refine below_set ?_ GE168.out | refine below_set ?_ GE172.out) | exact HB.out))); (case aF => exact (fun k_ hk => Kd.fresh' (Kd.R_lt (by (with_reducible repeat (first | apply Kd.R_alloc | apply Kd.R_drewN | apply Kd.R_drew)); exact HO_7.out)) k_ hk)); (case aO => exact (by (with_reducible repeat (first | apply Kd.R_alloc | apply Kd.R_drewN | apply Kd.R_drew)); exact Kd.R_mono HO175.out (fun _ hk => hk.2))); (case aS => exact (below_size (by repeat (first | (with_reducible first | exact HB.out | apply below_alloc | apply pw_below_drewN | apply below_drew1 | refine below_set ?_ GE167.out | refine below_set ?_ GE168.out | refine below_set ?_ GE172.out) | exact HB.out)))); (case aL => have := LMc17.out; omega); intro v178 w26 ho hb hg hat; rw [← Ny177.out] at ho; have n0_ := Aside0.mk (Kd.S_after (ok := (fun k_ => some k_ ≠ (u7 : Value).ownBlock ∧ some k_ ≠ (u173002 : Value).ownBlock)) (by (with_reducible repeat (first | apply Kd.S_alloc | apply Kd.S_drewN | apply Kd.S_drew)); exact HO_4.out) hg hat); have n1_ := Aside0.mk (Kd.R_after (ok := (fun _ => True)) (by (with_reducible repeat (first | apply Kd.R_alloc | apply Kd.R_drewN | apply Kd.R_drew)); exact HO_7.out) hg hat); have n2_ := Aside0.mk (Kd.S_after (ok := (fun k_ => some k_ ≠ (.slice (some ad176) x4_2.length co25 : Value).ownBlock ∧ some k_ ≠ (u7 : Value).ownBlock)) (by (with_reducible repeat (first | apply Kd.S_alloc | apply Kd.S_drewN | apply Kd.S_drew)); exact HO_173002.out) hg hat); have n3_ := Aside0.mk (blk_grown (g := gb167) (o := .cells #[.int .i64 a0_0, .int .i64 a0_1, .slice A0_2 l0_2.length c0_2, .int .u32 a0_3, .int .u32 a0_4] 25 (0, 0)) (by (with_reducible repeat (first | refine blk_drewN ?_ _ | refine blk_drew ?_ | refine blk_alloc ?_ _)); exact BK167.out) hg (Kd.R_ne HO175.out BK167.out (by decide))); have n4_ := Aside0.mk (blk_grown (g := gb168) (o := .cells #[.int .i64 x169000_1, .int .i64 x169001_1, .slice none 0 0, .int .i64 x169003_1, .int .u32 x169004_1] 41 (0, 0)) (by (with_reducible repeat (first | refine blk_drewN ?_ _ | refine blk_drew ?_ | refine blk_alloc ?_ _)); exact BK168.out) hg (Kd.R_ne HO175.out BK168.out (by decide))); have n5_ := Aside0.mk (blk_grown (g := gb172) (o := .cells #[.int .i64 0, .int .i64 a0_1, u173002, .int .i64 0, .int .u32 x173004_1] 41 (0, 0)) (by (with_reducible repeat (first | refine blk_drewN ?_ _ | refine blk_drew ?_ | refine blk_alloc ?_ _)); exact BK172.out) hg (Kd.R_ne HO175.out BK172.out (by decide))); have n6_ := Aside0.mk (Kd.R_after (ok := (fun k_ => some k_ ≠ (.slice (some ad176) x4_2.length co25 : Value).ownBlock ∧ some k_ ≠ (u7 : Value).ownBlock ∧ some k_ ≠ (u173002 : Value).ownBlock)) (by (with_reducible repeat (first | apply Kd.R_alloc | apply Kd.R_drewN | apply Kd.R_drew)); exact Kd.R_mono HL176_0.out (fun _ hk => ⟨⟨hk.2, ⟨hk.1.1.1, hk.1.1.2⟩⟩, hk.1.2⟩)) hg hat); have n7_ := Aside0.mk (hb); have n8_ := Aside0.mk (ho); clear HO_4; clear HO_7; clear HO_173002; clear BK167; clear BK168; clear BK172; clear HL176_0; clear HB; clear HO175; have HO_4 := n0_; have HO_7 := n1_; have HO_173002 := n2_; have BK167 := n3_; have BK168 := n4_; have BK172 := n5_; have HL176_0 := n6_; have HB := n7_; have HO179 := n8_; clear n0_ n1_ n2_ n3_ n4_ n5_ n6_ n7_ n8_; clear ho hb hg hat) | ((with_reducible refine gate_builtin (b := .append) (xs := #[.tmp 35, .tmp 37]) rfl ?_); at_builtin; refine Kd.R_append (Kd.int .i64) (w0 := w) w.heap.size rfl (.tmp 35) (.tmp 37) 33 3 (.int .i64 0) 8 rfl Try.underlying33 info3 rfl (by decide) (by omega) v178 y177 x8_2 [.int .i64 x8_2] (fun k_ => some k_ ≠ (u7 : Value).ownBlock) (fun _ => False) rfl rfl ?aP (fun _ hk => hk.elim) ?aF ?aO ?aB ?aS ?aL ?_; (case aP => exact rfl); (case aB => exact (by repeat (first | (with_reducible first | exact HB.out | apply below_alloc | apply pw_below_drewN | apply below_drew1 | refine below_set ?_ GE167.out | refine below_set ?_ GE168.out | refine below_set ?_ GE172.out) | exact HB.out))); (case aF => exact (fun k_ hk => Kd.fresh' (Kd.R_lt (by (with_reducible repeat (first | apply Kd.R_alloc | apply Kd.R_drewN | apply Kd.R_drew)); exact HO_7.out)) k_ hk)); (case aO => exact (by (with_reducible repeat (first | apply Kd.R_alloc | apply Kd.R_drewN | apply Kd.R_drew)); exact HO179.out)); (case aS => exact (below_size (by repeat (first | (with_reducible first | exact HB.out | apply below_alloc | apply pw_below_drewN | apply below_drew1 | refine below_set ?_ GE167.out | refine below_set ?_ GE168.out | refine below_set ?_ GE172.out) | exact HB.out)))); (case aL => have := LMc18.out; omega); intro v181 w27 ho hb hg hat; rw [← Ny180.out] at ho; have n0_ := Aside0.mk (Kd.S_after (ok := (fun k_ => some k_ ≠ (u7 : Value).ownBlock ∧ some k_ ≠ (u173002 : Value).ownBlock)) (by (with_reducible repeat (first | apply Kd.S_alloc | apply Kd.S_drewN | apply Kd.S_drew)); exact HO_4.out) hg hat); have n1_ := Aside0.mk (Kd.R_after (ok := (fun _ => True)) (by (with_reducible repeat (first | apply Kd.R_alloc | apply Kd.R_drewN | apply Kd.R_drew)); exact HO_7.out) hg hat); have n2_ := Aside0.mk (Kd.S_after (ok := (fun k_ => some k_ ≠ (.slice (some ad176) x4_2.length co25 : Value).ownBlock ∧ some k_ ≠ (u7 : Value).ownBlock)) (by (with_reducible repeat (first | apply Kd.S_alloc | apply Kd.S_drewN | apply Kd.S_drew)); exact HO_173002.out) hg hat); have n3_ := Aside0.mk (blk_grown (g := gb167) (o := .cells #[.int .i64 a0_0, .int .i64 a0_1, .slice A0_2 l0_2.length c0_2, .int .u32 a0_3, .int .u32 a0_4] 25 (0, 0)) (by (with_reducible repeat (first | refine blk_drewN ?_ _ | refine blk_drew ?_ | refine blk_alloc ?_ _)); exact BK167.out) hg (Kd.R_ne HO179.out BK167.out (by decide))); have n4_ := Aside0.mk (blk_grown (g := gb168) (o := .cells #[.int .i64 x169000_1, .int .i64 x169001_1, .slice none 0 0, .int .i64 x169003_1, .int .u32 x169004_1] 41 (0, 0)) (by (with_reducible repeat (first | refine blk_drewN ?_ _ | refine blk_drew ?_ | refine blk_alloc ?_ _)); exact BK168.out) hg (Kd.R_ne HO179.out BK168.out (by decide))); have n5_ := Aside0.mk (blk_grown (g := gb172) (o := .cells #[.int .i64 0, .int .i64 a0_1, u173002, .int .i64 0, .int .u32 x173004_1] 41 (0, 0)) (by (with_reducible repeat (first | refine blk_drewN ?_ _ | refine blk_drew ?_ | refine blk_alloc ?_ _)); exact BK172.out) hg (Kd.R_ne HO179.out BK172.out (by decide))); have n6_ := Aside0.mk (Kd.R_after (ok := (fun k_ => some k_ ≠ (.slice (some ad176) x4_2.length co25 : Value).ownBlock ∧ some k_ ≠ (u7 : Value).ownBlock ∧ some k_ ≠ (u173002 : Value).ownBlock)) (by (with_reducible repeat (first | apply Kd.R_alloc | apply Kd.R_drewN | apply Kd.R_drew)); exact HL176_0.out) hg hat); have n7_ := Aside0.mk (hb); have n8_ := Aside0.mk (ho); clear HO_4; clear HO_7; clear HO_173002; clear BK167; clear BK168; clear BK172; clear HL176_0; clear HB; clear HO179; have HO_4 := n0_; have HO_7 := n1_; have HO_173002 := n2_; have BK167 := n3_; have BK168 := n4_; have BK172 := n5_; have HL176_0 := n6_; have HB := n7_; have HO182 := n8_; clear n0_ n1_ n2_ n3_ n4_ n5_ n6_ n7_ n8_; clear ho hb hg hat; have hcz28_0 : w27.cell? ⟨gb167, 0, none⟩ = some (.int .i64 a0_0) := (blk_cell BK167.out 0).trans rfl; have hcz28_1 : w27.cell? ⟨gb167, 1, none⟩ = some (.int .i64 a0_1) := (blk_cell BK167.out 1).trans rfl; have hcz28_2 : w27.cell? ⟨gb167, 2, none⟩ = some (.slice A0_2 l0_2.length c0_2) := (blk_cell BK167.out 2).trans rfl; have hcz28_3 : w27.cell? ⟨gb167, 3, none⟩ = some (.int .u32 a0_3) := (blk_cell BK167.out 3).trans rfl; have hcz28_4 : w27.cell? ⟨gb167, 4, none⟩ = some (.int .u32 a0_4) := (blk_cell BK167.out 4).trans rfl; have hfz28_0 := blk_frozen BK167.out 0; have hfz28_1 := blk_frozen BK167.out 1; have hfz28_2 := blk_frozen BK167.out 2; have hfz28_3 := blk_frozen BK167.out 3; have hfz28_4 := blk_frozen BK167.out 4; obtain ⟨Ao29, co29, eo29⟩ := Kd.R_slice HO182.out; subst eo29) | ((with_reducible refine gate_callee (f := 19) rfl ?_); refine goesL_ (some 41) rfl rfl Try.func19 (by kernel_rfl) rfl #[.agg #[.int .i64 a0_0, .int .i64 a0_1, .slice A0_2 l0_2.length c0_2, .int .u32 a0_3, .int .u32 a0_4], .slice Ao29 y180.length co29] rfl (by (try simp only [List.map_toArray, List.map_cons, List.map_nil]); first | done | rfl | (simp only [List.length_drop, List.length_take]; rfl)) ?_; (with_reducible refine (coppicerref_NetLeads.calls k2 a0_0 a0_1 _ _ l0_2 a0_3 a0_4 _ _ y180 t183 _ ?side1 ?side2 ?side3 ?side4 A19.out).mono ?_); (case side1 => repeat (first | exact (Kd.C_below HR0_2.out HB.out) | (with_reducible refine Kd.C_alloc ?_ _) | (with_reducible refine Kd.C_drewN ?_ _) | (with_reducible refine Kd.C_drew ?_))); (case side2 => exact HC0_2.out); (case side3 => repeat (first | exact (Kd.R_reads' HO182.out).2.2 | (with_reducible refine Kd.C_alloc ?_ _) | (with_reducible refine Kd.C_drewN ?_ _) | (with_reducible refine Kd.C_drew ?_))); (case side4 => exact (Kd.R_reads' HO182.out).2.1); rintro e w30 ⟨rfl, hb⟩; refine ⟨_, rfl, ?_⟩; have n0_ := Aside0.mk (Kd.S_below (by (with_reducible repeat (first | apply Kd.S_alloc | apply Kd.S_drewN | apply Kd.S_drew)); exact HO_4.out) hb); have n1_ := Aside0.mk (Kd.R_below (by (with_reducible repeat (first | apply Kd.R_alloc | apply Kd.R_drewN | apply Kd.R_drew)); exact HO_7.out) hb); have n2_ := Aside0.mk (Kd.S_below (by (with_reducible repeat (first | apply Kd.S_alloc | apply Kd.S_drewN | apply Kd.S_drew)); exact HO_173002.out) hb); have n3_ := Aside0.mk (Kd.R_below (by (with_reducible repeat (first | apply Kd.R_alloc | apply Kd.R_drewN | apply Kd.R_drew)); exact HL176_0.out) hb); have n4_ := Aside0.mk (Kd.R_below (by (with_reducible repeat (first | apply Kd.R_alloc | apply Kd.R_drewN | apply Kd.R_drew)); exact HO182.out) hb); have n5_ := Aside0.mk (blk_below (g := gb167) (o := .cells #[.int .i64 a0_0, .int .i64 a0_1, .slice A0_2 l0_2.length c0_2, .int .u32 a0_3, .int .u32 a0_4] 25 (0, 0)) (by (with_reducible repeat (first | refine blk_drewN ?_ _ | refine blk_drew ?_ | refine blk_alloc ?_ _)); exact BK167.out) hb); have n6_ := Aside0.mk (blk_below (g := gb168) (o := .cells #[.int .i64 x169000_1, .int .i64 x169001_1, .slice none 0 0, .int .i64 x169003_1, .int .u32 x169004_1] 41 (0, 0)) (by (with_reducible repeat (first | refine blk_drewN ?_ _ | refine blk_drew ?_ | refine blk_alloc ?_ _)); exact BK168.out) hb); have n7_ := Aside0.mk (blk_below (g := gb172) (o := .cells #[.int .i64 0, .int .i64 a0_1, u173002, .int .i64 0, .int .u32 x173004_1] 41 (0, 0)) (by (with_reducible repeat (first | refine blk_drewN ?_ _ | refine blk_drew ?_ | refine blk_alloc ?_ _)); exact BK172.out) hb); have n8_ := Aside0.mk (below_step (by repeat (first | (with_reducible first | exact HB.out | apply below_alloc | apply pw_below_drewN | apply below_drew1 | refine below_set ?_ GE167.out | refine below_set ?_ GE168.out | refine below_set ?_ GE172.out) | exact HB.out)) hb); clear HO_4; clear HO_7; clear HO_173002; clear HL176_0; clear HO182; clear BK167; clear BK168; clear BK172; clear HB; have HO_4 := n0_; have HO_7 := n1_; have HO_173002 := n2_; have HL176_0 := n3_; have HO182 := n4_; have BK167 := n5_; have BK168 := n6_; have BK172 := n7_; have HB := n8_; clear n0_ n1_ n2_ n3_ n4_ n5_ n6_ n7_ n8_; (try clear hb); (try clear hb2); (try clear hk); (try clear hi)))
                      go_loopg [11, 44] k2 (fun kq v11 v44 w' => ∃ (x11_3 : Int) (x44_3 : Int), v11 = .int .i64 x11_3 ∧ v44 = .int .i64 x44_3 ∧ Aside0 (coppicerref_Sure.l2 kq x4_2 x6_1 x7_2 x8_2 y180 t183 x11_3 (x4_2.length : Int) x44_3 a0_0 a0_1 l0_2 a0_3 a0_4 0 a0_1 x173002_1 0 x173004_1 = some (r1, r2, r3, r4, r5, r6)) ∧ Aside0 (kq ≤ k2) ∧ Aside0 (Kd.S (Kd.slice 3 (Kd.int .i64)) 33 w' w.heap.size (fun k_ => some k_ ≠ (u7 : Value).ownBlock ∧ some k_ ≠ ((.slice Ao29 y180.length co29) : Value).ownBlock ∧ some k_ ≠ (u173002 : Value).ownBlock) (.slice (some ad176) x4_2.length co25) x4_2) ∧ Aside0 (Kd.R (Kd.int .i64) 3 w' w.heap.size (fun k_ => some k_ ≠ ((.slice Ao29 y180.length co29) : Value).ownBlock) u7 x7_2) ∧ Aside0 (Kd.R (Kd.int .i64) 3 w' w.heap.size (fun k_ => some k_ ≠ (u7 : Value).ownBlock) (.slice Ao29 y180.length co29) y180) ∧ Aside0 (Kd.S (Kd.slice 3 (Kd.int .i64)) 33 w' w.heap.size (fun k_ => some k_ ≠ ((.slice (some ad176) x4_2.length co25) : Value).ownBlock ∧ some k_ ≠ (u7 : Value).ownBlock ∧ some k_ ≠ ((.slice Ao29 y180.length co29) : Value).ownBlock) u173002 x173002_1) ∧ Aside0 (w'.heap[gb167]? = some (.cells #[.int .i64 a0_0, .int .i64 a0_1, (.slice A0_2 l0_2.length c0_2), .int .u32 a0_3, .int .u32 a0_4] 25 (0, 0))) ∧ Aside0 (w'.heap[gb168]? = some (.cells #[.int .i64 x169000_1, .int .i64 x169001_1, (.slice none 0 0), .int .i64 x169003_1, .int .u32 x169004_1] 41 (0, 0))) ∧ Aside0 (w'.heap[gb172]? = some (.cells #[.int .i64 0, .int .i64 a0_1, u173002, .int .i64 0, .int .u32 x173004_1] 41 (0, 0))) ∧ Aside0 (Below w.heap.size w w'))
                      case atStart => exact ⟨((-1)), (0), (by first | rfl | (simp; done) | (simp [*]; done)), (by first | rfl | (simp; done) | (simp [*]; done)), H', ⟨Nat.le_refl _⟩, ⟨by (with_reducible repeat (first | apply Kd.S_alloc | apply Kd.S_drewN | apply Kd.S_drew)); exact Kd.S_mono HO_4.out (fun _ hk => ⟨hk.1.1, ⟨hk.2, hk.1.2⟩⟩)⟩, ⟨by (with_reducible repeat (first | apply Kd.R_alloc | apply Kd.R_drewN | apply Kd.R_drew)); exact Kd.R_mono HO_7.out (fun _ hk => hk.2)⟩, ⟨by (with_reducible repeat (first | apply Kd.R_alloc | apply Kd.R_drewN | apply Kd.R_drew)); exact HO182.out⟩, ⟨by (with_reducible repeat (first | apply Kd.S_alloc | apply Kd.S_drewN | apply Kd.S_drew)); exact Kd.S_mono HO_173002.out (fun _ hk => ⟨hk.1.1, ⟨hk.1.2, hk.2⟩⟩)⟩, ⟨by (with_reducible repeat (first | refine blk_drewN ?_ _ | refine blk_drew ?_ | refine blk_alloc ?_ _)); exact BK167.out⟩, ⟨by (with_reducible repeat (first | refine blk_drewN ?_ _ | refine blk_drew ?_ | refine blk_alloc ?_ _)); exact BK168.out⟩, ⟨by (with_reducible repeat (first | refine blk_drewN ?_ _ | refine blk_drew ?_ | refine blk_alloc ?_ _)); exact BK172.out⟩, ⟨by repeat (first | (with_reducible first | exact HB.out | apply below_alloc | apply pw_below_drewN | apply below_drew1 | refine below_set ?_ GE167.out | refine below_set ?_ GE168.out | refine below_set ?_ GE172.out) | exact HB.out)⟩⟩
                      case round =>
                        clear H'
                        try clear c1
                        try clear p1
                        try clear q1
                        try clear hx1
                        try clear c2
                        try clear p2
                        try clear c6
                        try clear c9
                        try clear c10
                        try clear c12
                        try clear c12b0
                        try clear c14
                        try clear c14b0
                        try clear c15
                        try clear c15b0
                        try clear c16
                        try clear c16b0
                        try clear c17
                        try clear p17
                        try clear q17
                        try clear hx17
                        try clear c18
                        try clear c19
                        try clear c20
                        try clear c21
                        try clear c22
                        try clear hcz11_0
                        try clear hcz11_1
                        try clear hcz11_2
                        try clear hcz11_3
                        try clear hcz11_4
                        try clear hcz22_0
                        try clear hcz22_1
                        try clear hcz22_2
                        try clear hcz22_3
                        try clear hcz22_4
                        try clear hcz28_0
                        try clear hcz28_1
                        try clear hcz28_2
                        try clear hcz28_3
                        try clear hcz28_4
                        try clear hcz7_0
                        try clear hcz7_1
                        try clear hcz7_2
                        try clear hcz7_3
                        try clear hcz7_4
                        try clear hfz11_0
                        try clear hfz11_1
                        try clear hfz11_2
                        try clear hfz11_3
                        try clear hfz11_4
                        try clear hfz22_0
                        try clear hfz22_1
                        try clear hfz22_2
                        try clear hfz22_3
                        try clear hfz22_4
                        try clear hfz28_0
                        try clear hfz28_1
                        try clear hfz28_2
                        try clear hfz28_3
                        try clear hfz28_4
                        try clear hfz7_0
                        try clear hfz7_1
                        try clear hfz7_2
                        try clear hfz7_3
                        try clear hfz7_4
                        try clear hx176_0
                        try clear p176
                        try clear p2
                        try clear q176
                        obtain ⟨x11_3, x44_3, rfl, rfl, HA, HK3, HO_4, HO_7, HO_9, HO_173002, BK167, BK168, BK172, HB⟩ := hrel
                        cases gk with
                        | zero => exact absurd HA.out (by simp [coppicerref_Sure.l2])
                        | succ k3 =>
                          have H := HA.out
                          clear HA
                          simp only [coppicerref_Sure.l2] at H
                          by_cases c31 : x44_3 < (x4_2.length : Int)
                          · rw [if_pos c31] at H
                            have c31b0 : decide (x44_3 < (x4_2.length : Int)) = true := decide_eq_true c31
                            clear c31
                            by_cases c32 : 0 ≤ x44_3
                            · rw [if_pos c32] at H
                              have c32b0 : decide (0 ≤ x44_3) = true := decide_eq_true c32
                              clear c32
                              by_cases c33 : x44_3 < (x4_2.length : Int)
                              · rw [if_pos c33] at H
                                have c33b0 : decide (x44_3 < (x4_2.length : Int)) = true := decide_eq_true c33
                                clear c33
                                by_cases c34 : x11_3 < 0
                                · rw [if_pos c34] at H
                                  have c34b0 : decide (x11_3 < 0) = true := decide_eq_true c34
                                  clear c34
                                  replace H := Option.bind_eq_some_iff.mp H
                                  obtain ⟨t185, A350, H⟩ := H
                                  replace H : (if t185 = t183 then (coppicerref_Sure.l2 k3 x4_2 x6_1 x7_2 x8_2 y180 t183 x44_3 (x4_2.length : Int) (wrap64 (x44_3 + 1)) a0_0 a0_1 l0_2 a0_3 a0_4 0 a0_1 x173002_1 0 x173004_1) else (coppicerref_Sure.l2 k3 x4_2 x6_1 x7_2 x8_2 y180 t183 x11_3 (x4_2.length : Int) (wrap64 (x44_3 + 1)) a0_0 a0_1 l0_2 a0_3 a0_4 0 a0_1 x173002_1 0 x173004_1)) = some (r1, r2, r3, r4, r5, r6) := H
                                  have A35 := Aside0.mk A350
                                  clear A350
                                  by_cases c36 : t185 = t183
                                  · rw [if_pos c36] at H
                                    have c36b0 : (t185 == t183) = true := beq_iff_eq.mpr c36
                                    have c36b1 : (t185 != t183) = false := bne_eq_false_iff_eq.mpr c36
                                    clear c36
                                    have H' := Aside0.mk H
                                    clear H
                                    have p184 : 0 ≤ (x44_3 : Int) := of_decide_eq_true (by first | (with_reducible assumption) | assumption)
                                    have q184 : x44_3 < (x4_2.length : Int) := of_decide_eq_true (by first | (with_reducible assumption) | assumption)
                                    obtain ⟨ad184, A184_0, c184_0, e184, hx184_0, hl184_0, hi184_0⟩ := at_L3 (Kd.S_reads' HO_4.out).2.2 x44_3 p184 q184
                                    obtain rfl : ad176 = ad184 := (by injection e184)
                                    obtain ⟨ce184, hce184, hMe184, hcc184⟩ := Kd.S_get HO_4.out [] x44_3 p184 (by first | exact q184 | exact of_decide_eq_true (by first | (with_reducible assumption) | assumption) | (have e_ := (Kd.S_reads' HO_4.out).1; omega))
                                    obtain ⟨ve184_0, rfl, ge184_0⟩ := hMe184
                                    have hv184_0 := hcc184 0 _ rfl
                                    rw [Nat.add_zero, show ((Kd.slice 3 (Kd.int .i64))).sz = 1 from rfl, Nat.mul_one] at hv184_0
                                    replace hv184_0 := Option.some.inj (hv184_0.symm.trans hx184_0)
                                    rw [hv184_0] at ge184_0
                                    have HL184_0 := Aside0.mk (show Kd.R (Kd.int .i64) 3 _ _ _ _ (rd_L3 x4_2 x44_3) from ge184_0)
                                    clear hv184_0 ge184_0
                                    clear hcc184 hce184
                                    have HR184_0 := Aside0.mk hi184_0
                                    have HC184_0 := Aside0.mk hl184_0
                                    clear hi184_0 hl184_0
                                    replace p184 := eq_true p184
                                    replace q184 := eq_true q184
                                    have hnb37 := NB167_168.out
                                    have hnc37 := NB168_167.out
                                    have hnb38 := NB167_172.out
                                    have hnc38 := NB172_167.out
                                    have hcz39_0 : wr.cell? ⟨gb167, 0, none⟩ = some (.int .i64 a0_0) := (blk_cell BK167.out 0).trans rfl
                                    have hcz39_1 : wr.cell? ⟨gb167, 1, none⟩ = some (.int .i64 a0_1) := (blk_cell BK167.out 1).trans rfl
                                    have hcz39_2 : wr.cell? ⟨gb167, 2, none⟩ = some (.slice A0_2 l0_2.length c0_2) := (blk_cell BK167.out 2).trans rfl
                                    have hcz39_3 : wr.cell? ⟨gb167, 3, none⟩ = some (.int .u32 a0_3) := (blk_cell BK167.out 3).trans rfl
                                    have hcz39_4 : wr.cell? ⟨gb167, 4, none⟩ = some (.int .u32 a0_4) := (blk_cell BK167.out 4).trans rfl
                                    have hfz39_0 := blk_frozen BK167.out 0
                                    have hfz39_1 := blk_frozen BK167.out 1
                                    have hfz39_2 := blk_frozen BK167.out 2
                                    have hfz39_3 := blk_frozen BK167.out 3
                                    have hfz39_4 := blk_frozen BK167.out 4
                                    go_wp2_with (first | (go_at_call 19; (with_reducible refine (coppicerref_NetLeads.calls k3 a0_0 a0_1 _ _ l0_2 a0_3 a0_4 _ _ (rd_L3 x4_2 x44_3) t185 _ ?side1 ?side2 ?side3 ?side4 A35.out).mono ?_); (case side1 => repeat (first | exact (Kd.C_below HR0_2.out HB.out) | (with_reducible refine Kd.C_alloc ?_ _) | (with_reducible refine Kd.C_drewN ?_ _) | (with_reducible refine Kd.C_drew ?_))); (case side2 => exact HC0_2.out); (case side3 => repeat (first | exact (by repeat (first | (with_reducible exact HR184_0.out) | (with_reducible refine Kd.C_alloc ?_ _) | (with_reducible refine Kd.C_drewN ?_ _) | (with_reducible refine Kd.C_drew ?_) | exact HR184_0.out)) | (with_reducible refine Kd.C_alloc ?_ _) | (with_reducible refine Kd.C_drewN ?_ _) | (with_reducible refine Kd.C_drew ?_))); (case side4 => exact HC184_0.out); rintro e w40 ⟨rfl, hb⟩; have n0_ := Aside0.mk (Kd.S_below (by (with_reducible repeat (first | apply Kd.S_alloc | apply Kd.S_drewN | apply Kd.S_drew)); exact HO_4.out) hb); have n1_ := Aside0.mk (Kd.R_below (by (with_reducible repeat (first | apply Kd.R_alloc | apply Kd.R_drewN | apply Kd.R_drew)); exact HO_7.out) hb); have n2_ := Aside0.mk (Kd.R_below (by (with_reducible repeat (first | apply Kd.R_alloc | apply Kd.R_drewN | apply Kd.R_drew)); exact HO_9.out) hb); have n3_ := Aside0.mk (Kd.S_below (by (with_reducible repeat (first | apply Kd.S_alloc | apply Kd.S_drewN | apply Kd.S_drew)); exact HO_173002.out) hb); have n4_ := Aside0.mk (Kd.R_below (by (with_reducible repeat (first | apply Kd.R_alloc | apply Kd.R_drewN | apply Kd.R_drew)); exact HL184_0.out) hb); have n5_ := Aside0.mk (blk_below (g := gb167) (o := .cells #[.int .i64 a0_0, .int .i64 a0_1, .slice A0_2 l0_2.length c0_2, .int .u32 a0_3, .int .u32 a0_4] 25 (0, 0)) (by (with_reducible repeat (first | refine blk_drewN ?_ _ | refine blk_drew ?_ | refine blk_alloc ?_ _)); exact BK167.out) hb); have n6_ := Aside0.mk (blk_below (g := gb168) (o := .cells #[.int .i64 x169000_1, .int .i64 x169001_1, .slice none 0 0, .int .i64 x169003_1, .int .u32 x169004_1] 41 (0, 0)) (by (with_reducible repeat (first | refine blk_drewN ?_ _ | refine blk_drew ?_ | refine blk_alloc ?_ _)); exact BK168.out) hb); have n7_ := Aside0.mk (blk_below (g := gb172) (o := .cells #[.int .i64 0, .int .i64 a0_1, u173002, .int .i64 0, .int .u32 x173004_1] 41 (0, 0)) (by (with_reducible repeat (first | refine blk_drewN ?_ _ | refine blk_drew ?_ | refine blk_alloc ?_ _)); exact BK172.out) hb); have n8_ := Aside0.mk (Kd.C_below (by repeat (first | (with_reducible exact HR184_0.out) | (with_reducible refine Kd.C_alloc ?_ _) | (with_reducible refine Kd.C_drewN ?_ _) | (with_reducible refine Kd.C_drew ?_) | exact HR184_0.out)) hb); have n9_ := Aside0.mk (below_step (by repeat (first | (with_reducible first | exact HB.out | apply below_alloc | apply pw_below_drewN | apply below_drew1 | refine below_set ?_ GE167.out | refine below_set ?_ GE168.out | refine below_set ?_ GE172.out) | exact HB.out)) hb); clear HO_4; clear HO_7; clear HO_9; clear HO_173002; clear HL184_0; clear BK167; clear BK168; clear BK172; clear HR184_0; clear HB; have HO_4 := n0_; have HO_7 := n1_; have HO_9 := n2_; have HO_173002 := n3_; have HL184_0 := n4_; have BK167 := n5_; have BK168 := n6_; have BK172 := n7_; have HR184_0 := n8_; have HB := n9_; clear n0_ n1_ n2_ n3_ n4_ n5_ n6_ n7_ n8_ n9_; (try clear hb); (try clear hb2); (try clear hk); (try clear hi)))
                                    go_roundg k3
                                    case measure => have := HK1.out; have := HK2.out; have := HK3.out; omega
                                    case rel => exact ⟨(x44_3), (wrap64 (x44_3 + 1)), (by first | rfl | (simp; done) | (simp [*]; done)), (by first | rfl | (simp; done) | (simp [*]; done)), H', ⟨by have := HK1.out; have := HK2.out; have := HK3.out; omega⟩, ⟨by (with_reducible repeat (first | apply Kd.S_alloc | apply Kd.S_drewN | apply Kd.S_drew)); exact HO_4.out⟩, ⟨by (with_reducible repeat (first | apply Kd.R_alloc | apply Kd.R_drewN | apply Kd.R_drew)); exact HO_7.out⟩, ⟨by (with_reducible repeat (first | apply Kd.R_alloc | apply Kd.R_drewN | apply Kd.R_drew)); exact HO_9.out⟩, ⟨by (with_reducible repeat (first | apply Kd.S_alloc | apply Kd.S_drewN | apply Kd.S_drew)); exact HO_173002.out⟩, ⟨by (with_reducible repeat (first | refine blk_drewN ?_ _ | refine blk_drew ?_ | refine blk_alloc ?_ _)); exact BK167.out⟩, ⟨by (with_reducible repeat (first | refine blk_drewN ?_ _ | refine blk_drew ?_ | refine blk_alloc ?_ _)); exact BK168.out⟩, ⟨by (with_reducible repeat (first | refine blk_drewN ?_ _ | refine blk_drew ?_ | refine blk_alloc ?_ _)); exact BK172.out⟩, ⟨by repeat (first | (with_reducible first | exact HB.out | apply below_alloc | apply pw_below_drewN | apply below_drew1 | refine below_set ?_ GE167.out | refine below_set ?_ GE168.out | refine below_set ?_ GE172.out) | exact HB.out)⟩⟩
                                  · rw [if_neg c36] at H
                                    have c36b0 : (t185 == t183) = false := beq_eq_false_iff_ne.mpr c36
                                    have c36b1 : (t185 != t183) = true := bne_iff_ne.mpr c36
                                    have H' := Aside0.mk H
                                    clear H
                                    have p184 : 0 ≤ (x44_3 : Int) := of_decide_eq_true (by first | (with_reducible assumption) | assumption)
                                    have q184 : x44_3 < (x4_2.length : Int) := of_decide_eq_true (by first | (with_reducible assumption) | assumption)
                                    obtain ⟨ad184, A184_0, c184_0, e184, hx184_0, hl184_0, hi184_0⟩ := at_L3 (Kd.S_reads' HO_4.out).2.2 x44_3 p184 q184
                                    obtain rfl : ad176 = ad184 := (by injection e184)
                                    obtain ⟨ce184, hce184, hMe184, hcc184⟩ := Kd.S_get HO_4.out [] x44_3 p184 (by first | exact q184 | exact of_decide_eq_true (by first | (with_reducible assumption) | assumption) | (have e_ := (Kd.S_reads' HO_4.out).1; omega))
                                    obtain ⟨ve184_0, rfl, ge184_0⟩ := hMe184
                                    have hv184_0 := hcc184 0 _ rfl
                                    rw [Nat.add_zero, show ((Kd.slice 3 (Kd.int .i64))).sz = 1 from rfl, Nat.mul_one] at hv184_0
                                    replace hv184_0 := Option.some.inj (hv184_0.symm.trans hx184_0)
                                    rw [hv184_0] at ge184_0
                                    have HL184_0 := Aside0.mk (show Kd.R (Kd.int .i64) 3 _ _ _ _ (rd_L3 x4_2 x44_3) from ge184_0)
                                    clear hv184_0 ge184_0
                                    clear hcc184 hce184
                                    have HR184_0 := Aside0.mk hi184_0
                                    have HC184_0 := Aside0.mk hl184_0
                                    clear hi184_0 hl184_0
                                    replace p184 := eq_true p184
                                    replace q184 := eq_true q184
                                    have hnb41 := NB167_168.out
                                    have hnc41 := NB168_167.out
                                    have hnb42 := NB167_172.out
                                    have hnc42 := NB172_167.out
                                    have hcz43_0 : wr.cell? ⟨gb167, 0, none⟩ = some (.int .i64 a0_0) := (blk_cell BK167.out 0).trans rfl
                                    have hcz43_1 : wr.cell? ⟨gb167, 1, none⟩ = some (.int .i64 a0_1) := (blk_cell BK167.out 1).trans rfl
                                    have hcz43_2 : wr.cell? ⟨gb167, 2, none⟩ = some (.slice A0_2 l0_2.length c0_2) := (blk_cell BK167.out 2).trans rfl
                                    have hcz43_3 : wr.cell? ⟨gb167, 3, none⟩ = some (.int .u32 a0_3) := (blk_cell BK167.out 3).trans rfl
                                    have hcz43_4 : wr.cell? ⟨gb167, 4, none⟩ = some (.int .u32 a0_4) := (blk_cell BK167.out 4).trans rfl
                                    have hfz43_0 := blk_frozen BK167.out 0
                                    have hfz43_1 := blk_frozen BK167.out 1
                                    have hfz43_2 := blk_frozen BK167.out 2
                                    have hfz43_3 := blk_frozen BK167.out 3
                                    have hfz43_4 := blk_frozen BK167.out 4
                                    go_wp2_with (first | (go_at_call 19; (with_reducible refine (coppicerref_NetLeads.calls k3 a0_0 a0_1 _ _ l0_2 a0_3 a0_4 _ _ (rd_L3 x4_2 x44_3) t185 _ ?side1 ?side2 ?side3 ?side4 A35.out).mono ?_); (case side1 => repeat (first | exact (Kd.C_below HR0_2.out HB.out) | (with_reducible refine Kd.C_alloc ?_ _) | (with_reducible refine Kd.C_drewN ?_ _) | (with_reducible refine Kd.C_drew ?_))); (case side2 => exact HC0_2.out); (case side3 => repeat (first | exact (by repeat (first | (with_reducible exact HR184_0.out) | (with_reducible refine Kd.C_alloc ?_ _) | (with_reducible refine Kd.C_drewN ?_ _) | (with_reducible refine Kd.C_drew ?_) | exact HR184_0.out)) | (with_reducible refine Kd.C_alloc ?_ _) | (with_reducible refine Kd.C_drewN ?_ _) | (with_reducible refine Kd.C_drew ?_))); (case side4 => exact HC184_0.out); rintro e w44 ⟨rfl, hb⟩; have n0_ := Aside0.mk (Kd.S_below (by (with_reducible repeat (first | apply Kd.S_alloc | apply Kd.S_drewN | apply Kd.S_drew)); exact HO_4.out) hb); have n1_ := Aside0.mk (Kd.R_below (by (with_reducible repeat (first | apply Kd.R_alloc | apply Kd.R_drewN | apply Kd.R_drew)); exact HO_7.out) hb); have n2_ := Aside0.mk (Kd.R_below (by (with_reducible repeat (first | apply Kd.R_alloc | apply Kd.R_drewN | apply Kd.R_drew)); exact HO_9.out) hb); have n3_ := Aside0.mk (Kd.S_below (by (with_reducible repeat (first | apply Kd.S_alloc | apply Kd.S_drewN | apply Kd.S_drew)); exact HO_173002.out) hb); have n4_ := Aside0.mk (Kd.R_below (by (with_reducible repeat (first | apply Kd.R_alloc | apply Kd.R_drewN | apply Kd.R_drew)); exact HL184_0.out) hb); have n5_ := Aside0.mk (blk_below (g := gb167) (o := .cells #[.int .i64 a0_0, .int .i64 a0_1, .slice A0_2 l0_2.length c0_2, .int .u32 a0_3, .int .u32 a0_4] 25 (0, 0)) (by (with_reducible repeat (first | refine blk_drewN ?_ _ | refine blk_drew ?_ | refine blk_alloc ?_ _)); exact BK167.out) hb); have n6_ := Aside0.mk (blk_below (g := gb168) (o := .cells #[.int .i64 x169000_1, .int .i64 x169001_1, .slice none 0 0, .int .i64 x169003_1, .int .u32 x169004_1] 41 (0, 0)) (by (with_reducible repeat (first | refine blk_drewN ?_ _ | refine blk_drew ?_ | refine blk_alloc ?_ _)); exact BK168.out) hb); have n7_ := Aside0.mk (blk_below (g := gb172) (o := .cells #[.int .i64 0, .int .i64 a0_1, u173002, .int .i64 0, .int .u32 x173004_1] 41 (0, 0)) (by (with_reducible repeat (first | refine blk_drewN ?_ _ | refine blk_drew ?_ | refine blk_alloc ?_ _)); exact BK172.out) hb); have n8_ := Aside0.mk (Kd.C_below (by repeat (first | (with_reducible exact HR184_0.out) | (with_reducible refine Kd.C_alloc ?_ _) | (with_reducible refine Kd.C_drewN ?_ _) | (with_reducible refine Kd.C_drew ?_) | exact HR184_0.out)) hb); have n9_ := Aside0.mk (below_step (by repeat (first | (with_reducible first | exact HB.out | apply below_alloc | apply pw_below_drewN | apply below_drew1 | refine below_set ?_ GE167.out | refine below_set ?_ GE168.out | refine below_set ?_ GE172.out) | exact HB.out)) hb); clear HO_4; clear HO_7; clear HO_9; clear HO_173002; clear HL184_0; clear BK167; clear BK168; clear BK172; clear HR184_0; clear HB; have HO_4 := n0_; have HO_7 := n1_; have HO_9 := n2_; have HO_173002 := n3_; have HL184_0 := n4_; have BK167 := n5_; have BK168 := n6_; have BK172 := n7_; have HR184_0 := n8_; have HB := n9_; clear n0_ n1_ n2_ n3_ n4_ n5_ n6_ n7_ n8_ n9_; (try clear hb); (try clear hb2); (try clear hk); (try clear hi)))
                                    go_roundg k3
                                    case measure => have := HK1.out; have := HK2.out; have := HK3.out; omega
                                    case rel => exact ⟨(x11_3), (wrap64 (x44_3 + 1)), (by first | rfl | (simp; done) | (simp [*]; done)), (by first | rfl | (simp; done) | (simp [*]; done)), H', ⟨by have := HK1.out; have := HK2.out; have := HK3.out; omega⟩, ⟨by (with_reducible repeat (first | apply Kd.S_alloc | apply Kd.S_drewN | apply Kd.S_drew)); exact HO_4.out⟩, ⟨by (with_reducible repeat (first | apply Kd.R_alloc | apply Kd.R_drewN | apply Kd.R_drew)); exact HO_7.out⟩, ⟨by (with_reducible repeat (first | apply Kd.R_alloc | apply Kd.R_drewN | apply Kd.R_drew)); exact HO_9.out⟩, ⟨by (with_reducible repeat (first | apply Kd.S_alloc | apply Kd.S_drewN | apply Kd.S_drew)); exact HO_173002.out⟩, ⟨by (with_reducible repeat (first | refine blk_drewN ?_ _ | refine blk_drew ?_ | refine blk_alloc ?_ _)); exact BK167.out⟩, ⟨by (with_reducible repeat (first | refine blk_drewN ?_ _ | refine blk_drew ?_ | refine blk_alloc ?_ _)); exact BK168.out⟩, ⟨by (with_reducible repeat (first | refine blk_drewN ?_ _ | refine blk_drew ?_ | refine blk_alloc ?_ _)); exact BK172.out⟩, ⟨by repeat (first | (with_reducible first | exact HB.out | apply below_alloc | apply pw_below_drewN | apply below_drew1 | refine below_set ?_ GE167.out | refine below_set ?_ GE168.out | refine below_set ?_ GE172.out) | exact HB.out)⟩⟩
                                · rw [if_neg c34] at H
                                  have c34b0 : decide (x11_3 < 0) = false := decide_eq_false c34
                                  clear c34
                                  have H' := Aside0.mk H
                                  clear H
                                  have p184 : 0 ≤ (x44_3 : Int) := of_decide_eq_true (by first | (with_reducible assumption) | assumption)
                                  have q184 : x44_3 < (x4_2.length : Int) := of_decide_eq_true (by first | (with_reducible assumption) | assumption)
                                  obtain ⟨ad184, A184_0, c184_0, e184, hx184_0, hl184_0, hi184_0⟩ := at_L3 (Kd.S_reads' HO_4.out).2.2 x44_3 p184 q184
                                  obtain rfl : ad176 = ad184 := (by injection e184)
                                  obtain ⟨ce184, hce184, hMe184, hcc184⟩ := Kd.S_get HO_4.out [] x44_3 p184 (by first | exact q184 | exact of_decide_eq_true (by first | (with_reducible assumption) | assumption) | (have e_ := (Kd.S_reads' HO_4.out).1; omega))
                                  obtain ⟨ve184_0, rfl, ge184_0⟩ := hMe184
                                  have hv184_0 := hcc184 0 _ rfl
                                  rw [Nat.add_zero, show ((Kd.slice 3 (Kd.int .i64))).sz = 1 from rfl, Nat.mul_one] at hv184_0
                                  replace hv184_0 := Option.some.inj (hv184_0.symm.trans hx184_0)
                                  rw [hv184_0] at ge184_0
                                  have HL184_0 := Aside0.mk (show Kd.R (Kd.int .i64) 3 _ _ _ _ (rd_L3 x4_2 x44_3) from ge184_0)
                                  clear hv184_0 ge184_0
                                  clear hcc184 hce184
                                  have HR184_0 := Aside0.mk hi184_0
                                  have HC184_0 := Aside0.mk hl184_0
                                  clear hi184_0 hl184_0
                                  replace p184 := eq_true p184
                                  replace q184 := eq_true q184
                                  go_wp2
                                  go_roundg k3
                                  case measure => have := HK1.out; have := HK2.out; have := HK3.out; omega
                                  case rel => exact ⟨(x11_3), (wrap64 (x44_3 + 1)), (by first | rfl | (simp; done) | (simp [*]; done)), (by first | rfl | (simp; done) | (simp [*]; done)), H', ⟨by have := HK1.out; have := HK2.out; have := HK3.out; omega⟩, ⟨by (with_reducible repeat (first | apply Kd.S_alloc | apply Kd.S_drewN | apply Kd.S_drew)); exact HO_4.out⟩, ⟨by (with_reducible repeat (first | apply Kd.R_alloc | apply Kd.R_drewN | apply Kd.R_drew)); exact HO_7.out⟩, ⟨by (with_reducible repeat (first | apply Kd.R_alloc | apply Kd.R_drewN | apply Kd.R_drew)); exact HO_9.out⟩, ⟨by (with_reducible repeat (first | apply Kd.S_alloc | apply Kd.S_drewN | apply Kd.S_drew)); exact HO_173002.out⟩, ⟨by (with_reducible repeat (first | refine blk_drewN ?_ _ | refine blk_drew ?_ | refine blk_alloc ?_ _)); exact BK167.out⟩, ⟨by (with_reducible repeat (first | refine blk_drewN ?_ _ | refine blk_drew ?_ | refine blk_alloc ?_ _)); exact BK168.out⟩, ⟨by (with_reducible repeat (first | refine blk_drewN ?_ _ | refine blk_drew ?_ | refine blk_alloc ?_ _)); exact BK172.out⟩, ⟨by repeat (first | (with_reducible first | exact HB.out | apply below_alloc | apply pw_below_drewN | apply below_drew1 | refine below_set ?_ GE167.out | refine below_set ?_ GE168.out | refine below_set ?_ GE172.out) | exact HB.out)⟩⟩
                              · rw [if_neg c33] at H
                                exact absurd H (by simp)
                            · rw [if_neg c32] at H
                              exact absurd H (by simp)
                          · rw [if_neg c31] at H
                            have c31b0 : decide (x44_3 < (x4_2.length : Int)) = false := decide_eq_false c31
                            clear c31
                            by_cases c45 : x11_3 < 0
                            · rw [if_pos c45] at H
                              have c45b0 : decide (x11_3 < 0) = true := decide_eq_true c45
                              clear c45
                              by_cases c46 : x4_2.length < 5864062014805
                              · rw [if_pos c46] at H
                                have LMc46 := Aside0.mk c46
                                clear c46
                                obtain ⟨y186, hy186⟩ : ∃ y_ : List (List Int), y_ = (x4_2 ++ [y180]) := ⟨_, rfl⟩
                                replace H : (if x7_2.length < 17592186044416 then (coppicerref_Sure.l1 k3 y186 x6_1 (x7_2 ++ [(x4_2.length : Int)]) (wrap64 (x8_2 + 1)) a0_0 a0_1 l0_2 a0_3 a0_4 0 a0_1 x173002_1 0 x173004_1) else (none)) = some (r1, r2, r3, r4, r5, r6) := by first | (rw [hy186]; with_reducible exact H) | (have H2_ := (Option.bind_some _ _).symm.trans H; rw [hy186]; with_reducible exact H2_) | (have H2_ := (Option.bind_some _ _).symm.trans H; with_reducible exact H2_) | with_reducible exact H | (rw [hy186]; exact H) | exact H
                                have Ny186 := Aside0.mk hy186
                                clear hy186
                                by_cases c47 : x7_2.length < 17592186044416
                                · rw [if_pos c47] at H
                                  have LMc47 := Aside0.mk c47
                                  clear c47
                                  obtain ⟨y189, hy189⟩ : ∃ y_ : List Int, y_ = (x7_2 ++ [(x4_2.length : Int)]) := ⟨_, rfl⟩
                                  replace H : (coppicerref_Sure.l1 k3 y186 x6_1 y189 (wrap64 (x8_2 + 1)) a0_0 a0_1 l0_2 a0_3 a0_4 0 a0_1 x173002_1 0 x173004_1) = some (r1, r2, r3, r4, r5, r6) := by first | (rw [hy189]; with_reducible exact H) | (have H2_ := (Option.bind_some _ _).symm.trans H; rw [hy189]; with_reducible exact H2_) | (have H2_ := (Option.bind_some _ _).symm.trans H; with_reducible exact H2_) | with_reducible exact H | (rw [hy189]; exact H) | exact H
                                  have Ny189 := Aside0.mk hy189
                                  clear hy189
                                  have H' := Aside0.mk H
                                  clear H
                                  go_wp2_with (first | ((with_reducible refine gate_builtin (b := .append) (xs := #[.tmp 64, .tmp 66]) rfl ?_); at_builtin; refine Kd.S_append (Kd.slice 3 (Kd.int .i64)) (w0 := w) w.heap.size rfl (.tmp 64) (.tmp 66) 39 33 (.slice none 0 0) 24 rfl Try.underlying39 info33 rfl (by decide) (by omega) (.slice (some ad176) x4_2.length co25) x4_2 y180 [.slice Ao29 y180.length co29] (fun k_ => some k_ ≠ (u7 : Value).ownBlock ∧ some k_ ≠ (u173002 : Value).ownBlock) (fun k_ => some k_ = (.slice Ao29 y180.length co29 : Value).ownBlock) rfl rfl ?aP (fun k_ hk_ => ((Kd.R_mono (ok' := fun k_ => ((fun k_ => some k_ ≠ (u7 : Value).ownBlock ∧ some k_ ≠ (u173002 : Value).ownBlock)) k_ ∧ some k_ ≠ (.slice (some ad176) x4_2.length co25 : Value).ownBlock) (Kd.R_apart' (Kd.R_apart' (HO_9.out) (Kd.S_typed HO_173002.out) (by decide)) (Kd.S_typed HO_4.out) (by decide)) (fun k_ hk => ⟨⟨hk.1.1, hk.1.2⟩, hk.2⟩))).1 k_ hk_.symm) ?aF ?aO ?aB ?aS ?aL ?_; (case aP => exact Kd.M_row (Kd.R_mono (Kd.R_tight rfl (Kd.R_mono (ok' := fun k_ => ((fun k_ => some k_ ≠ (u7 : Value).ownBlock ∧ some k_ ≠ (u173002 : Value).ownBlock)) k_ ∧ some k_ ≠ (.slice (some ad176) x4_2.length co25 : Value).ownBlock) (Kd.R_apart' (Kd.R_apart' (HO_9.out) (Kd.S_typed HO_173002.out) (by decide)) (Kd.S_typed HO_4.out) (by decide)) (fun k_ hk => ⟨⟨hk.1.1, hk.1.2⟩, hk.2⟩))) (fun _ h_ => h_))); (case aB => exact (by repeat (first | (with_reducible first | exact HB.out | apply below_alloc | apply pw_below_drewN | apply below_drew1 | refine below_set ?_ GE167.out | refine below_set ?_ GE168.out | refine below_set ?_ GE172.out) | exact HB.out))); (case aF => exact (fun k_ hk => ⟨Kd.fresh' (Kd.R_lt (by (with_reducible repeat (first | apply Kd.R_alloc | apply Kd.R_drewN | apply Kd.R_drew)); exact HO_7.out)) k_ hk, Kd.fresh' (Kd.S_lt (by (with_reducible repeat (first | apply Kd.S_alloc | apply Kd.S_drewN | apply Kd.S_drew)); exact HO_173002.out)) k_ hk⟩)); (case aO => exact (by (with_reducible repeat (first | apply Kd.S_alloc | apply Kd.S_drewN | apply Kd.S_drew)); exact Kd.S_mono HO_4.out (fun k_ hk => ⟨⟨hk.1, hk.2.2⟩, fun e_ => hk.2.1 e_⟩))); (case aS => exact (below_size (by repeat (first | (with_reducible first | exact HB.out | apply below_alloc | apply pw_below_drewN | apply below_drew1 | refine below_set ?_ GE167.out | refine below_set ?_ GE168.out | refine below_set ?_ GE172.out) | exact HB.out)))); (case aL => have := LMc46.out; omega); intro v187 w48 ho hb hg hat; rw [← Ny186.out] at ho; have n0_ := Aside0.mk (Kd.R_over' (by (with_reducible repeat (first | apply Kd.R_alloc | apply Kd.R_drewN | apply Kd.R_drew)); exact HO_7.out) (Kd.S_typed (by (with_reducible repeat (first | apply Kd.S_alloc | apply Kd.S_drewN | apply Kd.S_drew)); exact HO_4.out)) (by decide) hg); have n1_ := Aside0.mk (Kd.S_after (ok := (fun k_ => some k_ ≠ (u7 : Value).ownBlock ∧ some k_ ≠ (.slice Ao29 y180.length co29 : Value).ownBlock)) (by (with_reducible repeat (first | apply Kd.S_alloc | apply Kd.S_drewN | apply Kd.S_drew)); exact Kd.S_mono HO_173002.out (fun _ hk => ⟨⟨hk.2.1, hk.2.2⟩, hk.1⟩)) hg hat); have n2_ := Aside0.mk (blk_grown (g := gb167) (o := .cells #[.int .i64 a0_0, .int .i64 a0_1, .slice A0_2 l0_2.length c0_2, .int .u32 a0_3, .int .u32 a0_4] 25 (0, 0)) (by (with_reducible repeat (first | refine blk_drewN ?_ _ | refine blk_drew ?_ | refine blk_alloc ?_ _)); exact BK167.out) hg (Kd.S_ne HO_4.out BK167.out (by decide))); have n3_ := Aside0.mk (blk_grown (g := gb168) (o := .cells #[.int .i64 x169000_1, .int .i64 x169001_1, .slice none 0 0, .int .i64 x169003_1, .int .u32 x169004_1] 41 (0, 0)) (by (with_reducible repeat (first | refine blk_drewN ?_ _ | refine blk_drew ?_ | refine blk_alloc ?_ _)); exact BK168.out) hg (Kd.S_ne HO_4.out BK168.out (by decide))); have n4_ := Aside0.mk (blk_grown (g := gb172) (o := .cells #[.int .i64 0, .int .i64 a0_1, u173002, .int .i64 0, .int .u32 x173004_1] 41 (0, 0)) (by (with_reducible repeat (first | refine blk_drewN ?_ _ | refine blk_drew ?_ | refine blk_alloc ?_ _)); exact BK172.out) hg (Kd.S_ne HO_4.out BK172.out (by decide))); have n5_ := Aside0.mk (hb); have n6_ := Aside0.mk (ho); clear HO_7; clear HO_173002; clear BK167; clear BK168; clear BK172; clear HB; clear HO_4; clear HO_9; have HO_7 := n0_; have HO_173002 := n1_; have BK167 := n2_; have BK168 := n3_; have BK172 := n4_; have HB := n5_; have HO188 := n6_; clear n0_ n1_ n2_ n3_ n4_ n5_ n6_; clear ho hb hg hat) | ((with_reducible refine gate_builtin (b := .append) (xs := #[.tmp 68, .tmp 70]) rfl ?_); at_builtin; refine Kd.R_append (Kd.int .i64) (w0 := w) w.heap.size rfl (.tmp 68) (.tmp 70) 33 3 (.int .i64 0) 8 rfl Try.underlying33 info3 rfl (by decide) (by omega) u7 x7_2 (x4_2.length : Int) [.int .i64 (x4_2.length : Int)] (fun _ => True) (fun _ => False) rfl rfl ?aP (fun _ hk => hk.elim) ?aF ?aO ?aB ?aS ?aL ?_; (case aP => exact rfl); (case aB => exact (by repeat (first | (with_reducible first | exact HB.out | apply below_alloc | apply pw_below_drewN | apply below_drew1 | refine below_set ?_ GE167.out | refine below_set ?_ GE168.out | refine below_set ?_ GE172.out) | exact HB.out))); (case aF => exact (fun _ _ => trivial)); (case aO => exact (by (with_reducible repeat (first | apply Kd.R_alloc | apply Kd.R_drewN | apply Kd.R_drew)); exact Kd.R_mono HO_7.out (fun _ hk => trivial))); (case aS => exact (below_size (by repeat (first | (with_reducible first | exact HB.out | apply below_alloc | apply pw_below_drewN | apply below_drew1 | refine below_set ?_ GE167.out | refine below_set ?_ GE168.out | refine below_set ?_ GE172.out) | exact HB.out)))); (case aL => have := LMc47.out; omega); intro v190 w49 ho hb hg hat; rw [← Ny189.out] at ho; have n0_ := Aside0.mk (Kd.S_after (ok := (fun k_ => some k_ ≠ (v187 : Value).ownBlock)) (by (with_reducible repeat (first | apply Kd.S_alloc | apply Kd.S_drewN | apply Kd.S_drew)); exact Kd.S_mono HO_173002.out (fun _ hk => ⟨hk.2, hk.1.1⟩)) hg hat); have n1_ := Aside0.mk (blk_grown (g := gb167) (o := .cells #[.int .i64 a0_0, .int .i64 a0_1, .slice A0_2 l0_2.length c0_2, .int .u32 a0_3, .int .u32 a0_4] 25 (0, 0)) (by (with_reducible repeat (first | refine blk_drewN ?_ _ | refine blk_drew ?_ | refine blk_alloc ?_ _)); exact BK167.out) hg (Kd.R_ne HO_7.out BK167.out (by decide))); have n2_ := Aside0.mk (blk_grown (g := gb168) (o := .cells #[.int .i64 x169000_1, .int .i64 x169001_1, .slice none 0 0, .int .i64 x169003_1, .int .u32 x169004_1] 41 (0, 0)) (by (with_reducible repeat (first | refine blk_drewN ?_ _ | refine blk_drew ?_ | refine blk_alloc ?_ _)); exact BK168.out) hg (Kd.R_ne HO_7.out BK168.out (by decide))); have n3_ := Aside0.mk (blk_grown (g := gb172) (o := .cells #[.int .i64 0, .int .i64 a0_1, u173002, .int .i64 0, .int .u32 x173004_1] 41 (0, 0)) (by (with_reducible repeat (first | refine blk_drewN ?_ _ | refine blk_drew ?_ | refine blk_alloc ?_ _)); exact BK172.out) hg (Kd.R_ne HO_7.out BK172.out (by decide))); have n4_ := Aside0.mk (Kd.S_after (ok := (fun k_ => some k_ ≠ (u173002 : Value).ownBlock)) (by (with_reducible repeat (first | apply Kd.S_alloc | apply Kd.S_drewN | apply Kd.S_drew)); exact Kd.S_mono HO188.out (fun _ hk => ⟨hk.2, hk.1⟩)) hg hat); have n5_ := Aside0.mk (hb); have n6_ := Aside0.mk (ho); clear HO_173002; clear BK167; clear BK168; clear BK172; clear HO188; clear HB; clear HO_7; have HO_173002 := n0_; have BK167 := n1_; have BK168 := n2_; have BK172 := n3_; have HO188 := n4_; have HB := n5_; have HO191 := n6_; clear n0_ n1_ n2_ n3_ n4_ n5_ n6_; clear ho hb hg hat))
                                  go_roundg k3
                                  case measure => have := HK1.out; have := HK2.out; have := HK3.out; omega
                                  case rel => exact ⟨(y186), (y189), (wrap64 (x8_2 + 1)), (by first | rfl | (simp; done) | (simp [*]; done)), H', ⟨by have := HK1.out; have := HK2.out; have := HK3.out; omega⟩, ⟨by (with_reducible repeat (first | apply Kd.S_alloc | apply Kd.S_drewN | apply Kd.S_drew)); exact Kd.S_mono HO188.out (fun _ hk => ⟨hk.2, hk.1⟩)⟩, ⟨by (with_reducible repeat (first | apply Kd.R_alloc | apply Kd.R_drewN | apply Kd.R_drew)); exact HO191.out⟩, ⟨by (with_reducible repeat (first | apply Kd.S_alloc | apply Kd.S_drewN | apply Kd.S_drew)); exact HO_173002.out⟩, ⟨by (with_reducible repeat (first | refine blk_drewN ?_ _ | refine blk_drew ?_ | refine blk_alloc ?_ _)); exact BK167.out⟩, ⟨by (with_reducible repeat (first | refine blk_drewN ?_ _ | refine blk_drew ?_ | refine blk_alloc ?_ _)); exact BK168.out⟩, ⟨by (with_reducible repeat (first | refine blk_drewN ?_ _ | refine blk_drew ?_ | refine blk_alloc ?_ _)); exact BK172.out⟩, ⟨by repeat (first | (with_reducible first | exact HB.out | apply below_alloc | apply pw_below_drewN | apply below_drew1 | refine below_set ?_ GE167.out | refine below_set ?_ GE168.out | refine below_set ?_ GE172.out) | exact HB.out)⟩⟩
                                · rw [if_neg c47] at H
                                  exact absurd H (by simp)
                              · rw [if_neg c46] at H
                                exact absurd H (by simp)
                            · rw [if_neg c45] at H
                              have c45b0 : decide (x11_3 < 0) = false := decide_eq_false c45
                              clear c45
                              by_cases c50 : x7_2.length < 17592186044416
                              · rw [if_pos c50] at H
                                have LMc50 := Aside0.mk c50
                                clear c50
                                obtain ⟨y192, hy192⟩ : ∃ y_ : List Int, y_ = (x7_2 ++ [x11_3]) := ⟨_, rfl⟩
                                replace H : (coppicerref_Sure.l1 k3 x4_2 x6_1 y192 (wrap64 (x8_2 + 1)) a0_0 a0_1 l0_2 a0_3 a0_4 0 a0_1 x173002_1 0 x173004_1) = some (r1, r2, r3, r4, r5, r6) := by first | (rw [hy192]; with_reducible exact H) | (have H2_ := (Option.bind_some _ _).symm.trans H; rw [hy192]; with_reducible exact H2_) | (have H2_ := (Option.bind_some _ _).symm.trans H; with_reducible exact H2_) | with_reducible exact H | (rw [hy192]; exact H) | exact H
                                have Ny192 := Aside0.mk hy192
                                clear hy192
                                have H' := Aside0.mk H
                                clear H
                                go_wp2_with (first | ((with_reducible refine gate_builtin (b := .append) (xs := #[.tmp 68, .tmp 70]) rfl ?_); at_builtin; refine Kd.R_append (Kd.int .i64) (w0 := w) w.heap.size rfl (.tmp 68) (.tmp 70) 33 3 (.int .i64 0) 8 rfl Try.underlying33 info3 rfl (by decide) (by omega) u7 x7_2 x11_3 [.int .i64 x11_3] (fun k_ => some k_ ≠ (.slice Ao29 y180.length co29 : Value).ownBlock) (fun _ => False) rfl rfl ?aP (fun _ hk => hk.elim) ?aF ?aO ?aB ?aS ?aL ?_; (case aP => exact rfl); (case aB => exact (by repeat (first | (with_reducible first | exact HB.out | apply below_alloc | apply pw_below_drewN | apply below_drew1 | refine below_set ?_ GE167.out | refine below_set ?_ GE168.out | refine below_set ?_ GE172.out) | exact HB.out))); (case aF => exact (fun k_ hk => Kd.fresh' (Kd.R_lt (by (with_reducible repeat (first | apply Kd.R_alloc | apply Kd.R_drewN | apply Kd.R_drew)); exact HO_9.out)) k_ hk)); (case aO => exact (by (with_reducible repeat (first | apply Kd.R_alloc | apply Kd.R_drewN | apply Kd.R_drew)); exact HO_7.out)); (case aS => exact (below_size (by repeat (first | (with_reducible first | exact HB.out | apply below_alloc | apply pw_below_drewN | apply below_drew1 | refine below_set ?_ GE167.out | refine below_set ?_ GE168.out | refine below_set ?_ GE172.out) | exact HB.out)))); (case aL => have := LMc50.out; omega); intro v193 w51 ho hb hg hat; rw [← Ny192.out] at ho; have n0_ := Aside0.mk (Kd.S_after (ok := (fun k_ => some k_ ≠ (.slice Ao29 y180.length co29 : Value).ownBlock ∧ some k_ ≠ (u173002 : Value).ownBlock)) (by (with_reducible repeat (first | apply Kd.S_alloc | apply Kd.S_drewN | apply Kd.S_drew)); exact Kd.S_mono HO_4.out (fun _ hk => ⟨⟨hk.2.1, hk.2.2⟩, hk.1⟩)) hg hat); have n1_ := Aside0.mk (Kd.R_after (ok := (fun _ => True)) (by (with_reducible repeat (first | apply Kd.R_alloc | apply Kd.R_drewN | apply Kd.R_drew)); exact Kd.R_mono HO_9.out (fun _ hk => ⟨trivial, hk⟩)) hg hat); have n2_ := Aside0.mk (Kd.S_after (ok := (fun k_ => some k_ ≠ (.slice (some ad176) x4_2.length co25 : Value).ownBlock ∧ some k_ ≠ (.slice Ao29 y180.length co29 : Value).ownBlock)) (by (with_reducible repeat (first | apply Kd.S_alloc | apply Kd.S_drewN | apply Kd.S_drew)); exact Kd.S_mono HO_173002.out (fun _ hk => ⟨⟨hk.1, hk.2.2⟩, hk.2.1⟩)) hg hat); have n3_ := Aside0.mk (blk_grown (g := gb167) (o := .cells #[.int .i64 a0_0, .int .i64 a0_1, .slice A0_2 l0_2.length c0_2, .int .u32 a0_3, .int .u32 a0_4] 25 (0, 0)) (by (with_reducible repeat (first | refine blk_drewN ?_ _ | refine blk_drew ?_ | refine blk_alloc ?_ _)); exact BK167.out) hg (Kd.R_ne HO_7.out BK167.out (by decide))); have n4_ := Aside0.mk (blk_grown (g := gb168) (o := .cells #[.int .i64 x169000_1, .int .i64 x169001_1, .slice none 0 0, .int .i64 x169003_1, .int .u32 x169004_1] 41 (0, 0)) (by (with_reducible repeat (first | refine blk_drewN ?_ _ | refine blk_drew ?_ | refine blk_alloc ?_ _)); exact BK168.out) hg (Kd.R_ne HO_7.out BK168.out (by decide))); have n5_ := Aside0.mk (blk_grown (g := gb172) (o := .cells #[.int .i64 0, .int .i64 a0_1, u173002, .int .i64 0, .int .u32 x173004_1] 41 (0, 0)) (by (with_reducible repeat (first | refine blk_drewN ?_ _ | refine blk_drew ?_ | refine blk_alloc ?_ _)); exact BK172.out) hg (Kd.R_ne HO_7.out BK172.out (by decide))); have n6_ := Aside0.mk (hb); have n7_ := Aside0.mk (ho); clear HO_4; clear HO_9; clear HO_173002; clear BK167; clear BK168; clear BK172; clear HB; clear HO_7; have HO_4 := n0_; have HO_9 := n1_; have HO_173002 := n2_; have BK167 := n3_; have BK168 := n4_; have BK172 := n5_; have HB := n6_; have HO194 := n7_; clear n0_ n1_ n2_ n3_ n4_ n5_ n6_ n7_; clear ho hb hg hat))
                                go_roundg k3
                                case measure => have := HK1.out; have := HK2.out; have := HK3.out; omega
                                case rel => exact ⟨(x4_2), (y192), (wrap64 (x8_2 + 1)), (by first | rfl | (simp; done) | (simp [*]; done)), H', ⟨by have := HK1.out; have := HK2.out; have := HK3.out; omega⟩, ⟨by (with_reducible repeat (first | apply Kd.S_alloc | apply Kd.S_drewN | apply Kd.S_drew)); exact Kd.S_mono HO_4.out (fun _ hk => ⟨hk.2, hk.1.2⟩)⟩, ⟨by (with_reducible repeat (first | apply Kd.R_alloc | apply Kd.R_drewN | apply Kd.R_drew)); exact Kd.R_mono HO194.out (fun _ hk => trivial)⟩, ⟨by (with_reducible repeat (first | apply Kd.S_alloc | apply Kd.S_drewN | apply Kd.S_drew)); exact Kd.S_mono HO_173002.out (fun _ hk => ⟨hk.1.1, hk.2⟩)⟩, ⟨by (with_reducible repeat (first | refine blk_drewN ?_ _ | refine blk_drew ?_ | refine blk_alloc ?_ _)); exact BK167.out⟩, ⟨by (with_reducible repeat (first | refine blk_drewN ?_ _ | refine blk_drew ?_ | refine blk_alloc ?_ _)); exact BK168.out⟩, ⟨by (with_reducible repeat (first | refine blk_drewN ?_ _ | refine blk_drew ?_ | refine blk_alloc ?_ _)); exact BK172.out⟩, ⟨by repeat (first | (with_reducible first | exact HB.out | apply below_alloc | apply pw_below_drewN | apply below_drew1 | refine below_set ?_ GE167.out | refine below_set ?_ GE168.out | refine below_set ?_ GE172.out) | exact HB.out)⟩⟩
                              · rw [if_neg c50] at H
                                exact absurd H (by simp)
                    · rw [if_neg c18] at H
                      exact absurd H (by simp)
                  · rw [if_neg c17] at H
                    exact absurd H (by simp)
                · rw [if_neg c16] at H
                  exact absurd H (by simp)
              · rw [if_neg c15] at H
                exact absurd H (by simp)
            · rw [if_neg c14] at H
              have c14b0 : decide (x8_2 < a0_1) = false := decide_eq_false c14
              clear c14
              by_cases c52 : x173002_1.length < 5864062014805
              · rw [if_pos c52] at H
                have LMc52 := Aside0.mk c52
                clear c52
                obtain ⟨y195, hy195⟩ : ∃ y_ : List (List Int), y_ = (x173002_1 ++ [x7_2]) := ⟨_, rfl⟩
                replace H : (if (x4_2.length : Int) > 7 then (some (0, 0, ([] : List (List Int)), 0, 0, false)) else (if 0 ≤ x6_1 then (if x6_1 < (x4_2.length : Int) then ((coppicerref_NetLeads.f k2 a0_0 a0_1 l0_2 a0_3 a0_4 (rd_L3 x4_2 x6_1)).bind fun t199 => (if (Go.bits .and .u32 t199 a0_4) = 0 then (coppicerref_Sure.l0 k2 x4_2 (wrap64 (x6_1 + 1)) a0_0 a0_1 l0_2 a0_3 a0_4 0 a0_1 y195 0 x173004_1) else (if 0 ≤ (IntKind.u64.wrap (x6_1)) then (coppicerref_Sure.l0 k2 x4_2 (wrap64 (x6_1 + 1)) a0_0 a0_1 l0_2 a0_3 a0_4 0 a0_1 y195 0 ((x173004_1 + (shl .u32 1 (IntKind.u64.wrap (x6_1)))) % 4294967296)) else (none)))) else (none)) else (none))) = some (r1, r2, r3, r4, r5, r6) := by first | (rw [hy195]; with_reducible exact H) | (have H2_ := (Option.bind_some _ _).symm.trans H; rw [hy195]; with_reducible exact H2_) | (have H2_ := (Option.bind_some _ _).symm.trans H; with_reducible exact H2_) | with_reducible exact H | (rw [hy195]; exact H) | exact H
                have Ny195 := Aside0.mk hy195
                clear hy195
                by_cases c53 : (x4_2.length : Int) > 7
                · rw [if_pos c53] at H
                  have c53b0 : decide (7 < (x4_2.length : Int)) = true := decide_eq_true c53
                  have c53b1 : decide (7 < x4_2.length) = true := decide_eq_true (by omega)
                  clear c53
                  simp only [Option.some.injEq, Prod.mk.injEq] at H
                  obtain ⟨rfl, rfl, rfl, rfl, rfl, rfl⟩ := H
                  have hnb54 := NB167_168.out
                  have hnc54 := NB168_167.out
                  have hnb55 := NB167_172.out
                  have hnc55 := NB172_167.out
                  have hcz56_0 : wr.cell? ⟨gb167, 0, none⟩ = some (.int .i64 a0_0) := (blk_cell BK167.out 0).trans rfl
                  have hcz56_1 : wr.cell? ⟨gb167, 1, none⟩ = some (.int .i64 a0_1) := (blk_cell BK167.out 1).trans rfl
                  have hcz56_2 : wr.cell? ⟨gb167, 2, none⟩ = some (.slice A0_2 l0_2.length c0_2) := (blk_cell BK167.out 2).trans rfl
                  have hcz56_3 : wr.cell? ⟨gb167, 3, none⟩ = some (.int .u32 a0_3) := (blk_cell BK167.out 3).trans rfl
                  have hcz56_4 : wr.cell? ⟨gb167, 4, none⟩ = some (.int .u32 a0_4) := (blk_cell BK167.out 4).trans rfl
                  have hfz56_0 := blk_frozen BK167.out 0
                  have hfz56_1 := blk_frozen BK167.out 1
                  have hfz56_2 := blk_frozen BK167.out 2
                  have hfz56_3 := blk_frozen BK167.out 3
                  have hfz56_4 := blk_frozen BK167.out 4
                  have hnb57 := NB172_168.out
                  have hnc57 := NB168_172.out
                  have hcz58_0 : wr.cell? ⟨gb172, 0, none⟩ = some (.int .i64 0) := (blk_cell BK172.out 0).trans rfl
                  have hcz58_1 : wr.cell? ⟨gb172, 1, none⟩ = some (.int .i64 a0_1) := (blk_cell BK172.out 1).trans rfl
                  have hcz58_2 : wr.cell? ⟨gb172, 2, none⟩ = some (u173002) := (blk_cell BK172.out 2).trans rfl
                  have hcz58_3 : wr.cell? ⟨gb172, 3, none⟩ = some (.int .i64 0) := (blk_cell BK172.out 3).trans rfl
                  have hcz58_4 : wr.cell? ⟨gb172, 4, none⟩ = some (.int .u32 x173004_1) := (blk_cell BK172.out 4).trans rfl
                  have hfz58_0 := blk_frozen BK172.out 0
                  have hfz58_1 := blk_frozen BK172.out 1
                  have hfz58_2 := blk_frozen BK172.out 2
                  have hfz58_3 := blk_frozen BK172.out 3
                  have hfz58_4 := blk_frozen BK172.out 4
                  obtain ⟨Ao60, co60, eo60⟩ := Kd.R_slice HO_7.out
                  subst eo60
                  go_wp2_with (first | ((with_reducible refine gate_builtin (b := .append) (xs := #[.tmp 73, .tmp 75]) rfl ?_); at_builtin; refine Kd.S_append (Kd.slice 3 (Kd.int .i64)) (w0 := w) w.heap.size rfl (.tmp 73) (.tmp 75) 39 33 (.slice none 0 0) 24 rfl Try.underlying39 info33 rfl (by decide) (by omega) u173002 x173002_1 x7_2 [.slice Ao60 x7_2.length co60] (fun k_ => some k_ ≠ (u4 : Value).ownBlock) (fun k_ => some k_ = (.slice Ao60 x7_2.length co60 : Value).ownBlock) rfl rfl ?aP (fun k_ hk_ => ((Kd.R_mono (ok' := fun k_ => ((fun k_ => some k_ ≠ (u4 : Value).ownBlock)) k_ ∧ some k_ ≠ (u173002 : Value).ownBlock) (Kd.R_apart' (Kd.R_apart' (HO_7.out) (Kd.S_typed HO_4.out) (by decide)) (Kd.S_typed HO_173002.out) (by decide)) (fun k_ hk => ⟨hk.1.2, hk.2⟩))).1 k_ hk_.symm) ?aF ?aO ?aB ?aS ?aL ?_; (case aP => exact Kd.M_row (Kd.R_mono (Kd.R_tight rfl (Kd.R_mono (ok' := fun k_ => ((fun k_ => some k_ ≠ (u4 : Value).ownBlock)) k_ ∧ some k_ ≠ (u173002 : Value).ownBlock) (Kd.R_apart' (Kd.R_apart' (HO_7.out) (Kd.S_typed HO_4.out) (by decide)) (Kd.S_typed HO_173002.out) (by decide)) (fun k_ hk => ⟨hk.1.2, hk.2⟩))) (fun _ h_ => h_))); (case aB => exact (by repeat (first | (with_reducible first | exact HB.out | apply below_alloc | apply pw_below_drewN | apply below_drew1 | refine below_set ?_ GE167.out | refine below_set ?_ GE168.out | refine below_set ?_ GE172.out) | exact HB.out))); (case aF => exact (fun k_ hk => Kd.fresh' (Kd.S_lt (by (with_reducible repeat (first | apply Kd.S_alloc | apply Kd.S_drewN | apply Kd.S_drew)); exact HO_4.out)) k_ hk)); (case aO => exact (by (with_reducible repeat (first | apply Kd.S_alloc | apply Kd.S_drewN | apply Kd.S_drew)); exact Kd.S_mono HO_173002.out (fun k_ hk => ⟨hk.1, fun e_ => hk.2 e_⟩))); (case aS => exact (below_size (by repeat (first | (with_reducible first | exact HB.out | apply below_alloc | apply pw_below_drewN | apply below_drew1 | refine below_set ?_ GE167.out | refine below_set ?_ GE168.out | refine below_set ?_ GE172.out) | exact HB.out)))); (case aL => have := LMc52.out; omega); intro v196 w59 ho hb hg hat; rw [← Ny195.out] at ho; have n0_ := Aside0.mk (Kd.S_after (ok := (fun k_ => some k_ ≠ (.slice Ao60 x7_2.length co60 : Value).ownBlock)) (by (with_reducible repeat (first | apply Kd.S_alloc | apply Kd.S_drewN | apply Kd.S_drew)); exact HO_4.out) hg hat); have n1_ := Aside0.mk (blk_grown (g := gb167) (o := .cells #[.int .i64 a0_0, .int .i64 a0_1, .slice A0_2 l0_2.length c0_2, .int .u32 a0_3, .int .u32 a0_4] 25 (0, 0)) (by (with_reducible repeat (first | refine blk_drewN ?_ _ | refine blk_drew ?_ | refine blk_alloc ?_ _)); exact BK167.out) hg (Kd.S_ne HO_173002.out BK167.out (by decide))); have n2_ := Aside0.mk (blk_grown (g := gb168) (o := .cells #[.int .i64 x169000_1, .int .i64 x169001_1, .slice none 0 0, .int .i64 x169003_1, .int .u32 x169004_1] 41 (0, 0)) (by (with_reducible repeat (first | refine blk_drewN ?_ _ | refine blk_drew ?_ | refine blk_alloc ?_ _)); exact BK168.out) hg (Kd.S_ne HO_173002.out BK168.out (by decide))); have n3_ := Aside0.mk (blk_grown (g := gb172) (o := .cells #[.int .i64 0, .int .i64 a0_1, u173002, .int .i64 0, .int .u32 x173004_1] 41 (0, 0)) (by (with_reducible repeat (first | refine blk_drewN ?_ _ | refine blk_drew ?_ | refine blk_alloc ?_ _)); exact BK172.out) hg (Kd.S_ne HO_173002.out BK172.out (by decide))); have n4_ := Aside0.mk (hb); have n5_ := Aside0.mk (ho); clear HO_4; clear BK167; clear BK168; clear BK172; clear HB; clear HO_173002; clear HO_7; have HO_4 := n0_; have BK167 := n1_; have BK168 := n2_; have BK172 := n3_; have HB := n4_; have HO197 := n5_; clear n0_ n1_ n2_ n3_ n4_ n5_; clear ho hb hg hat; obtain ⟨Ao61, co61, eo61⟩ := Kd.S_slice HO197.out; subst eo61; have hcz62_0 : w59.cell? ⟨gb172, 0, none⟩ = some (.int .i64 0) := (blk_cell BK172.out 0).trans rfl; have hcz62_1 : w59.cell? ⟨gb172, 1, none⟩ = some (.int .i64 a0_1) := (blk_cell BK172.out 1).trans rfl; have hcz62_2 : w59.cell? ⟨gb172, 2, none⟩ = some (u173002) := (blk_cell BK172.out 2).trans rfl; have hcz62_3 : w59.cell? ⟨gb172, 3, none⟩ = some (.int .i64 0) := (blk_cell BK172.out 3).trans rfl; have hcz62_4 : w59.cell? ⟨gb172, 4, none⟩ = some (.int .u32 x173004_1) := (blk_cell BK172.out 4).trans rfl; have hfz62_0 := blk_frozen BK172.out 0; have hfz62_1 := blk_frozen BK172.out 1; have hfz62_2 := blk_frozen BK172.out 2; have hfz62_3 := blk_frozen BK172.out 3; have hfz62_4 := blk_frozen BK172.out 4; obtain ⟨Ao63, co63, eo63⟩ := Kd.S_slice HO_4.out; subst eo63; have hcz64_0 : w59.cell? ⟨gb168, 0, none⟩ = some (.int .i64 x169000_1) := (blk_cell BK168.out 0).trans rfl; have hcz64_1 : w59.cell? ⟨gb168, 1, none⟩ = some (.int .i64 x169001_1) := (blk_cell BK168.out 1).trans rfl; have hcz64_2 : w59.cell? ⟨gb168, 2, none⟩ = some (.slice none 0 0) := (blk_cell BK168.out 2).trans rfl; have hcz64_3 : w59.cell? ⟨gb168, 3, none⟩ = some (.int .i64 x169003_1) := (blk_cell BK168.out 3).trans rfl; have hcz64_4 : w59.cell? ⟨gb168, 4, none⟩ = some (.int .u32 x169004_1) := (blk_cell BK168.out 4).trans rfl; have hfz64_0 := blk_frozen BK168.out 0; have hfz64_1 := blk_frozen BK168.out 1; have hfz64_2 := blk_frozen BK168.out 2; have hfz64_3 := blk_frozen BK168.out 3; have hfz64_4 := blk_frozen BK168.out 4))
                  refine bodyPost_ret (results_ct rfl _ _ gb168 41 #[.int .i64 0, .int .i64 0, .slice none 0 0, .int .i64 0, .int .u32 0] (0, 0) _ rfl (by (with_reducible repeat (first | refine blk_drewN ?_ _ | refine blk_drew ?_ | refine blk_alloc ?_ _)); refine blk_put (cs := #[.int .i64 0, .int .i64 0, .slice none 0 0, .int .i64 0, .int .u32 x169004_1]) ?_ 4 _ rfl; (with_reducible repeat (first | refine blk_drewN ?_ _ | refine blk_drew ?_ | refine blk_alloc ?_ _)); refine blk_put (cs := #[.int .i64 0, .int .i64 0, .slice none 0 0, .int .i64 x169003_1, .int .u32 x169004_1]) ?_ 3 _ rfl; (with_reducible repeat (first | refine blk_drewN ?_ _ | refine blk_drew ?_ | refine blk_alloc ?_ _)); refine blk_put (cs := #[.int .i64 0, .int .i64 0, .slice none 0 0, .int .i64 x169003_1, .int .u32 x169004_1]) ?_ 2 _ rfl; (with_reducible repeat (first | refine blk_drewN ?_ _ | refine blk_drew ?_ | refine blk_alloc ?_ _)); refine blk_put (cs := #[.int .i64 0, .int .i64 x169001_1, .slice none 0 0, .int .i64 x169003_1, .int .u32 x169004_1]) ?_ 1 _ rfl; (with_reducible repeat (first | refine blk_drewN ?_ _ | refine blk_drew ?_ | refine blk_alloc ?_ _)); refine blk_put (cs := #[.int .i64 x169000_1, .int .i64 x169001_1, .slice none 0 0, .int .i64 x169003_1, .int .u32 x169004_1]) ?_ 0 _ rfl; (with_reducible repeat (first | refine blk_drewN ?_ _ | refine blk_drew ?_ | refine blk_alloc ?_ _)); refine blk_far ?_ NB168_172.out _; (with_reducible repeat (first | refine blk_drewN ?_ _ | refine blk_drew ?_ | refine blk_alloc ?_ _)); exact BK168.out) Try.underlying41 rfl (by kernel_rfl)) rfl ?_
                  exact ⟨_, by first | rfl | (simp [errW_none, errW_some] <;> rfl) | (simp [*, errW_none, errW_some] <;> rfl), by first | exact Kd.S_nil _ _ _ _ _ | exact Kd.N_nil _ _ _ _ _ | exact Kd.V_nil _ _ _ _ _ | exact Kd.Q_nil _ _ _ _ _ | exact Kd.R_nil _ _ _ _ _ | (go_simp; exact Kd.S_nil _ _ _ _ _), by repeat (first | (with_reducible first | exact HB.out | apply below_alloc | apply pw_below_drewN | apply below_drew1 | refine below_set ?_ GE167.out | refine below_set ?_ GE168.out | refine below_set ?_ GE172.out) | exact HB.out)⟩
                · rw [if_neg c53] at H
                  have c53b0 : decide (7 < (x4_2.length : Int)) = false := decide_eq_false c53
                  have c53b1 : decide (7 < x4_2.length) = false := decide_eq_false (by omega)
                  clear c53
                  by_cases c65 : 0 ≤ x6_1
                  · rw [if_pos c65] at H
                    have c65b0 : decide (0 ≤ x6_1) = true := decide_eq_true c65
                    clear c65
                    by_cases c66 : x6_1 < (x4_2.length : Int)
                    · rw [if_pos c66] at H
                      have c66b0 : decide (x6_1 < (x4_2.length : Int)) = true := decide_eq_true c66
                      clear c66
                      replace H := Option.bind_eq_some_iff.mp H
                      obtain ⟨t199, A670, H⟩ := H
                      replace H : (if (Go.bits .and .u32 t199 a0_4) = 0 then (coppicerref_Sure.l0 k2 x4_2 (wrap64 (x6_1 + 1)) a0_0 a0_1 l0_2 a0_3 a0_4 0 a0_1 y195 0 x173004_1) else (if 0 ≤ (IntKind.u64.wrap (x6_1)) then (coppicerref_Sure.l0 k2 x4_2 (wrap64 (x6_1 + 1)) a0_0 a0_1 l0_2 a0_3 a0_4 0 a0_1 y195 0 ((x173004_1 + (shl .u32 1 (IntKind.u64.wrap (x6_1)))) % 4294967296)) else (none))) = some (r1, r2, r3, r4, r5, r6) := H
                      have A67 := Aside0.mk A670
                      clear A670
                      by_cases c68 : (Go.bits .and .u32 t199 a0_4) = 0
                      · rw [if_pos c68] at H
                        have c68b0 : ((Go.bits .and .u32 t199 a0_4) == 0) = true := beq_iff_eq.mpr c68
                        have c68b1 : ((Go.bits .and .u32 t199 a0_4) != 0) = false := bne_eq_false_iff_eq.mpr c68
                        clear c68
                        have H' := Aside0.mk H
                        clear H
                        have hnb69 := NB167_168.out
                        have hnc69 := NB168_167.out
                        have hnb70 := NB167_172.out
                        have hnc70 := NB172_167.out
                        have hcz71_0 : wr.cell? ⟨gb167, 0, none⟩ = some (.int .i64 a0_0) := (blk_cell BK167.out 0).trans rfl
                        have hcz71_1 : wr.cell? ⟨gb167, 1, none⟩ = some (.int .i64 a0_1) := (blk_cell BK167.out 1).trans rfl
                        have hcz71_2 : wr.cell? ⟨gb167, 2, none⟩ = some (.slice A0_2 l0_2.length c0_2) := (blk_cell BK167.out 2).trans rfl
                        have hcz71_3 : wr.cell? ⟨gb167, 3, none⟩ = some (.int .u32 a0_3) := (blk_cell BK167.out 3).trans rfl
                        have hcz71_4 : wr.cell? ⟨gb167, 4, none⟩ = some (.int .u32 a0_4) := (blk_cell BK167.out 4).trans rfl
                        have hfz71_0 := blk_frozen BK167.out 0
                        have hfz71_1 := blk_frozen BK167.out 1
                        have hfz71_2 := blk_frozen BK167.out 2
                        have hfz71_3 := blk_frozen BK167.out 3
                        have hfz71_4 := blk_frozen BK167.out 4
                        have hnb72 := NB172_168.out
                        have hnc72 := NB168_172.out
                        have hcz73_0 : wr.cell? ⟨gb172, 0, none⟩ = some (.int .i64 0) := (blk_cell BK172.out 0).trans rfl
                        have hcz73_1 : wr.cell? ⟨gb172, 1, none⟩ = some (.int .i64 a0_1) := (blk_cell BK172.out 1).trans rfl
                        have hcz73_2 : wr.cell? ⟨gb172, 2, none⟩ = some (u173002) := (blk_cell BK172.out 2).trans rfl
                        have hcz73_3 : wr.cell? ⟨gb172, 3, none⟩ = some (.int .i64 0) := (blk_cell BK172.out 3).trans rfl
                        have hcz73_4 : wr.cell? ⟨gb172, 4, none⟩ = some (.int .u32 x173004_1) := (blk_cell BK172.out 4).trans rfl
                        have hfz73_0 := blk_frozen BK172.out 0
                        have hfz73_1 := blk_frozen BK172.out 1
                        have hfz73_2 := blk_frozen BK172.out 2
                        have hfz73_3 := blk_frozen BK172.out 3
                        have hfz73_4 := blk_frozen BK172.out 4
                        obtain ⟨Ao75, co75, eo75⟩ := Kd.R_slice HO_7.out
                        subst eo75
                        try go_wp2_with (first | ((with_reducible refine gate_builtin (b := .append) (xs := #[.tmp 73, .tmp 75]) rfl ?_); at_builtin; refine Kd.S_append (Kd.slice 3 (Kd.int .i64)) (w0 := w) w.heap.size rfl (.tmp 73) (.tmp 75) 39 33 (.slice none 0 0) 24 rfl Try.underlying39 info33 rfl (by decide) (by omega) u173002 x173002_1 x7_2 [.slice Ao75 x7_2.length co75] (fun k_ => some k_ ≠ (u4 : Value).ownBlock) (fun k_ => some k_ = (.slice Ao75 x7_2.length co75 : Value).ownBlock) rfl rfl ?aP (fun k_ hk_ => ((Kd.R_mono (ok' := fun k_ => ((fun k_ => some k_ ≠ (u4 : Value).ownBlock)) k_ ∧ some k_ ≠ (u173002 : Value).ownBlock) (Kd.R_apart' (Kd.R_apart' (HO_7.out) (Kd.S_typed HO_4.out) (by decide)) (Kd.S_typed HO_173002.out) (by decide)) (fun k_ hk => ⟨hk.1.2, hk.2⟩))).1 k_ hk_.symm) ?aF ?aO ?aB ?aS ?aL ?_; (case aP => exact Kd.M_row (Kd.R_mono (Kd.R_tight rfl (Kd.R_mono (ok' := fun k_ => ((fun k_ => some k_ ≠ (u4 : Value).ownBlock)) k_ ∧ some k_ ≠ (u173002 : Value).ownBlock) (Kd.R_apart' (Kd.R_apart' (HO_7.out) (Kd.S_typed HO_4.out) (by decide)) (Kd.S_typed HO_173002.out) (by decide)) (fun k_ hk => ⟨hk.1.2, hk.2⟩))) (fun _ h_ => h_))); (case aB => exact (by repeat (first | (with_reducible first | exact HB.out | apply below_alloc | apply pw_below_drewN | apply below_drew1 | refine below_set ?_ GE167.out | refine below_set ?_ GE168.out | refine below_set ?_ GE172.out) | exact HB.out))); (case aF => exact (fun k_ hk => Kd.fresh' (Kd.S_lt (by (with_reducible repeat (first | apply Kd.S_alloc | apply Kd.S_drewN | apply Kd.S_drew)); exact HO_4.out)) k_ hk)); (case aO => exact (by (with_reducible repeat (first | apply Kd.S_alloc | apply Kd.S_drewN | apply Kd.S_drew)); exact Kd.S_mono HO_173002.out (fun k_ hk => ⟨hk.1, fun e_ => hk.2 e_⟩))); (case aS => exact (below_size (by repeat (first | (with_reducible first | exact HB.out | apply below_alloc | apply pw_below_drewN | apply below_drew1 | refine below_set ?_ GE167.out | refine below_set ?_ GE168.out | refine below_set ?_ GE172.out) | exact HB.out)))); (case aL => have := LMc52.out; omega); intro v196 w74 ho hb hg hat; rw [← Ny195.out] at ho; have n0_ := Aside0.mk (Kd.S_after (ok := (fun k_ => some k_ ≠ (.slice Ao75 x7_2.length co75 : Value).ownBlock)) (by (with_reducible repeat (first | apply Kd.S_alloc | apply Kd.S_drewN | apply Kd.S_drew)); exact HO_4.out) hg hat); have n1_ := Aside0.mk (blk_grown (g := gb167) (o := .cells #[.int .i64 a0_0, .int .i64 a0_1, .slice A0_2 l0_2.length c0_2, .int .u32 a0_3, .int .u32 a0_4] 25 (0, 0)) (by (with_reducible repeat (first | refine blk_drewN ?_ _ | refine blk_drew ?_ | refine blk_alloc ?_ _)); exact BK167.out) hg (Kd.S_ne HO_173002.out BK167.out (by decide))); have n2_ := Aside0.mk (blk_grown (g := gb168) (o := .cells #[.int .i64 x169000_1, .int .i64 x169001_1, .slice none 0 0, .int .i64 x169003_1, .int .u32 x169004_1] 41 (0, 0)) (by (with_reducible repeat (first | refine blk_drewN ?_ _ | refine blk_drew ?_ | refine blk_alloc ?_ _)); exact BK168.out) hg (Kd.S_ne HO_173002.out BK168.out (by decide))); have n3_ := Aside0.mk (blk_grown (g := gb172) (o := .cells #[.int .i64 0, .int .i64 a0_1, u173002, .int .i64 0, .int .u32 x173004_1] 41 (0, 0)) (by (with_reducible repeat (first | refine blk_drewN ?_ _ | refine blk_drew ?_ | refine blk_alloc ?_ _)); exact BK172.out) hg (Kd.S_ne HO_173002.out BK172.out (by decide))); have n4_ := Aside0.mk (hb); have n5_ := Aside0.mk (ho); clear HO_4; clear BK167; clear BK168; clear BK172; clear HB; clear HO_173002; clear HO_7; have HO_4 := n0_; have BK167 := n1_; have BK168 := n2_; have BK172 := n3_; have HB := n4_; have HO197 := n5_; clear n0_ n1_ n2_ n3_ n4_ n5_; clear ho hb hg hat; obtain ⟨Ao76, co76, eo76⟩ := Kd.S_slice HO197.out; subst eo76; have hcz77_0 : w74.cell? ⟨gb172, 0, none⟩ = some (.int .i64 0) := (blk_cell BK172.out 0).trans rfl; have hcz77_1 : w74.cell? ⟨gb172, 1, none⟩ = some (.int .i64 a0_1) := (blk_cell BK172.out 1).trans rfl; have hcz77_2 : w74.cell? ⟨gb172, 2, none⟩ = some (u173002) := (blk_cell BK172.out 2).trans rfl; have hcz77_3 : w74.cell? ⟨gb172, 3, none⟩ = some (.int .i64 0) := (blk_cell BK172.out 3).trans rfl; have hcz77_4 : w74.cell? ⟨gb172, 4, none⟩ = some (.int .u32 x173004_1) := (blk_cell BK172.out 4).trans rfl; have hfz77_0 := blk_frozen BK172.out 0; have hfz77_1 := blk_frozen BK172.out 1; have hfz77_2 := blk_frozen BK172.out 2; have hfz77_3 := blk_frozen BK172.out 3; have hfz77_4 := blk_frozen BK172.out 4; obtain ⟨Ao78, co78, eo78⟩ := Kd.S_slice HO_4.out; subst eo78))
                        have n0_ : Aside0 (Kd.S (Kd.slice 3 (Kd.int .i64)) 33 (w74.setCell ⟨gb172, 2, none⟩ (.slice Ao76 y195.length co76)) w.heap.size (fun k_ => some k_ ≠ (.slice Ao76 y195.length co76 : Value).ownBlock) (.slice Ao78 x4_2.length co78) x4_2) := ⟨by (with_reducible repeat (first | apply Kd.S_alloc | apply Kd.S_drewN | apply Kd.S_drew)); exact Kd.S_mono (Kd.S_far (p := ⟨gb172, 2, none⟩) (Kd.S_types HO_4.out BK172.out (by decide)) (fun _ hk => hk.2) (.slice Ao76 y195.length co76)) (fun _ hk => hk.1.2)⟩
                        have n1_ : Aside0 (Kd.S (Kd.slice 3 (Kd.int .i64)) 33 (w74.setCell ⟨gb172, 2, none⟩ (.slice Ao76 y195.length co76)) w.heap.size (fun k_ => some k_ ≠ (.slice Ao78 x4_2.length co78 : Value).ownBlock) (.slice Ao76 y195.length co76) y195) := ⟨by (with_reducible repeat (first | apply Kd.S_alloc | apply Kd.S_drewN | apply Kd.S_drew)); exact Kd.S_mono (Kd.S_far (p := ⟨gb172, 2, none⟩) (Kd.S_types HO197.out BK172.out (by decide)) (fun _ hk => hk.2) (.slice Ao76 y195.length co76)) (fun _ hk => hk.1)⟩
                        have n2_ : Aside0 ((w74.setCell ⟨gb172, 2, none⟩ (.slice Ao76 y195.length co76)).heap[gb167]? = some (.cells #[.int .i64 a0_0, .int .i64 a0_1, .slice A0_2 l0_2.length c0_2, .int .u32 a0_3, .int .u32 a0_4] 25 (0, 0))) := ⟨by (with_reducible repeat (first | refine blk_drewN ?_ _ | refine blk_drew ?_ | refine blk_alloc ?_ _)); refine blk_far ?_ NB167_172.out _; (with_reducible repeat (first | refine blk_drewN ?_ _ | refine blk_drew ?_ | refine blk_alloc ?_ _)); exact BK167.out⟩
                        have n3_ : Aside0 ((w74.setCell ⟨gb172, 2, none⟩ (.slice Ao76 y195.length co76)).heap[gb168]? = some (.cells #[.int .i64 x169000_1, .int .i64 x169001_1, .slice none 0 0, .int .i64 x169003_1, .int .u32 x169004_1] 41 (0, 0))) := ⟨by (with_reducible repeat (first | refine blk_drewN ?_ _ | refine blk_drew ?_ | refine blk_alloc ?_ _)); refine blk_far ?_ NB168_172.out _; (with_reducible repeat (first | refine blk_drewN ?_ _ | refine blk_drew ?_ | refine blk_alloc ?_ _)); exact BK168.out⟩
                        have n4_ : Aside0 ((w74.setCell ⟨gb172, 2, none⟩ (.slice Ao76 y195.length co76)).heap[gb172]? = some (.cells #[.int .i64 0, .int .i64 a0_1, .slice Ao76 y195.length co76, .int .i64 0, .int .u32 x173004_1] 41 (0, 0))) := ⟨by (with_reducible repeat (first | refine blk_drewN ?_ _ | refine blk_drew ?_ | refine blk_alloc ?_ _)); refine blk_put (cs := #[.int .i64 0, .int .i64 a0_1, u173002, .int .i64 0, .int .u32 x173004_1]) ?_ 2 _ rfl; (with_reducible repeat (first | refine blk_drewN ?_ _ | refine blk_drew ?_ | refine blk_alloc ?_ _)); exact BK172.out⟩
                        have n5_ : Aside0 (Below w.heap.size w (w74.setCell ⟨gb172, 2, none⟩ (.slice Ao76 y195.length co76))) := ⟨by repeat (first | (with_reducible first | exact HB.out | apply below_alloc | apply pw_below_drewN | apply below_drew1 | refine below_set ?_ GE167.out | refine below_set ?_ GE168.out | refine below_set ?_ GE172.out) | exact HB.out)⟩
                        (try clear HO_4)
                        (try clear HO197)
                        (try clear BK167)
                        (try clear BK168)
                        (try clear BK172)
                        (try clear HB)
                        generalize (w74.setCell ⟨gb172, 2, none⟩ (.slice Ao76 y195.length co76)) = w79 at n0_ n1_ n2_ n3_ n4_ n5_ ⊢
                        have HO_4 := n0_
                        have HO197 := n1_
                        have BK167 := n2_
                        have BK168 := n3_
                        have BK172 := n4_
                        have HB := n5_
                        clear n0_ n1_ n2_ n3_ n4_ n5_
                        have n0_ := Aside0.mk (Kd.S_drew HO_4.out)
                        have n1_ := Aside0.mk (Kd.S_drew HO197.out)
                        have n2_ := Aside0.mk (blk_drew BK167.out)
                        have n3_ := Aside0.mk (blk_drew BK168.out)
                        have n4_ := Aside0.mk (blk_drew BK172.out)
                        have n5_ := Aside0.mk (below_drew1 HB.out)
                        clear HO_4
                        clear HO197
                        clear BK167
                        clear BK168
                        clear BK172
                        clear HB
                        have HO_4 := n0_
                        have HO197 := n1_
                        have BK167 := n2_
                        have BK168 := n3_
                        have BK172 := n4_
                        have HB := n5_
                        clear n0_ n1_ n2_ n3_ n4_ n5_
                        have p198 : 0 ≤ (x6_1 : Int) := of_decide_eq_true (by first | (with_reducible assumption) | assumption)
                        have q198 : x6_1 < (x4_2.length : Int) := of_decide_eq_true (by first | (with_reducible assumption) | assumption)
                        obtain ⟨ad198, A198_0, c198_0, e198, hx198_0, hl198_0, hi198_0⟩ := at_L3 (Kd.S_reads' HO_4.out).2.2 x6_1 p198 q198
                        cases e198
                        obtain ⟨ce198, hce198, hMe198, hcc198⟩ := Kd.S_get HO_4.out [] x6_1 p198 (by first | exact q198 | exact of_decide_eq_true (by first | (with_reducible assumption) | assumption) | (have e_ := (Kd.S_reads' HO_4.out).1; omega))
                        obtain ⟨ve198_0, rfl, ge198_0⟩ := hMe198
                        have hv198_0 := hcc198 0 _ rfl
                        rw [Nat.add_zero, show ((Kd.slice 3 (Kd.int .i64))).sz = 1 from rfl, Nat.mul_one] at hv198_0
                        replace hv198_0 := Option.some.inj (hv198_0.symm.trans hx198_0)
                        rw [hv198_0] at ge198_0
                        have HL198_0 := Aside0.mk (show Kd.R (Kd.int .i64) 3 _ _ _ _ (rd_L3 x4_2 x6_1) from ge198_0)
                        clear hv198_0 ge198_0
                        clear hcc198 hce198
                        have HR198_0 := Aside0.mk hi198_0
                        have HC198_0 := Aside0.mk hl198_0
                        clear hi198_0 hl198_0
                        replace p198 := eq_true p198
                        replace q198 := eq_true q198
                        refine start_ (n := 10) (S := fun w' => w'.cell? ⟨gb167, 0, none⟩ = some (.int .i64 a0_0) ∧ w'.cell? ⟨gb167, 1, none⟩ = some (.int .i64 a0_1) ∧ w'.cell? ⟨gb167, 2, none⟩ = some (.slice A0_2 l0_2.length c0_2) ∧ w'.cell? ⟨gb167, 3, none⟩ = some (.int .u32 a0_3) ∧ w'.cell? ⟨gb167, 4, none⟩ = some (.int .u32 a0_4) ∧ w'.cell? (ad198.add (x6_1).toNat) = some (.slice A198_0 (rd_L3 x4_2 x6_1).length c198_0)) (ds := []) #[false, false, false, false, false, false, false, false, false, false] (by kernel_rfl) rfl rfl ⟨(blk_cell BK167.out 0).trans rfl, (blk_cell BK167.out 1).trans rfl, (blk_cell BK167.out 2).trans rfl, (blk_cell BK167.out 3).trans rfl, (blk_cell BK167.out 4).trans rfl, hx198_0⟩ (fun hHeld => ?_); refine with_tabW coppicerref_Sure.tab26 coppicerref_Sure.bits26 (fun HT_ HW_ => ?_)
                        generalize w79.drew = w80 at HO_4 HO197 BK167 BK168 BK172 HB HL198_0 HR198_0 hx198_0 hHeld ⊢
                        refine pure_ (i := 1) (N := some 83) (v := ?_) (a' := ?_) #[false, true, false, false, false, false, false, false, false, false] rfl rfl (any_of HT_.out (by kernel_rfl)) (fun _ _ _ h => h) (Or.inl ⟨by rfl, ?_⟩) ?_ ?_
                        rotate_left
                        · intro w'
                          go_simp
                          with_reducible rfl
                        rotate_left
                        · simp only [Act.put, List.setIfInBounds_toArray, List.set_cons_zero, List.set_cons_succ, i64_w, i32_w]
                          rfl
                        refine pure_ (i := 2) (N := some 84) (v := ?_) (a' := ?_) #[false, true, true, false, false, false, false, false, false, false] rfl rfl (any_of HT_.out (by kernel_rfl)) (fun _ _ _ h => h) (Or.inl ⟨by rfl, ?_⟩) ?_ ?_
                        rotate_left
                        · intro w'
                          go_simp
                          with_reducible rfl
                        rotate_left
                        · simp only [Act.put, List.setIfInBounds_toArray, List.set_cons_zero, List.set_cons_succ, i64_w, i32_w]
                          rfl
                        refine pure_ (i := 3) (N := some 85) (v := ?_) (a' := ?_) #[false, true, true, true, false, false, false, false, false, false] rfl rfl (any_of HT_.out (by kernel_rfl)) (fun _ _ _ h => h) (Or.inl ⟨by rfl, ?_⟩) ?_ ?_
                        rotate_left
                        · intro w'
                          go_simp
                          with_reducible rfl
                        rotate_left
                        · simp only [Act.put, List.setIfInBounds_toArray, List.set_cons_zero, List.set_cons_succ, i64_w, i32_w]
                          rfl
                        refine pure_ (i := 6) (N := some 88) (v := ?_) (a' := ?_) #[false, true, true, true, false, false, true, false, false, false] rfl rfl (any_of HT_.out (by kernel_rfl)) (fun _ _ _ h => h) (Or.inl ⟨by rfl, ?_⟩) ?_ ?_
                        rotate_left
                        · intro w'
                          go_simp
                          with_reducible rfl
                        rotate_left
                        · simp only [Act.put, List.setIfInBounds_toArray, List.set_cons_zero, List.set_cons_succ, i64_w, i32_w]
                          rfl
                        refine take_ (i := 0) (N := some 82) (v := ?_) (a' := ?_) #[true, true, true, true, false, false, true, false, false, false] rfl rfl (take_ofW HT_.out HW_.out (by kernel_rfl)) (fun _ _ _ h => h) (Or.inl ⟨by rfl, ?_⟩) hHeld ?_ ?_
                        rotate_left
                        · rintro w' ⟨s0, s1, s2, s3, s4, s5⟩
                          go_simp
                          with_reducible rfl
                        rotate_left
                        · simp only [Act.put, List.setIfInBounds_toArray, List.set_cons_zero, List.set_cons_succ, i64_w, i32_w]
                          rfl
                        refine take_ (i := 4) (N := some 86) (v := ?_) (a' := ?_) #[true, true, true, true, true, false, true, false, false, false] rfl rfl (take_ofW HT_.out HW_.out (by kernel_rfl)) (fun _ _ _ h => h) (Or.inl ⟨by rfl, ?_⟩) hHeld ?_ ?_
                        rotate_left
                        · rintro w' ⟨s0, s1, s2, s3, s4, s5⟩
                          go_simp
                          with_reducible rfl
                        rotate_left
                        · simp only [Act.put, List.setIfInBounds_toArray, List.set_cons_zero, List.set_cons_succ, i64_w, i32_w]
                          rfl
                        refine take_ (i := 7) (N := some 89) (v := ?_) (a' := ?_) #[true, true, true, true, true, false, true, true, false, false] rfl rfl (take_ofW HT_.out HW_.out (by kernel_rfl)) (fun _ _ _ h => h) (Or.inl ⟨by rfl, ?_⟩) hHeld ?_ ?_
                        rotate_left
                        · rintro w' ⟨s0, s1, s2, s3, s4, s5⟩
                          go_simp
                          with_reducible rfl
                        rotate_left
                        · simp only [Act.put, List.setIfInBounds_toArray, List.set_cons_zero, List.set_cons_succ, i64_w, i32_w]
                          rfl
                        refine one_ (i := 5) (N := some 87) #[true, true, true, true, true, true, true, true, false, false] rfl rfl (one_of HT_.out (by kernel_rfl)) (by decide) (fun K hK => ?_)
                        refine goes_ Try.func19 (by kernel_rfl) rfl #[.agg #[.int .i64 a0_0, .int .i64 a0_1, .slice A0_2 l0_2.length c0_2, .int .u32 a0_3, .int .u32 a0_4], .slice A198_0 (rd_L3 x4_2 x6_1).length c198_0] (by rfl) rfl rfl (by (try simp only [List.map_toArray, List.map_cons, List.map_nil]); first | done | rfl | (simp only [List.length_drop, List.length_take]; rfl)) ?_
                        with_reducible refine (coppicerref_NetLeads.calls k2 a0_0 a0_1 _ _ l0_2 a0_3 a0_4 _ _ (rd_L3 x4_2 x6_1) t199 _ ?side1 ?side2 ?side3 ?side4 A67.out).mono ?_
                        (case side1 => repeat (first | exact (Kd.C_below HR0_2.out HB.out) | (with_reducible refine Kd.C_alloc ?_ _) | (with_reducible refine Kd.C_drewN ?_ _) | (with_reducible refine Kd.C_drew ?_)))
                        (case side2 => exact HC0_2.out)
                        (case side3 => repeat (first | exact (by repeat (first | (with_reducible exact HR198_0.out) | (with_reducible refine Kd.C_alloc ?_ _) | (with_reducible refine Kd.C_drewN ?_ _) | (with_reducible refine Kd.C_drew ?_) | exact HR198_0.out)) | (with_reducible refine Kd.C_alloc ?_ _) | (with_reducible refine Kd.C_drewN ?_ _) | (with_reducible refine Kd.C_drew ?_)))
                        (case side4 => exact HC198_0.out)
                        rintro e w81 ⟨rfl, hb⟩
                        have HS5_ := (hb.cell (World.block_lt_of_cell? _ _ (hHeld.2.2.2.2.2))).trans (hHeld.2.2.2.2.2)
                        refine ⟨_, rfl, ?_⟩
                        have n0_ := Aside0.mk (Kd.S_below (by (with_reducible repeat (first | apply Kd.S_alloc | apply Kd.S_drewN | apply Kd.S_drew)); exact HO_4.out) hb)
                        have n1_ := Aside0.mk (Kd.S_below (by (with_reducible repeat (first | apply Kd.S_alloc | apply Kd.S_drewN | apply Kd.S_drew)); exact HO197.out) hb)
                        have n2_ := Aside0.mk (Kd.R_below (by (with_reducible repeat (first | apply Kd.R_alloc | apply Kd.R_drewN | apply Kd.R_drew)); exact HL198_0.out) hb)
                        have n3_ := Aside0.mk (blk_below (g := gb167) (o := .cells #[.int .i64 a0_0, .int .i64 a0_1, .slice A0_2 l0_2.length c0_2, .int .u32 a0_3, .int .u32 a0_4] 25 (0, 0)) (by (with_reducible repeat (first | refine blk_drewN ?_ _ | refine blk_drew ?_ | refine blk_alloc ?_ _)); exact BK167.out) hb)
                        have n4_ := Aside0.mk (blk_below (g := gb168) (o := .cells #[.int .i64 x169000_1, .int .i64 x169001_1, .slice none 0 0, .int .i64 x169003_1, .int .u32 x169004_1] 41 (0, 0)) (by (with_reducible repeat (first | refine blk_drewN ?_ _ | refine blk_drew ?_ | refine blk_alloc ?_ _)); exact BK168.out) hb)
                        have n5_ := Aside0.mk (blk_below (g := gb172) (o := .cells #[.int .i64 0, .int .i64 a0_1, .slice Ao76 y195.length co76, .int .i64 0, .int .u32 x173004_1] 41 (0, 0)) (by (with_reducible repeat (first | refine blk_drewN ?_ _ | refine blk_drew ?_ | refine blk_alloc ?_ _)); exact BK172.out) hb)
                        have n6_ := Aside0.mk (Kd.C_below (by repeat (first | (with_reducible exact HR198_0.out) | (with_reducible refine Kd.C_alloc ?_ _) | (with_reducible refine Kd.C_drewN ?_ _) | (with_reducible refine Kd.C_drew ?_) | exact HR198_0.out)) hb)
                        have n7_ := Aside0.mk (below_step (by repeat (first | (with_reducible first | exact HB.out | apply below_alloc | apply pw_below_drewN | apply below_drew1 | refine below_set ?_ GE167.out | refine below_set ?_ GE168.out | refine below_set ?_ GE172.out) | exact HB.out)) hb)
                        clear HO_4
                        clear HO197
                        clear HL198_0
                        clear BK167
                        clear BK168
                        clear BK172
                        clear HR198_0
                        clear HB
                        have HO_4 := n0_
                        have HO197 := n1_
                        have HL198_0 := n2_
                        have BK167 := n3_
                        have BK168 := n4_
                        have BK172 := n5_
                        have HR198_0 := n6_
                        have HB := n7_
                        clear n0_ n1_ n2_ n3_ n4_ n5_ n6_ n7_
                        (try clear hb)
                        (try clear hb2)
                        (try clear hk)
                        (try clear hi)
                        refine hK.out _ _ ⟨(blk_cell BK167.out 0).trans rfl, (blk_cell BK167.out 1).trans rfl, (blk_cell BK167.out 2).trans rfl, (blk_cell BK167.out 3).trans rfl, (blk_cell BK167.out 4).trans rfl, HS5_⟩ (fun hHeld => ?_)
                        clear hK K
                        refine norm_ (a' := ?_) ?_ ?_
                        rotate_left
                        · show Act.put _ (some 87) _ = _
                          simp only [Act.put, List.setIfInBounds_toArray, List.set_cons_zero, List.set_cons_succ, i64_w, i32_w]
                          rfl
                        refine pure_ (i := 8) (N := some 90) (v := ?_) (a' := ?_) #[true, true, true, true, true, true, true, true, true, false] rfl rfl (any_of HT_.out (by kernel_rfl)) (fun _ _ _ h => h) (Or.inl ⟨by rfl, ?_⟩) ?_ ?_
                        rotate_left
                        · intro w'
                          go_simp
                          with_reducible rfl
                        rotate_left
                        · simp only [Act.put, List.setIfInBounds_toArray, List.set_cons_zero, List.set_cons_succ, i64_w, i32_w]
                          rfl
                        refine pure_ (i := 9) (N := some 91) (v := ?_) (a' := ?_) #[true, true, true, true, true, true, true, true, true, true] rfl rfl (any_of HT_.out (by kernel_rfl)) (fun _ _ _ h => h) (Or.inl ⟨by rfl, ?_⟩) ?_ ?_
                        rotate_left
                        · intro w'
                          go_simp
                          with_reducible rfl
                        rotate_left
                        · simp only [Act.put, List.setIfInBounds_toArray, List.set_cons_zero, List.set_cons_succ, i64_w, i32_w]
                          rfl
                        refine done_ (done_of HT_.out (by kernel_rfl)) ?_
                        try go_wp2
                        go_roundg k2
                        case measure => have := HK1.out; have := HK2.out; omega
                        case rel => exact ⟨(x4_2), (wrap64 (x6_1 + 1)), (x169000_1), (x169001_1), (x169003_1), (x169004_1), (y195), (x173004_1), (.slice Ao76 y195.length co76), (by first | rfl | (simp; done) | (simp [*]; done)), H', ⟨by have := HK1.out; have := HK2.out; omega⟩, ⟨by (with_reducible repeat (first | apply Kd.S_alloc | apply Kd.S_drewN | apply Kd.S_drew)); exact HO_4.out⟩, ⟨by (with_reducible repeat (first | apply Kd.S_alloc | apply Kd.S_drewN | apply Kd.S_drew)); exact HO197.out⟩, ⟨by (with_reducible repeat (first | refine blk_drewN ?_ _ | refine blk_drew ?_ | refine blk_alloc ?_ _)); exact BK167.out⟩, ⟨by (with_reducible repeat (first | refine blk_drewN ?_ _ | refine blk_drew ?_ | refine blk_alloc ?_ _)); exact BK168.out⟩, ⟨by (with_reducible repeat (first | refine blk_drewN ?_ _ | refine blk_drew ?_ | refine blk_alloc ?_ _)); exact BK172.out⟩, ⟨by repeat (first | (with_reducible first | exact HB.out | apply below_alloc | apply pw_below_drewN | apply below_drew1 | refine below_set ?_ GE167.out | refine below_set ?_ GE168.out | refine below_set ?_ GE172.out) | exact HB.out)⟩⟩
                      · rw [if_neg c68] at H
                        have c68b0 : ((Go.bits .and .u32 t199 a0_4) == 0) = false := beq_eq_false_iff_ne.mpr c68
                        have c68b1 : ((Go.bits .and .u32 t199 a0_4) != 0) = true := bne_iff_ne.mpr c68
                        obtain ⟨ji82, hji82⟩ : ∃ j_ : Int, (IntKind.u64.wrap (x6_1)) = j_ := ⟨_, rfl⟩
                        replace H : (if 0 ≤ (ji82) then (coppicerref_Sure.l0 k2 x4_2 (wrap64 (x6_1 + 1)) a0_0 a0_1 l0_2 a0_3 a0_4 0 a0_1 y195 0 ((x173004_1 + (shl .u32 1 (ji82))) % 4294967296)) else (none)) = some (r1, r2, r3, r4, r5, r6) := by first | (rw [hji82] at H; exact H) | (simp only [hji82] at H ⊢; exact H)
                        (try rw [hji82] at A67)
                        by_cases c83 : 0 ≤ (ji82)
                        · rw [if_pos c83] at H
                          have c83b0 := eq_true c83
                          have c83b1 : decide (0 ≤ (ji82)) = true := decide_eq_true c83
                          clear c83
                          obtain ⟨ji84, hji84⟩ : ∃ j_ : Int, (shl .u32 1 (ji82)) = j_ := ⟨_, rfl⟩
                          replace H : (coppicerref_Sure.l0 k2 x4_2 (wrap64 (x6_1 + 1)) a0_0 a0_1 l0_2 a0_3 a0_4 0 a0_1 y195 0 ((x173004_1 + (ji84)) % 4294967296)) = some (r1, r2, r3, r4, r5, r6) := by first | (rw [hji84] at H; exact H) | (simp only [hji84] at H ⊢; exact H)
                          (try rw [hji84] at A67)
                          have hji84_ : (IntKind.u32.wrap (1 * 2 ^ min (ji82).toNat 32)) = ji84 := hji84
                          have hji84z : (ji82) ≤ 32 → (IntKind.u32.wrap (1 * 2 ^ (ji82).toNat)) = ji84 := shl_small hji84
                          have hji84u : (IntKind.u32.wrap (2 ^ min (ji82).toNat 32)) = ji84 := by have h_ := hji84_; rw [Int.one_mul] at h_; exact h_
                          have hji84v : (ji82) ≤ 32 → (IntKind.u32.wrap (2 ^ (ji82).toNat)) = ji84 := fun hle_ => by have h_ := hji84z hle_; rw [Int.one_mul] at h_; exact h_
                          have H' := Aside0.mk H
                          clear H
                          have hnb85 := NB167_168.out
                          have hnc85 := NB168_167.out
                          have hnb86 := NB167_172.out
                          have hnc86 := NB172_167.out
                          have hcz87_0 : wr.cell? ⟨gb167, 0, none⟩ = some (.int .i64 a0_0) := (blk_cell BK167.out 0).trans rfl
                          have hcz87_1 : wr.cell? ⟨gb167, 1, none⟩ = some (.int .i64 a0_1) := (blk_cell BK167.out 1).trans rfl
                          have hcz87_2 : wr.cell? ⟨gb167, 2, none⟩ = some (.slice A0_2 l0_2.length c0_2) := (blk_cell BK167.out 2).trans rfl
                          have hcz87_3 : wr.cell? ⟨gb167, 3, none⟩ = some (.int .u32 a0_3) := (blk_cell BK167.out 3).trans rfl
                          have hcz87_4 : wr.cell? ⟨gb167, 4, none⟩ = some (.int .u32 a0_4) := (blk_cell BK167.out 4).trans rfl
                          have hfz87_0 := blk_frozen BK167.out 0
                          have hfz87_1 := blk_frozen BK167.out 1
                          have hfz87_2 := blk_frozen BK167.out 2
                          have hfz87_3 := blk_frozen BK167.out 3
                          have hfz87_4 := blk_frozen BK167.out 4
                          have hnb88 := NB172_168.out
                          have hnc88 := NB168_172.out
                          have hcz89_0 : wr.cell? ⟨gb172, 0, none⟩ = some (.int .i64 0) := (blk_cell BK172.out 0).trans rfl
                          have hcz89_1 : wr.cell? ⟨gb172, 1, none⟩ = some (.int .i64 a0_1) := (blk_cell BK172.out 1).trans rfl
                          have hcz89_2 : wr.cell? ⟨gb172, 2, none⟩ = some (u173002) := (blk_cell BK172.out 2).trans rfl
                          have hcz89_3 : wr.cell? ⟨gb172, 3, none⟩ = some (.int .i64 0) := (blk_cell BK172.out 3).trans rfl
                          have hcz89_4 : wr.cell? ⟨gb172, 4, none⟩ = some (.int .u32 x173004_1) := (blk_cell BK172.out 4).trans rfl
                          have hfz89_0 := blk_frozen BK172.out 0
                          have hfz89_1 := blk_frozen BK172.out 1
                          have hfz89_2 := blk_frozen BK172.out 2
                          have hfz89_3 := blk_frozen BK172.out 3
                          have hfz89_4 := blk_frozen BK172.out 4
                          obtain ⟨Ao91, co91, eo91⟩ := Kd.R_slice HO_7.out
                          subst eo91
                          try go_wp2_with (first | ((with_reducible refine gate_builtin (b := .append) (xs := #[.tmp 73, .tmp 75]) rfl ?_); at_builtin; refine Kd.S_append (Kd.slice 3 (Kd.int .i64)) (w0 := w) w.heap.size rfl (.tmp 73) (.tmp 75) 39 33 (.slice none 0 0) 24 rfl Try.underlying39 info33 rfl (by decide) (by omega) u173002 x173002_1 x7_2 [.slice Ao91 x7_2.length co91] (fun k_ => some k_ ≠ (u4 : Value).ownBlock) (fun k_ => some k_ = (.slice Ao91 x7_2.length co91 : Value).ownBlock) rfl rfl ?aP (fun k_ hk_ => ((Kd.R_mono (ok' := fun k_ => ((fun k_ => some k_ ≠ (u4 : Value).ownBlock)) k_ ∧ some k_ ≠ (u173002 : Value).ownBlock) (Kd.R_apart' (Kd.R_apart' (HO_7.out) (Kd.S_typed HO_4.out) (by decide)) (Kd.S_typed HO_173002.out) (by decide)) (fun k_ hk => ⟨hk.1.2, hk.2⟩))).1 k_ hk_.symm) ?aF ?aO ?aB ?aS ?aL ?_; (case aP => exact Kd.M_row (Kd.R_mono (Kd.R_tight rfl (Kd.R_mono (ok' := fun k_ => ((fun k_ => some k_ ≠ (u4 : Value).ownBlock)) k_ ∧ some k_ ≠ (u173002 : Value).ownBlock) (Kd.R_apart' (Kd.R_apart' (HO_7.out) (Kd.S_typed HO_4.out) (by decide)) (Kd.S_typed HO_173002.out) (by decide)) (fun k_ hk => ⟨hk.1.2, hk.2⟩))) (fun _ h_ => h_))); (case aB => exact (by repeat (first | (with_reducible first | exact HB.out | apply below_alloc | apply pw_below_drewN | apply below_drew1 | refine below_set ?_ GE167.out | refine below_set ?_ GE168.out | refine below_set ?_ GE172.out) | exact HB.out))); (case aF => exact (fun k_ hk => Kd.fresh' (Kd.S_lt (by (with_reducible repeat (first | apply Kd.S_alloc | apply Kd.S_drewN | apply Kd.S_drew)); exact HO_4.out)) k_ hk)); (case aO => exact (by (with_reducible repeat (first | apply Kd.S_alloc | apply Kd.S_drewN | apply Kd.S_drew)); exact Kd.S_mono HO_173002.out (fun k_ hk => ⟨hk.1, fun e_ => hk.2 e_⟩))); (case aS => exact (below_size (by repeat (first | (with_reducible first | exact HB.out | apply below_alloc | apply pw_below_drewN | apply below_drew1 | refine below_set ?_ GE167.out | refine below_set ?_ GE168.out | refine below_set ?_ GE172.out) | exact HB.out)))); (case aL => have := LMc52.out; omega); intro v196 w90 ho hb hg hat; rw [← Ny195.out] at ho; have n0_ := Aside0.mk (Kd.S_after (ok := (fun k_ => some k_ ≠ (.slice Ao91 x7_2.length co91 : Value).ownBlock)) (by (with_reducible repeat (first | apply Kd.S_alloc | apply Kd.S_drewN | apply Kd.S_drew)); exact HO_4.out) hg hat); have n1_ := Aside0.mk (blk_grown (g := gb167) (o := .cells #[.int .i64 a0_0, .int .i64 a0_1, .slice A0_2 l0_2.length c0_2, .int .u32 a0_3, .int .u32 a0_4] 25 (0, 0)) (by (with_reducible repeat (first | refine blk_drewN ?_ _ | refine blk_drew ?_ | refine blk_alloc ?_ _)); exact BK167.out) hg (Kd.S_ne HO_173002.out BK167.out (by decide))); have n2_ := Aside0.mk (blk_grown (g := gb168) (o := .cells #[.int .i64 x169000_1, .int .i64 x169001_1, .slice none 0 0, .int .i64 x169003_1, .int .u32 x169004_1] 41 (0, 0)) (by (with_reducible repeat (first | refine blk_drewN ?_ _ | refine blk_drew ?_ | refine blk_alloc ?_ _)); exact BK168.out) hg (Kd.S_ne HO_173002.out BK168.out (by decide))); have n3_ := Aside0.mk (blk_grown (g := gb172) (o := .cells #[.int .i64 0, .int .i64 a0_1, u173002, .int .i64 0, .int .u32 x173004_1] 41 (0, 0)) (by (with_reducible repeat (first | refine blk_drewN ?_ _ | refine blk_drew ?_ | refine blk_alloc ?_ _)); exact BK172.out) hg (Kd.S_ne HO_173002.out BK172.out (by decide))); have n4_ := Aside0.mk (hb); have n5_ := Aside0.mk (ho); clear HO_4; clear BK167; clear BK168; clear BK172; clear HB; clear HO_173002; clear HO_7; have HO_4 := n0_; have BK167 := n1_; have BK168 := n2_; have BK172 := n3_; have HB := n4_; have HO197 := n5_; clear n0_ n1_ n2_ n3_ n4_ n5_; clear ho hb hg hat; obtain ⟨Ao92, co92, eo92⟩ := Kd.S_slice HO197.out; subst eo92; have hcz93_0 : w90.cell? ⟨gb172, 0, none⟩ = some (.int .i64 0) := (blk_cell BK172.out 0).trans rfl; have hcz93_1 : w90.cell? ⟨gb172, 1, none⟩ = some (.int .i64 a0_1) := (blk_cell BK172.out 1).trans rfl; have hcz93_2 : w90.cell? ⟨gb172, 2, none⟩ = some (u173002) := (blk_cell BK172.out 2).trans rfl; have hcz93_3 : w90.cell? ⟨gb172, 3, none⟩ = some (.int .i64 0) := (blk_cell BK172.out 3).trans rfl; have hcz93_4 : w90.cell? ⟨gb172, 4, none⟩ = some (.int .u32 x173004_1) := (blk_cell BK172.out 4).trans rfl; have hfz93_0 := blk_frozen BK172.out 0; have hfz93_1 := blk_frozen BK172.out 1; have hfz93_2 := blk_frozen BK172.out 2; have hfz93_3 := blk_frozen BK172.out 3; have hfz93_4 := blk_frozen BK172.out 4; obtain ⟨Ao94, co94, eo94⟩ := Kd.S_slice HO_4.out; subst eo94))
                          have n0_ : Aside0 (Kd.S (Kd.slice 3 (Kd.int .i64)) 33 (w90.setCell ⟨gb172, 2, none⟩ (.slice Ao92 y195.length co92)) w.heap.size (fun k_ => some k_ ≠ (.slice Ao92 y195.length co92 : Value).ownBlock) (.slice Ao94 x4_2.length co94) x4_2) := ⟨by (with_reducible repeat (first | apply Kd.S_alloc | apply Kd.S_drewN | apply Kd.S_drew)); exact Kd.S_mono (Kd.S_far (p := ⟨gb172, 2, none⟩) (Kd.S_types HO_4.out BK172.out (by decide)) (fun _ hk => hk.2) (.slice Ao92 y195.length co92)) (fun _ hk => hk.1.2)⟩
                          have n1_ : Aside0 (Kd.S (Kd.slice 3 (Kd.int .i64)) 33 (w90.setCell ⟨gb172, 2, none⟩ (.slice Ao92 y195.length co92)) w.heap.size (fun k_ => some k_ ≠ (.slice Ao94 x4_2.length co94 : Value).ownBlock) (.slice Ao92 y195.length co92) y195) := ⟨by (with_reducible repeat (first | apply Kd.S_alloc | apply Kd.S_drewN | apply Kd.S_drew)); exact Kd.S_mono (Kd.S_far (p := ⟨gb172, 2, none⟩) (Kd.S_types HO197.out BK172.out (by decide)) (fun _ hk => hk.2) (.slice Ao92 y195.length co92)) (fun _ hk => hk.1)⟩
                          have n2_ : Aside0 ((w90.setCell ⟨gb172, 2, none⟩ (.slice Ao92 y195.length co92)).heap[gb167]? = some (.cells #[.int .i64 a0_0, .int .i64 a0_1, .slice A0_2 l0_2.length c0_2, .int .u32 a0_3, .int .u32 a0_4] 25 (0, 0))) := ⟨by (with_reducible repeat (first | refine blk_drewN ?_ _ | refine blk_drew ?_ | refine blk_alloc ?_ _)); refine blk_far ?_ NB167_172.out _; (with_reducible repeat (first | refine blk_drewN ?_ _ | refine blk_drew ?_ | refine blk_alloc ?_ _)); exact BK167.out⟩
                          have n3_ : Aside0 ((w90.setCell ⟨gb172, 2, none⟩ (.slice Ao92 y195.length co92)).heap[gb168]? = some (.cells #[.int .i64 x169000_1, .int .i64 x169001_1, .slice none 0 0, .int .i64 x169003_1, .int .u32 x169004_1] 41 (0, 0))) := ⟨by (with_reducible repeat (first | refine blk_drewN ?_ _ | refine blk_drew ?_ | refine blk_alloc ?_ _)); refine blk_far ?_ NB168_172.out _; (with_reducible repeat (first | refine blk_drewN ?_ _ | refine blk_drew ?_ | refine blk_alloc ?_ _)); exact BK168.out⟩
                          have n4_ : Aside0 ((w90.setCell ⟨gb172, 2, none⟩ (.slice Ao92 y195.length co92)).heap[gb172]? = some (.cells #[.int .i64 0, .int .i64 a0_1, .slice Ao92 y195.length co92, .int .i64 0, .int .u32 x173004_1] 41 (0, 0))) := ⟨by (with_reducible repeat (first | refine blk_drewN ?_ _ | refine blk_drew ?_ | refine blk_alloc ?_ _)); refine blk_put (cs := #[.int .i64 0, .int .i64 a0_1, u173002, .int .i64 0, .int .u32 x173004_1]) ?_ 2 _ rfl; (with_reducible repeat (first | refine blk_drewN ?_ _ | refine blk_drew ?_ | refine blk_alloc ?_ _)); exact BK172.out⟩
                          have n5_ : Aside0 (Below w.heap.size w (w90.setCell ⟨gb172, 2, none⟩ (.slice Ao92 y195.length co92))) := ⟨by repeat (first | (with_reducible first | exact HB.out | apply below_alloc | apply pw_below_drewN | apply below_drew1 | refine below_set ?_ GE167.out | refine below_set ?_ GE168.out | refine below_set ?_ GE172.out) | exact HB.out)⟩
                          (try clear HO_4)
                          (try clear HO197)
                          (try clear BK167)
                          (try clear BK168)
                          (try clear BK172)
                          (try clear HB)
                          generalize (w90.setCell ⟨gb172, 2, none⟩ (.slice Ao92 y195.length co92)) = w95 at n0_ n1_ n2_ n3_ n4_ n5_ ⊢
                          have HO_4 := n0_
                          have HO197 := n1_
                          have BK167 := n2_
                          have BK168 := n3_
                          have BK172 := n4_
                          have HB := n5_
                          clear n0_ n1_ n2_ n3_ n4_ n5_
                          have n0_ := Aside0.mk (Kd.S_drew HO_4.out)
                          have n1_ := Aside0.mk (Kd.S_drew HO197.out)
                          have n2_ := Aside0.mk (blk_drew BK167.out)
                          have n3_ := Aside0.mk (blk_drew BK168.out)
                          have n4_ := Aside0.mk (blk_drew BK172.out)
                          have n5_ := Aside0.mk (below_drew1 HB.out)
                          clear HO_4
                          clear HO197
                          clear BK167
                          clear BK168
                          clear BK172
                          clear HB
                          have HO_4 := n0_
                          have HO197 := n1_
                          have BK167 := n2_
                          have BK168 := n3_
                          have BK172 := n4_
                          have HB := n5_
                          clear n0_ n1_ n2_ n3_ n4_ n5_
                          have p198 : 0 ≤ (x6_1 : Int) := of_decide_eq_true (by first | (with_reducible assumption) | assumption)
                          have q198 : x6_1 < (x4_2.length : Int) := of_decide_eq_true (by first | (with_reducible assumption) | assumption)
                          obtain ⟨ad198, A198_0, c198_0, e198, hx198_0, hl198_0, hi198_0⟩ := at_L3 (Kd.S_reads' HO_4.out).2.2 x6_1 p198 q198
                          cases e198
                          obtain ⟨ce198, hce198, hMe198, hcc198⟩ := Kd.S_get HO_4.out [] x6_1 p198 (by first | exact q198 | exact of_decide_eq_true (by first | (with_reducible assumption) | assumption) | (have e_ := (Kd.S_reads' HO_4.out).1; omega))
                          obtain ⟨ve198_0, rfl, ge198_0⟩ := hMe198
                          have hv198_0 := hcc198 0 _ rfl
                          rw [Nat.add_zero, show ((Kd.slice 3 (Kd.int .i64))).sz = 1 from rfl, Nat.mul_one] at hv198_0
                          replace hv198_0 := Option.some.inj (hv198_0.symm.trans hx198_0)
                          rw [hv198_0] at ge198_0
                          have HL198_0 := Aside0.mk (show Kd.R (Kd.int .i64) 3 _ _ _ _ (rd_L3 x4_2 x6_1) from ge198_0)
                          clear hv198_0 ge198_0
                          clear hcc198 hce198
                          have HR198_0 := Aside0.mk hi198_0
                          have HC198_0 := Aside0.mk hl198_0
                          clear hi198_0 hl198_0
                          replace p198 := eq_true p198
                          replace q198 := eq_true q198
                          refine start_ (n := 10) (S := fun w' => w'.cell? ⟨gb167, 0, none⟩ = some (.int .i64 a0_0) ∧ w'.cell? ⟨gb167, 1, none⟩ = some (.int .i64 a0_1) ∧ w'.cell? ⟨gb167, 2, none⟩ = some (.slice A0_2 l0_2.length c0_2) ∧ w'.cell? ⟨gb167, 3, none⟩ = some (.int .u32 a0_3) ∧ w'.cell? ⟨gb167, 4, none⟩ = some (.int .u32 a0_4) ∧ w'.cell? (ad198.add (x6_1).toNat) = some (.slice A198_0 (rd_L3 x4_2 x6_1).length c198_0)) (ds := []) #[false, false, false, false, false, false, false, false, false, false] (by kernel_rfl) rfl rfl ⟨(blk_cell BK167.out 0).trans rfl, (blk_cell BK167.out 1).trans rfl, (blk_cell BK167.out 2).trans rfl, (blk_cell BK167.out 3).trans rfl, (blk_cell BK167.out 4).trans rfl, hx198_0⟩ (fun hHeld => ?_); refine with_tabW coppicerref_Sure.tab26 coppicerref_Sure.bits26 (fun HT_ HW_ => ?_)
                          generalize w95.drew = w96 at HO_4 HO197 BK167 BK168 BK172 HB HL198_0 HR198_0 hx198_0 hHeld ⊢
                          refine pure_ (i := 1) (N := some 83) (v := ?_) (a' := ?_) #[false, true, false, false, false, false, false, false, false, false] rfl rfl (any_of HT_.out (by kernel_rfl)) (fun _ _ _ h => h) (Or.inl ⟨by rfl, ?_⟩) ?_ ?_
                          rotate_left
                          · intro w'
                            go_simp
                            with_reducible rfl
                          rotate_left
                          · simp only [Act.put, List.setIfInBounds_toArray, List.set_cons_zero, List.set_cons_succ, i64_w, i32_w]
                            rfl
                          refine pure_ (i := 2) (N := some 84) (v := ?_) (a' := ?_) #[false, true, true, false, false, false, false, false, false, false] rfl rfl (any_of HT_.out (by kernel_rfl)) (fun _ _ _ h => h) (Or.inl ⟨by rfl, ?_⟩) ?_ ?_
                          rotate_left
                          · intro w'
                            go_simp
                            with_reducible rfl
                          rotate_left
                          · simp only [Act.put, List.setIfInBounds_toArray, List.set_cons_zero, List.set_cons_succ, i64_w, i32_w]
                            rfl
                          refine pure_ (i := 3) (N := some 85) (v := ?_) (a' := ?_) #[false, true, true, true, false, false, false, false, false, false] rfl rfl (any_of HT_.out (by kernel_rfl)) (fun _ _ _ h => h) (Or.inl ⟨by rfl, ?_⟩) ?_ ?_
                          rotate_left
                          · intro w'
                            go_simp
                            with_reducible rfl
                          rotate_left
                          · simp only [Act.put, List.setIfInBounds_toArray, List.set_cons_zero, List.set_cons_succ, i64_w, i32_w]
                            rfl
                          refine pure_ (i := 6) (N := some 88) (v := ?_) (a' := ?_) #[false, true, true, true, false, false, true, false, false, false] rfl rfl (any_of HT_.out (by kernel_rfl)) (fun _ _ _ h => h) (Or.inl ⟨by rfl, ?_⟩) ?_ ?_
                          rotate_left
                          · intro w'
                            go_simp
                            with_reducible rfl
                          rotate_left
                          · simp only [Act.put, List.setIfInBounds_toArray, List.set_cons_zero, List.set_cons_succ, i64_w, i32_w]
                            rfl
                          refine take_ (i := 0) (N := some 82) (v := ?_) (a' := ?_) #[true, true, true, true, false, false, true, false, false, false] rfl rfl (take_ofW HT_.out HW_.out (by kernel_rfl)) (fun _ _ _ h => h) (Or.inl ⟨by rfl, ?_⟩) hHeld ?_ ?_
                          rotate_left
                          · rintro w' ⟨s0, s1, s2, s3, s4, s5⟩
                            go_simp
                            with_reducible rfl
                          rotate_left
                          · simp only [Act.put, List.setIfInBounds_toArray, List.set_cons_zero, List.set_cons_succ, i64_w, i32_w]
                            rfl
                          refine take_ (i := 4) (N := some 86) (v := ?_) (a' := ?_) #[true, true, true, true, true, false, true, false, false, false] rfl rfl (take_ofW HT_.out HW_.out (by kernel_rfl)) (fun _ _ _ h => h) (Or.inl ⟨by rfl, ?_⟩) hHeld ?_ ?_
                          rotate_left
                          · rintro w' ⟨s0, s1, s2, s3, s4, s5⟩
                            go_simp
                            with_reducible rfl
                          rotate_left
                          · simp only [Act.put, List.setIfInBounds_toArray, List.set_cons_zero, List.set_cons_succ, i64_w, i32_w]
                            rfl
                          refine take_ (i := 7) (N := some 89) (v := ?_) (a' := ?_) #[true, true, true, true, true, false, true, true, false, false] rfl rfl (take_ofW HT_.out HW_.out (by kernel_rfl)) (fun _ _ _ h => h) (Or.inl ⟨by rfl, ?_⟩) hHeld ?_ ?_
                          rotate_left
                          · rintro w' ⟨s0, s1, s2, s3, s4, s5⟩
                            go_simp
                            with_reducible rfl
                          rotate_left
                          · simp only [Act.put, List.setIfInBounds_toArray, List.set_cons_zero, List.set_cons_succ, i64_w, i32_w]
                            rfl
                          refine one_ (i := 5) (N := some 87) #[true, true, true, true, true, true, true, true, false, false] rfl rfl (one_of HT_.out (by kernel_rfl)) (by decide) (fun K hK => ?_)
                          refine goes_ Try.func19 (by kernel_rfl) rfl #[.agg #[.int .i64 a0_0, .int .i64 a0_1, .slice A0_2 l0_2.length c0_2, .int .u32 a0_3, .int .u32 a0_4], .slice A198_0 (rd_L3 x4_2 x6_1).length c198_0] (by rfl) rfl rfl (by (try simp only [List.map_toArray, List.map_cons, List.map_nil]); first | done | rfl | (simp only [List.length_drop, List.length_take]; rfl)) ?_
                          with_reducible refine (coppicerref_NetLeads.calls k2 a0_0 a0_1 _ _ l0_2 a0_3 a0_4 _ _ (rd_L3 x4_2 x6_1) t199 _ ?side1 ?side2 ?side3 ?side4 A67.out).mono ?_
                          (case side1 => repeat (first | exact (Kd.C_below HR0_2.out HB.out) | (with_reducible refine Kd.C_alloc ?_ _) | (with_reducible refine Kd.C_drewN ?_ _) | (with_reducible refine Kd.C_drew ?_)))
                          (case side2 => exact HC0_2.out)
                          (case side3 => repeat (first | exact (by repeat (first | (with_reducible exact HR198_0.out) | (with_reducible refine Kd.C_alloc ?_ _) | (with_reducible refine Kd.C_drewN ?_ _) | (with_reducible refine Kd.C_drew ?_) | exact HR198_0.out)) | (with_reducible refine Kd.C_alloc ?_ _) | (with_reducible refine Kd.C_drewN ?_ _) | (with_reducible refine Kd.C_drew ?_)))
                          (case side4 => exact HC198_0.out)
                          rintro e w97 ⟨rfl, hb⟩
                          have HS5_ := (hb.cell (World.block_lt_of_cell? _ _ (hHeld.2.2.2.2.2))).trans (hHeld.2.2.2.2.2)
                          refine ⟨_, rfl, ?_⟩
                          have n0_ := Aside0.mk (Kd.S_below (by (with_reducible repeat (first | apply Kd.S_alloc | apply Kd.S_drewN | apply Kd.S_drew)); exact HO_4.out) hb)
                          have n1_ := Aside0.mk (Kd.S_below (by (with_reducible repeat (first | apply Kd.S_alloc | apply Kd.S_drewN | apply Kd.S_drew)); exact HO197.out) hb)
                          have n2_ := Aside0.mk (Kd.R_below (by (with_reducible repeat (first | apply Kd.R_alloc | apply Kd.R_drewN | apply Kd.R_drew)); exact HL198_0.out) hb)
                          have n3_ := Aside0.mk (blk_below (g := gb167) (o := .cells #[.int .i64 a0_0, .int .i64 a0_1, .slice A0_2 l0_2.length c0_2, .int .u32 a0_3, .int .u32 a0_4] 25 (0, 0)) (by (with_reducible repeat (first | refine blk_drewN ?_ _ | refine blk_drew ?_ | refine blk_alloc ?_ _)); exact BK167.out) hb)
                          have n4_ := Aside0.mk (blk_below (g := gb168) (o := .cells #[.int .i64 x169000_1, .int .i64 x169001_1, .slice none 0 0, .int .i64 x169003_1, .int .u32 x169004_1] 41 (0, 0)) (by (with_reducible repeat (first | refine blk_drewN ?_ _ | refine blk_drew ?_ | refine blk_alloc ?_ _)); exact BK168.out) hb)
                          have n5_ := Aside0.mk (blk_below (g := gb172) (o := .cells #[.int .i64 0, .int .i64 a0_1, .slice Ao92 y195.length co92, .int .i64 0, .int .u32 x173004_1] 41 (0, 0)) (by (with_reducible repeat (first | refine blk_drewN ?_ _ | refine blk_drew ?_ | refine blk_alloc ?_ _)); exact BK172.out) hb)
                          have n6_ := Aside0.mk (Kd.C_below (by repeat (first | (with_reducible exact HR198_0.out) | (with_reducible refine Kd.C_alloc ?_ _) | (with_reducible refine Kd.C_drewN ?_ _) | (with_reducible refine Kd.C_drew ?_) | exact HR198_0.out)) hb)
                          have n7_ := Aside0.mk (below_step (by repeat (first | (with_reducible first | exact HB.out | apply below_alloc | apply pw_below_drewN | apply below_drew1 | refine below_set ?_ GE167.out | refine below_set ?_ GE168.out | refine below_set ?_ GE172.out) | exact HB.out)) hb)
                          clear HO_4
                          clear HO197
                          clear HL198_0
                          clear BK167
                          clear BK168
                          clear BK172
                          clear HR198_0
                          clear HB
                          have HO_4 := n0_
                          have HO197 := n1_
                          have HL198_0 := n2_
                          have BK167 := n3_
                          have BK168 := n4_
                          have BK172 := n5_
                          have HR198_0 := n6_
                          have HB := n7_
                          clear n0_ n1_ n2_ n3_ n4_ n5_ n6_ n7_
                          (try clear hb)
                          (try clear hb2)
                          (try clear hk)
                          (try clear hi)
                          refine hK.out _ _ ⟨(blk_cell BK167.out 0).trans rfl, (blk_cell BK167.out 1).trans rfl, (blk_cell BK167.out 2).trans rfl, (blk_cell BK167.out 3).trans rfl, (blk_cell BK167.out 4).trans rfl, HS5_⟩ (fun hHeld => ?_)
                          clear hK K
                          refine norm_ (a' := ?_) ?_ ?_
                          rotate_left
                          · show Act.put _ (some 87) _ = _
                            simp only [Act.put, List.setIfInBounds_toArray, List.set_cons_zero, List.set_cons_succ, i64_w, i32_w]
                            rfl
                          refine pure_ (i := 8) (N := some 90) (v := ?_) (a' := ?_) #[true, true, true, true, true, true, true, true, true, false] rfl rfl (any_of HT_.out (by kernel_rfl)) (fun _ _ _ h => h) (Or.inl ⟨by rfl, ?_⟩) ?_ ?_
                          rotate_left
                          · intro w'
                            go_simp
                            with_reducible rfl
                          rotate_left
                          · simp only [Act.put, List.setIfInBounds_toArray, List.set_cons_zero, List.set_cons_succ, i64_w, i32_w]
                            rfl
                          refine pure_ (i := 9) (N := some 91) (v := ?_) (a' := ?_) #[true, true, true, true, true, true, true, true, true, true] rfl rfl (any_of HT_.out (by kernel_rfl)) (fun _ _ _ h => h) (Or.inl ⟨by rfl, ?_⟩) ?_ ?_
                          rotate_left
                          · intro w'
                            go_simp
                            with_reducible rfl
                          rotate_left
                          · simp only [Act.put, List.setIfInBounds_toArray, List.set_cons_zero, List.set_cons_succ, i64_w, i32_w]
                            rfl
                          refine done_ (done_of HT_.out (by kernel_rfl)) ?_
                          have hcz98_0 : w97.cell? ⟨gb172, 0, none⟩ = some (.int .i64 0) := (blk_cell BK172.out 0).trans rfl
                          have hcz98_1 : w97.cell? ⟨gb172, 1, none⟩ = some (.int .i64 a0_1) := (blk_cell BK172.out 1).trans rfl
                          have hcz98_2 : w97.cell? ⟨gb172, 2, none⟩ = some (.slice Ao92 y195.length co92) := (blk_cell BK172.out 2).trans rfl
                          have hcz98_3 : w97.cell? ⟨gb172, 3, none⟩ = some (.int .i64 0) := (blk_cell BK172.out 3).trans rfl
                          have hcz98_4 : w97.cell? ⟨gb172, 4, none⟩ = some (.int .u32 x173004_1) := (blk_cell BK172.out 4).trans rfl
                          have hfz98_0 := blk_frozen BK172.out 0
                          have hfz98_1 := blk_frozen BK172.out 1
                          have hfz98_2 := blk_frozen BK172.out 2
                          have hfz98_3 := blk_frozen BK172.out 3
                          have hfz98_4 := blk_frozen BK172.out 4
                          try go_wp2
                          (first | go_roundg k2 | (simp only [← hji84]; go_roundg k2) | (simp only [← hji82, ← hji84]; go_roundg k2))
                          case measure => have := HK1.out; have := HK2.out; omega
                          case rel => exact ⟨(x4_2), (wrap64 (x6_1 + 1)), (x169000_1), (x169001_1), (x169003_1), (x169004_1), (y195), ((x173004_1 + (ji84)) % 4294967296), (.slice Ao92 y195.length co92), (by first | rfl | (simp; done) | (simp [*]; done)), H', ⟨by have := HK1.out; have := HK2.out; omega⟩, ⟨by (with_reducible repeat (first | apply Kd.S_alloc | apply Kd.S_drewN | apply Kd.S_drew)); exact Kd.S_mono (Kd.S_far (p := ⟨gb172, 4, none⟩) (Kd.S_types HO_4.out BK172.out (by decide)) (fun _ hk => hk.2) (.int .u32 ((x173004_1 + (ji84)) % 4294967296))) (fun _ hk => hk.1)⟩, ⟨by (with_reducible repeat (first | apply Kd.S_alloc | apply Kd.S_drewN | apply Kd.S_drew)); exact Kd.S_mono (Kd.S_far (p := ⟨gb172, 4, none⟩) (Kd.S_types HO197.out BK172.out (by decide)) (fun _ hk => hk.2) (.int .u32 ((x173004_1 + (ji84)) % 4294967296))) (fun _ hk => hk.1)⟩, ⟨by (with_reducible repeat (first | refine blk_drewN ?_ _ | refine blk_drew ?_ | refine blk_alloc ?_ _)); refine blk_far ?_ NB167_172.out _; (with_reducible repeat (first | refine blk_drewN ?_ _ | refine blk_drew ?_ | refine blk_alloc ?_ _)); exact BK167.out⟩, ⟨by (with_reducible repeat (first | refine blk_drewN ?_ _ | refine blk_drew ?_ | refine blk_alloc ?_ _)); refine blk_far ?_ NB168_172.out _; (with_reducible repeat (first | refine blk_drewN ?_ _ | refine blk_drew ?_ | refine blk_alloc ?_ _)); exact BK168.out⟩, ⟨by (with_reducible repeat (first | refine blk_drewN ?_ _ | refine blk_drew ?_ | refine blk_alloc ?_ _)); refine blk_put (cs := #[.int .i64 0, .int .i64 a0_1, .slice Ao92 y195.length co92, .int .i64 0, .int .u32 x173004_1]) ?_ 4 _ rfl; (with_reducible repeat (first | refine blk_drewN ?_ _ | refine blk_drew ?_ | refine blk_alloc ?_ _)); exact BK172.out⟩, ⟨by repeat (first | (with_reducible first | exact HB.out | apply below_alloc | apply pw_below_drewN | apply below_drew1 | refine below_set ?_ GE167.out | refine below_set ?_ GE168.out | refine below_set ?_ GE172.out) | exact HB.out)⟩⟩
                        · rw [if_neg c83] at H
                          exact absurd H (by simp)
                    · rw [if_neg c66] at H
                      exact absurd H (by simp)
                  · rw [if_neg c65] at H
                    exact absurd H (by simp)
              · rw [if_neg c52] at H
                exact absurd H (by simp)
      · rw [if_neg c12] at H
        have c12b0 : decide (x6_1 < (x4_1.length : Int)) = false := decide_eq_false c12
        clear c12
        simp only [Option.some.injEq, Prod.mk.injEq] at H
        obtain ⟨rfl, rfl, rfl, rfl, rfl, rfl⟩ := H
        obtain ⟨Ao99, co99, eo99⟩ := Kd.S_slice HO_4.out
        subst eo99
        have hnb100 := NB172_167.out
        have hnc100 := NB167_172.out
        have hnb101 := NB172_168.out
        have hnc101 := NB168_172.out
        have hcz102_0 : wr.cell? ⟨gb172, 0, none⟩ = some (.int .i64 0) := (blk_cell BK172.out 0).trans rfl
        have hcz102_1 : wr.cell? ⟨gb172, 1, none⟩ = some (.int .i64 a0_1) := (blk_cell BK172.out 1).trans rfl
        have hcz102_2 : wr.cell? ⟨gb172, 2, none⟩ = some (u173002) := (blk_cell BK172.out 2).trans rfl
        have hcz102_3 : wr.cell? ⟨gb172, 3, none⟩ = some (.int .i64 0) := (blk_cell BK172.out 3).trans rfl
        have hcz102_4 : wr.cell? ⟨gb172, 4, none⟩ = some (.int .u32 x173004_1) := (blk_cell BK172.out 4).trans rfl
        have hfz102_0 := blk_frozen BK172.out 0
        have hfz102_1 := blk_frozen BK172.out 1
        have hfz102_2 := blk_frozen BK172.out 2
        have hfz102_3 := blk_frozen BK172.out 3
        have hfz102_4 := blk_frozen BK172.out 4
        have hnb103 := NB168_167.out
        have hnc103 := NB167_168.out
        have hcz104_0 : wr.cell? ⟨gb168, 0, none⟩ = some (.int .i64 x169000_1) := (blk_cell BK168.out 0).trans rfl
        have hcz104_1 : wr.cell? ⟨gb168, 1, none⟩ = some (.int .i64 x169001_1) := (blk_cell BK168.out 1).trans rfl
        have hcz104_2 : wr.cell? ⟨gb168, 2, none⟩ = some (.slice none 0 0) := (blk_cell BK168.out 2).trans rfl
        have hcz104_3 : wr.cell? ⟨gb168, 3, none⟩ = some (.int .i64 x169003_1) := (blk_cell BK168.out 3).trans rfl
        have hcz104_4 : wr.cell? ⟨gb168, 4, none⟩ = some (.int .u32 x169004_1) := (blk_cell BK168.out 4).trans rfl
        have hfz104_0 := blk_frozen BK168.out 0
        have hfz104_1 := blk_frozen BK168.out 1
        have hfz104_2 := blk_frozen BK168.out 2
        have hfz104_3 := blk_frozen BK168.out 3
        have hfz104_4 := blk_frozen BK168.out 4
        obtain ⟨Ao105, co105, eo105⟩ := Kd.S_slice HO_173002.out
        subst eo105
        go_wp2
        refine bodyPost_ret (results_ct rfl _ _ gb168 41 #[.int .i64 (x4_1.length : Int), .int .i64 a0_1, .slice Ao105 x173002_1.length co105, .int .i64 0, .int .u32 x173004_1] (0, 0) _ rfl (by (with_reducible repeat (first | refine blk_drewN ?_ _ | refine blk_drew ?_ | refine blk_alloc ?_ _)); refine blk_put (cs := #[.int .i64 (x4_1.length : Int), .int .i64 a0_1, .slice Ao105 x173002_1.length co105, .int .i64 0, .int .u32 x169004_1]) ?_ 4 _ rfl; (with_reducible repeat (first | refine blk_drewN ?_ _ | refine blk_drew ?_ | refine blk_alloc ?_ _)); refine blk_put (cs := #[.int .i64 (x4_1.length : Int), .int .i64 a0_1, .slice Ao105 x173002_1.length co105, .int .i64 x169003_1, .int .u32 x169004_1]) ?_ 3 _ rfl; (with_reducible repeat (first | refine blk_drewN ?_ _ | refine blk_drew ?_ | refine blk_alloc ?_ _)); refine blk_put (cs := #[.int .i64 (x4_1.length : Int), .int .i64 a0_1, .slice none 0 0, .int .i64 x169003_1, .int .u32 x169004_1]) ?_ 2 _ rfl; (with_reducible repeat (first | refine blk_drewN ?_ _ | refine blk_drew ?_ | refine blk_alloc ?_ _)); refine blk_put (cs := #[.int .i64 (x4_1.length : Int), .int .i64 x169001_1, .slice none 0 0, .int .i64 x169003_1, .int .u32 x169004_1]) ?_ 1 _ rfl; (with_reducible repeat (first | refine blk_drewN ?_ _ | refine blk_drew ?_ | refine blk_alloc ?_ _)); refine blk_put (cs := #[.int .i64 x169000_1, .int .i64 x169001_1, .slice none 0 0, .int .i64 x169003_1, .int .u32 x169004_1]) ?_ 0 _ rfl; (with_reducible repeat (first | refine blk_drewN ?_ _ | refine blk_drew ?_ | refine blk_alloc ?_ _)); refine blk_far ?_ NB168_172.out _; (with_reducible repeat (first | refine blk_drewN ?_ _ | refine blk_drew ?_ | refine blk_alloc ?_ _)); exact BK168.out) Try.underlying41 rfl (by kernel_rfl)) rfl ?_
        exact ⟨_, by first | rfl | (simp [errW_none, errW_some] <;> rfl) | (simp [*, errW_none, errW_some] <;> rfl), by (with_reducible repeat (first | apply Kd.S_alloc | apply Kd.S_drewN | apply Kd.S_drew)); exact Kd.S_mono (Kd.S_far (p := ⟨gb168, 4, none⟩) (Kd.S_far (p := ⟨gb168, 3, none⟩) (Kd.S_far (p := ⟨gb168, 2, none⟩) (Kd.S_far (p := ⟨gb168, 1, none⟩) (Kd.S_far (p := ⟨gb168, 0, none⟩) (Kd.S_far (p := ⟨gb172, 0, none⟩) (Kd.S_types (Kd.S_types HO_173002.out BK172.out (by decide)) BK168.out (by decide)) (fun _ hk => hk.1.2) (.int .i64 (x4_1.length : Int))) (fun _ hk => hk.2) (.int .i64 (x4_1.length : Int))) (fun _ hk => hk.2) (.int .i64 a0_1)) (fun _ hk => hk.2) (.slice Ao105 x173002_1.length co105)) (fun _ hk => hk.2) (.int .i64 0)) (fun _ hk => hk.2) (.int .u32 x173004_1)) (fun _ hk => trivial), by repeat (first | (with_reducible first | exact HB.out | apply below_alloc | apply pw_below_drewN | apply below_drew1 | refine below_set ?_ GE167.out | refine below_set ?_ GE168.out | refine below_set ?_ GE172.out) | exact HB.out)⟩

end Go.Proofs.Ytidjihmlkaeemaa.PNetSures
