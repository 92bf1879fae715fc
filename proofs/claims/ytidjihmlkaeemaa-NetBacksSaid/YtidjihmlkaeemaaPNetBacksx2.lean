-- Written by a program of this session: a turn of the print kit's own.
import Derived.Test.YtidjihmlkaeemaaPNetBacksx0
import Derived.Test.YtidjihmlkaeemaaPNetBacksx1
namespace Go.Proofs.Ytidjihmlkaeemaa.PNetBacks
open Go.RowKit Go.Proofs.YtidjihmlkaeemaaW.PrintWords Go.Proofs.YtidjihmlkaeemaaW.PrintLast Go.Proofs.YtidjihmlkaeemaaW.PrintMore
attribute [local go_sem] max2_int min2_int max_two min_two max_three min_three max_four min_four   -- for this text's walks alone
set_option linter.unusedVariables false
set_option linter.unusedSimpArgs false

/-! ### net_Back: function 15 -/
def net_Back.l0 : Nat → Int → Int → Int → Int → List (S31) → Int → Int → Option (Int × Int × (List (S31)) × Int × Int × Int)
  | 0, _, _, _, _, _, _, _ => none
  | k + 1, x19, x20, x105000, x105001, x105002, x105003, x105004 => if x20 < x19 then (if 0 ≤ x20 then (if x20 < (x105002.length : Int) then ((some (x105002.set (x20 : Int).toNat (⟨(rd_T31 x105002 x20).f2, (rd_T31 x105002 x20).f1, (rd_T31 x105002 x20).f2⟩ : S31) : List (S31))).bind fun y112 => (net_Back.l0 k x19 (wrap64 (x20 + 1)) x105000 x105001 (y112.set (x20 : Int).toNat (⟨(rd_T31 y112 x20).f0, (rd_T31 y112 x20).f1, (rd_T31 x105002 x20).f0⟩ : S31)) x105003 x105004)) else (none)) else (none)) else (some (x105000, x105001, x105002, x105004, x105003, 0))
def net_Back.f (k : Nat) (a0_0 : Int) (a0_1 : Int) (l0_2 : List (S31)) (a0_3 : Int) (a0_4 : Int) : Option (Int × Int × (List (S31)) × Int × Int × Int) := (net_Check.f k a0_0 a0_1 l0_2 a0_3 a0_4).bind fun t106 => (if t106 = 0 then ((slices_Clone_Sapi_Arc_api_Arc.f l0_2).bind fun t107 => (net_Back.l0 k (t107.length : Int) 0 a0_0 a0_1 t107 a0_3 a0_4)) else (some (0, 0, ([] : List (S31)), 0, 0, t106)))
theorem net_Back.mono_l : ∀ k, (∀ y0 y1 y2 y3 y4 y5 y6, LeO (net_Back.l0 k y0 y1 y2 y3 y4 y5 y6) (net_Back.l0 (k + 1) y0 y1 y2 y3 y4 y5 y6))
  | 0 => fun _ _ _ _ _ _ _ r h => by simp [net_Back.l0] at h
  | k + 1 => by
    have ih0 := net_Back.mono_l k
    · intro y0 y1 y2 y3 y4 y5 y6
      unfold net_Back.l0
      repeat' first
      | (with_reducible exact ih0 _ _ _ _ _ _ _)
      | (with_reducible exact net_Check.mono _ _ _ _ _ _)
      | (with_reducible exact LeO.refl _)
      | (with_reducible exact LeO.none _)
      | (with_reducible refine LeO.ite ?_ ?_)
      | (with_reducible refine LeO.bind ?_ (fun _ => ?_))
      | exact ih0 _ _ _ _ _ _ _
      | exact net_Check.mono _ _ _ _ _ _
      | exact LeO.none _
      | refine LeO.ite ?_ ?_
      | refine LeO.bind ?_ (fun _ => ?_)
theorem net_Back.mono : ∀ a0 a1 a2 a3 a4 k, LeO (net_Back.f k a0 a1 a2 a3 a4) (net_Back.f (k + 1) a0 a1 a2 a3 a4) := by
  intro a0 a1 a2 a3 a4 k
  have ih0 := net_Back.mono_l k
  unfold net_Back.f
  repeat' first
      | (with_reducible exact ih0 _ _ _ _ _ _ _)
      | (with_reducible exact net_Check.mono _ _ _ _ _ _)
      | (with_reducible exact LeO.refl _)
      | (with_reducible exact LeO.none _)
      | (with_reducible refine LeO.ite ?_ ?_)
      | (with_reducible refine LeO.bind ?_ (fun _ => ?_))
      | exact ih0 _ _ _ _ _ _ _
      | exact net_Check.mono _ _ _ _ _ _
      | exact LeO.none _
      | refine LeO.ite ?_ ?_
      | refine LeO.bind ?_ (fun _ => ?_)
def net_Back.T8 : Bool × List (List Nat × List Nat) := (true, [([], []), ([0], [0]), ([], []), ([], []), ([3], [3]), ([], []), ([], []), ([6], [6]), ([], []), ([8], [8]), ([1, 2, 0, 1, 2, 6, 7], [1, 2]), ([10, 0, 1, 2, 6, 7], [10]), ([11, 7, 0, 1, 2, 6, 7], [7, 11]), ([4, 5, 0, 1, 2, 3, 4, 5, 6, 7, 8, 9, 10, 11, 12], [4, 5]), ([13, 0, 1, 2, 3, 4, 5, 6, 7, 8, 9, 10, 11, 12], [13]), ([14, 9, 12, 0, 1, 2, 3, 4, 5, 6, 7, 8, 9, 10, 11, 12], [9, 14])])
def net_Back.B8 : List Nat := [0, 1, 0, 0, 8, 0, 0, 64, 0, 256, 199, 1223, 3271, 8191, 16383, 32767]
theorem net_Back.tab8 : rtab .any (opsOf Try.f15 8) = net_Back.T8 := by kernel_rfl
theorem net_Back.bits8 : waitsOk net_Back.T8.2 net_Back.B8 = true := by kernel_rfl
set_option maxHeartbeats 8000000 in
set_option maxRecDepth 100000 in
theorem net_Back.calls (k : Nat) (a0_0 : Int) (a0_1 : Int) (A0_2 : Option Addr) (c0_2 : Nat) (l0_2 : List (S31)) (a0_3 : Int) (a0_4 : Int) (r1 : Int) (r2 : Int) (r3 : List (S31)) (r4 : Int) (r5 : Int) (r6 : Int) (w : World) (hr0_2 : Kd.C k31 w A0_2 l0_2.length l0_2) (hc0_2 : l0_2.length ≤ c0_2) (h : net_Back.f k a0_0 a0_1 l0_2 a0_3 a0_4 = some (r1, r2, r3, r4, r5, r6)) :
    Calls Try.prog 15 #[.agg #[.int .i64 a0_0, .int .i64 a0_1, .slice A0_2 l0_2.length c0_2, .int .u32 a0_3, .int .u32 a0_4]] w fun e w' => ∃ v2_ : Value, e = .returned (.tuple #[.agg #[.int .i64 r1, .int .i64 r2, v2_, .int .u32 r4, .int .u32 r5], .int .i64 r6]) ∧ Kd.R k31 31 w' w.heap.size (fun _ => True) v2_ r3 ∧ Below w.heap.size w w' := by
  have hu25 := Try.underlying25
  have hu31 := Try.underlying31
  have HR0_2 := Aside0.mk hr0_2
  have HC0_2 := Aside0.mk hc0_2
  clear hr0_2 hc0_2
  have HB := Aside0.mk (Below.refl w.heap.size w)
  have H : ((net_Check.f k a0_0 a0_1 l0_2 a0_3 a0_4).bind fun t106 => (if t106 = 0 then ((slices_Clone_Sapi_Arc_api_Arc.f l0_2).bind fun t107 => (net_Back.l0 k (t107.length : Int) 0 a0_0 a0_1 t107 a0_3 a0_4)) else (some (0, 0, ([] : List (S31)), 0, 0, t106)))) = some (r1, r2, r3, r4, r5, r6) := h
  clear h
  replace H := Option.bind_eq_some_iff.mp H
  obtain ⟨t106, A20, H⟩ := H
  replace H : (if t106 = 0 then ((slices_Clone_Sapi_Arc_api_Arc.f l0_2).bind fun t107 => (net_Back.l0 k (t107.length : Int) 0 a0_0 a0_1 t107 a0_3 a0_4)) else (some (0, 0, ([] : List (S31)), 0, 0, t106))) = some (r1, r2, r3, r4, r5, r6) := H
  have A2 := Aside0.mk A20
  clear A20
  by_cases c3 : t106 = 0
  · rw [if_pos c3] at H
    have c3b0 : (t106 == 0) = true := beq_iff_eq.mpr c3
    have c3b1 : (t106 != 0) = false := bne_eq_false_iff_eq.mpr c3
    clear c3
    replace H := Option.bind_eq_some_iff.mp H
    obtain ⟨t107, A40, H⟩ := H
    replace H : (net_Back.l0 k (t107.length : Int) 0 a0_0 a0_1 t107 a0_3 a0_4) = some (r1, r2, r3, r4, r5, r6) := H
    have A4 := Aside0.mk A40
    clear A40
    have H' := Aside0.mk H
    clear H
    go_enter Try.func15, Try.ntmps15
    go_wp2_with (first | ((with_reducible refine gate_dst (N := 1) rfl ?_); refine box_event ?hg (N := 1) ?hd (cs := #[.int .i64 a0_0, .int .i64 a0_1, .slice A0_2 l0_2.length c0_2, .int .u32 a0_3, .int .u32 a0_4]) (t := 25) ?hr ?_; (case hd => rfl); (case hg => rfl); (case hr => first | (go_simp; done) | (go_simp; rfl)); intro gb104 hg w5 hbox hb; have n0_ := Aside0.mk (below_step (by repeat (first | (with_reducible first | exact HB.out | apply below_alloc | apply pw_below_drewN | apply below_drew1) | exact HB.out)) hb); have n1_ := Aside0.mk (hbox); have n2_ := Aside0.mk ((by rw [hg]; exact (below_size (by repeat (first | (with_reducible first | exact HB.out | apply below_alloc | apply pw_below_drewN | apply below_drew1) | exact HB.out))) : w.heap.size ≤ gb104)); have n3_ := Aside0.mk ((by rw [hg]; exact (below_size (by repeat (first | (with_reducible first | exact HB.out | apply below_alloc | apply pw_below_drewN | apply below_drew1) | exact HB.out))) : w.heap.size ≤ gb104)); clear HB; have HB := n0_; have BK104 := n1_; have GW104 := n2_; have GE104 := n3_; clear n0_ n1_ n2_ n3_; clear hb hbox hg) | ((with_reducible refine gate_dst (N := 2) rfl ?_); refine box_event ?hg (N := 2) ?hd (cs := #[.int .i64 0, .int .i64 0, .slice none 0 0, .int .u32 0, .int .u32 0]) (t := 25) ?hr ?_; (case hd => rfl); (case hg => rfl); (case hr => first | (go_simp; done) | (go_simp; rfl)); intro gb105 hg w6 hbox hb; have n0_ := Aside0.mk (blk_below (g := gb104) (o := .cells #[.int .i64 a0_0, .int .i64 a0_1, .slice A0_2 l0_2.length c0_2, .int .u32 a0_3, .int .u32 a0_4] 25 (0, 0)) (by (with_reducible repeat (first | refine blk_drewN ?_ _ | refine blk_drew ?_ | refine blk_alloc ?_ _)); exact BK104.out) hb); have n1_ := Aside0.mk (below_step (by repeat (first | (with_reducible first | exact HB.out | apply below_alloc | apply pw_below_drewN | apply below_drew1 | refine below_set ?_ GE104.out) | exact HB.out)) hb); have n2_ := Aside0.mk (hbox); have n3_ := Aside0.mk ((by rw [hg]; exact (below_size (by repeat (first | (with_reducible first | exact HB.out | apply below_alloc | apply pw_below_drewN | apply below_drew1 | refine below_set ?_ GE104.out) | exact HB.out))) : w.heap.size ≤ gb105)); have n4_ := Aside0.mk ((by rw [hg]; exact (below_size (by repeat (first | (with_reducible first | exact HB.out | apply below_alloc | apply pw_below_drewN | apply below_drew1 | refine below_set ?_ GE104.out) | exact HB.out))) : w.heap.size ≤ gb105)); have n5_ := Aside0.mk ((by rw [hg]; exact Nat.ne_of_lt (blk_lt (g := gb104) (o := .cells #[.int .i64 a0_0, .int .i64 a0_1, .slice A0_2 l0_2.length c0_2, .int .u32 a0_3, .int .u32 a0_4] 25 (0, 0)) (by (with_reducible repeat (first | refine blk_drewN ?_ _ | refine blk_drew ?_ | refine blk_alloc ?_ _)); exact BK104.out)) : gb104 ≠ gb105)); have n6_ := Aside0.mk ((by rw [hg]; exact Nat.ne_of_gt (blk_lt (g := gb104) (o := .cells #[.int .i64 a0_0, .int .i64 a0_1, .slice A0_2 l0_2.length c0_2, .int .u32 a0_3, .int .u32 a0_4] 25 (0, 0)) (by (with_reducible repeat (first | refine blk_drewN ?_ _ | refine blk_drew ?_ | refine blk_alloc ?_ _)); exact BK104.out)) : gb105 ≠ gb104)); clear BK104; clear HB; have BK104 := n0_; have HB := n1_; have BK105 := n2_; have GW105 := n3_; have GE105 := n4_; have NB104_105 := n5_; have NB105_104 := n6_; clear n0_ n1_ n2_ n3_ n4_ n5_ n6_; clear hb hbox hg; have hnb7 := NB104_105.out; have hnc7 := NB105_104.out; have hcz8_0 : w6.cell? ⟨gb104, 0, none⟩ = some (.int .i64 a0_0) := (blk_cell BK104.out 0).trans rfl; have hcz8_1 : w6.cell? ⟨gb104, 1, none⟩ = some (.int .i64 a0_1) := (blk_cell BK104.out 1).trans rfl; have hcz8_2 : w6.cell? ⟨gb104, 2, none⟩ = some (.slice A0_2 l0_2.length c0_2) := (blk_cell BK104.out 2).trans rfl; have hcz8_3 : w6.cell? ⟨gb104, 3, none⟩ = some (.int .u32 a0_3) := (blk_cell BK104.out 3).trans rfl; have hcz8_4 : w6.cell? ⟨gb104, 4, none⟩ = some (.int .u32 a0_4) := (blk_cell BK104.out 4).trans rfl; have hfz8_0 := blk_frozen BK104.out 0; have hfz8_1 := blk_frozen BK104.out 1; have hfz8_2 := blk_frozen BK104.out 2; have hfz8_3 := blk_frozen BK104.out 3; have hfz8_4 := blk_frozen BK104.out 4) | ((with_reducible refine gate_callee (f := 44) rfl ?_); refine goesL_ (some 8) rfl rfl Try.func44 (by kernel_rfl) rfl #[.agg #[.int .i64 a0_0, .int .i64 a0_1, .slice A0_2 l0_2.length c0_2, .int .u32 a0_3, .int .u32 a0_4]] rfl (by (try simp only [List.map_toArray, List.map_cons, List.map_nil]); first | done | rfl | (simp only [List.length_drop, List.length_take]; rfl)) ?_; (with_reducible refine (net_Check.calls k a0_0 a0_1 _ _ l0_2 a0_3 a0_4 t106 _ ?side1 ?side2 A2.out).mono ?_); (case side1 => repeat (first | exact (Kd.C_below HR0_2.out HB.out) | (with_reducible refine Kd.C_alloc ?_ _) | (with_reducible refine Kd.C_drewN ?_ _) | (with_reducible refine Kd.C_drew ?_))); (case side2 => exact HC0_2.out); rintro e w9 ⟨rfl, hb⟩; refine ⟨_, rfl, ?_⟩; have n0_ := Aside0.mk (blk_below (g := gb104) (o := .cells #[.int .i64 a0_0, .int .i64 a0_1, .slice A0_2 l0_2.length c0_2, .int .u32 a0_3, .int .u32 a0_4] 25 (0, 0)) (by (with_reducible repeat (first | refine blk_drewN ?_ _ | refine blk_drew ?_ | refine blk_alloc ?_ _)); exact BK104.out) hb); have n1_ := Aside0.mk (blk_below (g := gb105) (o := .cells #[.int .i64 0, .int .i64 0, .slice none 0 0, .int .u32 0, .int .u32 0] 25 (0, 0)) (by (with_reducible repeat (first | refine blk_drewN ?_ _ | refine blk_drew ?_ | refine blk_alloc ?_ _)); exact BK105.out) hb); have n2_ := Aside0.mk (below_step (by repeat (first | (with_reducible first | exact HB.out | apply below_alloc | apply pw_below_drewN | apply below_drew1 | refine below_set ?_ GE104.out | refine below_set ?_ GE105.out) | exact HB.out)) hb); clear BK104; clear BK105; clear HB; have BK104 := n0_; have BK105 := n1_; have HB := n2_; clear n0_ n1_ n2_; (try clear hb); (try clear hb2); (try clear hk); (try clear hi); have hcz10_0 : w9.cell? ⟨gb104, 0, none⟩ = some (.int .i64 a0_0) := (blk_cell BK104.out 0).trans rfl; have hcz10_1 : w9.cell? ⟨gb104, 1, none⟩ = some (.int .i64 a0_1) := (blk_cell BK104.out 1).trans rfl; have hcz10_2 : w9.cell? ⟨gb104, 2, none⟩ = some (.slice A0_2 l0_2.length c0_2) := (blk_cell BK104.out 2).trans rfl; have hcz10_3 : w9.cell? ⟨gb104, 3, none⟩ = some (.int .u32 a0_3) := (blk_cell BK104.out 3).trans rfl; have hcz10_4 : w9.cell? ⟨gb104, 4, none⟩ = some (.int .u32 a0_4) := (blk_cell BK104.out 4).trans rfl; have hfz10_0 := blk_frozen BK104.out 0; have hfz10_1 := blk_frozen BK104.out 1; have hfz10_2 := blk_frozen BK104.out 2; have hfz10_3 := blk_frozen BK104.out 3; have hfz10_4 := blk_frozen BK104.out 4) | ((with_reducible refine gate_callee (f := 45) rfl ?_); refine goesL_ (some 15) rfl rfl Try.func45 (by kernel_rfl) rfl #[.slice A0_2 l0_2.length c0_2] rfl (by (try simp only [List.map_toArray, List.map_cons, List.map_nil]); first | done | rfl | (simp only [List.length_drop, List.length_take]; rfl)) ?_; (with_reducible refine (slices_Clone_Sapi_Arc_api_Arc.calls _ _ l0_2 t107 _ ?side1 ?side2 A4.out).mono ?_); (case side1 => repeat (first | exact (Kd.C_below HR0_2.out HB.out) | (with_reducible refine Kd.C_alloc ?_ _) | (with_reducible refine Kd.C_drewN ?_ _) | (with_reducible refine Kd.C_drew ?_))); (case side2 => exact HC0_2.out); rintro e w11 ⟨v108, rfl, ho0, hb⟩; refine ⟨_, rfl, ?_⟩; have n0_ := Aside0.mk (Kd.R_lower ho0 (below_size (by repeat (first | (with_reducible first | exact HB.out | apply below_alloc | apply pw_below_drewN | apply below_drew1 | refine below_set ?_ GE104.out | refine below_set ?_ GE105.out) | exact HB.out)))); have n1_ := Aside0.mk (blk_below (g := gb104) (o := .cells #[.int .i64 a0_0, .int .i64 a0_1, .slice A0_2 l0_2.length c0_2, .int .u32 a0_3, .int .u32 a0_4] 25 (0, 0)) (by (with_reducible repeat (first | refine blk_drewN ?_ _ | refine blk_drew ?_ | refine blk_alloc ?_ _)); exact BK104.out) hb); have n2_ := Aside0.mk (blk_below (g := gb105) (o := .cells #[.int .i64 0, .int .i64 0, .slice none 0 0, .int .u32 0, .int .u32 0] 25 (0, 0)) (by (with_reducible repeat (first | refine blk_drewN ?_ _ | refine blk_drew ?_ | refine blk_alloc ?_ _)); exact BK105.out) hb); have n3_ := Aside0.mk (below_step (by repeat (first | (with_reducible first | exact HB.out | apply below_alloc | apply pw_below_drewN | apply below_drew1 | refine below_set ?_ GE104.out | refine below_set ?_ GE105.out) | exact HB.out)) hb); clear BK104; clear BK105; clear HB; have HO109 := n0_; have BK104 := n1_; have BK105 := n2_; have HB := n3_; clear n0_ n1_ n2_ n3_; (try clear hb); (try clear hb2); (try clear hk); (try clear hi); (try clear ho0); obtain ⟨Ao12, co12, eo12⟩ := Kd.R_slice HO109.out; subst eo12; have hcz13_0 : w11.cell? ⟨gb104, 0, none⟩ = some (.int .i64 a0_0) := (blk_cell BK104.out 0).trans rfl; have hcz13_1 : w11.cell? ⟨gb104, 1, none⟩ = some (.int .i64 a0_1) := (blk_cell BK104.out 1).trans rfl; have hcz13_2 : w11.cell? ⟨gb104, 2, none⟩ = some (.slice A0_2 l0_2.length c0_2) := (blk_cell BK104.out 2).trans rfl; have hcz13_3 : w11.cell? ⟨gb104, 3, none⟩ = some (.int .u32 a0_3) := (blk_cell BK104.out 3).trans rfl; have hcz13_4 : w11.cell? ⟨gb104, 4, none⟩ = some (.int .u32 a0_4) := (blk_cell BK104.out 4).trans rfl; have hfz13_0 := blk_frozen BK104.out 0; have hfz13_1 := blk_frozen BK104.out 1; have hfz13_2 := blk_frozen BK104.out 2; have hfz13_3 := blk_frozen BK104.out 3; have hfz13_4 := blk_frozen BK104.out 4))
    go_loopg [20] k (fun kq v20 w' => ∃ (x20_1 : Int) (x105002_1 : List (S31)), v20 = .int .i64 x20_1 ∧ Aside0 (net_Back.l0 kq (t107.length : Int) x20_1 a0_0 a0_1 x105002_1 a0_3 a0_4 = some (r1, r2, r3, r4, r5, r6)) ∧ Aside0 (kq ≤ k) ∧ Aside0 (Kd.R k31 31 w' w.heap.size (fun _ => True) (.slice Ao12 t107.length co12) x105002_1) ∧ Aside0 (w'.heap[gb104]? = some (.cells #[.int .i64 a0_0, .int .i64 a0_1, (.slice Ao12 t107.length co12), .int .u32 a0_3, .int .u32 a0_4] 25 (0, 0))) ∧ Aside0 (w'.heap[gb105]? = some (.cells #[.int .i64 0, .int .i64 0, (.slice none 0 0), .int .u32 0, .int .u32 0] 25 (0, 0))) ∧ Aside0 (Below w.heap.size w w'))
    case atStart => exact ⟨(0), (t107), (by first | rfl | (simp; done) | (simp [*]; done)), H', ⟨Nat.le_refl _⟩, ⟨by (with_reducible repeat (first | apply Kd.R_alloc | apply Kd.R_drewN | apply Kd.R_drew)); exact Kd.R_mono (Kd.R_far (p := ⟨gb104, 2, none⟩) (Kd.R_types HO109.out BK104.out (by decide)) (fun _ hk => hk.2) (.slice Ao12 t107.length co12)) (fun _ hk => trivial)⟩, ⟨by (with_reducible repeat (first | refine blk_drewN ?_ _ | refine blk_drew ?_ | refine blk_alloc ?_ _)); refine blk_put (cs := #[.int .i64 a0_0, .int .i64 a0_1, .slice A0_2 l0_2.length c0_2, .int .u32 a0_3, .int .u32 a0_4]) ?_ 2 _ rfl; (with_reducible repeat (first | refine blk_drewN ?_ _ | refine blk_drew ?_ | refine blk_alloc ?_ _)); exact BK104.out⟩, ⟨by (with_reducible repeat (first | refine blk_drewN ?_ _ | refine blk_drew ?_ | refine blk_alloc ?_ _)); refine blk_far ?_ NB105_104.out _; (with_reducible repeat (first | refine blk_drewN ?_ _ | refine blk_drew ?_ | refine blk_alloc ?_ _)); exact BK105.out⟩, ⟨by repeat (first | (with_reducible first | exact HB.out | apply below_alloc | apply pw_below_drewN | apply below_drew1 | refine below_set ?_ GE104.out | refine below_set ?_ GE105.out) | exact HB.out)⟩⟩
    case round =>
      clear H'
      try clear c1
      try clear p2
      try clear c3
      try clear c3b0
      try clear c3b1
      try clear c4
      try clear c7
      try clear hcz10_0
      try clear hcz10_1
      try clear hcz10_2
      try clear hcz10_3
      try clear hcz10_4
      try clear hcz13_0
      try clear hcz13_1
      try clear hcz13_2
      try clear hcz13_3
      try clear hcz13_4
      try clear hcz8_0
      try clear hcz8_1
      try clear hcz8_2
      try clear hcz8_3
      try clear hcz8_4
      try clear hfz10_0
      try clear hfz10_1
      try clear hfz10_2
      try clear hfz10_3
      try clear hfz10_4
      try clear hfz13_0
      try clear hfz13_1
      try clear hfz13_2
      try clear hfz13_3
      try clear hfz13_4
      try clear hfz8_0
      try clear hfz8_1
      try clear hfz8_2
      try clear hfz8_3
      try clear hfz8_4
      obtain ⟨x20_1, x105002_1, rfl, HA, HK1, HO_105002, BK104, BK105, HB⟩ := hrel
      have hl105002_1 := (Kd.R_reads' HO_105002.out).1
      rw [hl105002_1] at HO_105002
      (try simp only [hl105002_1])
      (try simp only [hl105002_1] at BK104)
      (try simp only [hl105002_1] at BK105)
      cases gk with
      | zero => exact absurd HA.out (by simp [net_Back.l0])
      | succ k1 =>
        have H := HA.out
        clear HA
        simp only [net_Back.l0] at H
        by_cases c14 : x20_1 < (t107.length : Int)
        · rw [if_pos c14] at H
          have c14b0 : decide (x20_1 < (t107.length : Int)) = true := decide_eq_true c14
          (try (have c14b0h := c14b0; simp only [hl105002_1] at c14b0h))
          clear c14
          by_cases c15 : 0 ≤ x20_1
          · rw [if_pos c15] at H
            have c15b0 : decide (0 ≤ x20_1) = true := decide_eq_true c15
            clear c15
            by_cases c16 : x20_1 < (x105002_1.length : Int)
            · rw [if_pos c16] at H
              have c16b0 : decide (x20_1 < (x105002_1.length : Int)) = true := decide_eq_true c16
              (try (have c16b0h := c16b0; simp only [hl105002_1] at c16b0h))
              clear c16
              obtain ⟨y112, hy112⟩ : ∃ y_ : List (S31), y_ = (x105002_1.set (x20_1 : Int).toNat (⟨(rd_T31 x105002_1 x20_1).f2, (rd_T31 x105002_1 x20_1).f1, (rd_T31 x105002_1 x20_1).f2⟩ : S31)) := ⟨_, rfl⟩
              replace H : (net_Back.l0 k1 (t107.length : Int) (wrap64 (x20_1 + 1)) a0_0 a0_1 (y112.set (x20_1 : Int).toNat (⟨(rd_T31 y112 x20_1).f0, (rd_T31 y112 x20_1).f1, (rd_T31 x105002_1 x20_1).f0⟩ : S31)) a0_3 a0_4) = some (r1, r2, r3, r4, r5, r6) := by first | (rw [hy112]; with_reducible exact H) | (have H2_ := (Option.bind_some _ _).symm.trans H; rw [hy112]; with_reducible exact H2_) | (have H2_ := (Option.bind_some _ _).symm.trans H; with_reducible exact H2_) | with_reducible exact H | (rw [hy112]; exact H) | exact H
              have Ny112 := Aside0.mk hy112
              clear hy112
              obtain ⟨y113, hy113⟩ : ∃ y_ : List (S31), y_ = (y112.set (x20_1 : Int).toNat (⟨(rd_T31 y112 x20_1).f0, (rd_T31 y112 x20_1).f1, (rd_T31 x105002_1 x20_1).f0⟩ : S31)) := ⟨_, rfl⟩
              replace H : (net_Back.l0 k1 (t107.length : Int) (wrap64 (x20_1 + 1)) a0_0 a0_1 y113 a0_3 a0_4) = some (r1, r2, r3, r4, r5, r6) := by first | (rw [hy113]; with_reducible exact H) | (have H2_ := (Option.bind_some _ _).symm.trans H; rw [hy113]; with_reducible exact H2_) | (have H2_ := (Option.bind_some _ _).symm.trans H; with_reducible exact H2_) | with_reducible exact H | (rw [hy113]; exact H) | exact H
              have Ny113 := Aside0.mk hy113
              clear hy113
              have H' := Aside0.mk H
              clear H
              have p110 : 0 ≤ (x20_1 : Int) := of_decide_eq_true (by first | (with_reducible assumption) | assumption)
              have q110 : x20_1 < (x105002_1.length : Int) := of_decide_eq_true (by first | (with_reducible assumption) | assumption)
              obtain ⟨ad110, e110, hx110_0, hx110_1, hx110_2⟩ := at_T31 (Kd.R_reads' HO_105002.out).2.2 x20_1 p110 q110
              cases e110
              replace p110 := eq_true p110
              replace q110 := eq_true q110
              try go_wp2_with (first | ((with_reducible refine gate_dst (N := 6) rfl ?_); refine box_event ?hg (N := 6) ?hd (cs := #[.int .i64 0, .int .i64 0, .int .i64 0]) (t := 31) ?hr ?_; (case hd => rfl); (case hg => rfl); (case hr => first | (go_simp; done) | (go_simp; rfl)); intro gb111 hg w19 hbox hb; have n0_ := Aside0.mk (Kd.R_below (Kd.R_elderB (by (with_reducible repeat (first | apply Kd.R_alloc | apply Kd.R_drewN | apply Kd.R_drew)); exact HO_105002.out) gb111 (Nat.le_of_eq hg.symm)) hb); have n1_ := Aside0.mk (blk_below (g := gb104) (o := .cells #[.int .i64 a0_0, .int .i64 a0_1, .slice (some ad110) x105002_1.length co12, .int .u32 a0_3, .int .u32 a0_4] 25 (0, 0)) (by (with_reducible repeat (first | refine blk_drewN ?_ _ | refine blk_drew ?_ | refine blk_alloc ?_ _)); exact BK104.out) hb); have n2_ := Aside0.mk (blk_below (g := gb105) (o := .cells #[.int .i64 0, .int .i64 0, .slice none 0 0, .int .u32 0, .int .u32 0] 25 (0, 0)) (by (with_reducible repeat (first | refine blk_drewN ?_ _ | refine blk_drew ?_ | refine blk_alloc ?_ _)); exact BK105.out) hb); have n3_ := Aside0.mk (below_step (by repeat (first | (with_reducible first | exact HB.out | apply below_alloc | apply pw_below_drewN | apply below_drew1 | refine below_set ?_ GE104.out | refine below_set ?_ GE105.out) | exact HB.out)) hb); have n4_ := Aside0.mk (hbox); have n5_ := Aside0.mk ((by rw [hg]; exact (below_size (by repeat (first | (with_reducible first | exact HB.out | apply below_alloc | apply pw_below_drewN | apply below_drew1 | refine below_set ?_ GE104.out | refine below_set ?_ GE105.out) | exact HB.out))) : w.heap.size ≤ gb111)); have n6_ := Aside0.mk ((by rw [hg]; exact (below_size (by repeat (first | (with_reducible first | exact HB.out | apply below_alloc | apply pw_below_drewN | apply below_drew1 | refine below_set ?_ GE104.out | refine below_set ?_ GE105.out) | exact HB.out))) : w.heap.size ≤ gb111)); have n7_ := Aside0.mk ((by rw [hg]; exact Nat.ne_of_lt (blk_lt (g := gb104) (o := .cells #[.int .i64 a0_0, .int .i64 a0_1, .slice (some ad110) x105002_1.length co12, .int .u32 a0_3, .int .u32 a0_4] 25 (0, 0)) (by (with_reducible repeat (first | refine blk_drewN ?_ _ | refine blk_drew ?_ | refine blk_alloc ?_ _)); exact BK104.out)) : gb104 ≠ gb111)); have n8_ := Aside0.mk ((by rw [hg]; exact Nat.ne_of_gt (blk_lt (g := gb104) (o := .cells #[.int .i64 a0_0, .int .i64 a0_1, .slice (some ad110) x105002_1.length co12, .int .u32 a0_3, .int .u32 a0_4] 25 (0, 0)) (by (with_reducible repeat (first | refine blk_drewN ?_ _ | refine blk_drew ?_ | refine blk_alloc ?_ _)); exact BK104.out)) : gb111 ≠ gb104)); have n9_ := Aside0.mk ((by rw [hg]; exact Nat.ne_of_lt (blk_lt (g := gb105) (o := .cells #[.int .i64 0, .int .i64 0, .slice none 0 0, .int .u32 0, .int .u32 0] 25 (0, 0)) (by (with_reducible repeat (first | refine blk_drewN ?_ _ | refine blk_drew ?_ | refine blk_alloc ?_ _)); exact BK105.out)) : gb105 ≠ gb111)); have n10_ := Aside0.mk ((by rw [hg]; exact Nat.ne_of_gt (blk_lt (g := gb105) (o := .cells #[.int .i64 0, .int .i64 0, .slice none 0 0, .int .u32 0, .int .u32 0] 25 (0, 0)) (by (with_reducible repeat (first | refine blk_drewN ?_ _ | refine blk_drew ?_ | refine blk_alloc ?_ _)); exact BK105.out)) : gb111 ≠ gb105)); clear HO_105002; clear BK104; clear BK105; clear HB; have HO_105002 := n0_; have BK104 := n1_; have BK105 := n2_; have HB := n3_; have BK111 := n4_; have GW111 := n5_; have GE111 := n6_; have NB104_111 := n7_; have NB111_104 := n8_; have NB105_111 := n9_; have NB111_105 := n10_; clear n0_ n1_ n2_ n3_ n4_ n5_ n6_ n7_ n8_ n9_ n10_; clear hb hbox hg; have hnb20 := NB111_104.out; have hnc20 := NB104_111.out; have hnb21 := NB111_105.out; have hnc21 := NB105_111.out; have hcz22_0 : w19.cell? ⟨gb111, 0, none⟩ = some (.int .i64 0) := (blk_cell BK111.out 0).trans rfl; have hcz22_1 : w19.cell? ⟨gb111, 1, none⟩ = some (.int .i64 0) := (blk_cell BK111.out 1).trans rfl; have hcz22_2 : w19.cell? ⟨gb111, 2, none⟩ = some (.int .i64 0) := (blk_cell BK111.out 2).trans rfl; have hfz22_0 := blk_frozen BK111.out 0; have hfz22_1 := blk_frozen BK111.out 1; have hfz22_2 := blk_frozen BK111.out 2))
              have n0_ : Aside0 (Kd.R k31 31 (((w19.setCell ⟨gb111, 0, none⟩ (.int .i64 ((rd_T31 x105002_1 x20_1).f0))).setCell ⟨gb111, 1, none⟩ (.int .i64 ((rd_T31 x105002_1 x20_1).f1))).setCell ⟨gb111, 2, none⟩ (.int .i64 ((rd_T31 x105002_1 x20_1).f2))) w.heap.size (fun k_ => k_ ≠ gb111) (.slice (some ad110) x105002_1.length co12) x105002_1) := ⟨by (with_reducible repeat (first | apply Kd.R_alloc | apply Kd.R_drewN | apply Kd.R_drew)); exact Kd.R_mono (Kd.R_far (p := ⟨gb111, 2, none⟩) (Kd.R_far (p := ⟨gb111, 1, none⟩) (Kd.R_far (p := ⟨gb111, 0, none⟩) (Kd.R_mono HO_105002.out (fun k_ hk => (⟨hk, hk.2⟩ : _ ∧ k_ ≠ gb111))) (fun _ hk => hk.2) (.int .i64 ((rd_T31 x105002_1 x20_1).f0))) (fun _ hk => hk.2) (.int .i64 ((rd_T31 x105002_1 x20_1).f1))) (fun _ hk => hk.2) (.int .i64 ((rd_T31 x105002_1 x20_1).f2))) (fun _ hk => hk.1.2)⟩
              have n1_ : Aside0 ((((w19.setCell ⟨gb111, 0, none⟩ (.int .i64 ((rd_T31 x105002_1 x20_1).f0))).setCell ⟨gb111, 1, none⟩ (.int .i64 ((rd_T31 x105002_1 x20_1).f1))).setCell ⟨gb111, 2, none⟩ (.int .i64 ((rd_T31 x105002_1 x20_1).f2))).heap[gb104]? = some (.cells #[.int .i64 a0_0, .int .i64 a0_1, .slice (some ad110) x105002_1.length co12, .int .u32 a0_3, .int .u32 a0_4] 25 (0, 0))) := ⟨by (with_reducible repeat (first | refine blk_drewN ?_ _ | refine blk_drew ?_ | refine blk_alloc ?_ _)); refine blk_far ?_ NB104_111.out _; (with_reducible repeat (first | refine blk_drewN ?_ _ | refine blk_drew ?_ | refine blk_alloc ?_ _)); refine blk_far ?_ NB104_111.out _; (with_reducible repeat (first | refine blk_drewN ?_ _ | refine blk_drew ?_ | refine blk_alloc ?_ _)); refine blk_far ?_ NB104_111.out _; (with_reducible repeat (first | refine blk_drewN ?_ _ | refine blk_drew ?_ | refine blk_alloc ?_ _)); exact BK104.out⟩
              have n2_ : Aside0 ((((w19.setCell ⟨gb111, 0, none⟩ (.int .i64 ((rd_T31 x105002_1 x20_1).f0))).setCell ⟨gb111, 1, none⟩ (.int .i64 ((rd_T31 x105002_1 x20_1).f1))).setCell ⟨gb111, 2, none⟩ (.int .i64 ((rd_T31 x105002_1 x20_1).f2))).heap[gb105]? = some (.cells #[.int .i64 0, .int .i64 0, .slice none 0 0, .int .u32 0, .int .u32 0] 25 (0, 0))) := ⟨by (with_reducible repeat (first | refine blk_drewN ?_ _ | refine blk_drew ?_ | refine blk_alloc ?_ _)); refine blk_far ?_ NB105_111.out _; (with_reducible repeat (first | refine blk_drewN ?_ _ | refine blk_drew ?_ | refine blk_alloc ?_ _)); refine blk_far ?_ NB105_111.out _; (with_reducible repeat (first | refine blk_drewN ?_ _ | refine blk_drew ?_ | refine blk_alloc ?_ _)); refine blk_far ?_ NB105_111.out _; (with_reducible repeat (first | refine blk_drewN ?_ _ | refine blk_drew ?_ | refine blk_alloc ?_ _)); exact BK105.out⟩
              have n3_ : Aside0 ((((w19.setCell ⟨gb111, 0, none⟩ (.int .i64 ((rd_T31 x105002_1 x20_1).f0))).setCell ⟨gb111, 1, none⟩ (.int .i64 ((rd_T31 x105002_1 x20_1).f1))).setCell ⟨gb111, 2, none⟩ (.int .i64 ((rd_T31 x105002_1 x20_1).f2))).heap[gb111]? = some (.cells #[.int .i64 ((rd_T31 x105002_1 x20_1).f0), .int .i64 ((rd_T31 x105002_1 x20_1).f1), .int .i64 ((rd_T31 x105002_1 x20_1).f2)] 31 (0, 0))) := ⟨by (with_reducible repeat (first | refine blk_drewN ?_ _ | refine blk_drew ?_ | refine blk_alloc ?_ _)); refine blk_put (cs := #[.int .i64 ((rd_T31 x105002_1 x20_1).f0), .int .i64 ((rd_T31 x105002_1 x20_1).f1), .int .i64 0]) ?_ 2 _ rfl; (with_reducible repeat (first | refine blk_drewN ?_ _ | refine blk_drew ?_ | refine blk_alloc ?_ _)); refine blk_put (cs := #[.int .i64 ((rd_T31 x105002_1 x20_1).f0), .int .i64 0, .int .i64 0]) ?_ 1 _ rfl; (with_reducible repeat (first | refine blk_drewN ?_ _ | refine blk_drew ?_ | refine blk_alloc ?_ _)); refine blk_put (cs := #[.int .i64 0, .int .i64 0, .int .i64 0]) ?_ 0 _ rfl; (with_reducible repeat (first | refine blk_drewN ?_ _ | refine blk_drew ?_ | refine blk_alloc ?_ _)); exact BK111.out⟩
              have n4_ : Aside0 (Below w.heap.size w (((w19.setCell ⟨gb111, 0, none⟩ (.int .i64 ((rd_T31 x105002_1 x20_1).f0))).setCell ⟨gb111, 1, none⟩ (.int .i64 ((rd_T31 x105002_1 x20_1).f1))).setCell ⟨gb111, 2, none⟩ (.int .i64 ((rd_T31 x105002_1 x20_1).f2)))) := ⟨by repeat (first | (with_reducible first | exact HB.out | apply below_alloc | apply pw_below_drewN | apply below_drew1 | refine below_set ?_ GE104.out | refine below_set ?_ GE105.out | refine below_set ?_ GE111.out) | exact HB.out)⟩
              (try clear HO_105002)
              (try clear BK104)
              (try clear BK105)
              (try clear BK111)
              (try clear HB)
              generalize (((w19.setCell ⟨gb111, 0, none⟩ (.int .i64 ((rd_T31 x105002_1 x20_1).f0))).setCell ⟨gb111, 1, none⟩ (.int .i64 ((rd_T31 x105002_1 x20_1).f1))).setCell ⟨gb111, 2, none⟩ (.int .i64 ((rd_T31 x105002_1 x20_1).f2))) = w23 at n0_ n1_ n2_ n3_ n4_ ⊢
              have HO_105002 := n0_
              have BK104 := n1_
              have BK105 := n2_
              have BK111 := n3_
              have HB := n4_
              clear n0_ n1_ n2_ n3_ n4_
              have n0_ := Aside0.mk (Kd.R_drew HO_105002.out)
              have n1_ := Aside0.mk (blk_drew BK104.out)
              have n2_ := Aside0.mk (blk_drew BK105.out)
              have n3_ := Aside0.mk (blk_drew BK111.out)
              have n4_ := Aside0.mk (below_drew1 HB.out)
              clear HO_105002
              clear BK104
              clear BK105
              clear BK111
              clear HB
              have HO_105002 := n0_
              have BK104 := n1_
              have BK105 := n2_
              have BK111 := n3_
              have HB := n4_
              clear n0_ n1_ n2_ n3_ n4_
              have p17 : 0 ≤ (x20_1 : Int) := of_decide_eq_true (by first | (with_reducible assumption) | assumption)
              have q17 : (x20_1 : Int) < ((x105002_1.length : Int) : Int) := of_decide_eq_true (by first | (with_reducible assumption) | assumption)
              obtain ⟨go17, co17, eo17, gb17, gl17, cl17, HG17⟩ := Kd.R_form HO_105002.out (by omega)
              (first | cases eo17 | (injection eo17 with ea_ en_ ec_; (first | subst ea_ | (injection ea_ with ea_; subst ea_)); subst ec_; clear en_))
              have GB17 := Aside0.mk gb17
              have GG17 := Aside0.mk HG17
              clear gb17 gl17 HG17
              (first | simp only [add_plain] at hx110_0 | skip)
              (first | simp only [add_plain] at hx110_1 | skip)
              (first | simp only [add_plain] at hx110_2 | skip)
              obtain ⟨ce17, hcl17, hM17, hcc17, hfr17⟩ := Kd.R_elem HO_105002.out z31 (x20_1 : Int) p17 q17
              obtain rfl := k31_openM hM17
              have hx17_0 : World.cell? _ ⟨go17, (x20_1 : Int).toNat * 3, none⟩ = some (.int .i64 ((rd_T31 x105002_1 x20_1).f0)) := hcc17 0 _ rfl
              have hx17_1 : World.cell? _ ⟨go17, (x20_1 : Int).toNat * 3 + 1, none⟩ = some (.int .i64 ((rd_T31 x105002_1 x20_1).f1)) := hcc17 1 _ rfl
              have hx17_2 : World.cell? _ ⟨go17, (x20_1 : Int).toNat * 3 + 2, none⟩ = some (.int .i64 ((rd_T31 x105002_1 x20_1).f2)) := hcc17 2 _ rfl
              have hf17_0 : World.frozen? _ ⟨go17, (x20_1 : Int).toNat * 3, none⟩ = false := hfr17 0
              have hf17_1 : World.frozen? _ ⟨go17, (x20_1 : Int).toNat * 3 + 1, none⟩ = false := hfr17 1
              have hf17_2 : World.frozen? _ ⟨go17, (x20_1 : Int).toNat * 3 + 2, none⟩ = false := hfr17 2
              (try clear hcl17); (try clear hcc17); (try clear hfr17); (try clear hM17)
              replace p17 := eq_true p17
              replace q17 := eq_true q17
              obtain ⟨ce25, hcl25, hM25, hcc25, hfr25⟩ := Kd.R_elem HO_105002.out z31 (x20_1 : Int) (of_decide_eq_true (by first | (with_reducible assumption) | assumption)) (by have h_ : (x20_1 : Int) < ((x105002_1.length : Int) : Int) := of_decide_eq_true (by first | (with_reducible assumption) | assumption); first | exact h_ | (have e_ := (Kd.R_reads' HO_105002.out).1; omega) | simpa using h_)
              obtain rfl := k31_openM hM25
              have HP25 := (Kd.R_seg HO_105002.out (x20_1 : Int) (of_decide_eq_true (by first | (with_reducible assumption) | assumption)) (by have h_ : (x20_1 : Int) < ((x105002_1.length : Int) : Int) := of_decide_eq_true (by first | (with_reducible assumption) | assumption); first | exact h_ | (have e_ := (Kd.R_reads' HO_105002.out).1; omega) | simpa using h_) (seg := [.int .i64 ((rd_T31 x105002_1 x20_1).f2)]) (j := 0) hcl25 hcc25 (show 1 ≤ 3 from by decide) (x' := (⟨(rd_T31 x105002_1 x20_1).f2, (rd_T31 x105002_1 x20_1).f1, (rd_T31 x105002_1 x20_1).f2⟩ : S31)) (k31_mkM _ _ _ (⟨(rd_T31 x105002_1 x20_1).f2, (rd_T31 x105002_1 x20_1).f1, (rd_T31 x105002_1 x20_1).f2⟩ : S31) ) (fun _ hk => hk)).1
              rw [← Ny112.out] at HP25
              have HQ25 := Aside0.mk HP25
              (try clear hcl25); (try clear hcc25); (try clear hfr25); (try clear hM25); (try clear HP25)
              have p18 : 0 ≤ (x20_1 : Int) := of_decide_eq_true (by first | (with_reducible assumption) | assumption)
              have q18 : (x20_1 : Int) < ((x105002_1.length : Int) : Int) := of_decide_eq_true (by first | (with_reducible assumption) | assumption)
              replace p18 := eq_true p18
              replace q18 := eq_true q18
              obtain ⟨ce26, hcl26, hM26, hcc26, hfr26⟩ := Kd.R_elem HQ25.out z31 (x20_1 : Int) (of_decide_eq_true (by first | (with_reducible assumption) | assumption)) (by have h_ : (x20_1 : Int) < ((x105002_1.length : Int) : Int) := of_decide_eq_true (by first | (with_reducible assumption) | assumption); first | exact h_ | (have e_ := (Kd.R_reads' HO_105002.out).1; omega) | simpa using h_)
              obtain rfl := k31_openM hM26
              have HP26 := (Kd.R_seg HQ25.out (x20_1 : Int) (of_decide_eq_true (by first | (with_reducible assumption) | assumption)) (by have h_ : (x20_1 : Int) < ((x105002_1.length : Int) : Int) := of_decide_eq_true (by first | (with_reducible assumption) | assumption); first | exact h_ | (have e_ := (Kd.R_reads' HO_105002.out).1; omega) | simpa using h_) (seg := [.int .i64 ((rd_T31 x105002_1 x20_1).f0)]) (j := 2) hcl26 hcc26 (show 3 ≤ 3 from by decide) (x' := (⟨(rd_T31 y112 x20_1).f0, (rd_T31 y112 x20_1).f1, (rd_T31 x105002_1 x20_1).f0⟩ : S31)) (k31_mkM _ _ _ (⟨(rd_T31 y112 x20_1).f0, (rd_T31 y112 x20_1).f1, (rd_T31 x105002_1 x20_1).f0⟩ : S31) ) (fun _ hk => hk)).1
              rw [← Ny113.out] at HP26
              have HQ26 := Aside0.mk HP26
              (try clear hcl26); (try clear hcc26); (try clear hfr26); (try clear hM26); (try clear HP26)
              refine start_ (n := 16) (S := fun w' => w'.cell? ⟨gb104, 0, none⟩ = some (.int .i64 a0_0) ∧ w'.cell? ⟨gb104, 1, none⟩ = some (.int .i64 a0_1) ∧ w'.cell? ⟨gb104, 2, none⟩ = some (.slice (some ⟨go17, 0, none⟩) x105002_1.length co12) ∧ w'.cell? ⟨gb104, 3, none⟩ = some (.int .u32 a0_3) ∧ w'.cell? ⟨gb104, 4, none⟩ = some (.int .u32 a0_4) ∧ w'.cell? ⟨gb111, 0, none⟩ = some (.int .i64 ((rd_T31 x105002_1 x20_1).f0)) ∧ w'.cell? ⟨gb111, 1, none⟩ = some (.int .i64 ((rd_T31 x105002_1 x20_1).f1)) ∧ w'.cell? ⟨gb111, 2, none⟩ = some (.int .i64 ((rd_T31 x105002_1 x20_1).f2))) (ds := []) #[false, false, false, false, false, false, false, false, false, false, false, false, false, false, false, false] (by kernel_rfl) rfl rfl ⟨(blk_cell BK104.out 0).trans rfl, (blk_cell BK104.out 1).trans rfl, (blk_cell BK104.out 2).trans rfl, (blk_cell BK104.out 3).trans rfl, (blk_cell BK104.out 4).trans rfl, (blk_cell BK111.out 0).trans rfl, (blk_cell BK111.out 1).trans rfl, (blk_cell BK111.out 2).trans rfl⟩ (fun hHeld => ?_); refine with_tabW net_Back.tab8 net_Back.bits8 (fun HT_ HW_ => ?_)
              generalize w23.drew = w24 at HO_105002 BK104 BK105 BK111 HB GG17 HQ25 HQ26 hf17_0 hf17_1 hf17_2 hx110_0 hx110_1 hx110_2 hx17_0 hx17_1 hx17_2 hHeld ⊢
              refine pure_ (i := 0) (N := some 25) (v := ?_) (a' := ?_) #[true, false, false, false, false, false, false, false, false, false, false, false, false, false, false, false] rfl rfl (any_of HT_.out (by kernel_rfl)) (fun _ _ _ h => h) (Or.inl ⟨by rfl, ?_⟩) ?_ ?_
              rotate_left
              · intro w'
                go_simp
                with_reducible rfl
              rotate_left
              · simp only [Act.put, List.setIfInBounds_toArray, List.set_cons_zero, List.set_cons_succ, i64_w, i32_w]
                rfl
              refine pure_ (i := 2) (N := some 27) (v := ?_) (a' := ?_) #[true, false, true, false, false, false, false, false, false, false, false, false, false, false, false, false] rfl rfl (any_of HT_.out (by kernel_rfl)) (fun _ _ _ h => h) (Or.inl ⟨by rfl, ?_⟩) ?_ ?_
              rotate_left
              · intro w'
                go_simp
                with_reducible rfl
              rotate_left
              · simp only [Act.put, List.setIfInBounds_toArray, List.set_cons_zero, List.set_cons_succ, i64_w, i32_w]
                rfl
              refine pure_ (i := 3) (N := some 28) (v := ?_) (a' := ?_) #[true, false, true, true, false, false, false, false, false, false, false, false, false, false, false, false] rfl rfl (any_of HT_.out (by kernel_rfl)) (fun _ _ _ h => h) (Or.inl ⟨by rfl, ?_⟩) ?_ ?_
              rotate_left
              · intro w'
                go_simp
                with_reducible rfl
              rotate_left
              · simp only [Act.put, List.setIfInBounds_toArray, List.set_cons_zero, List.set_cons_succ, i64_w, i32_w]
                rfl
              refine pure_ (i := 5) (N := some 30) (v := ?_) (a' := ?_) #[true, false, true, true, false, true, false, false, false, false, false, false, false, false, false, false] rfl rfl (any_of HT_.out (by kernel_rfl)) (fun _ _ _ h => h) (Or.inl ⟨by rfl, ?_⟩) ?_ ?_
              rotate_left
              · intro w'
                go_simp
                with_reducible rfl
              rotate_left
              · simp only [Act.put, List.setIfInBounds_toArray, List.set_cons_zero, List.set_cons_succ, i64_w, i32_w]
                rfl
              refine pure_ (i := 6) (N := some 31) (v := ?_) (a' := ?_) #[true, false, true, true, false, true, true, false, false, false, false, false, false, false, false, false] rfl rfl (any_of HT_.out (by kernel_rfl)) (fun _ _ _ h => h) (Or.inl ⟨by rfl, ?_⟩) ?_ ?_
              rotate_left
              · intro w'
                go_simp
                with_reducible rfl
              rotate_left
              · simp only [Act.put, List.setIfInBounds_toArray, List.set_cons_zero, List.set_cons_succ, i64_w, i32_w]
                rfl
              refine pure_ (i := 8) (N := some 33) (v := ?_) (a' := ?_) #[true, false, true, true, false, true, true, false, true, false, false, false, false, false, false, false] rfl rfl (any_of HT_.out (by kernel_rfl)) (fun _ _ _ h => h) (Or.inl ⟨by rfl, ?_⟩) ?_ ?_
              rotate_left
              · intro w'
                go_simp
                with_reducible rfl
              rotate_left
              · simp only [Act.put, List.setIfInBounds_toArray, List.set_cons_zero, List.set_cons_succ, i64_w, i32_w]
                rfl
              refine take_ (i := 1) (N := some 26) (v := ?_) (a' := ?_) #[true, true, true, true, false, true, true, false, true, false, false, false, false, false, false, false] rfl rfl (take_ofW HT_.out HW_.out (by kernel_rfl)) (fun _ _ _ h => h) (Or.inl ⟨by rfl, ?_⟩) hHeld ?_ ?_
              rotate_left
              · rintro w' ⟨s0, s1, s2, s3, s4, s5, s6, s7⟩
                go_simp
                with_reducible rfl
              rotate_left
              · simp only [Act.put, List.setIfInBounds_toArray, List.set_cons_zero, List.set_cons_succ, i64_w, i32_w]
                rfl
              refine take_ (i := 4) (N := some 29) (v := ?_) (a' := ?_) #[true, true, true, true, true, true, true, false, true, false, false, false, false, false, false, false] rfl rfl (take_ofW HT_.out HW_.out (by kernel_rfl)) (fun _ _ _ h => h) (Or.inl ⟨by rfl, ?_⟩) hHeld ?_ ?_
              rotate_left
              · rintro w' ⟨s0, s1, s2, s3, s4, s5, s6, s7⟩
                go_simp
                with_reducible rfl
              rotate_left
              · simp only [Act.put, List.setIfInBounds_toArray, List.set_cons_zero, List.set_cons_succ, i64_w, i32_w]
                rfl
              refine take_ (i := 7) (N := some 32) (v := ?_) (a' := ?_) #[true, true, true, true, true, true, true, true, true, false, false, false, false, false, false, false] rfl rfl (take_ofW HT_.out HW_.out (by kernel_rfl)) (fun _ _ _ h => h) (Or.inl ⟨by rfl, ?_⟩) hHeld ?_ ?_
              rotate_left
              · rintro w' ⟨s0, s1, s2, s3, s4, s5, s6, s7⟩
                go_simp
                with_reducible rfl
              rotate_left
              · simp only [Act.put, List.setIfInBounds_toArray, List.set_cons_zero, List.set_cons_succ, i64_w, i32_w]
                rfl
              refine pure_ (i := 10) (N := some 35) (v := ?_) (a' := ?_) #[true, true, true, true, true, true, true, true, true, false, true, false, false, false, false, false] rfl rfl (any_of HT_.out (by kernel_rfl)) (fun _ _ _ h => h) (Or.inl ⟨by rfl, ?_⟩) ?_ ?_
              rotate_left
              · intro w'
                go_simp
                with_reducible rfl
              rotate_left
              · simp only [Act.put, List.setIfInBounds_toArray, List.set_cons_zero, List.set_cons_succ, i64_w, i32_w]
                rfl
              refine pure_ (i := 11) (N := some 36) (v := ?_) (a' := ?_) #[true, true, true, true, true, true, true, true, true, false, true, true, false, false, false, false] rfl rfl (any_of HT_.out (by kernel_rfl)) (fun _ _ _ h => h) (Or.inl ⟨by rfl, ?_⟩) ?_ ?_
              rotate_left
              · intro w'
                go_simp
                with_reducible rfl
              rotate_left
              · simp only [Act.put, List.setIfInBounds_toArray, List.set_cons_zero, List.set_cons_succ, i64_w, i32_w]
                rfl
              refine take_ (i := 9) (N := some 34) (v := ?_) (a' := ?_) #[true, true, true, true, true, true, true, true, true, true, true, true, false, false, false, false] rfl rfl (take_ofW HT_.out HW_.out (by kernel_rfl)) (fun _ _ _ h => h) (Or.inl ⟨by rfl, ?_⟩) hHeld ?_ ?_
              rotate_left
              · rintro w' ⟨s0, s1, s2, s3, s4, s5, s6, s7⟩
                go_simp
                with_reducible rfl
              rotate_left
              · simp only [Act.put, List.setIfInBounds_toArray, List.set_cons_zero, List.set_cons_succ, i64_w, i32_w]
                rfl
              refine one_ (i := 12) (N := none) #[true, true, true, true, true, true, true, true, true, true, true, true, true, false, false, false] rfl rfl (one_of HT_.out (by kernel_rfl)) (by decide) (fun K hK => ?_)
              refine skip_ (w1 := ?_) (by rfl) rfl ?_ ?_
              rotate_left
              · go_simp
                rfl
              refine hK.out _ _ ⟨((cell_far (p := ⟨go17, _, none⟩) (show gb104 ≠ go17 from (by have h_ := Kd.R_ne HO_105002.out BK104.out (by decide); intro e_; exact h_ (by rw [e_]; rfl))) _).trans (hHeld.1)), ((cell_far (p := ⟨go17, _, none⟩) (show gb104 ≠ go17 from (by have h_ := Kd.R_ne HO_105002.out BK104.out (by decide); intro e_; exact h_ (by rw [e_]; rfl))) _).trans (hHeld.2.1)), ((cell_far (p := ⟨go17, _, none⟩) (show gb104 ≠ go17 from (by have h_ := Kd.R_ne HO_105002.out BK104.out (by decide); intro e_; exact h_ (by rw [e_]; rfl))) _).trans (hHeld.2.2.1)), ((cell_far (p := ⟨go17, _, none⟩) (show gb104 ≠ go17 from (by have h_ := Kd.R_ne HO_105002.out BK104.out (by decide); intro e_; exact h_ (by rw [e_]; rfl))) _).trans (hHeld.2.2.2.1)), ((cell_far (p := ⟨go17, _, none⟩) (show gb104 ≠ go17 from (by have h_ := Kd.R_ne HO_105002.out BK104.out (by decide); intro e_; exact h_ (by rw [e_]; rfl))) _).trans (hHeld.2.2.2.2.1)), ((cell_far (p := ⟨go17, _, none⟩) (show gb111 ≠ go17 from (by have h_ := Kd.R_away HO_105002.out (fun _ hk => hk); intro e_; exact h_ (by rw [e_]; rfl))) _).trans (hHeld.2.2.2.2.2.1)), ((cell_far (p := ⟨go17, _, none⟩) (show gb111 ≠ go17 from (by have h_ := Kd.R_away HO_105002.out (fun _ hk => hk); intro e_; exact h_ (by rw [e_]; rfl))) _).trans (hHeld.2.2.2.2.2.2.1)), ((cell_far (p := ⟨go17, _, none⟩) (show gb111 ≠ go17 from (by have h_ := Kd.R_away HO_105002.out (fun _ hk => hk); intro e_; exact h_ (by rw [e_]; rfl))) _).trans (hHeld.2.2.2.2.2.2.2))⟩ (fun hHeld => ?_)
              clear hK K
              refine pure_ (i := 13) (N := some 37) (v := ?_) (a' := ?_) #[true, true, true, true, true, true, true, true, true, true, true, true, true, true, false, false] rfl rfl (any_of HT_.out (by kernel_rfl)) (fun _ _ _ h => h) (Or.inl ⟨by rfl, ?_⟩) ?_ ?_
              rotate_left
              · intro w'
                go_simp
                with_reducible rfl
              rotate_left
              · simp only [Act.put, List.setIfInBounds_toArray, List.set_cons_zero, List.set_cons_succ, i64_w, i32_w]
                rfl
              refine pure_ (i := 14) (N := some 38) (v := ?_) (a' := ?_) #[true, true, true, true, true, true, true, true, true, true, true, true, true, true, true, false] rfl rfl (any_of HT_.out (by kernel_rfl)) (fun _ _ _ h => h) (Or.inl ⟨by rfl, ?_⟩) ?_ ?_
              rotate_left
              · intro w'
                go_simp
                with_reducible rfl
              rotate_left
              · simp only [Act.put, List.setIfInBounds_toArray, List.set_cons_zero, List.set_cons_succ, i64_w, i32_w]
                rfl
              refine one_ (i := 15) (N := none) #[true, true, true, true, true, true, true, true, true, true, true, true, true, true, true, true] rfl rfl (one_of HT_.out (by kernel_rfl)) (by decide) (fun K hK => ?_)
              refine skip_ (w1 := ?_) (by rfl) rfl ?_ ?_
              rotate_left
              · go_simp
                rfl
              refine hK.out _ _ ⟨((cell_far (p := ⟨go17, _, none⟩) (show gb104 ≠ go17 from (by have h_ := Kd.R_ne HO_105002.out BK104.out (by decide); intro e_; exact h_ (by rw [e_]; rfl))) _).trans (hHeld.1)), ((cell_far (p := ⟨go17, _, none⟩) (show gb104 ≠ go17 from (by have h_ := Kd.R_ne HO_105002.out BK104.out (by decide); intro e_; exact h_ (by rw [e_]; rfl))) _).trans (hHeld.2.1)), ((cell_far (p := ⟨go17, _, none⟩) (show gb104 ≠ go17 from (by have h_ := Kd.R_ne HO_105002.out BK104.out (by decide); intro e_; exact h_ (by rw [e_]; rfl))) _).trans (hHeld.2.2.1)), ((cell_far (p := ⟨go17, _, none⟩) (show gb104 ≠ go17 from (by have h_ := Kd.R_ne HO_105002.out BK104.out (by decide); intro e_; exact h_ (by rw [e_]; rfl))) _).trans (hHeld.2.2.2.1)), ((cell_far (p := ⟨go17, _, none⟩) (show gb104 ≠ go17 from (by have h_ := Kd.R_ne HO_105002.out BK104.out (by decide); intro e_; exact h_ (by rw [e_]; rfl))) _).trans (hHeld.2.2.2.2.1)), ((cell_far (p := ⟨go17, _, none⟩) (show gb111 ≠ go17 from (by have h_ := Kd.R_away HO_105002.out (fun _ hk => hk); intro e_; exact h_ (by rw [e_]; rfl))) _).trans (hHeld.2.2.2.2.2.1)), ((cell_far (p := ⟨go17, _, none⟩) (show gb111 ≠ go17 from (by have h_ := Kd.R_away HO_105002.out (fun _ hk => hk); intro e_; exact h_ (by rw [e_]; rfl))) _).trans (hHeld.2.2.2.2.2.2.1)), ((cell_far (p := ⟨go17, _, none⟩) (show gb111 ≠ go17 from (by have h_ := Kd.R_away HO_105002.out (fun _ hk => hk); intro e_; exact h_ (by rw [e_]; rfl))) _).trans (hHeld.2.2.2.2.2.2.2))⟩ (fun hHeld => ?_)
              clear hK K
              refine done_ (done_of HT_.out (by kernel_rfl)) ?_
              try go_wp2
              (try simp only [← hl105002_1])
              go_roundg k1
              case measure => have := HK1.out; omega
              case rel => exact ⟨(wrap64 (x20_1 + 1)), (y113), (by first | rfl | (simp; done) | (simp [*]; done)), H', ⟨by have := HK1.out; omega⟩, ⟨by (try simp only [hl105002_1]); (with_reducible repeat (first | apply Kd.R_alloc | apply Kd.R_drewN | apply Kd.R_drew)); exact Kd.R_mono HQ26.out (fun _ hk => trivial)⟩, ⟨by (try simp only [hl105002_1]); (with_reducible repeat (first | refine blk_drewN ?_ _ | refine blk_drew ?_ | refine blk_alloc ?_ _)); refine blk_far ?_ (by have h_ := Kd.R_ne HO_105002.out BK104.out (by decide); intro e_; exact h_ (by rw [e_]; rfl)) _; (with_reducible repeat (first | refine blk_drewN ?_ _ | refine blk_drew ?_ | refine blk_alloc ?_ _)); refine blk_far ?_ (by have h_ := Kd.R_ne HO_105002.out BK104.out (by decide); intro e_; exact h_ (by rw [e_]; rfl)) _; (with_reducible repeat (first | refine blk_drewN ?_ _ | refine blk_drew ?_ | refine blk_alloc ?_ _)); exact BK104.out⟩, ⟨by (try simp only [hl105002_1]); (with_reducible repeat (first | refine blk_drewN ?_ _ | refine blk_drew ?_ | refine blk_alloc ?_ _)); refine blk_far ?_ (by have h_ := Kd.R_ne HO_105002.out BK105.out (by decide); intro e_; exact h_ (by rw [e_]; rfl)) _; (with_reducible repeat (first | refine blk_drewN ?_ _ | refine blk_drew ?_ | refine blk_alloc ?_ _)); refine blk_far ?_ (by have h_ := Kd.R_ne HO_105002.out BK105.out (by decide); intro e_; exact h_ (by rw [e_]; rfl)) _; (with_reducible repeat (first | refine blk_drewN ?_ _ | refine blk_drew ?_ | refine blk_alloc ?_ _)); exact BK105.out⟩, ⟨by repeat (first | (with_reducible first | exact HB.out | apply below_alloc | apply pw_below_drewN | apply below_drew1 | refine below_set ?_ GB17.out | refine below_set ?_ GB17.out | refine below_set ?_ GE104.out | refine below_set ?_ GE105.out | refine below_set ?_ GE111.out) | exact HB.out)⟩⟩
            · rw [if_neg c16] at H
              exact absurd H (by simp)
          · rw [if_neg c15] at H
            exact absurd H (by simp)
        · rw [if_neg c14] at H
          have c14b0 : decide (x20_1 < (t107.length : Int)) = false := decide_eq_false c14
          (try (have c14b0h := c14b0; simp only [hl105002_1] at c14b0h))
          clear c14
          simp only [Option.some.injEq, Prod.mk.injEq] at H
          obtain ⟨rfl, rfl, rfl, rfl, rfl, rfl⟩ := H
          have hnb27 := NB104_105.out
          have hnc27 := NB105_104.out
          have hcz28_0 : wr.cell? ⟨gb104, 0, none⟩ = some (.int .i64 a0_0) := (blk_cell BK104.out 0).trans rfl
          have hcz28_1 : wr.cell? ⟨gb104, 1, none⟩ = some (.int .i64 a0_1) := (blk_cell BK104.out 1).trans rfl
          have hcz28_2 : wr.cell? ⟨gb104, 2, none⟩ = some (.slice Ao12 x105002_1.length co12) := (blk_cell BK104.out 2).trans rfl
          have hcz28_3 : wr.cell? ⟨gb104, 3, none⟩ = some (.int .u32 a0_3) := (blk_cell BK104.out 3).trans rfl
          have hcz28_4 : wr.cell? ⟨gb104, 4, none⟩ = some (.int .u32 a0_4) := (blk_cell BK104.out 4).trans rfl
          have hfz28_0 := blk_frozen BK104.out 0
          have hfz28_1 := blk_frozen BK104.out 1
          have hfz28_2 := blk_frozen BK104.out 2
          have hfz28_3 := blk_frozen BK104.out 3
          have hfz28_4 := blk_frozen BK104.out 4
          have hcz29_0 : wr.cell? ⟨gb105, 0, none⟩ = some (.int .i64 0) := (blk_cell BK105.out 0).trans rfl
          have hcz29_1 : wr.cell? ⟨gb105, 1, none⟩ = some (.int .i64 0) := (blk_cell BK105.out 1).trans rfl
          have hcz29_2 : wr.cell? ⟨gb105, 2, none⟩ = some (.slice none 0 0) := (blk_cell BK105.out 2).trans rfl
          have hcz29_3 : wr.cell? ⟨gb105, 3, none⟩ = some (.int .u32 0) := (blk_cell BK105.out 3).trans rfl
          have hcz29_4 : wr.cell? ⟨gb105, 4, none⟩ = some (.int .u32 0) := (blk_cell BK105.out 4).trans rfl
          have hfz29_0 := blk_frozen BK105.out 0
          have hfz29_1 := blk_frozen BK105.out 1
          have hfz29_2 := blk_frozen BK105.out 2
          have hfz29_3 := blk_frozen BK105.out 3
          have hfz29_4 := blk_frozen BK105.out 4
          go_wp2
          refine bodyPost_ret (results_ct rfl _ _ gb105 25 #[.int .i64 a0_0, .int .i64 a0_1, .slice Ao12 x105002_1.length co12, .int .u32 a0_4, .int .u32 a0_3] (0, 0) _ rfl (by (with_reducible repeat (first | refine blk_drewN ?_ _ | refine blk_drew ?_ | refine blk_alloc ?_ _)); refine blk_put (cs := #[.int .i64 a0_0, .int .i64 a0_1, .slice Ao12 x105002_1.length co12, .int .u32 a0_4, .int .u32 0]) ?_ 4 _ rfl; (with_reducible repeat (first | refine blk_drewN ?_ _ | refine blk_drew ?_ | refine blk_alloc ?_ _)); refine blk_put (cs := #[.int .i64 a0_0, .int .i64 a0_1, .slice Ao12 x105002_1.length co12, .int .u32 0, .int .u32 0]) ?_ 3 _ rfl; (with_reducible repeat (first | refine blk_drewN ?_ _ | refine blk_drew ?_ | refine blk_alloc ?_ _)); refine blk_put (cs := #[.int .i64 a0_0, .int .i64 a0_1, .slice none 0 0, .int .u32 0, .int .u32 0]) ?_ 2 _ rfl; (with_reducible repeat (first | refine blk_drewN ?_ _ | refine blk_drew ?_ | refine blk_alloc ?_ _)); refine blk_put (cs := #[.int .i64 a0_0, .int .i64 0, .slice none 0 0, .int .u32 0, .int .u32 0]) ?_ 1 _ rfl; (with_reducible repeat (first | refine blk_drewN ?_ _ | refine blk_drew ?_ | refine blk_alloc ?_ _)); refine blk_put (cs := #[.int .i64 0, .int .i64 0, .slice none 0 0, .int .u32 0, .int .u32 0]) ?_ 0 _ rfl; (with_reducible repeat (first | refine blk_drewN ?_ _ | refine blk_drew ?_ | refine blk_alloc ?_ _)); refine blk_far ?_ NB105_104.out _; (with_reducible repeat (first | refine blk_drewN ?_ _ | refine blk_drew ?_ | refine blk_alloc ?_ _)); refine blk_far ?_ NB105_104.out _; (with_reducible repeat (first | refine blk_drewN ?_ _ | refine blk_drew ?_ | refine blk_alloc ?_ _)); exact BK105.out) Try.underlying25 rfl (by kernel_rfl)) rfl ?_
          exact ⟨_, by first | rfl | (simp [errW_none, errW_some] <;> rfl) | (simp [*, errW_none, errW_some] <;> rfl), by (with_reducible repeat (first | apply Kd.R_alloc | apply Kd.R_drewN | apply Kd.R_drew)); exact Kd.R_mono (Kd.R_far (p := ⟨gb105, 4, none⟩) (Kd.R_far (p := ⟨gb105, 3, none⟩) (Kd.R_far (p := ⟨gb105, 2, none⟩) (Kd.R_far (p := ⟨gb105, 1, none⟩) (Kd.R_far (p := ⟨gb105, 0, none⟩) (Kd.R_far (p := ⟨gb104, 4, none⟩) (Kd.R_far (p := ⟨gb104, 3, none⟩) (Kd.R_types (Kd.R_types HO_105002.out BK104.out (by decide)) BK105.out (by decide)) (fun _ hk => hk.1.2) (.int .u32 a0_4)) (fun _ hk => hk.1.2) (.int .u32 a0_3)) (fun _ hk => hk.2) (.int .i64 a0_0)) (fun _ hk => hk.2) (.int .i64 a0_1)) (fun _ hk => hk.2) (.slice Ao12 x105002_1.length co12)) (fun _ hk => hk.2) (.int .u32 a0_4)) (fun _ hk => hk.2) (.int .u32 a0_3)) (fun _ hk => trivial), by repeat (first | (with_reducible first | exact HB.out | apply below_alloc | apply pw_below_drewN | apply below_drew1 | refine below_set ?_ GE104.out | refine below_set ?_ GE105.out) | exact HB.out)⟩
  · rw [if_neg c3] at H
    have c3b0 : (t106 == 0) = false := beq_eq_false_iff_ne.mpr c3
    have c3b1 : (t106 != 0) = true := bne_iff_ne.mpr c3
    simp only [Option.some.injEq, Prod.mk.injEq] at H
    obtain ⟨rfl, rfl, rfl, rfl, rfl, rfl⟩ := H
    go_enter Try.func15, Try.ntmps15
    go_wp2_with (first | ((with_reducible refine gate_dst (N := 1) rfl ?_); refine box_event ?hg (N := 1) ?hd (cs := #[.int .i64 a0_0, .int .i64 a0_1, .slice A0_2 l0_2.length c0_2, .int .u32 a0_3, .int .u32 a0_4]) (t := 25) ?hr ?_; (case hd => rfl); (case hg => rfl); (case hr => first | (go_simp; done) | (go_simp; rfl)); intro gb104 hg w30 hbox hb; have n0_ := Aside0.mk (below_step (by repeat (first | (with_reducible first | exact HB.out | apply below_alloc | apply pw_below_drewN | apply below_drew1) | exact HB.out)) hb); have n1_ := Aside0.mk (hbox); have n2_ := Aside0.mk ((by rw [hg]; exact (below_size (by repeat (first | (with_reducible first | exact HB.out | apply below_alloc | apply pw_below_drewN | apply below_drew1) | exact HB.out))) : w.heap.size ≤ gb104)); have n3_ := Aside0.mk ((by rw [hg]; exact (below_size (by repeat (first | (with_reducible first | exact HB.out | apply below_alloc | apply pw_below_drewN | apply below_drew1) | exact HB.out))) : w.heap.size ≤ gb104)); clear HB; have HB := n0_; have BK104 := n1_; have GW104 := n2_; have GE104 := n3_; clear n0_ n1_ n2_ n3_; clear hb hbox hg) | ((with_reducible refine gate_dst (N := 2) rfl ?_); refine box_event ?hg (N := 2) ?hd (cs := #[.int .i64 0, .int .i64 0, .slice none 0 0, .int .u32 0, .int .u32 0]) (t := 25) ?hr ?_; (case hd => rfl); (case hg => rfl); (case hr => first | (go_simp; done) | (go_simp; rfl)); intro gb105 hg w31 hbox hb; have n0_ := Aside0.mk (blk_below (g := gb104) (o := .cells #[.int .i64 a0_0, .int .i64 a0_1, .slice A0_2 l0_2.length c0_2, .int .u32 a0_3, .int .u32 a0_4] 25 (0, 0)) (by (with_reducible repeat (first | refine blk_drewN ?_ _ | refine blk_drew ?_ | refine blk_alloc ?_ _)); exact BK104.out) hb); have n1_ := Aside0.mk (below_step (by repeat (first | (with_reducible first | exact HB.out | apply below_alloc | apply pw_below_drewN | apply below_drew1 | refine below_set ?_ GE104.out) | exact HB.out)) hb); have n2_ := Aside0.mk (hbox); have n3_ := Aside0.mk ((by rw [hg]; exact (below_size (by repeat (first | (with_reducible first | exact HB.out | apply below_alloc | apply pw_below_drewN | apply below_drew1 | refine below_set ?_ GE104.out) | exact HB.out))) : w.heap.size ≤ gb105)); have n4_ := Aside0.mk ((by rw [hg]; exact (below_size (by repeat (first | (with_reducible first | exact HB.out | apply below_alloc | apply pw_below_drewN | apply below_drew1 | refine below_set ?_ GE104.out) | exact HB.out))) : w.heap.size ≤ gb105)); have n5_ := Aside0.mk ((by rw [hg]; exact Nat.ne_of_lt (blk_lt (g := gb104) (o := .cells #[.int .i64 a0_0, .int .i64 a0_1, .slice A0_2 l0_2.length c0_2, .int .u32 a0_3, .int .u32 a0_4] 25 (0, 0)) (by (with_reducible repeat (first | refine blk_drewN ?_ _ | refine blk_drew ?_ | refine blk_alloc ?_ _)); exact BK104.out)) : gb104 ≠ gb105)); have n6_ := Aside0.mk ((by rw [hg]; exact Nat.ne_of_gt (blk_lt (g := gb104) (o := .cells #[.int .i64 a0_0, .int .i64 a0_1, .slice A0_2 l0_2.length c0_2, .int .u32 a0_3, .int .u32 a0_4] 25 (0, 0)) (by (with_reducible repeat (first | refine blk_drewN ?_ _ | refine blk_drew ?_ | refine blk_alloc ?_ _)); exact BK104.out)) : gb105 ≠ gb104)); clear BK104; clear HB; have BK104 := n0_; have HB := n1_; have BK105 := n2_; have GW105 := n3_; have GE105 := n4_; have NB104_105 := n5_; have NB105_104 := n6_; clear n0_ n1_ n2_ n3_ n4_ n5_ n6_; clear hb hbox hg; have hnb32 := NB104_105.out; have hnc32 := NB105_104.out; have hcz33_0 : w31.cell? ⟨gb104, 0, none⟩ = some (.int .i64 a0_0) := (blk_cell BK104.out 0).trans rfl; have hcz33_1 : w31.cell? ⟨gb104, 1, none⟩ = some (.int .i64 a0_1) := (blk_cell BK104.out 1).trans rfl; have hcz33_2 : w31.cell? ⟨gb104, 2, none⟩ = some (.slice A0_2 l0_2.length c0_2) := (blk_cell BK104.out 2).trans rfl; have hcz33_3 : w31.cell? ⟨gb104, 3, none⟩ = some (.int .u32 a0_3) := (blk_cell BK104.out 3).trans rfl; have hcz33_4 : w31.cell? ⟨gb104, 4, none⟩ = some (.int .u32 a0_4) := (blk_cell BK104.out 4).trans rfl; have hfz33_0 := blk_frozen BK104.out 0; have hfz33_1 := blk_frozen BK104.out 1; have hfz33_2 := blk_frozen BK104.out 2; have hfz33_3 := blk_frozen BK104.out 3; have hfz33_4 := blk_frozen BK104.out 4) | ((with_reducible refine gate_callee (f := 44) rfl ?_); refine goesL_ (some 8) rfl rfl Try.func44 (by kernel_rfl) rfl #[.agg #[.int .i64 a0_0, .int .i64 a0_1, .slice A0_2 l0_2.length c0_2, .int .u32 a0_3, .int .u32 a0_4]] rfl (by (try simp only [List.map_toArray, List.map_cons, List.map_nil]); first | done | rfl | (simp only [List.length_drop, List.length_take]; rfl)) ?_; (with_reducible refine (net_Check.calls k a0_0 a0_1 _ _ l0_2 a0_3 a0_4 t106 _ ?side1 ?side2 A2.out).mono ?_); (case side1 => repeat (first | exact (Kd.C_below HR0_2.out HB.out) | (with_reducible refine Kd.C_alloc ?_ _) | (with_reducible refine Kd.C_drewN ?_ _) | (with_reducible refine Kd.C_drew ?_))); (case side2 => exact HC0_2.out); rintro e w34 ⟨rfl, hb⟩; refine ⟨_, rfl, ?_⟩; have n0_ := Aside0.mk (blk_below (g := gb104) (o := .cells #[.int .i64 a0_0, .int .i64 a0_1, .slice A0_2 l0_2.length c0_2, .int .u32 a0_3, .int .u32 a0_4] 25 (0, 0)) (by (with_reducible repeat (first | refine blk_drewN ?_ _ | refine blk_drew ?_ | refine blk_alloc ?_ _)); exact BK104.out) hb); have n1_ := Aside0.mk (blk_below (g := gb105) (o := .cells #[.int .i64 0, .int .i64 0, .slice none 0 0, .int .u32 0, .int .u32 0] 25 (0, 0)) (by (with_reducible repeat (first | refine blk_drewN ?_ _ | refine blk_drew ?_ | refine blk_alloc ?_ _)); exact BK105.out) hb); have n2_ := Aside0.mk (below_step (by repeat (first | (with_reducible first | exact HB.out | apply below_alloc | apply pw_below_drewN | apply below_drew1 | refine below_set ?_ GE104.out | refine below_set ?_ GE105.out) | exact HB.out)) hb); clear BK104; clear BK105; clear HB; have BK104 := n0_; have BK105 := n1_; have HB := n2_; clear n0_ n1_ n2_; (try clear hb); (try clear hb2); (try clear hk); (try clear hi); have hcz35_0 : w34.cell? ⟨gb105, 0, none⟩ = some (.int .i64 0) := (blk_cell BK105.out 0).trans rfl; have hcz35_1 : w34.cell? ⟨gb105, 1, none⟩ = some (.int .i64 0) := (blk_cell BK105.out 1).trans rfl; have hcz35_2 : w34.cell? ⟨gb105, 2, none⟩ = some (.slice none 0 0) := (blk_cell BK105.out 2).trans rfl; have hcz35_3 : w34.cell? ⟨gb105, 3, none⟩ = some (.int .u32 0) := (blk_cell BK105.out 3).trans rfl; have hcz35_4 : w34.cell? ⟨gb105, 4, none⟩ = some (.int .u32 0) := (blk_cell BK105.out 4).trans rfl; have hfz35_0 := blk_frozen BK105.out 0; have hfz35_1 := blk_frozen BK105.out 1; have hfz35_2 := blk_frozen BK105.out 2; have hfz35_3 := blk_frozen BK105.out 3; have hfz35_4 := blk_frozen BK105.out 4))
    refine bodyPost_ret (results_ct rfl _ _ gb105 25 #[.int .i64 0, .int .i64 0, .slice none 0 0, .int .u32 0, .int .u32 0] (0, 0) _ rfl (by (with_reducible repeat (first | refine blk_drewN ?_ _ | refine blk_drew ?_ | refine blk_alloc ?_ _)); refine blk_put (cs := #[.int .i64 0, .int .i64 0, .slice none 0 0, .int .u32 0, .int .u32 0]) ?_ 4 _ rfl; (with_reducible repeat (first | refine blk_drewN ?_ _ | refine blk_drew ?_ | refine blk_alloc ?_ _)); refine blk_put (cs := #[.int .i64 0, .int .i64 0, .slice none 0 0, .int .u32 0, .int .u32 0]) ?_ 3 _ rfl; (with_reducible repeat (first | refine blk_drewN ?_ _ | refine blk_drew ?_ | refine blk_alloc ?_ _)); refine blk_put (cs := #[.int .i64 0, .int .i64 0, .slice none 0 0, .int .u32 0, .int .u32 0]) ?_ 2 _ rfl; (with_reducible repeat (first | refine blk_drewN ?_ _ | refine blk_drew ?_ | refine blk_alloc ?_ _)); refine blk_put (cs := #[.int .i64 0, .int .i64 0, .slice none 0 0, .int .u32 0, .int .u32 0]) ?_ 1 _ rfl; (with_reducible repeat (first | refine blk_drewN ?_ _ | refine blk_drew ?_ | refine blk_alloc ?_ _)); refine blk_put (cs := #[.int .i64 0, .int .i64 0, .slice none 0 0, .int .u32 0, .int .u32 0]) ?_ 0 _ rfl; (with_reducible repeat (first | refine blk_drewN ?_ _ | refine blk_drew ?_ | refine blk_alloc ?_ _)); exact BK105.out) Try.underlying25 rfl (by kernel_rfl)) rfl ?_
    exact ⟨_, by first | rfl | (simp [errW_none, errW_some] <;> rfl) | (simp [*, errW_none, errW_some] <;> rfl), by first | exact Kd.R_nil _ _ _ _ _ | exact Kd.N_nil _ _ _ _ _ | exact Kd.V_nil _ _ _ _ _ | exact Kd.Q_nil _ _ _ _ _ | exact Kd.S_nil _ _ _ _ _ | (go_simp; exact Kd.R_nil _ _ _ _ _), by repeat (first | (with_reducible first | exact HB.out | apply below_alloc | apply pw_below_drewN | apply below_drew1 | refine below_set ?_ GE104.out | refine below_set ?_ GE105.out) | exact HB.out)⟩

end Go.Proofs.Ytidjihmlkaeemaa.PNetBacks
