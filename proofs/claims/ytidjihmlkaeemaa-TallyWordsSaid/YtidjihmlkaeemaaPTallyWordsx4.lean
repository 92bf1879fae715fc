-- Written by a program of this session: a turn of the print kit's own.
import Derived.Test.YtidjihmlkaeemaaPTallyWordsx0
import Derived.Test.YtidjihmlkaeemaaPTallyWordsx1
namespace Go.Proofs.Ytidjihmlkaeemaa.PTallyWords
open Go.RowKit Go.Proofs.YtidjihmlkaeemaaW.PrintWords Go.Proofs.YtidjihmlkaeemaaW.PrintLast Go.Proofs.YtidjihmlkaeemaaW.PrintMore
attribute [local go_sem] max2_int min2_int max_two min_two max_three min_three max_four min_four   -- for this text's walks alone
set_option linter.unusedVariables false
set_option linter.unusedSimpArgs false

/-! ### coppicerref_Many: function 36 -/
mutual
def coppicerref_Many.l0 : Nat → Int → List Int → Int → Int → Int → List (List Int) → Int → Int → Option (Int)
  | 0, _, _, _, _, _, _, _, _ => none
  | k + 1, x2, x7, x8, x116000, x116001, x116002, x116003, x116004 => if x8 < x2 then (if 0 ≤ x116000 then (if (x116000 : Int).toNat ≤ 35184372088832 then (coppicerref_Many.l1 k x2 x7 x8 (List.replicate (x116000 : Int).toNat 0) 0 x116000 x116001 x116002 x116003 x116004) else (none)) else (none)) else (coppicerref_Many.l3 k x7 0 0 x116000 x116001 x116002 x116003 x116004)
def coppicerref_Many.l1 : Nat → Int → List Int → Int → List Int → Int → Int → Int → List (List Int) → Int → Int → Option (Int)
  | 0, _, _, _, _, _, _, _, _, _, _ => none
  | k + 1, x2, x7, x8, x9, x10, x116000, x116001, x116002, x116003, x116004 => if x10 < x116000 then (coppicerref_Many.l2 k x2 x7 x8 x9 x10 0 x116000 x116001 x116002 x116003 x116004) else (coppicerref_Many.l0 k x2 x9 (wrap64 (x8 + 1)) x116000 x116001 x116002 x116003 x116004)
def coppicerref_Many.l2 : Nat → Int → List Int → Int → List Int → Int → Int → Int → Int → List (List Int) → Int → Int → Option (Int)
  | 0, _, _, _, _, _, _, _, _, _, _, _ => none
  | k + 1, x2, x7, x8, x9, x10, x11, x116000, x116001, x116002, x116003, x116004 => if x11 < x116001 then (if 0 ≤ x10 then (if x10 < (x116002.length : Int) then (if 0 ≤ x11 then (if x11 < ((rd_L1 x116002 x10).length : Int) then (if 0 ≤ (rd (rd_L1 x116002 x10) x11) then (if (rd (rd_L1 x116002 x10) x11) < (x9.length : Int) then (if x10 < (x7.length : Int) then (coppicerref_Many.l2 k x2 x7 x8 (x9.set ((rd (rd_L1 x116002 x10) x11) : Int).toNat (wrap64 ((rd x9 (rd (rd_L1 x116002 x10) x11)) + (rd x7 x10)))) x10 (wrap64 (x11 + 1)) x116000 x116001 x116002 x116003 x116004) else (none)) else (none)) else (none)) else (none)) else (none)) else (none)) else (none)) else (coppicerref_Many.l1 k x2 x7 x8 x9 (wrap64 (x10 + 1)) x116000 x116001 x116002 x116003 x116004)
def coppicerref_Many.l3 : Nat → List Int → Int → Int → Int → Int → List (List Int) → Int → Int → Option (Int)
  | 0, _, _, _, _, _, _, _, _ => none
  | k + 1, x7, x12, x13, x116000, x116001, x116002, x116003, x116004 => if x13 < x116000 then ((coppicerref_Bit.f x116004 x13).bind fun t130 => (if t130 = true then (if 0 ≤ x13 then (if x13 < (x7.length : Int) then (coppicerref_Many.l3 k x7 (wrap64 (x12 + (rd x7 x13))) (wrap64 (x13 + 1)) x116000 x116001 x116002 x116003 x116004) else (none)) else (none)) else (coppicerref_Many.l3 k x7 x12 (wrap64 (x13 + 1)) x116000 x116001 x116002 x116003 x116004))) else (some x12)
end
def coppicerref_Many.f (k : Nat) (a0_0 : Int) (a0_1 : Int) (l0_2 : List (List Int)) (a0_3 : Int) (a0_4 : Int) (a1 : Int) (a2 : Int) : Option (Int) := if 0 ≤ a0_0 then (if (a0_0 : Int).toNat ≤ 35184372088832 then ((some (List.replicate (a0_0 : Int).toNat 0 : List Int)).bind fun y116 => (if 0 ≤ a1 then (if a1 < (y116.length : Int) then (coppicerref_Many.l0 k a2 (y116.set (a1 : Int).toNat 1) 0 a0_0 a0_1 l0_2 a0_3 a0_4) else (none)) else (none))) else (none)) else (none)
theorem coppicerref_Many.mono_l : ∀ k, (∀ y0 y1 y2 y3 y4 y5 y6 y7, LeO (coppicerref_Many.l0 k y0 y1 y2 y3 y4 y5 y6 y7) (coppicerref_Many.l0 (k + 1) y0 y1 y2 y3 y4 y5 y6 y7)) ∧ (∀ y0 y1 y2 y3 y4 y5 y6 y7 y8 y9, LeO (coppicerref_Many.l1 k y0 y1 y2 y3 y4 y5 y6 y7 y8 y9) (coppicerref_Many.l1 (k + 1) y0 y1 y2 y3 y4 y5 y6 y7 y8 y9)) ∧ (∀ y0 y1 y2 y3 y4 y5 y6 y7 y8 y9 y10, LeO (coppicerref_Many.l2 k y0 y1 y2 y3 y4 y5 y6 y7 y8 y9 y10) (coppicerref_Many.l2 (k + 1) y0 y1 y2 y3 y4 y5 y6 y7 y8 y9 y10)) ∧ (∀ y0 y1 y2 y3 y4 y5 y6 y7, LeO (coppicerref_Many.l3 k y0 y1 y2 y3 y4 y5 y6 y7) (coppicerref_Many.l3 (k + 1) y0 y1 y2 y3 y4 y5 y6 y7))
  | 0 => ⟨fun _ _ _ _ _ _ _ _ r h => by simp [coppicerref_Many.l0] at h, fun _ _ _ _ _ _ _ _ _ _ r h => by simp [coppicerref_Many.l1] at h, fun _ _ _ _ _ _ _ _ _ _ _ r h => by simp [coppicerref_Many.l2] at h, fun _ _ _ _ _ _ _ _ r h => by simp [coppicerref_Many.l3] at h⟩
  | k + 1 => by
    obtain ⟨ih0, ih1, ih2, ih3⟩ := coppicerref_Many.mono_l k
    refine ⟨?_, ?_, ?_, ?_⟩
    · intro y0 y1 y2 y3 y4 y5 y6 y7
      unfold coppicerref_Many.l0
      repeat' first
      | (with_reducible exact ih0 _ _ _ _ _ _ _ _)
      | (with_reducible exact ih1 _ _ _ _ _ _ _ _ _ _)
      | (with_reducible exact ih2 _ _ _ _ _ _ _ _ _ _ _)
      | (with_reducible exact ih3 _ _ _ _ _ _ _ _)
      | (with_reducible exact LeO.refl _)
      | (with_reducible exact LeO.none _)
      | (with_reducible refine LeO.ite ?_ ?_)
      | (with_reducible refine LeO.bind ?_ (fun _ => ?_))
      | exact ih0 _ _ _ _ _ _ _ _
      | exact ih1 _ _ _ _ _ _ _ _ _ _
      | exact ih2 _ _ _ _ _ _ _ _ _ _ _
      | exact ih3 _ _ _ _ _ _ _ _
      | exact LeO.none _
      | refine LeO.ite ?_ ?_
      | refine LeO.bind ?_ (fun _ => ?_)
    · intro y0 y1 y2 y3 y4 y5 y6 y7 y8 y9
      unfold coppicerref_Many.l1
      repeat' first
      | (with_reducible exact ih0 _ _ _ _ _ _ _ _)
      | (with_reducible exact ih1 _ _ _ _ _ _ _ _ _ _)
      | (with_reducible exact ih2 _ _ _ _ _ _ _ _ _ _ _)
      | (with_reducible exact ih3 _ _ _ _ _ _ _ _)
      | (with_reducible exact LeO.refl _)
      | (with_reducible exact LeO.none _)
      | (with_reducible refine LeO.ite ?_ ?_)
      | (with_reducible refine LeO.bind ?_ (fun _ => ?_))
      | exact ih0 _ _ _ _ _ _ _ _
      | exact ih1 _ _ _ _ _ _ _ _ _ _
      | exact ih2 _ _ _ _ _ _ _ _ _ _ _
      | exact ih3 _ _ _ _ _ _ _ _
      | exact LeO.none _
      | refine LeO.ite ?_ ?_
      | refine LeO.bind ?_ (fun _ => ?_)
    · intro y0 y1 y2 y3 y4 y5 y6 y7 y8 y9 y10
      unfold coppicerref_Many.l2
      repeat' first
      | (with_reducible exact ih0 _ _ _ _ _ _ _ _)
      | (with_reducible exact ih1 _ _ _ _ _ _ _ _ _ _)
      | (with_reducible exact ih2 _ _ _ _ _ _ _ _ _ _ _)
      | (with_reducible exact ih3 _ _ _ _ _ _ _ _)
      | (with_reducible exact LeO.refl _)
      | (with_reducible exact LeO.none _)
      | (with_reducible refine LeO.ite ?_ ?_)
      | (with_reducible refine LeO.bind ?_ (fun _ => ?_))
      | exact ih0 _ _ _ _ _ _ _ _
      | exact ih1 _ _ _ _ _ _ _ _ _ _
      | exact ih2 _ _ _ _ _ _ _ _ _ _ _
      | exact ih3 _ _ _ _ _ _ _ _
      | exact LeO.none _
      | refine LeO.ite ?_ ?_
      | refine LeO.bind ?_ (fun _ => ?_)
    · intro y0 y1 y2 y3 y4 y5 y6 y7
      unfold coppicerref_Many.l3
      repeat' first
      | (with_reducible exact ih0 _ _ _ _ _ _ _ _)
      | (with_reducible exact ih1 _ _ _ _ _ _ _ _ _ _)
      | (with_reducible exact ih2 _ _ _ _ _ _ _ _ _ _ _)
      | (with_reducible exact ih3 _ _ _ _ _ _ _ _)
      | (with_reducible exact LeO.refl _)
      | (with_reducible exact LeO.none _)
      | (with_reducible refine LeO.ite ?_ ?_)
      | (with_reducible refine LeO.bind ?_ (fun _ => ?_))
      | exact ih0 _ _ _ _ _ _ _ _
      | exact ih1 _ _ _ _ _ _ _ _ _ _
      | exact ih2 _ _ _ _ _ _ _ _ _ _ _
      | exact ih3 _ _ _ _ _ _ _ _
      | exact LeO.none _
      | refine LeO.ite ?_ ?_
      | refine LeO.bind ?_ (fun _ => ?_)
theorem coppicerref_Many.mono : ∀ a0 a1 a2 a3 a4 a5 a6 k, LeO (coppicerref_Many.f k a0 a1 a2 a3 a4 a5 a6) (coppicerref_Many.f (k + 1) a0 a1 a2 a3 a4 a5 a6) := by
  intro a0 a1 a2 a3 a4 a5 a6 k
  obtain ⟨ih0, ih1, ih2, ih3⟩ := coppicerref_Many.mono_l k
  unfold coppicerref_Many.f
  repeat' first
      | (with_reducible exact ih0 _ _ _ _ _ _ _ _)
      | (with_reducible exact ih1 _ _ _ _ _ _ _ _ _ _)
      | (with_reducible exact ih2 _ _ _ _ _ _ _ _ _ _ _)
      | (with_reducible exact ih3 _ _ _ _ _ _ _ _)
      | (with_reducible exact LeO.refl _)
      | (with_reducible exact LeO.none _)
      | (with_reducible refine LeO.ite ?_ ?_)
      | (with_reducible refine LeO.bind ?_ (fun _ => ?_))
      | exact ih0 _ _ _ _ _ _ _ _
      | exact ih1 _ _ _ _ _ _ _ _ _ _
      | exact ih2 _ _ _ _ _ _ _ _ _ _ _
      | exact ih3 _ _ _ _ _ _ _ _
      | exact LeO.none _
      | refine LeO.ite ?_ ?_
      | refine LeO.bind ?_ (fun _ => ?_)
def coppicerref_Many.T13 : Bool × List (List Nat × List Nat) := (true, [([], []), ([], []), ([1], [1]), ([], []), ([2, 3], [2, 3]), ([4], [4]), ([], []), ([5, 6], [5, 6]), ([7], [7]), ([], []), ([], []), ([10], [10]), ([], []), ([11, 12], [11, 12]), ([13], [13]), ([], []), ([14, 15], [14, 15]), ([16], [16]), ([9, 17], [9, 17]), ([18], [18]), ([], []), ([], []), ([20, 21], [20, 21]), ([22], [22]), ([19, 23], [19, 23]), ([0, 8, 0, 1, 2, 3, 4, 5, 6, 7, 8, 9, 10, 11, 12, 13, 14, 15, 16, 17, 18, 19, 20, 21, 22, 23, 24], [0, 8]), ([25, 24, 0, 1, 2, 3, 4, 5, 6, 7, 8, 9, 10, 11, 12, 13, 14, 15, 16, 17, 18, 19, 20, 21, 22, 23, 24], [24, 25])])
def coppicerref_Many.B13 : List Nat := [0, 0, 2, 0, 14, 30, 0, 126, 254, 0, 0, 1024, 0, 7168, 15360, 0, 64512, 130048, 261632, 523776, 0, 0, 3145728, 7340032, 16776704, 33554431, 67108863]
theorem coppicerref_Many.tab13 : rtab .any (opsOf Try.f36 13) = coppicerref_Many.T13 := by kernel_rfl
theorem coppicerref_Many.bits13 : waitsOk coppicerref_Many.T13.2 coppicerref_Many.B13 = true := by kernel_rfl
set_option maxHeartbeats 8000000 in
set_option maxRecDepth 100000 in
theorem coppicerref_Many.calls (k : Nat) (a0_0 : Int) (a0_1 : Int) (A0_2 : Option Addr) (c0_2 : Nat) (l0_2 : List (List Int)) (a0_3 : Int) (a0_4 : Int) (a1 : Int) (a2 : Int) (r : Int) (w : World) (hr0_2 : Kd.C (Kd.slice 3 (Kd.int .i64)) w A0_2 l0_2.length l0_2) (hc0_2 : l0_2.length ≤ c0_2) (h : coppicerref_Many.f k a0_0 a0_1 l0_2 a0_3 a0_4 a1 a2 = some r) :
    Calls Try.prog 36 #[.agg #[.int .i64 a0_0, .int .i64 a0_1, .slice A0_2 l0_2.length c0_2, .int .i64 a0_3, .int .u32 a0_4], .int .i64 a1, .int .i64 a2] w fun e w' => e = .returned (.int .i64 r) ∧ Below w.heap.size w w' := by
  have hu41 := Try.underlying41
  have HR0_2 := Aside0.mk hr0_2
  have HC0_2 := Aside0.mk hc0_2
  clear hr0_2 hc0_2
  have HB := Aside0.mk (Below.refl w.heap.size w)
  have H : (if 0 ≤ a0_0 then (if (a0_0 : Int).toNat ≤ 35184372088832 then ((some (List.replicate (a0_0 : Int).toNat 0 : List Int)).bind fun y116 => (if 0 ≤ a1 then (if a1 < (y116.length : Int) then (coppicerref_Many.l0 k a2 (y116.set (a1 : Int).toNat 1) 0 a0_0 a0_1 l0_2 a0_3 a0_4) else (none)) else (none))) else (none)) else (none)) = some r := h
  clear h
  by_cases c4 : 0 ≤ a0_0
  · rw [if_pos c4] at H
    have c4b0 := eq_true c4
    have c4b1 : decide (0 ≤ a0_0) = true := decide_eq_true c4
    clear c4
    by_cases c5 : (a0_0 : Int).toNat ≤ 35184372088832
    · rw [if_pos c5] at H
      have c5b0 := eq_true c5
      have c5b1 : decide ((a0_0 : Int).toNat ≤ 35184372088832) = true := decide_eq_true c5
      clear c5
      obtain ⟨y116, hy116⟩ : ∃ y_ : List Int, y_ = (List.replicate (a0_0 : Int).toNat 0) := ⟨_, rfl⟩
      replace H : (if 0 ≤ a1 then (if a1 < (y116.length : Int) then (coppicerref_Many.l0 k a2 (y116.set (a1 : Int).toNat 1) 0 a0_0 a0_1 l0_2 a0_3 a0_4) else (none)) else (none)) = some r := by first | (rw [hy116]; with_reducible exact H) | (have H2_ := (Option.bind_some _ _).symm.trans H; rw [hy116]; with_reducible exact H2_) | (have H2_ := (Option.bind_some _ _).symm.trans H; with_reducible exact H2_) | with_reducible exact H | (rw [hy116]; exact H) | exact H
      have Ny116 := Aside0.mk hy116
      clear hy116
      by_cases c6 : 0 ≤ a1
      · rw [if_pos c6] at H
        have c6b0 : decide (0 ≤ a1) = true := decide_eq_true c6
        clear c6
        by_cases c7 : a1 < (y116.length : Int)
        · rw [if_pos c7] at H
          have c7b0 : decide (a1 < (y116.length : Int)) = true := decide_eq_true c7
          clear c7
          obtain ⟨y119, hy119⟩ : ∃ y_ : List Int, y_ = (y116.set (a1 : Int).toNat 1) := ⟨_, rfl⟩
          replace H : (coppicerref_Many.l0 k a2 y119 0 a0_0 a0_1 l0_2 a0_3 a0_4) = some r := by first | (rw [hy119]; with_reducible exact H) | (have H2_ := (Option.bind_some _ _).symm.trans H; rw [hy119]; with_reducible exact H2_) | (have H2_ := (Option.bind_some _ _).symm.trans H; with_reducible exact H2_) | with_reducible exact H | (rw [hy119]; exact H) | exact H
          have Ny119 := Aside0.mk hy119
          clear hy119
          have H' := Aside0.mk H
          clear H
          go_enter Try.func36, Try.ntmps36
          go_wp2_with (first | ((with_reducible refine gate_dst (N := 3) rfl ?_); refine box_event ?hg (N := 3) ?hd (cs := #[.int .i64 a0_0, .int .i64 a0_1, .slice A0_2 l0_2.length c0_2, .int .i64 a0_3, .int .u32 a0_4]) (t := 41) ?hr ?_; (case hd => rfl); (case hg => rfl); (case hr => first | (go_simp; done) | (go_simp; rfl)); intro gb115 hg w9 hbox hb; have n0_ := Aside0.mk (below_step (by repeat (first | (with_reducible first | exact HB.out | apply below_alloc | apply pw_below_drewN | apply below_drew1) | exact HB.out)) hb); have n1_ := Aside0.mk (hbox); have n2_ := Aside0.mk ((by rw [hg]; exact (below_size (by repeat (first | (with_reducible first | exact HB.out | apply below_alloc | apply pw_below_drewN | apply below_drew1) | exact HB.out))) : w.heap.size ≤ gb115)); have n3_ := Aside0.mk ((by rw [hg]; exact (below_size (by repeat (first | (with_reducible first | exact HB.out | apply below_alloc | apply pw_below_drewN | apply below_drew1) | exact HB.out))) : w.heap.size ≤ gb115)); clear HB; have HB := n0_; have BK115 := n1_; have GW115 := n2_; have GE115 := n3_; clear n0_ n1_ n2_ n3_; clear hb hbox hg; have hcz10_0 : w9.cell? ⟨gb115, 0, none⟩ = some (.int .i64 a0_0) := (blk_cell BK115.out 0).trans rfl; have hcz10_1 : w9.cell? ⟨gb115, 1, none⟩ = some (.int .i64 a0_1) := (blk_cell BK115.out 1).trans rfl; have hcz10_2 : w9.cell? ⟨gb115, 2, none⟩ = some (.slice A0_2 l0_2.length c0_2) := (blk_cell BK115.out 2).trans rfl; have hcz10_3 : w9.cell? ⟨gb115, 3, none⟩ = some (.int .i64 a0_3) := (blk_cell BK115.out 3).trans rfl; have hcz10_4 : w9.cell? ⟨gb115, 4, none⟩ = some (.int .u32 a0_4) := (blk_cell BK115.out 4).trans rfl; have hfz10_0 := blk_frozen BK115.out 0; have hfz10_1 := blk_frozen BK115.out 1; have hfz10_2 := blk_frozen BK115.out 2; have hfz10_3 := blk_frozen BK115.out 3; have hfz10_4 := blk_frozen BK115.out 4) | ((with_reducible refine gate_dst (N := 16) rfl ?_); refine Kd.R_make (Kd.int .i64) _ 2 rfl (N := 16) rfl 90 _ _ rfl a0_0 rfl rfl Try.underlying90 (.int .i64 0) 8 info2 rfl (by decide) (by omega) 0 (ok := fun _ => True) (okp := fun _ => True) rfl (fun _ hk => hk) trivial (of_decide_eq_true (by first | (with_reducible assumption) | assumption)) (Nat.le_trans (Nat.mul_le_mul_right _ (of_decide_eq_true (by first | (with_reducible assumption) | assumption) : a0_0.toNat ≤ 35184372088832)) (by omega)) (Below.refl _ _) (Nat.le_refl _) ?_; intro v117 w11 ho12 hb hg_ hnew_; clear hg_ hnew_; (first | rw [← Ny116.out] at ho12 | (simp only [Int.reduceToNat] at ho12; rw [← Ny116.out] at ho12)); have n0_ := Aside0.mk (Kd.R_lower ho12 (below_size (by repeat (first | (with_reducible first | exact HB.out | apply below_alloc | apply pw_below_drewN | apply below_drew1 | refine below_set ?_ GE115.out) | exact HB.out)))); have n1_ := Aside0.mk (blk_below (g := gb115) (o := .cells #[.int .i64 a0_0, .int .i64 a0_1, .slice A0_2 l0_2.length c0_2, .int .i64 a0_3, .int .u32 a0_4] 41 (0, 0)) (by (with_reducible repeat (first | refine blk_drewN ?_ _ | refine blk_drew ?_ | refine blk_alloc ?_ _)); exact BK115.out) hb); have n2_ := Aside0.mk (below_step (by repeat (first | (with_reducible first | exact HB.out | apply below_alloc | apply pw_below_drewN | apply below_drew1 | refine below_set ?_ GE115.out) | exact HB.out)) hb); clear BK115; clear HB; have HO118 := n0_; have BK115 := n1_; have HB := n2_; clear n0_ n1_ n2_; clear hb ho12; have p8 : 0 ≤ (a1 : Int) := of_decide_eq_true (by first | (with_reducible assumption) | assumption); have q8 : (a1 : Int) < ((y116.length : Int) : Int) := of_decide_eq_true (by first | (with_reducible assumption) | assumption); obtain ⟨go8, co8, eo8, gb8, gl8, cl8, HG8⟩ := Kd.R_form HO118.out (by omega); (first | cases eo8 | (injection eo8 with ea_ en_ ec_; (first | subst ea_ | (injection ea_ with ea_; subst ea_)); subst ec_; clear en_)); have GB8 := Aside0.mk gb8; have GG8 := Aside0.mk HG8; clear gb8 gl8 HG8; obtain ⟨hx8_0, hf8_0⟩ := Kd.R_celln 0 HO118.out (a1 : Int) p8 q8; replace p8 := eq_true p8; replace q8 := eq_true q8; obtain ⟨hy13_, hz13_⟩ := Kd.R_celln 0 HO118.out (a1 : Int) (of_decide_eq_true (by first | (with_reducible assumption) | assumption)) (of_decide_eq_true (by first | (with_reducible assumption) | assumption)); have HP13 := Kd.R_putg HO118.out (a1 : Int) 1) | ((with_reducible refine gate_store (t := 2) (p := 19) rfl ?_); refine store_event (t := 2) (p := 19) (v := ?vo_w14) (w1 := (w11.setCell ⟨go8, (a1 : Int).toNat, none⟩ (.int .i64 1))) ?hg ?ho ?hn ?hr ?_; (case ho => rfl); (case hg => rfl); (case hn => rfl); (case hr => first | (go_simp; done) | (go_simp; rfl)); intro w14 hw; have hg : w11.grownBy w14 (some go8) := (by rw [hw]; exact HP13.2); have hp_ : Kd.R (Kd.int .i64) 2 w14 w.heap.size (fun _ => True) (.slice (some ⟨go8, 0, none⟩) y116.length co8) y119 := (by rw [hw, Ny119.out]; exact HP13.1); clear HP13; have n0_ := Aside0.mk (blk_grown (g := gb115) (o := .cells #[.int .i64 a0_0, .int .i64 a0_1, .slice A0_2 l0_2.length c0_2, .int .i64 a0_3, .int .u32 a0_4] 41 (0, 0)) (by (with_reducible repeat (first | refine blk_drewN ?_ _ | refine blk_drew ?_ | refine blk_alloc ?_ _)); exact BK115.out) hg (Kd.R_ne HO118.out BK115.out (by decide))); have n1_ := Aside0.mk (hp_); have n2_ := Aside0.mk ((by rw [hw]; exact below_set (HB.out) GB8.out : Below w.heap.size w w14)); clear BK115; clear HO118; clear HB; have BK115 := n0_; have HO118 := n1_; have HB := n2_; clear n0_ n1_ n2_; clear hg hw hp_))
          go_loopg [7, 8] k (fun kq v7 v8 w' => ∃ (x7_1 : List Int) (x8_1 : Int), v8 = .int .i64 x8_1 ∧ Aside0 (coppicerref_Many.l0 kq a2 x7_1 x8_1 a0_0 a0_1 l0_2 a0_3 a0_4 = some r) ∧ Aside0 (kq ≤ k) ∧ Aside0 (Kd.R (Kd.int .i64) 2 w' w.heap.size (fun _ => True) v7 x7_1) ∧ Aside0 (w'.heap[gb115]? = some (.cells #[.int .i64 a0_0, .int .i64 a0_1, (.slice A0_2 l0_2.length c0_2), .int .i64 a0_3, .int .u32 a0_4] 41 (0, 0))) ∧ Aside0 (Below w.heap.size w w'))
          case atStart => exact ⟨(y119), (0), (by first | rfl | (simp; done) | (simp [*]; done)), H', ⟨Nat.le_refl _⟩, ⟨by (with_reducible repeat (first | apply Kd.R_alloc | apply Kd.R_drewN | apply Kd.R_drew)); exact HO118.out⟩, ⟨by (with_reducible repeat (first | refine blk_drewN ?_ _ | refine blk_drew ?_ | refine blk_alloc ?_ _)); exact BK115.out⟩, ⟨by repeat (first | (with_reducible first | exact HB.out | apply below_alloc | apply pw_below_drewN | apply below_drew1 | refine below_set ?_ GE115.out) | exact HB.out)⟩⟩
          case round =>
            clear H'
            try clear p2
            try clear c3
            try clear c4
            try clear c4b0
            try clear c4b1
            try clear c5
            try clear c5b0
            try clear c5b1
            try clear c6
            try clear c6b0
            try clear c7
            try clear c7b0
            try clear p8
            try clear q8
            try clear hx8
            try clear hf8
            try clear hcz10_0
            try clear hcz10_1
            try clear hcz10_2
            try clear hcz10_3
            try clear hcz10_4
            try clear hfz10_0
            try clear hfz10_1
            try clear hfz10_2
            try clear hfz10_3
            try clear hfz10_4
            try clear hx8_0
            try clear p8
            try clear q8
            obtain ⟨x7_1, x8_1, rfl, HA, HK1, HO_7, BK115, HB⟩ := hrel
            cases gk with
            | zero => exact absurd HA.out (by simp [coppicerref_Many.l0])
            | succ k1 =>
              have H := HA.out
              clear HA
              simp only [coppicerref_Many.l0] at H
              by_cases c15 : x8_1 < a2
              · rw [if_pos c15] at H
                have c15b0 : decide (x8_1 < a2) = true := decide_eq_true c15
                clear c15
                by_cases c16 : 0 ≤ a0_0
                · rw [if_pos c16] at H
                  have c16b0 := eq_true c16
                  have c16b1 : decide (0 ≤ a0_0) = true := decide_eq_true c16
                  clear c16
                  by_cases c17 : (a0_0 : Int).toNat ≤ 35184372088832
                  · rw [if_pos c17] at H
                    have c17b0 := eq_true c17
                    have c17b1 : decide ((a0_0 : Int).toNat ≤ 35184372088832) = true := decide_eq_true c17
                    clear c17
                    obtain ⟨y120, hy120⟩ : ∃ y_ : List Int, y_ = (List.replicate (a0_0 : Int).toNat 0) := ⟨_, rfl⟩
                    replace H : (coppicerref_Many.l1 k1 a2 x7_1 x8_1 y120 0 a0_0 a0_1 l0_2 a0_3 a0_4) = some r := by first | (rw [hy120]; with_reducible exact H) | (have H2_ := (Option.bind_some _ _).symm.trans H; rw [hy120]; with_reducible exact H2_) | (have H2_ := (Option.bind_some _ _).symm.trans H; with_reducible exact H2_) | with_reducible exact H | (rw [hy120]; exact H) | exact H
                    have Ny120 := Aside0.mk hy120
                    clear hy120
                    have H' := Aside0.mk H
                    clear H
                    have hcz18_0 : wr.cell? ⟨gb115, 0, none⟩ = some (.int .i64 a0_0) := (blk_cell BK115.out 0).trans rfl
                    have hcz18_1 : wr.cell? ⟨gb115, 1, none⟩ = some (.int .i64 a0_1) := (blk_cell BK115.out 1).trans rfl
                    have hcz18_2 : wr.cell? ⟨gb115, 2, none⟩ = some (.slice A0_2 l0_2.length c0_2) := (blk_cell BK115.out 2).trans rfl
                    have hcz18_3 : wr.cell? ⟨gb115, 3, none⟩ = some (.int .i64 a0_3) := (blk_cell BK115.out 3).trans rfl
                    have hcz18_4 : wr.cell? ⟨gb115, 4, none⟩ = some (.int .u32 a0_4) := (blk_cell BK115.out 4).trans rfl
                    have hfz18_0 := blk_frozen BK115.out 0
                    have hfz18_1 := blk_frozen BK115.out 1
                    have hfz18_2 := blk_frozen BK115.out 2
                    have hfz18_3 := blk_frozen BK115.out 3
                    have hfz18_4 := blk_frozen BK115.out 4
                    go_wp2_with (first | ((with_reducible refine gate_dst (N := 27) rfl ?_); refine Kd.R_make (Kd.int .i64) _ 2 rfl (N := 27) rfl 90 _ _ rfl a0_0 rfl rfl Try.underlying90 (.int .i64 0) 8 info2 rfl (by decide) (by omega) 0 (ok := fun _ => True) (okp := fun _ => True) rfl (fun _ hk => hk) trivial (of_decide_eq_true (by first | (with_reducible assumption) | assumption)) (Nat.le_trans (Nat.mul_le_mul_right _ (of_decide_eq_true (by first | (with_reducible assumption) | assumption) : a0_0.toNat ≤ 35184372088832)) (by omega)) (Below.refl _ _) (Nat.le_refl _) ?_; intro v121 w19 ho20 hb hg_ hnew_; clear hg_ hnew_; (first | rw [← Ny120.out] at ho20 | (simp only [Int.reduceToNat] at ho20; rw [← Ny120.out] at ho20)); have n0_ := Aside0.mk (Kd.R_elder' (by (with_reducible repeat (first | apply Kd.R_alloc | apply Kd.R_drewN | apply Kd.R_drew)); exact HO_7.out) (Kd.R_base ho20) hb); have n1_ := Aside0.mk (Kd.R_lower (Kd.R_new' ho20 (Kd.R_lt (by (with_reducible repeat (first | apply Kd.R_alloc | apply Kd.R_drewN | apply Kd.R_drew)); exact HO_7.out))) (below_size (by repeat (first | (with_reducible first | exact HB.out | apply below_alloc | apply pw_below_drewN | apply below_drew1 | refine below_set ?_ GE115.out) | exact HB.out)))); have n2_ := Aside0.mk (blk_below (g := gb115) (o := .cells #[.int .i64 a0_0, .int .i64 a0_1, .slice A0_2 l0_2.length c0_2, .int .i64 a0_3, .int .u32 a0_4] 41 (0, 0)) (by (with_reducible repeat (first | refine blk_drewN ?_ _ | refine blk_drew ?_ | refine blk_alloc ?_ _)); exact BK115.out) hb); have n3_ := Aside0.mk (below_step (by repeat (first | (with_reducible first | exact HB.out | apply below_alloc | apply pw_below_drewN | apply below_drew1 | refine below_set ?_ GE115.out) | exact HB.out)) hb); clear HO_7; clear BK115; clear HB; have HO_7 := n0_; have HO122 := n1_; have BK115 := n2_; have HB := n3_; clear n0_ n1_ n2_ n3_; clear hb ho20))
                    go_loopg [10] k1 (fun kq v10 w' => ∃ (x9_2 : List Int) (x10_2 : Int), v10 = .int .i64 x10_2 ∧ Aside0 (coppicerref_Many.l1 kq a2 x7_1 x8_1 x9_2 x10_2 a0_0 a0_1 l0_2 a0_3 a0_4 = some r) ∧ Aside0 (kq ≤ k1) ∧ Aside0 (Kd.R (Kd.int .i64) 2 w' w.heap.size (fun k_ => some k_ ≠ (v121 : Value).ownBlock) u7 x7_1) ∧ Aside0 (Kd.R (Kd.int .i64) 2 w' w.heap.size (fun k_ => some k_ ≠ (u7 : Value).ownBlock) v121 x9_2) ∧ Aside0 (w'.heap[gb115]? = some (.cells #[.int .i64 a0_0, .int .i64 a0_1, (.slice A0_2 l0_2.length c0_2), .int .i64 a0_3, .int .u32 a0_4] 41 (0, 0))) ∧ Aside0 (Below w.heap.size w w'))
                    case atStart => exact ⟨(y120), (0), (by first | rfl | (simp; done) | (simp [*]; done)), H', ⟨Nat.le_refl _⟩, ⟨by (with_reducible repeat (first | apply Kd.R_alloc | apply Kd.R_drewN | apply Kd.R_drew)); exact Kd.R_mono HO_7.out (fun _ hk => hk.2)⟩, ⟨by (with_reducible repeat (first | apply Kd.R_alloc | apply Kd.R_drewN | apply Kd.R_drew)); exact Kd.R_mono HO122.out (fun _ hk => hk.2)⟩, ⟨by (with_reducible repeat (first | refine blk_drewN ?_ _ | refine blk_drew ?_ | refine blk_alloc ?_ _)); exact BK115.out⟩, ⟨by repeat (first | (with_reducible first | exact HB.out | apply below_alloc | apply pw_below_drewN | apply below_drew1 | refine below_set ?_ GE115.out) | exact HB.out)⟩⟩
                    case round =>
                      clear H'
                      try clear c1
                      try clear p2
                      try clear c3
                      try clear c4
                      try clear c4b0
                      try clear c4b1
                      try clear c5
                      try clear c5b0
                      try clear c5b1
                      try clear c6
                      try clear c6b0
                      try clear c7
                      try clear c7b0
                      try clear p8
                      try clear q8
                      try clear hx8
                      try clear hf8
                      try clear c15
                      try clear c15b0
                      try clear c16
                      try clear c16b0
                      try clear c16b1
                      try clear c17
                      try clear c17b0
                      try clear c17b1
                      try clear hcz10_0
                      try clear hcz10_1
                      try clear hcz10_2
                      try clear hcz10_3
                      try clear hcz10_4
                      try clear hcz18_0
                      try clear hcz18_1
                      try clear hcz18_2
                      try clear hcz18_3
                      try clear hcz18_4
                      try clear hfz10_0
                      try clear hfz10_1
                      try clear hfz10_2
                      try clear hfz10_3
                      try clear hfz10_4
                      try clear hfz18_0
                      try clear hfz18_1
                      try clear hfz18_2
                      try clear hfz18_3
                      try clear hfz18_4
                      try clear hx8_0
                      try clear p2
                      try clear p8
                      try clear q8
                      obtain ⟨x9_2, x10_2, rfl, HA, HK2, HO_7, HO_9, BK115, HB⟩ := hrel
                      cases gk with
                      | zero => exact absurd HA.out (by simp [coppicerref_Many.l1])
                      | succ k2 =>
                        have H := HA.out
                        clear HA
                        simp only [coppicerref_Many.l1] at H
                        by_cases c21 : x10_2 < a0_0
                        · rw [if_pos c21] at H
                          have c21b0 : decide (x10_2 < a0_0) = true := decide_eq_true c21
                          clear c21
                          have H' := Aside0.mk H
                          clear H
                          have hcz22_0 : wr.cell? ⟨gb115, 0, none⟩ = some (.int .i64 a0_0) := (blk_cell BK115.out 0).trans rfl
                          have hcz22_1 : wr.cell? ⟨gb115, 1, none⟩ = some (.int .i64 a0_1) := (blk_cell BK115.out 1).trans rfl
                          have hcz22_2 : wr.cell? ⟨gb115, 2, none⟩ = some (.slice A0_2 l0_2.length c0_2) := (blk_cell BK115.out 2).trans rfl
                          have hcz22_3 : wr.cell? ⟨gb115, 3, none⟩ = some (.int .i64 a0_3) := (blk_cell BK115.out 3).trans rfl
                          have hcz22_4 : wr.cell? ⟨gb115, 4, none⟩ = some (.int .u32 a0_4) := (blk_cell BK115.out 4).trans rfl
                          have hfz22_0 := blk_frozen BK115.out 0
                          have hfz22_1 := blk_frozen BK115.out 1
                          have hfz22_2 := blk_frozen BK115.out 2
                          have hfz22_3 := blk_frozen BK115.out 3
                          have hfz22_4 := blk_frozen BK115.out 4
                          go_wp2
                          go_loopg [11] k2 (fun kq v11 w' => ∃ (x9_3 : List Int) (x11_3 : Int), v11 = .int .i64 x11_3 ∧ Aside0 (coppicerref_Many.l2 kq a2 x7_1 x8_1 x9_3 x10_2 x11_3 a0_0 a0_1 l0_2 a0_3 a0_4 = some r) ∧ Aside0 (kq ≤ k2) ∧ Aside0 (Kd.R (Kd.int .i64) 2 w' w.heap.size (fun k_ => some k_ ≠ (v121 : Value).ownBlock) u7 x7_1) ∧ Aside0 (Kd.R (Kd.int .i64) 2 w' w.heap.size (fun k_ => some k_ ≠ (u7 : Value).ownBlock) v121 x9_3) ∧ Aside0 (w'.heap[gb115]? = some (.cells #[.int .i64 a0_0, .int .i64 a0_1, (.slice A0_2 l0_2.length c0_2), .int .i64 a0_3, .int .u32 a0_4] 41 (0, 0))) ∧ Aside0 (Below w.heap.size w w'))
                          case atStart => exact ⟨(x9_2), (0), (by first | rfl | (simp; done) | (simp [*]; done)), H', ⟨Nat.le_refl _⟩, ⟨by (with_reducible repeat (first | apply Kd.R_alloc | apply Kd.R_drewN | apply Kd.R_drew)); exact HO_7.out⟩, ⟨by (with_reducible repeat (first | apply Kd.R_alloc | apply Kd.R_drewN | apply Kd.R_drew)); exact HO_9.out⟩, ⟨by (with_reducible repeat (first | refine blk_drewN ?_ _ | refine blk_drew ?_ | refine blk_alloc ?_ _)); exact BK115.out⟩, ⟨by repeat (first | (with_reducible first | exact HB.out | apply below_alloc | apply pw_below_drewN | apply below_drew1 | refine below_set ?_ GE115.out) | exact HB.out)⟩⟩
                          case round =>
                            clear H'
                            try clear c1
                            try clear c2
                            try clear p2
                            try clear c3
                            try clear c4
                            try clear c4b0
                            try clear c4b1
                            try clear c5
                            try clear c5b0
                            try clear c5b1
                            try clear c6
                            try clear c6b0
                            try clear c7
                            try clear c7b0
                            try clear p8
                            try clear q8
                            try clear hx8
                            try clear hf8
                            try clear c15
                            try clear c15b0
                            try clear c16
                            try clear c16b0
                            try clear c16b1
                            try clear c17
                            try clear c17b0
                            try clear c17b1
                            try clear c21
                            try clear c21b0
                            try clear hcz10_0
                            try clear hcz10_1
                            try clear hcz10_2
                            try clear hcz10_3
                            try clear hcz10_4
                            try clear hcz18_0
                            try clear hcz18_1
                            try clear hcz18_2
                            try clear hcz18_3
                            try clear hcz18_4
                            try clear hcz22_0
                            try clear hcz22_1
                            try clear hcz22_2
                            try clear hcz22_3
                            try clear hcz22_4
                            try clear hfz10_0
                            try clear hfz10_1
                            try clear hfz10_2
                            try clear hfz10_3
                            try clear hfz10_4
                            try clear hfz18_0
                            try clear hfz18_1
                            try clear hfz18_2
                            try clear hfz18_3
                            try clear hfz18_4
                            try clear hfz22_0
                            try clear hfz22_1
                            try clear hfz22_2
                            try clear hfz22_3
                            try clear hfz22_4
                            try clear hx8_0
                            try clear p2
                            try clear p8
                            try clear q8
                            obtain ⟨x9_3, x11_3, rfl, HA, HK3, HO_7, HO_9, BK115, HB⟩ := hrel
                            cases gk with
                            | zero => exact absurd HA.out (by simp [coppicerref_Many.l2])
                            | succ k3 =>
                              have H := HA.out
                              clear HA
                              simp only [coppicerref_Many.l2] at H
                              by_cases c23 : x11_3 < a0_1
                              · rw [if_pos c23] at H
                                have c23b0 : decide (x11_3 < a0_1) = true := decide_eq_true c23
                                clear c23
                                by_cases c24 : 0 ≤ x10_2
                                · rw [if_pos c24] at H
                                  have c24b0 : decide (0 ≤ x10_2) = true := decide_eq_true c24
                                  clear c24
                                  by_cases c25 : x10_2 < (l0_2.length : Int)
                                  · rw [if_pos c25] at H
                                    have c25b0 : decide (x10_2 < (l0_2.length : Int)) = true := decide_eq_true c25
                                    clear c25
                                    by_cases c26 : 0 ≤ x11_3
                                    · rw [if_pos c26] at H
                                      have c26b0 : decide (0 ≤ x11_3) = true := decide_eq_true c26
                                      clear c26
                                      by_cases c27 : x11_3 < ((rd_L1 l0_2 x10_2).length : Int)
                                      · rw [if_pos c27] at H
                                        have c27b0 : decide (x11_3 < ((rd_L1 l0_2 x10_2).length : Int)) = true := decide_eq_true c27
                                        clear c27
                                        by_cases c28 : 0 ≤ (rd (rd_L1 l0_2 x10_2) x11_3)
                                        · rw [if_pos c28] at H
                                          have c28b0 : decide (0 ≤ (rd (rd_L1 l0_2 x10_2) x11_3)) = true := decide_eq_true c28
                                          clear c28
                                          by_cases c29 : (rd (rd_L1 l0_2 x10_2) x11_3) < (x9_3.length : Int)
                                          · rw [if_pos c29] at H
                                            have c29b0 : decide ((rd (rd_L1 l0_2 x10_2) x11_3) < (x9_3.length : Int)) = true := decide_eq_true c29
                                            clear c29
                                            by_cases c30 : x10_2 < (x7_1.length : Int)
                                            · rw [if_pos c30] at H
                                              have c30b0 : decide (x10_2 < (x7_1.length : Int)) = true := decide_eq_true c30
                                              clear c30
                                              obtain ⟨y129, hy129⟩ : ∃ y_ : List Int, y_ = (x9_3.set ((rd (rd_L1 l0_2 x10_2) x11_3) : Int).toNat (wrap64 ((rd x9_3 (rd (rd_L1 l0_2 x10_2) x11_3)) + (rd x7_1 x10_2)))) := ⟨_, rfl⟩
                                              replace H : (coppicerref_Many.l2 k3 a2 x7_1 x8_1 y129 x10_2 (wrap64 (x11_3 + 1)) a0_0 a0_1 l0_2 a0_3 a0_4) = some r := by first | (rw [hy129]; with_reducible exact H) | (have H2_ := (Option.bind_some _ _).symm.trans H; rw [hy129]; with_reducible exact H2_) | (have H2_ := (Option.bind_some _ _).symm.trans H; with_reducible exact H2_) | with_reducible exact H | (rw [hy129]; exact H) | exact H
                                              have Ny129 := Aside0.mk hy129
                                              clear hy129
                                              have H' := Aside0.mk H
                                              clear H
                                              have hcz32_0 : wr.cell? ⟨gb115, 0, none⟩ = some (.int .i64 a0_0) := (blk_cell BK115.out 0).trans rfl
                                              have hcz32_1 : wr.cell? ⟨gb115, 1, none⟩ = some (.int .i64 a0_1) := (blk_cell BK115.out 1).trans rfl
                                              have hcz32_2 : wr.cell? ⟨gb115, 2, none⟩ = some (.slice A0_2 l0_2.length c0_2) := (blk_cell BK115.out 2).trans rfl
                                              have hcz32_3 : wr.cell? ⟨gb115, 3, none⟩ = some (.int .i64 a0_3) := (blk_cell BK115.out 3).trans rfl
                                              have hcz32_4 : wr.cell? ⟨gb115, 4, none⟩ = some (.int .u32 a0_4) := (blk_cell BK115.out 4).trans rfl
                                              have hfz32_0 := blk_frozen BK115.out 0
                                              have hfz32_1 := blk_frozen BK115.out 1
                                              have hfz32_2 := blk_frozen BK115.out 2
                                              have hfz32_3 := blk_frozen BK115.out 3
                                              have hfz32_4 := blk_frozen BK115.out 4
                                              try go_wp2
                                              have n0_ := Aside0.mk (Kd.R_drew HO_7.out)
                                              have n1_ := Aside0.mk (Kd.R_drew HO_9.out)
                                              have n2_ := Aside0.mk (blk_drew BK115.out)
                                              have n3_ := Aside0.mk (below_drew1 HB.out)
                                              clear HO_7
                                              clear HO_9
                                              clear BK115
                                              clear HB
                                              have HO_7 := n0_
                                              have HO_9 := n1_
                                              have BK115 := n2_
                                              have HB := n3_
                                              clear n0_ n1_ n2_ n3_
                                              have p123 : 0 ≤ (x10_2 : Int) := of_decide_eq_true (by first | (with_reducible assumption) | assumption)
                                              have q123 : x10_2 < (l0_2.length : Int) := of_decide_eq_true (by first | (with_reducible assumption) | assumption)
                                              obtain ⟨ad123, A123_0, c123_0, e123, hx123_0, hl123_0, hi123_0⟩ := at_L1 HR0_2.out x10_2 p123 q123
                                              have hw123_0 := hx123_0
                                              cases e123
                                              replace hx123_0 := (HB.out.cell (World.block_lt_of_cell? w _ hx123_0)).trans hx123_0
                                              have HR123_0 := Aside0.mk hi123_0
                                              have HC123_0 := Aside0.mk hl123_0
                                              clear hi123_0 hl123_0
                                              replace p123 := eq_true p123
                                              replace q123 := eq_true q123
                                              have p124 : 0 ≤ (x11_3 : Int) := of_decide_eq_true (by first | (with_reducible assumption) | assumption)
                                              have q124 : x11_3 < ((rd_L1 l0_2 x10_2).length : Int) := of_decide_eq_true (by first | (with_reducible assumption) | assumption)
                                              obtain ⟨ad124, e124, hx124_0⟩ := Kd.at_int HR123_0.out x11_3 p124 q124
                                              have hw124_0 := hx124_0
                                              cases e124
                                              replace hx124_0 := (HB.out.cell (World.block_lt_of_cell? w _ hx124_0)).trans hx124_0
                                              replace p124 := eq_true p124
                                              replace q124 := eq_true q124
                                              have p125 : 0 ≤ (x10_2 : Int) := of_decide_eq_true (by first | (with_reducible assumption) | assumption)
                                              have q125 : x10_2 < (l0_2.length : Int) := of_decide_eq_true (by first | (with_reducible assumption) | assumption)
                                              obtain ⟨ad125, A125_0, c125_0, e125, hx125_0, hl125_0, hi125_0⟩ := at_L1 HR0_2.out x10_2 p125 q125
                                              have hw125_0 := hx125_0
                                              obtain rfl : ad123 = ad125 := (by injection e125)
                                              replace hx125_0 := (HB.out.cell (World.block_lt_of_cell? w _ hx125_0)).trans hx125_0
                                              have HR125_0 := Aside0.mk hi125_0
                                              have HC125_0 := Aside0.mk hl125_0
                                              clear hi125_0 hl125_0
                                              replace p125 := eq_true p125
                                              replace q125 := eq_true q125
                                              have ea_ := Option.some.inj (hx123_0.symm.trans hx125_0)
                                              injection ea_ with ea_ en_ ec_
                                              subst ea_
                                              subst ec_
                                              clear en_
                                              have p126 : 0 ≤ (x11_3 : Int) := of_decide_eq_true (by first | (with_reducible assumption) | assumption)
                                              have q126 : x11_3 < ((rd_L1 l0_2 x10_2).length : Int) := of_decide_eq_true (by first | (with_reducible assumption) | assumption)
                                              obtain ⟨ad126, e126, hx126_0⟩ := Kd.at_int HR125_0.out x11_3 p126 q126
                                              have hw126_0 := hx126_0
                                              obtain rfl : ad124 = ad126 := (by injection e126)
                                              replace hx126_0 := (HB.out.cell (World.block_lt_of_cell? w _ hx126_0)).trans hx126_0
                                              replace p126 := eq_true p126
                                              replace q126 := eq_true q126
                                              obtain ⟨Ao34, co34, eo34⟩ := Kd.R_slice HO_9.out
                                              (first | subst eo34 | (injection eo34 with f1_ f2_ f3_; have f4_ := f1_.symm; have f5_ := f3_.symm; clear f1_ f2_ f3_; subst f4_; subst f5_))
                                              have p127 : 0 ≤ ((rd (rd_L1 l0_2 x10_2) x11_3) : Int) := of_decide_eq_true (by first | (with_reducible assumption) | assumption)
                                              have q127 : (rd (rd_L1 l0_2 x10_2) x11_3) < (x9_3.length : Int) := of_decide_eq_true (by first | (with_reducible assumption) | assumption)
                                              obtain ⟨ad127, e127, hx127_0⟩ := Kd.at_int (Kd.R_reads' HO_9.out).2.2 (rd (rd_L1 l0_2 x10_2) x11_3) p127 q127
                                              cases e127
                                              replace p127 := eq_true p127
                                              replace q127 := eq_true q127
                                              obtain ⟨Ao35, co35, eo35⟩ := Kd.R_slice HO_7.out
                                              (first | subst eo35 | (injection eo35 with f1_ f2_ f3_; have f4_ := f1_.symm; have f5_ := f3_.symm; clear f1_ f2_ f3_; subst f4_; subst f5_))
                                              have p128 : 0 ≤ (x10_2 : Int) := of_decide_eq_true (by first | (with_reducible assumption) | assumption)
                                              have q128 : x10_2 < (x7_1.length : Int) := of_decide_eq_true (by first | (with_reducible assumption) | assumption)
                                              obtain ⟨ad128, e128, hx128_0⟩ := Kd.at_int (Kd.R_reads' HO_7.out).2.2 x10_2 p128 q128
                                              cases e128
                                              replace p128 := eq_true p128
                                              replace q128 := eq_true q128
                                              have p31 : 0 ≤ ((rd (rd_L1 l0_2 x10_2) x11_3) : Int) := of_decide_eq_true (by first | (with_reducible assumption) | assumption)
                                              have q31 : ((rd (rd_L1 l0_2 x10_2) x11_3) : Int) < ((x9_3.length : Int) : Int) := of_decide_eq_true (by first | (with_reducible assumption) | assumption)
                                              obtain ⟨go31, co31, eo31, gb31, gl31, cl31, HG31⟩ := Kd.R_form HO_9.out (by omega)
                                              (first | cases eo31 | (injection eo31 with ea_ en_ ec_; (first | subst ea_ | (injection ea_ with ea_; subst ea_)); subst ec_; clear en_))
                                              have GB31 := Aside0.mk gb31
                                              have GG31 := Aside0.mk HG31
                                              clear gb31 gl31 HG31
                                              (first | simp only [add_plain] at hx127_0 | skip)
                                              obtain ⟨hx31_0, hf31_0⟩ := Kd.R_celln 0 HO_9.out ((rd (rd_L1 l0_2 x10_2) x11_3) : Int) p31 q31
                                              replace p31 := eq_true p31
                                              replace q31 := eq_true q31
                                              have HP36 := Kd.R_putn HO_9.out ((rd (rd_L1 l0_2 x10_2) x11_3) : Int) (wrap64 ((rd x9_3 (rd (rd_L1 l0_2 x10_2) x11_3)) + (rd x7_1 x10_2)))
                                              rw [← Ny129.out] at HP36
                                              have HQ36 := Aside0.mk HP36
                                              clear HP36
                                              refine start_ (n := 27) (S := fun w' => w'.cell? ⟨gb115, 0, none⟩ = some (.int .i64 a0_0) ∧ w'.cell? ⟨gb115, 1, none⟩ = some (.int .i64 a0_1) ∧ w'.cell? ⟨gb115, 2, none⟩ = some (.slice (some ad123) l0_2.length c0_2) ∧ w'.cell? ⟨gb115, 3, none⟩ = some (.int .i64 a0_3) ∧ w'.cell? ⟨gb115, 4, none⟩ = some (.int .u32 a0_4) ∧ w'.cell? (ad123.add (x10_2).toNat) = some (.slice (some ad124) (rd_L1 l0_2 x10_2).length c123_0) ∧ w'.cell? (ad124.add (x11_3).toNat) = some (.int .i64 (rd (rd_L1 l0_2 x10_2) x11_3)) ∧ w'.cell? (ad123.add (x10_2).toNat) = some (.slice (some ad124) (rd_L1 l0_2 x10_2).length c123_0) ∧ w'.cell? (ad124.add (x11_3).toNat) = some (.int .i64 (rd (rd_L1 l0_2 x10_2) x11_3)) ∧ w'.cell? ⟨go31, ((rd (rd_L1 l0_2 x10_2) x11_3)).toNat, none⟩ = some (.int .i64 (rd x9_3 (rd (rd_L1 l0_2 x10_2) x11_3))) ∧ w'.cell? (ad128.add (x10_2).toNat) = some (.int .i64 (rd x7_1 x10_2))) (ds := [26]) #[false, false, false, false, false, false, false, false, false, false, false, false, false, false, false, false, false, false, false, false, false, false, false, false, false, false, false] (by kernel_rfl) rfl rfl ⟨(blk_cell BK115.out 0).trans rfl, (blk_cell BK115.out 1).trans rfl, (blk_cell BK115.out 2).trans rfl, (blk_cell BK115.out 3).trans rfl, (blk_cell BK115.out 4).trans rfl, ((HB.out.cell (World.block_lt_of_cell? w _ hw123_0)).trans hw123_0), ((HB.out.cell (World.block_lt_of_cell? w _ hw124_0)).trans hw124_0), ((HB.out.cell (World.block_lt_of_cell? w _ hw125_0)).trans hw125_0), ((HB.out.cell (World.block_lt_of_cell? w _ hw126_0)).trans hw126_0), hx127_0, hx128_0⟩ (fun hHeld => ?_); refine with_tabW coppicerref_Many.tab13 coppicerref_Many.bits13 (fun HT_ HW_ => ?_)
                                              generalize wr.drew = w33 at HO_7 HO_9 BK115 HB GG31 HQ36 HR123_0 HR125_0 hf31_0 hx123_0 hx124_0 hx125_0 hx126_0 hx127_0 hx128_0 hx31_0 hHeld ⊢
                                              refine pure_ (i := 0) (N := some 40) (v := ?_) (a' := ?_) #[true, false, false, false, false, false, false, false, false, false, false, false, false, false, false, false, false, false, false, false, false, false, false, false, false, false, false] rfl rfl (any_of HT_.out (by kernel_rfl)) (fun _ _ _ h => h) (Or.inl ⟨by rfl, ?_⟩) ?_ ?_
                                              rotate_left
                                              · intro w'
                                                go_simp
                                                with_reducible rfl
                                              rotate_left
                                              · simp only [Act.put, List.setIfInBounds_toArray, List.set_cons_zero, List.set_cons_succ, i64_w, i32_w]
                                                rfl
                                              refine pure_ (i := 1) (N := some 41) (v := ?_) (a' := ?_) #[true, true, false, false, false, false, false, false, false, false, false, false, false, false, false, false, false, false, false, false, false, false, false, false, false, false, false] rfl rfl (any_of HT_.out (by kernel_rfl)) (fun _ _ _ h => h) (Or.inl ⟨by rfl, ?_⟩) ?_ ?_
                                              rotate_left
                                              · intro w'
                                                go_simp
                                                with_reducible rfl
                                              rotate_left
                                              · simp only [Act.put, List.setIfInBounds_toArray, List.set_cons_zero, List.set_cons_succ, i64_w, i32_w]
                                                rfl
                                              refine pure_ (i := 3) (N := some 43) (v := ?_) (a' := ?_) #[true, true, false, true, false, false, false, false, false, false, false, false, false, false, false, false, false, false, false, false, false, false, false, false, false, false, false] rfl rfl (any_of HT_.out (by kernel_rfl)) (fun _ _ _ h => h) (Or.inl ⟨by rfl, ?_⟩) ?_ ?_
                                              rotate_left
                                              · intro w'
                                                go_simp
                                                with_reducible rfl
                                              rotate_left
                                              · simp only [Act.put, List.setIfInBounds_toArray, List.set_cons_zero, List.set_cons_succ, i64_w, i32_w]
                                                rfl
                                              refine pure_ (i := 6) (N := some 46) (v := ?_) (a' := ?_) #[true, true, false, true, false, false, true, false, false, false, false, false, false, false, false, false, false, false, false, false, false, false, false, false, false, false, false] rfl rfl (any_of HT_.out (by kernel_rfl)) (fun _ _ _ h => h) (Or.inl ⟨by rfl, ?_⟩) ?_ ?_
                                              rotate_left
                                              · intro w'
                                                go_simp
                                                with_reducible rfl
                                              rotate_left
                                              · simp only [Act.put, List.setIfInBounds_toArray, List.set_cons_zero, List.set_cons_succ, i64_w, i32_w]
                                                rfl
                                              refine pure_ (i := 9) (N := some 49) (v := ?_) (a' := ?_) #[true, true, false, true, false, false, true, false, false, true, false, false, false, false, false, false, false, false, false, false, false, false, false, false, false, false, false] rfl rfl (any_of HT_.out (by kernel_rfl)) (fun _ _ _ h => h) (Or.inl ⟨by rfl, ?_⟩) ?_ ?_
                                              rotate_left
                                              · intro w'
                                                go_simp
                                                with_reducible rfl
                                              rotate_left
                                              · simp only [Act.put, List.setIfInBounds_toArray, List.set_cons_zero, List.set_cons_succ, i64_w, i32_w]
                                                rfl
                                              refine pure_ (i := 10) (N := some 50) (v := ?_) (a' := ?_) #[true, true, false, true, false, false, true, false, false, true, true, false, false, false, false, false, false, false, false, false, false, false, false, false, false, false, false] rfl rfl (any_of HT_.out (by kernel_rfl)) (fun _ _ _ h => h) (Or.inl ⟨by rfl, ?_⟩) ?_ ?_
                                              rotate_left
                                              · intro w'
                                                go_simp
                                                with_reducible rfl
                                              rotate_left
                                              · simp only [Act.put, List.setIfInBounds_toArray, List.set_cons_zero, List.set_cons_succ, i64_w, i32_w]
                                                rfl
                                              refine pure_ (i := 12) (N := some 52) (v := ?_) (a' := ?_) #[true, true, false, true, false, false, true, false, false, true, true, false, true, false, false, false, false, false, false, false, false, false, false, false, false, false, false] rfl rfl (any_of HT_.out (by kernel_rfl)) (fun _ _ _ h => h) (Or.inl ⟨by rfl, ?_⟩) ?_ ?_
                                              rotate_left
                                              · intro w'
                                                go_simp
                                                with_reducible rfl
                                              rotate_left
                                              · simp only [Act.put, List.setIfInBounds_toArray, List.set_cons_zero, List.set_cons_succ, i64_w, i32_w]
                                                rfl
                                              refine pure_ (i := 15) (N := some 55) (v := ?_) (a' := ?_) #[true, true, false, true, false, false, true, false, false, true, true, false, true, false, false, true, false, false, false, false, false, false, false, false, false, false, false] rfl rfl (any_of HT_.out (by kernel_rfl)) (fun _ _ _ h => h) (Or.inl ⟨by rfl, ?_⟩) ?_ ?_
                                              rotate_left
                                              · intro w'
                                                go_simp
                                                with_reducible rfl
                                              rotate_left
                                              · simp only [Act.put, List.setIfInBounds_toArray, List.set_cons_zero, List.set_cons_succ, i64_w, i32_w]
                                                rfl
                                              refine pure_ (i := 20) (N := some 60) (v := ?_) (a' := ?_) #[true, true, false, true, false, false, true, false, false, true, true, false, true, false, false, true, false, false, false, false, true, false, false, false, false, false, false] rfl rfl (any_of HT_.out (by kernel_rfl)) (fun _ _ _ h => h) (Or.inl ⟨by rfl, ?_⟩) ?_ ?_
                                              rotate_left
                                              · intro w'
                                                go_simp
                                                with_reducible rfl
                                              rotate_left
                                              · simp only [Act.put, List.setIfInBounds_toArray, List.set_cons_zero, List.set_cons_succ, i64_w, i32_w]
                                                rfl
                                              refine pure_ (i := 21) (N := some 61) (v := ?_) (a' := ?_) #[true, true, false, true, false, false, true, false, false, true, true, false, true, false, false, true, false, false, false, false, true, true, false, false, false, false, false] rfl rfl (any_of HT_.out (by kernel_rfl)) (fun _ _ _ h => h) (Or.inl ⟨by rfl, ?_⟩) ?_ ?_
                                              rotate_left
                                              · intro w'
                                                go_simp
                                                with_reducible rfl
                                              rotate_left
                                              · simp only [Act.put, List.setIfInBounds_toArray, List.set_cons_zero, List.set_cons_succ, i64_w, i32_w]
                                                rfl
                                              refine pure_ (i := 22) (N := some 62) (v := ?_) (a' := ?_) #[true, true, false, true, false, false, true, false, false, true, true, false, true, false, false, true, false, false, false, false, true, true, true, false, false, false, false] rfl rfl (any_of HT_.out (by kernel_rfl)) (fun _ _ _ h => h) (Or.inl ⟨by rfl, ?_⟩) ?_ ?_
                                              rotate_left
                                              · intro w'
                                                go_simp
                                                with_reducible rfl
                                              rotate_left
                                              · simp only [Act.put, List.setIfInBounds_toArray, List.set_cons_zero, List.set_cons_succ, i64_w, i32_w]
                                                rfl
                                              refine take_ (i := 2) (N := some 42) (v := ?_) (a' := ?_) #[true, true, true, true, false, false, true, false, false, true, true, false, true, false, false, true, false, false, false, false, true, true, true, false, false, false, false] rfl rfl (take_ofW HT_.out HW_.out (by kernel_rfl)) (fun _ _ _ h => h) (Or.inl ⟨by rfl, ?_⟩) hHeld ?_ ?_
                                              rotate_left
                                              · rintro w' ⟨s0, s1, s2, s3, s4, s5, s6, s7, s8, s9, s10⟩
                                                go_simp
                                                with_reducible rfl
                                              rotate_left
                                              · simp only [Act.put, List.setIfInBounds_toArray, List.set_cons_zero, List.set_cons_succ, i64_w, i32_w]
                                                rfl
                                              refine pure_ (i := 4) (N := some 44) (v := ?_) (a' := ?_) #[true, true, true, true, true, false, true, false, false, true, true, false, true, false, false, true, false, false, false, false, true, true, true, false, false, false, false] rfl rfl (any_of HT_.out (by kernel_rfl)) (fun _ _ _ h => h) (Or.inl ⟨by rfl, ?_⟩) ?_ ?_
                                              rotate_left
                                              · intro w'
                                                go_simp
                                                with_reducible rfl
                                              rotate_left
                                              · simp only [Act.put, List.setIfInBounds_toArray, List.set_cons_zero, List.set_cons_succ, i64_w, i32_w]
                                                rfl
                                              refine take_ (i := 5) (N := some 45) (v := ?_) (a' := ?_) #[true, true, true, true, true, true, true, false, false, true, true, false, true, false, false, true, false, false, false, false, true, true, true, false, false, false, false] rfl rfl (take_ofW HT_.out HW_.out (by kernel_rfl)) (fun _ _ _ h => h) (Or.inl ⟨by rfl, ?_⟩) hHeld ?_ ?_
                                              rotate_left
                                              · rintro w' ⟨s0, s1, s2, s3, s4, s5, s6, s7, s8, s9, s10⟩
                                                go_simp
                                                with_reducible rfl
                                              rotate_left
                                              · simp only [Act.put, List.setIfInBounds_toArray, List.set_cons_zero, List.set_cons_succ, i64_w, i32_w]
                                                rfl
                                              refine pure_ (i := 7) (N := some 47) (v := ?_) (a' := ?_) #[true, true, true, true, true, true, true, true, false, true, true, false, true, false, false, true, false, false, false, false, true, true, true, false, false, false, false] rfl rfl (any_of HT_.out (by kernel_rfl)) (fun _ _ _ h => h) (Or.inl ⟨by rfl, ?_⟩) ?_ ?_
                                              rotate_left
                                              · intro w'
                                                go_simp
                                                with_reducible rfl
                                              rotate_left
                                              · simp only [Act.put, List.setIfInBounds_toArray, List.set_cons_zero, List.set_cons_succ, i64_w, i32_w]
                                                rfl
                                              refine take_ (i := 8) (N := some 48) (v := ?_) (a' := ?_) #[true, true, true, true, true, true, true, true, true, true, true, false, true, false, false, true, false, false, false, false, true, true, true, false, false, false, false] rfl rfl (take_ofW HT_.out HW_.out (by kernel_rfl)) (fun _ _ _ h => h) (Or.inl ⟨by rfl, ?_⟩) hHeld ?_ ?_
                                              rotate_left
                                              · rintro w' ⟨s0, s1, s2, s3, s4, s5, s6, s7, s8, s9, s10⟩
                                                go_simp
                                                with_reducible rfl
                                              rotate_left
                                              · simp only [Act.put, List.setIfInBounds_toArray, List.set_cons_zero, List.set_cons_succ, i64_w, i32_w]
                                                rfl
                                              refine take_ (i := 11) (N := some 51) (v := ?_) (a' := ?_) #[true, true, true, true, true, true, true, true, true, true, true, true, true, false, false, true, false, false, false, false, true, true, true, false, false, false, false] rfl rfl (take_ofW HT_.out HW_.out (by kernel_rfl)) (fun _ _ _ h => h) (Or.inl ⟨by rfl, ?_⟩) hHeld ?_ ?_
                                              rotate_left
                                              · rintro w' ⟨s0, s1, s2, s3, s4, s5, s6, s7, s8, s9, s10⟩
                                                go_simp
                                                with_reducible rfl
                                              rotate_left
                                              · simp only [Act.put, List.setIfInBounds_toArray, List.set_cons_zero, List.set_cons_succ, i64_w, i32_w]
                                                rfl
                                              refine pure_ (i := 13) (N := some 53) (v := ?_) (a' := ?_) #[true, true, true, true, true, true, true, true, true, true, true, true, true, true, false, true, false, false, false, false, true, true, true, false, false, false, false] rfl rfl (any_of HT_.out (by kernel_rfl)) (fun _ _ _ h => h) (Or.inl ⟨by rfl, ?_⟩) ?_ ?_
                                              rotate_left
                                              · intro w'
                                                go_simp
                                                with_reducible rfl
                                              rotate_left
                                              · simp only [Act.put, List.setIfInBounds_toArray, List.set_cons_zero, List.set_cons_succ, i64_w, i32_w]
                                                rfl
                                              refine take_ (i := 14) (N := some 54) (v := ?_) (a' := ?_) #[true, true, true, true, true, true, true, true, true, true, true, true, true, true, true, true, false, false, false, false, true, true, true, false, false, false, false] rfl rfl (take_ofW HT_.out HW_.out (by kernel_rfl)) (fun _ _ _ h => h) (Or.inl ⟨by rfl, ?_⟩) hHeld ?_ ?_
                                              rotate_left
                                              · rintro w' ⟨s0, s1, s2, s3, s4, s5, s6, s7, s8, s9, s10⟩
                                                go_simp
                                                with_reducible rfl
                                              rotate_left
                                              · simp only [Act.put, List.setIfInBounds_toArray, List.set_cons_zero, List.set_cons_succ, i64_w, i32_w]
                                                rfl
                                              refine pure_ (i := 16) (N := some 56) (v := ?_) (a' := ?_) #[true, true, true, true, true, true, true, true, true, true, true, true, true, true, true, true, true, false, false, false, true, true, true, false, false, false, false] rfl rfl (any_of HT_.out (by kernel_rfl)) (fun _ _ _ h => h) (Or.inl ⟨by rfl, ?_⟩) ?_ ?_
                                              rotate_left
                                              · intro w'
                                                go_simp
                                                with_reducible rfl
                                              rotate_left
                                              · simp only [Act.put, List.setIfInBounds_toArray, List.set_cons_zero, List.set_cons_succ, i64_w, i32_w]
                                                rfl
                                              refine take_ (i := 17) (N := some 57) (v := ?_) (a' := ?_) #[true, true, true, true, true, true, true, true, true, true, true, true, true, true, true, true, true, true, false, false, true, true, true, false, false, false, false] rfl rfl (take_ofW HT_.out HW_.out (by kernel_rfl)) (fun _ _ _ h => h) (Or.inl ⟨by rfl, ?_⟩) hHeld ?_ ?_
                                              rotate_left
                                              · rintro w' ⟨s0, s1, s2, s3, s4, s5, s6, s7, s8, s9, s10⟩
                                                go_simp
                                                with_reducible rfl
                                              rotate_left
                                              · simp only [Act.put, List.setIfInBounds_toArray, List.set_cons_zero, List.set_cons_succ, i64_w, i32_w]
                                                rfl
                                              refine pure_ (i := 18) (N := some 58) (v := ?_) (a' := ?_) #[true, true, true, true, true, true, true, true, true, true, true, true, true, true, true, true, true, true, true, false, true, true, true, false, false, false, false] rfl rfl (any_of HT_.out (by kernel_rfl)) (fun _ _ _ h => h) (Or.inl ⟨by rfl, ?_⟩) ?_ ?_
                                              rotate_left
                                              · intro w'
                                                go_simp
                                                with_reducible rfl
                                              rotate_left
                                              · simp only [Act.put, List.setIfInBounds_toArray, List.set_cons_zero, List.set_cons_succ, i64_w, i32_w]
                                                rfl
                                              refine take_ (i := 19) (N := some 59) (v := ?_) (a' := ?_) #[true, true, true, true, true, true, true, true, true, true, true, true, true, true, true, true, true, true, true, true, true, true, true, false, false, false, false] rfl rfl (take_ofW HT_.out HW_.out (by kernel_rfl)) (fun _ _ _ h => h) (Or.inl ⟨by rfl, ?_⟩) hHeld ?_ ?_
                                              rotate_left
                                              · rintro w' ⟨s0, s1, s2, s3, s4, s5, s6, s7, s8, s9, s10⟩
                                                go_simp
                                                with_reducible rfl
                                              rotate_left
                                              · simp only [Act.put, List.setIfInBounds_toArray, List.set_cons_zero, List.set_cons_succ, i64_w, i32_w]
                                                rfl
                                              refine take_ (i := 23) (N := some 63) (v := ?_) (a' := ?_) #[true, true, true, true, true, true, true, true, true, true, true, true, true, true, true, true, true, true, true, true, true, true, true, true, false, false, false] rfl rfl (take_ofW HT_.out HW_.out (by kernel_rfl)) (fun _ _ _ h => h) (Or.inl ⟨by rfl, ?_⟩) hHeld ?_ ?_
                                              rotate_left
                                              · rintro w' ⟨s0, s1, s2, s3, s4, s5, s6, s7, s8, s9, s10⟩
                                                go_simp
                                                with_reducible rfl
                                              rotate_left
                                              · simp only [Act.put, List.setIfInBounds_toArray, List.set_cons_zero, List.set_cons_succ, i64_w, i32_w]
                                                rfl
                                              refine pure_ (i := 24) (N := some 64) (v := ?_) (a' := ?_) #[true, true, true, true, true, true, true, true, true, true, true, true, true, true, true, true, true, true, true, true, true, true, true, true, true, false, false] rfl rfl (any_of HT_.out (by kernel_rfl)) (fun _ _ _ h => h) (Or.inl ⟨by rfl, ?_⟩) ?_ ?_
                                              rotate_left
                                              · intro w'
                                                go_simp
                                                with_reducible rfl
                                              rotate_left
                                              · simp only [Act.put, List.setIfInBounds_toArray, List.set_cons_zero, List.set_cons_succ, i64_w, i32_w]
                                                rfl
                                              refine pure_ (i := 25) (N := some 65) (v := ?_) (a' := ?_) #[true, true, true, true, true, true, true, true, true, true, true, true, true, true, true, true, true, true, true, true, true, true, true, true, true, true, false] rfl rfl (any_of HT_.out (by kernel_rfl)) (fun _ _ _ h => h) (Or.inl ⟨by rfl, ?_⟩) ?_ ?_
                                              rotate_left
                                              · intro w'
                                                go_simp
                                                with_reducible rfl
                                              rotate_left
                                              · simp only [Act.put, List.setIfInBounds_toArray, List.set_cons_zero, List.set_cons_succ, i64_w, i32_w]
                                                rfl
                                              refine last_ (i := 26) (N := none) #[true, true, true, true, true, true, true, true, true, true, true, true, true, true, true, true, true, true, true, true, true, true, true, true, true, true, true] rfl rfl (one_of HT_.out (by kernel_rfl)) (by decide) (fun K hK => ?_)
                                              refine skip_ (w1 := ?_) (by rfl) rfl ?_ ?_
                                              rotate_left
                                              · go_simp
                                                rfl
                                              refine hK.out _ _ ?_
                                              clear hK K
                                              refine done_ (done_of HT_.out (by kernel_rfl)) ?_
                                              try go_wp2
                                              go_roundg k3
                                              case measure => have := HK1.out; have := HK2.out; have := HK3.out; omega
                                              case rel => exact ⟨(y129), (wrap64 (x11_3 + 1)), (by first | rfl | (simp; done) | (simp [*]; done)), H', ⟨by have := HK1.out; have := HK2.out; have := HK3.out; omega⟩, ⟨by (with_reducible repeat (first | apply Kd.R_alloc | apply Kd.R_drewN | apply Kd.R_drew)); exact Kd.R_mono (Kd.R_far (p := ⟨go31, ((rd (rd_L1 l0_2 x10_2) x11_3) : Int).toNat, none⟩) (Kd.R_mono HO_7.out (fun k_ hk => (⟨hk, fun e_ => hk (by rw [e_]; rfl)⟩ : _ ∧ k_ ≠ go31))) (fun _ hk => hk.2) (.int .i64 (wrap64 ((rd x9_3 (rd (rd_L1 l0_2 x10_2) x11_3)) + (rd x7_1 x10_2))))) (fun _ hk => hk.1)⟩, ⟨by (with_reducible repeat (first | apply Kd.R_alloc | apply Kd.R_drewN | apply Kd.R_drew)); exact HQ36.out⟩, ⟨by (with_reducible repeat (first | refine blk_drewN ?_ _ | refine blk_drew ?_ | refine blk_alloc ?_ _)); refine blk_far ?_ (by have h_ := Kd.R_ne HO_9.out BK115.out (by decide); intro e_; exact h_ (by rw [e_]; rfl)) _; (with_reducible repeat (first | refine blk_drewN ?_ _ | refine blk_drew ?_ | refine blk_alloc ?_ _)); exact BK115.out⟩, ⟨by repeat (first | (with_reducible first | exact HB.out | apply below_alloc | apply pw_below_drewN | apply below_drew1 | refine below_set ?_ GB31.out | refine below_set ?_ GE115.out) | exact HB.out)⟩⟩
                                            · rw [if_neg c30] at H
                                              exact absurd H (by simp)
                                          · rw [if_neg c29] at H
                                            exact absurd H (by simp)
                                        · rw [if_neg c28] at H
                                          exact absurd H (by simp)
                                      · rw [if_neg c27] at H
                                        exact absurd H (by simp)
                                    · rw [if_neg c26] at H
                                      exact absurd H (by simp)
                                  · rw [if_neg c25] at H
                                    exact absurd H (by simp)
                                · rw [if_neg c24] at H
                                  exact absurd H (by simp)
                              · rw [if_neg c23] at H
                                have c23b0 : decide (x11_3 < a0_1) = false := decide_eq_false c23
                                clear c23
                                have H' := Aside0.mk H
                                clear H
                                have hcz37_0 : wr.cell? ⟨gb115, 0, none⟩ = some (.int .i64 a0_0) := (blk_cell BK115.out 0).trans rfl
                                have hcz37_1 : wr.cell? ⟨gb115, 1, none⟩ = some (.int .i64 a0_1) := (blk_cell BK115.out 1).trans rfl
                                have hcz37_2 : wr.cell? ⟨gb115, 2, none⟩ = some (.slice A0_2 l0_2.length c0_2) := (blk_cell BK115.out 2).trans rfl
                                have hcz37_3 : wr.cell? ⟨gb115, 3, none⟩ = some (.int .i64 a0_3) := (blk_cell BK115.out 3).trans rfl
                                have hcz37_4 : wr.cell? ⟨gb115, 4, none⟩ = some (.int .u32 a0_4) := (blk_cell BK115.out 4).trans rfl
                                have hfz37_0 := blk_frozen BK115.out 0
                                have hfz37_1 := blk_frozen BK115.out 1
                                have hfz37_2 := blk_frozen BK115.out 2
                                have hfz37_3 := blk_frozen BK115.out 3
                                have hfz37_4 := blk_frozen BK115.out 4
                                go_wp2
                                go_roundg k3
                                case measure => have := HK1.out; have := HK2.out; have := HK3.out; omega
                                case rel => exact ⟨(x9_3), (wrap64 (x10_2 + 1)), (by first | rfl | (simp; done) | (simp [*]; done)), H', ⟨by have := HK1.out; have := HK2.out; have := HK3.out; omega⟩, ⟨by (with_reducible repeat (first | apply Kd.R_alloc | apply Kd.R_drewN | apply Kd.R_drew)); exact HO_7.out⟩, ⟨by (with_reducible repeat (first | apply Kd.R_alloc | apply Kd.R_drewN | apply Kd.R_drew)); exact HO_9.out⟩, ⟨by (with_reducible repeat (first | refine blk_drewN ?_ _ | refine blk_drew ?_ | refine blk_alloc ?_ _)); exact BK115.out⟩, ⟨by repeat (first | (with_reducible first | exact HB.out | apply below_alloc | apply pw_below_drewN | apply below_drew1 | refine below_set ?_ GE115.out) | exact HB.out)⟩⟩
                        · rw [if_neg c21] at H
                          have c21b0 : decide (x10_2 < a0_0) = false := decide_eq_false c21
                          clear c21
                          have H' := Aside0.mk H
                          clear H
                          have hcz38_0 : wr.cell? ⟨gb115, 0, none⟩ = some (.int .i64 a0_0) := (blk_cell BK115.out 0).trans rfl
                          have hcz38_1 : wr.cell? ⟨gb115, 1, none⟩ = some (.int .i64 a0_1) := (blk_cell BK115.out 1).trans rfl
                          have hcz38_2 : wr.cell? ⟨gb115, 2, none⟩ = some (.slice A0_2 l0_2.length c0_2) := (blk_cell BK115.out 2).trans rfl
                          have hcz38_3 : wr.cell? ⟨gb115, 3, none⟩ = some (.int .i64 a0_3) := (blk_cell BK115.out 3).trans rfl
                          have hcz38_4 : wr.cell? ⟨gb115, 4, none⟩ = some (.int .u32 a0_4) := (blk_cell BK115.out 4).trans rfl
                          have hfz38_0 := blk_frozen BK115.out 0
                          have hfz38_1 := blk_frozen BK115.out 1
                          have hfz38_2 := blk_frozen BK115.out 2
                          have hfz38_3 := blk_frozen BK115.out 3
                          have hfz38_4 := blk_frozen BK115.out 4
                          go_wp2
                          go_roundg k2
                          case measure => have := HK1.out; have := HK2.out; omega
                          case rel => exact ⟨(x9_2), (wrap64 (x8_1 + 1)), (by first | rfl | (simp; done) | (simp [*]; done)), H', ⟨by have := HK1.out; have := HK2.out; omega⟩, ⟨by (with_reducible repeat (first | apply Kd.R_alloc | apply Kd.R_drewN | apply Kd.R_drew)); exact Kd.R_mono HO_9.out (fun _ hk => trivial)⟩, ⟨by (with_reducible repeat (first | refine blk_drewN ?_ _ | refine blk_drew ?_ | refine blk_alloc ?_ _)); exact BK115.out⟩, ⟨by repeat (first | (with_reducible first | exact HB.out | apply below_alloc | apply pw_below_drewN | apply below_drew1 | refine below_set ?_ GE115.out) | exact HB.out)⟩⟩
                  · rw [if_neg c17] at H
                    exact absurd H (by simp)
                · rw [if_neg c16] at H
                  exact absurd H (by simp)
              · rw [if_neg c15] at H
                have c15b0 : decide (x8_1 < a2) = false := decide_eq_false c15
                clear c15
                have H' := Aside0.mk H
                clear H
                go_wp2
                go_loopg [12, 13] k1 (fun kq v12 v13 w' => ∃ (x12_2 : Int) (x13_2 : Int), v12 = .int .i64 x12_2 ∧ v13 = .int .i64 x13_2 ∧ Aside0 (coppicerref_Many.l3 kq x7_1 x12_2 x13_2 a0_0 a0_1 l0_2 a0_3 a0_4 = some r) ∧ Aside0 (kq ≤ k1) ∧ Aside0 (Kd.R (Kd.int .i64) 2 w' w.heap.size (fun _ => True) u7 x7_1) ∧ Aside0 (w'.heap[gb115]? = some (.cells #[.int .i64 a0_0, .int .i64 a0_1, (.slice A0_2 l0_2.length c0_2), .int .i64 a0_3, .int .u32 a0_4] 41 (0, 0))) ∧ Aside0 (Below w.heap.size w w'))
                case atStart => exact ⟨(0), (0), (by first | rfl | (simp; done) | (simp [*]; done)), (by first | rfl | (simp; done) | (simp [*]; done)), H', ⟨Nat.le_refl _⟩, ⟨by (with_reducible repeat (first | apply Kd.R_alloc | apply Kd.R_drewN | apply Kd.R_drew)); exact HO_7.out⟩, ⟨by (with_reducible repeat (first | refine blk_drewN ?_ _ | refine blk_drew ?_ | refine blk_alloc ?_ _)); exact BK115.out⟩, ⟨by repeat (first | (with_reducible first | exact HB.out | apply below_alloc | apply pw_below_drewN | apply below_drew1 | refine below_set ?_ GE115.out) | exact HB.out)⟩⟩
                case round =>
                  clear H'
                  try clear c1
                  try clear p1
                  try clear q1
                  try clear hx1
                  try clear c2
                  try clear p2
                  try clear c3
                  try clear p3
                  try clear q3
                  try clear hx3
                  try clear hf3
                  try clear c4
                  try clear c4b0
                  try clear c4b1
                  try clear c5
                  try clear c5b0
                  try clear c5b1
                  try clear c6
                  try clear c6b0
                  try clear p6
                  try clear c7
                  try clear c7b0
                  try clear p8
                  try clear q8
                  try clear hx8
                  try clear hf8
                  try clear c12
                  try clear p12
                  try clear q12
                  try clear hx12
                  try clear c15
                  try clear c15b0
                  try clear c16
                  try clear c16b0
                  try clear c16b1
                  try clear c17
                  try clear c17b0
                  try clear c17b1
                  try clear c21
                  try clear c21b0
                  try clear c23
                  try clear c23b0
                  try clear c24
                  try clear c24b0
                  try clear c25
                  try clear c25b0
                  try clear c26
                  try clear c26b0
                  try clear c27
                  try clear c27b0
                  try clear c28
                  try clear c28b0
                  try clear c29
                  try clear c29b0
                  try clear c30
                  try clear c30b0
                  try clear p31
                  try clear q31
                  try clear hx31
                  try clear hf31
                  try clear hcz10_0
                  try clear hcz10_1
                  try clear hcz10_2
                  try clear hcz10_3
                  try clear hcz10_4
                  try clear hcz18_0
                  try clear hcz18_1
                  try clear hcz18_2
                  try clear hcz18_3
                  try clear hcz18_4
                  try clear hcz22_0
                  try clear hcz22_1
                  try clear hcz22_2
                  try clear hcz22_3
                  try clear hcz22_4
                  try clear hcz32_0
                  try clear hcz32_1
                  try clear hcz32_2
                  try clear hcz32_3
                  try clear hcz32_4
                  try clear hcz37_0
                  try clear hcz37_1
                  try clear hcz37_2
                  try clear hcz37_3
                  try clear hcz37_4
                  try clear hcz38_0
                  try clear hcz38_1
                  try clear hcz38_2
                  try clear hcz38_3
                  try clear hcz38_4
                  try clear hfz10_0
                  try clear hfz10_1
                  try clear hfz10_2
                  try clear hfz10_3
                  try clear hfz10_4
                  try clear hfz18_0
                  try clear hfz18_1
                  try clear hfz18_2
                  try clear hfz18_3
                  try clear hfz18_4
                  try clear hfz22_0
                  try clear hfz22_1
                  try clear hfz22_2
                  try clear hfz22_3
                  try clear hfz22_4
                  try clear hfz32_0
                  try clear hfz32_1
                  try clear hfz32_2
                  try clear hfz32_3
                  try clear hfz32_4
                  try clear hfz37_0
                  try clear hfz37_1
                  try clear hfz37_2
                  try clear hfz37_3
                  try clear hfz37_4
                  try clear hfz38_0
                  try clear hfz38_1
                  try clear hfz38_2
                  try clear hfz38_3
                  try clear hfz38_4
                  try clear hx123_0
                  try clear hx124_0
                  try clear hx125_0
                  try clear hx126_0
                  try clear hx127_0
                  try clear hx128_0
                  try clear hx31_0
                  try clear hx8_0
                  try clear p123
                  try clear p124
                  try clear p125
                  try clear p126
                  try clear p127
                  try clear p128
                  try clear p2
                  try clear p31
                  try clear p8
                  try clear q123
                  try clear q124
                  try clear q125
                  try clear q126
                  try clear q127
                  try clear q128
                  try clear q31
                  try clear q8
                  obtain ⟨x12_2, x13_2, rfl, rfl, HA, HK2, HO_7, BK115, HB⟩ := hrel
                  cases gk with
                  | zero => exact absurd HA.out (by simp [coppicerref_Many.l3])
                  | succ k2 =>
                    have H := HA.out
                    clear HA
                    simp only [coppicerref_Many.l3] at H
                    by_cases c39 : x13_2 < a0_0
                    · rw [if_pos c39] at H
                      have c39b0 : decide (x13_2 < a0_0) = true := decide_eq_true c39
                      clear c39
                      replace H := Option.bind_eq_some_iff.mp H
                      obtain ⟨t130, A400, H⟩ := H
                      replace H : (if t130 = true then (if 0 ≤ x13_2 then (if x13_2 < (x7_1.length : Int) then (coppicerref_Many.l3 k2 x7_1 (wrap64 (x12_2 + (rd x7_1 x13_2))) (wrap64 (x13_2 + 1)) a0_0 a0_1 l0_2 a0_3 a0_4) else (none)) else (none)) else (coppicerref_Many.l3 k2 x7_1 x12_2 (wrap64 (x13_2 + 1)) a0_0 a0_1 l0_2 a0_3 a0_4)) = some r := H
                      have A40 := Aside0.mk A400
                      clear A400
                      by_cases c41 : t130 = true
                      · subst c41
                        have H1 : (if 0 ≤ x13_2 then (if x13_2 < (x7_1.length : Int) then (coppicerref_Many.l3 k2 x7_1 (wrap64 (x12_2 + (rd x7_1 x13_2))) (wrap64 (x13_2 + 1)) a0_0 a0_1 l0_2 a0_3 a0_4) else (none)) else (none)) = some r := by rw [if_pos rfl] at H; exact H
                        clear H
                        have H := H1
                        clear H1
                        by_cases c42 : 0 ≤ x13_2
                        · rw [if_pos c42] at H
                          have c42b0 : decide (0 ≤ x13_2) = true := decide_eq_true c42
                          clear c42
                          by_cases c43 : x13_2 < (x7_1.length : Int)
                          · rw [if_pos c43] at H
                            have c43b0 : decide (x13_2 < (x7_1.length : Int)) = true := decide_eq_true c43
                            clear c43
                            have H' := Aside0.mk H
                            clear H
                            have hcz44_0 : wr.cell? ⟨gb115, 0, none⟩ = some (.int .i64 a0_0) := (blk_cell BK115.out 0).trans rfl
                            have hcz44_1 : wr.cell? ⟨gb115, 1, none⟩ = some (.int .i64 a0_1) := (blk_cell BK115.out 1).trans rfl
                            have hcz44_2 : wr.cell? ⟨gb115, 2, none⟩ = some (.slice A0_2 l0_2.length c0_2) := (blk_cell BK115.out 2).trans rfl
                            have hcz44_3 : wr.cell? ⟨gb115, 3, none⟩ = some (.int .i64 a0_3) := (blk_cell BK115.out 3).trans rfl
                            have hcz44_4 : wr.cell? ⟨gb115, 4, none⟩ = some (.int .u32 a0_4) := (blk_cell BK115.out 4).trans rfl
                            have hfz44_0 := blk_frozen BK115.out 0
                            have hfz44_1 := blk_frozen BK115.out 1
                            have hfz44_2 := blk_frozen BK115.out 2
                            have hfz44_3 := blk_frozen BK115.out 3
                            have hfz44_4 := blk_frozen BK115.out 4
                            go_wp2_with (first | ((with_reducible refine gate_callee (f := 50) rfl ?_); refine goesL_ (some 76) rfl rfl Try.func50 (by kernel_rfl) rfl #[.int .u32 a0_4, .int .i64 x13_2] rfl (by (try simp only [List.map_toArray, List.map_cons, List.map_nil]); first | done | rfl | (simp only [List.length_drop, List.length_take]; rfl)) ?_; (with_reducible refine (coppicerref_Bit.calls a0_4 x13_2 true _ A40.out).mono ?_); rintro e w' ⟨rfl, ⟨nd, rfl⟩⟩; refine ⟨_, rfl, ?_⟩; obtain ⟨Ao45, co45, eo45⟩ := Kd.R_slice HO_7.out; subst eo45; have p131 : 0 ≤ (x13_2 : Int) := of_decide_eq_true (by first | (with_reducible assumption) | assumption); have q131 : x13_2 < (x7_1.length : Int) := of_decide_eq_true (by first | (with_reducible assumption) | assumption); obtain ⟨ad131, e131, hx131_0⟩ := Kd.at_int (Kd.R_reads' HO_7.out).2.2 x13_2 p131 q131; cases e131; replace p131 := eq_true p131; replace q131 := eq_true q131))
                            go_roundg k2
                            case measure => have := HK1.out; have := HK2.out; omega
                            case rel => exact ⟨(wrap64 (x12_2 + (rd x7_1 x13_2))), (wrap64 (x13_2 + 1)), (by first | rfl | (simp; done) | (simp [*]; done)), (by first | rfl | (simp; done) | (simp [*]; done)), H', ⟨by have := HK1.out; have := HK2.out; omega⟩, ⟨by (with_reducible repeat (first | apply Kd.R_alloc | apply Kd.R_drewN | apply Kd.R_drew)); exact HO_7.out⟩, ⟨by (with_reducible repeat (first | refine blk_drewN ?_ _ | refine blk_drew ?_ | refine blk_alloc ?_ _)); exact BK115.out⟩, ⟨by repeat (first | (with_reducible first | exact HB.out | apply below_alloc | apply pw_below_drewN | apply below_drew1 | refine below_set ?_ GE115.out) | exact HB.out)⟩⟩
                          · rw [if_neg c43] at H
                            exact absurd H (by simp)
                        · rw [if_neg c42] at H
                          exact absurd H (by simp)
                      · replace c41 := Bool.eq_false_iff.mpr c41
                        subst c41
                        have H1 : (coppicerref_Many.l3 k2 x7_1 x12_2 (wrap64 (x13_2 + 1)) a0_0 a0_1 l0_2 a0_3 a0_4) = some r := by rw [if_neg (show ¬ (false = true) by decide)] at H; exact H
                        clear H
                        have H := H1
                        clear H1
                        have H' := Aside0.mk H
                        clear H
                        have hcz46_0 : wr.cell? ⟨gb115, 0, none⟩ = some (.int .i64 a0_0) := (blk_cell BK115.out 0).trans rfl
                        have hcz46_1 : wr.cell? ⟨gb115, 1, none⟩ = some (.int .i64 a0_1) := (blk_cell BK115.out 1).trans rfl
                        have hcz46_2 : wr.cell? ⟨gb115, 2, none⟩ = some (.slice A0_2 l0_2.length c0_2) := (blk_cell BK115.out 2).trans rfl
                        have hcz46_3 : wr.cell? ⟨gb115, 3, none⟩ = some (.int .i64 a0_3) := (blk_cell BK115.out 3).trans rfl
                        have hcz46_4 : wr.cell? ⟨gb115, 4, none⟩ = some (.int .u32 a0_4) := (blk_cell BK115.out 4).trans rfl
                        have hfz46_0 := blk_frozen BK115.out 0
                        have hfz46_1 := blk_frozen BK115.out 1
                        have hfz46_2 := blk_frozen BK115.out 2
                        have hfz46_3 := blk_frozen BK115.out 3
                        have hfz46_4 := blk_frozen BK115.out 4
                        go_wp2_with (first | ((with_reducible refine gate_callee (f := 50) rfl ?_); refine goesL_ (some 76) rfl rfl Try.func50 (by kernel_rfl) rfl #[.int .u32 a0_4, .int .i64 x13_2] rfl (by (try simp only [List.map_toArray, List.map_cons, List.map_nil]); first | done | rfl | (simp only [List.length_drop, List.length_take]; rfl)) ?_; (with_reducible refine (coppicerref_Bit.calls a0_4 x13_2 false _ A40.out).mono ?_); rintro e w' ⟨rfl, ⟨nd, rfl⟩⟩; refine ⟨_, rfl, ?_⟩))
                        go_roundg k2
                        case measure => have := HK1.out; have := HK2.out; omega
                        case rel => exact ⟨(x12_2), (wrap64 (x13_2 + 1)), (by first | rfl | (simp; done) | (simp [*]; done)), (by first | rfl | (simp; done) | (simp [*]; done)), H', ⟨by have := HK1.out; have := HK2.out; omega⟩, ⟨by (with_reducible repeat (first | apply Kd.R_alloc | apply Kd.R_drewN | apply Kd.R_drew)); exact HO_7.out⟩, ⟨by (with_reducible repeat (first | refine blk_drewN ?_ _ | refine blk_drew ?_ | refine blk_alloc ?_ _)); exact BK115.out⟩, ⟨by repeat (first | (with_reducible first | exact HB.out | apply below_alloc | apply pw_below_drewN | apply below_drew1 | refine below_set ?_ GE115.out) | exact HB.out)⟩⟩
                    · rw [if_neg c39] at H
                      have c39b0 : decide (x13_2 < a0_0) = false := decide_eq_false c39
                      clear c39
                      obtain rfl := Option.some.inj H
                      have hcz47_0 : wr.cell? ⟨gb115, 0, none⟩ = some (.int .i64 a0_0) := (blk_cell BK115.out 0).trans rfl
                      have hcz47_1 : wr.cell? ⟨gb115, 1, none⟩ = some (.int .i64 a0_1) := (blk_cell BK115.out 1).trans rfl
                      have hcz47_2 : wr.cell? ⟨gb115, 2, none⟩ = some (.slice A0_2 l0_2.length c0_2) := (blk_cell BK115.out 2).trans rfl
                      have hcz47_3 : wr.cell? ⟨gb115, 3, none⟩ = some (.int .i64 a0_3) := (blk_cell BK115.out 3).trans rfl
                      have hcz47_4 : wr.cell? ⟨gb115, 4, none⟩ = some (.int .u32 a0_4) := (blk_cell BK115.out 4).trans rfl
                      have hfz47_0 := blk_frozen BK115.out 0
                      have hfz47_1 := blk_frozen BK115.out 1
                      have hfz47_2 := blk_frozen BK115.out 2
                      have hfz47_3 := blk_frozen BK115.out 3
                      have hfz47_4 := blk_frozen BK115.out 4
                      go_wp2
                      go_ret
                      exact ⟨by first | rfl | (simp [errW_none, errW_some] <;> rfl) | (simp [*, errW_none, errW_some] <;> rfl), by repeat (first | (with_reducible first | exact HB.out | apply below_alloc | apply pw_below_drewN | apply below_drew1 | refine below_set ?_ GE115.out) | exact HB.out)⟩
        · rw [if_neg c7] at H
          exact absurd H (by simp)
      · rw [if_neg c6] at H
        exact absurd H (by simp)
    · rw [if_neg c5] at H
      exact absurd H (by simp)
  · rw [if_neg c4] at H
    exact absurd H (by simp)

end Go.Proofs.Ytidjihmlkaeemaa.PTallyWords
