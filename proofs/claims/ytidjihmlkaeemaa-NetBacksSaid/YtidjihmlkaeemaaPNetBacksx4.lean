-- Written by a program of this session: a turn of the print kit's own.
import Derived.Test.YtidjihmlkaeemaaPNetBacksx0
import Derived.Test.YtidjihmlkaeemaaPNetBacksx2
import Derived.Test.YtidjihmlkaeemaaPNetBacksx3
namespace Go.Proofs.Ytidjihmlkaeemaa.PNetBacks
open Go.RowKit Go.Proofs.YtidjihmlkaeemaaW.PrintWords Go.Proofs.YtidjihmlkaeemaaW.PrintLast Go.Proofs.YtidjihmlkaeemaaW.PrintMore
attribute [local go_sem] max2_int min2_int max_two min_two max_three min_three max_four min_four   -- for this text's walks alone
set_option linter.unusedVariables false
set_option linter.unusedSimpArgs false

/-! ### coppicerlaw_NetBacks: function 3 -/
mutual
def coppicerlaw_NetBacks.j1 : Nat → Bool → Int → Int → List (S31) → Int → Int → Int → Int → List (S31) → Int → Int → Option (Bool)
  | 0, _, _, _, _, _, _, _, _, _, _, _ => none
  | k + 1, x84, x118000, x118001, x118002, x118003, x118004, x127000, x127001, x127002, x127003, x127004 => if x84 = true then (some false) else (coppicerlaw_NetBacks.l0 k x118002 (x118002.length : Int) 0 x127000 x127001 x127002 x127003 x127004)
def coppicerlaw_NetBacks.l0 : Nat → List (S31) → Int → Int → Int → Int → List (S31) → Int → Int → Option (Bool)
  | 0, _, _, _, _, _, _, _, _ => none
  | k + 1, x86, x87, x88, x127000, x127001, x127002, x127003, x127004 => if x88 < x87 then (if 0 ≤ x88 then (if x88 < (x86.length : Int) then (if x88 < (x127002.length : Int) then (if ((rd_T31 x127002 x88).f0) = ((rd_T31 x86 x88).f2) then (if ((rd_T31 x127002 x88).f2) = ((rd_T31 x86 x88).f0) then (coppicerlaw_NetBacks.j3 k x86 x87 x88 (((rd_T31 x127002 x88).f1) != ((rd_T31 x86 x88).f1)) x127000 x127001 x127002 x127003 x127004) else (coppicerlaw_NetBacks.j3 k x86 x87 x88 true x127000 x127001 x127002 x127003 x127004)) else (coppicerlaw_NetBacks.j3 k x86 x87 x88 true x127000 x127001 x127002 x127003 x127004)) else (none)) else (none)) else (none)) else (some true)
def coppicerlaw_NetBacks.j3 : Nat → List (S31) → Int → Int → Bool → Int → Int → List (S31) → Int → Int → Option (Bool)
  | 0, _, _, _, _, _, _, _, _, _ => none
  | k + 1, x86, x87, x88, x123, x127000, x127001, x127002, x127003, x127004 => if x123 = true then (some false) else (coppicerlaw_NetBacks.l0 k x86 x87 (wrap64 (x88 + 1)) x127000 x127001 x127002 x127003 x127004)
def coppicerlaw_NetBacks.j0 : Nat → Bool → Option (Bool)
  | 0, _ => none
  | k + 1, x2 => some x2
end
def coppicerlaw_NetBacks.f (k : Nat) (a0_0 : Int) (a0_1 : Int) (l0_2 : List (S31)) (a0_3 : Int) (a0_4 : Int) : Option (Bool) := (net_Back.f k a0_0 a0_1 l0_2 a0_3 a0_4).bind fun bt118 => ((coppicerref_NetCheck.f k a0_0 a0_1 l0_2 a0_3 a0_4).bind fun t127 => (if t127 = 0 then (if bt118.2.2.2.2.2 = 0 then (if bt118.1 = a0_0 then (if bt118.2.1 = a0_1 then (if bt118.2.2.2.1 = a0_4 then (if bt118.2.2.2.2.1 = a0_3 then (coppicerlaw_NetBacks.j1 k ((bt118.2.2.1.length : Int) != (l0_2.length : Int)) a0_0 a0_1 l0_2 a0_3 a0_4 bt118.1 bt118.2.1 bt118.2.2.1 bt118.2.2.2.1 bt118.2.2.2.2.1) else (coppicerlaw_NetBacks.j1 k true a0_0 a0_1 l0_2 a0_3 a0_4 bt118.1 bt118.2.1 bt118.2.2.1 bt118.2.2.2.1 bt118.2.2.2.2.1)) else (coppicerlaw_NetBacks.j1 k true a0_0 a0_1 l0_2 a0_3 a0_4 bt118.1 bt118.2.1 bt118.2.2.1 bt118.2.2.2.1 bt118.2.2.2.2.1)) else (coppicerlaw_NetBacks.j1 k true a0_0 a0_1 l0_2 a0_3 a0_4 bt118.1 bt118.2.1 bt118.2.2.1 bt118.2.2.2.1 bt118.2.2.2.2.1)) else (coppicerlaw_NetBacks.j1 k true a0_0 a0_1 l0_2 a0_3 a0_4 bt118.1 bt118.2.1 bt118.2.2.1 bt118.2.2.2.1 bt118.2.2.2.2.1)) else (coppicerlaw_NetBacks.j1 k true a0_0 a0_1 l0_2 a0_3 a0_4 bt118.1 bt118.2.1 bt118.2.2.1 bt118.2.2.2.1 bt118.2.2.2.2.1)) else (if bt118.2.2.2.2.2 = t127 then (if bt118.1 = 0 then (if bt118.2.1 = 0 then (if (bt118.2.2.1.length : Int) = 0 then (if bt118.2.2.2.1 = 0 then (coppicerlaw_NetBacks.j0 k (bt118.2.2.2.2.1 == 0)) else (coppicerlaw_NetBacks.j0 k false)) else (coppicerlaw_NetBacks.j0 k false)) else (coppicerlaw_NetBacks.j0 k false)) else (coppicerlaw_NetBacks.j0 k false)) else (coppicerlaw_NetBacks.j0 k false))))
theorem coppicerlaw_NetBacks.mono_l : ∀ k, (∀ y0 y1 y2 y3 y4 y5 y6 y7 y8 y9 y10, LeO (coppicerlaw_NetBacks.j1 k y0 y1 y2 y3 y4 y5 y6 y7 y8 y9 y10) (coppicerlaw_NetBacks.j1 (k + 1) y0 y1 y2 y3 y4 y5 y6 y7 y8 y9 y10)) ∧ (∀ y0 y1 y2 y3 y4 y5 y6 y7, LeO (coppicerlaw_NetBacks.l0 k y0 y1 y2 y3 y4 y5 y6 y7) (coppicerlaw_NetBacks.l0 (k + 1) y0 y1 y2 y3 y4 y5 y6 y7)) ∧ (∀ y0 y1 y2 y3 y4 y5 y6 y7 y8, LeO (coppicerlaw_NetBacks.j3 k y0 y1 y2 y3 y4 y5 y6 y7 y8) (coppicerlaw_NetBacks.j3 (k + 1) y0 y1 y2 y3 y4 y5 y6 y7 y8)) ∧ (∀ y0, LeO (coppicerlaw_NetBacks.j0 k y0) (coppicerlaw_NetBacks.j0 (k + 1) y0))
  | 0 => ⟨fun _ _ _ _ _ _ _ _ _ _ _ r h => by simp [coppicerlaw_NetBacks.j1] at h, fun _ _ _ _ _ _ _ _ r h => by simp [coppicerlaw_NetBacks.l0] at h, fun _ _ _ _ _ _ _ _ _ r h => by simp [coppicerlaw_NetBacks.j3] at h, fun _ r h => by simp [coppicerlaw_NetBacks.j0] at h⟩
  | k + 1 => by
    obtain ⟨ih0, ih1, ih2, ih3⟩ := coppicerlaw_NetBacks.mono_l k
    refine ⟨?_, ?_, ?_, ?_⟩
    · intro y0 y1 y2 y3 y4 y5 y6 y7 y8 y9 y10
      unfold coppicerlaw_NetBacks.j1
      repeat' first
      | (with_reducible exact ih0 _ _ _ _ _ _ _ _ _ _ _)
      | (with_reducible exact ih1 _ _ _ _ _ _ _ _)
      | (with_reducible exact ih2 _ _ _ _ _ _ _ _ _)
      | (with_reducible exact ih3 _)
      | (with_reducible exact coppicerref_NetCheck.mono _ _ _ _ _ _)
      | (with_reducible exact net_Back.mono _ _ _ _ _ _)
      | (with_reducible exact LeO.refl _)
      | (with_reducible exact LeO.none _)
      | (with_reducible refine LeO.ite ?_ ?_)
      | (with_reducible refine LeO.bind ?_ (fun _ => ?_))
      | exact ih0 _ _ _ _ _ _ _ _ _ _ _
      | exact ih1 _ _ _ _ _ _ _ _
      | exact ih2 _ _ _ _ _ _ _ _ _
      | exact ih3 _
      | exact coppicerref_NetCheck.mono _ _ _ _ _ _
      | exact net_Back.mono _ _ _ _ _ _
      | exact LeO.none _
      | refine LeO.ite ?_ ?_
      | refine LeO.bind ?_ (fun _ => ?_)
    · intro y0 y1 y2 y3 y4 y5 y6 y7
      unfold coppicerlaw_NetBacks.l0
      repeat' first
      | (with_reducible exact ih0 _ _ _ _ _ _ _ _ _ _ _)
      | (with_reducible exact ih1 _ _ _ _ _ _ _ _)
      | (with_reducible exact ih2 _ _ _ _ _ _ _ _ _)
      | (with_reducible exact ih3 _)
      | (with_reducible exact coppicerref_NetCheck.mono _ _ _ _ _ _)
      | (with_reducible exact net_Back.mono _ _ _ _ _ _)
      | (with_reducible exact LeO.refl _)
      | (with_reducible exact LeO.none _)
      | (with_reducible refine LeO.ite ?_ ?_)
      | (with_reducible refine LeO.bind ?_ (fun _ => ?_))
      | exact ih0 _ _ _ _ _ _ _ _ _ _ _
      | exact ih1 _ _ _ _ _ _ _ _
      | exact ih2 _ _ _ _ _ _ _ _ _
      | exact ih3 _
      | exact coppicerref_NetCheck.mono _ _ _ _ _ _
      | exact net_Back.mono _ _ _ _ _ _
      | exact LeO.none _
      | refine LeO.ite ?_ ?_
      | refine LeO.bind ?_ (fun _ => ?_)
    · intro y0 y1 y2 y3 y4 y5 y6 y7 y8
      unfold coppicerlaw_NetBacks.j3
      repeat' first
      | (with_reducible exact ih0 _ _ _ _ _ _ _ _ _ _ _)
      | (with_reducible exact ih1 _ _ _ _ _ _ _ _)
      | (with_reducible exact ih2 _ _ _ _ _ _ _ _ _)
      | (with_reducible exact ih3 _)
      | (with_reducible exact coppicerref_NetCheck.mono _ _ _ _ _ _)
      | (with_reducible exact net_Back.mono _ _ _ _ _ _)
      | (with_reducible exact LeO.refl _)
      | (with_reducible exact LeO.none _)
      | (with_reducible refine LeO.ite ?_ ?_)
      | (with_reducible refine LeO.bind ?_ (fun _ => ?_))
      | exact ih0 _ _ _ _ _ _ _ _ _ _ _
      | exact ih1 _ _ _ _ _ _ _ _
      | exact ih2 _ _ _ _ _ _ _ _ _
      | exact ih3 _
      | exact coppicerref_NetCheck.mono _ _ _ _ _ _
      | exact net_Back.mono _ _ _ _ _ _
      | exact LeO.none _
      | refine LeO.ite ?_ ?_
      | refine LeO.bind ?_ (fun _ => ?_)
    · intro y0
      unfold coppicerlaw_NetBacks.j0
      repeat' first
      | (with_reducible exact ih0 _ _ _ _ _ _ _ _ _ _ _)
      | (with_reducible exact ih1 _ _ _ _ _ _ _ _)
      | (with_reducible exact ih2 _ _ _ _ _ _ _ _ _)
      | (with_reducible exact ih3 _)
      | (with_reducible exact coppicerref_NetCheck.mono _ _ _ _ _ _)
      | (with_reducible exact net_Back.mono _ _ _ _ _ _)
      | (with_reducible exact LeO.refl _)
      | (with_reducible exact LeO.none _)
      | (with_reducible refine LeO.ite ?_ ?_)
      | (with_reducible refine LeO.bind ?_ (fun _ => ?_))
      | exact ih0 _ _ _ _ _ _ _ _ _ _ _
      | exact ih1 _ _ _ _ _ _ _ _
      | exact ih2 _ _ _ _ _ _ _ _ _
      | exact ih3 _
      | exact coppicerref_NetCheck.mono _ _ _ _ _ _
      | exact net_Back.mono _ _ _ _ _ _
      | exact LeO.none _
      | refine LeO.ite ?_ ?_
      | refine LeO.bind ?_ (fun _ => ?_)
theorem coppicerlaw_NetBacks.mono : ∀ a0 a1 a2 a3 a4 k, LeO (coppicerlaw_NetBacks.f k a0 a1 a2 a3 a4) (coppicerlaw_NetBacks.f (k + 1) a0 a1 a2 a3 a4) := by
  intro a0 a1 a2 a3 a4 k
  obtain ⟨ih0, ih1, ih2, ih3⟩ := coppicerlaw_NetBacks.mono_l k
  unfold coppicerlaw_NetBacks.f
  repeat' first
      | (with_reducible exact ih0 _ _ _ _ _ _ _ _ _ _ _)
      | (with_reducible exact ih1 _ _ _ _ _ _ _ _)
      | (with_reducible exact ih2 _ _ _ _ _ _ _ _ _)
      | (with_reducible exact ih3 _)
      | (with_reducible exact coppicerref_NetCheck.mono _ _ _ _ _ _)
      | (with_reducible exact net_Back.mono _ _ _ _ _ _)
      | (with_reducible exact LeO.refl _)
      | (with_reducible exact LeO.none _)
      | (with_reducible refine LeO.ite ?_ ?_)
      | (with_reducible refine LeO.bind ?_ (fun _ => ?_))
      | exact ih0 _ _ _ _ _ _ _ _ _ _ _
      | exact ih1 _ _ _ _ _ _ _ _
      | exact ih2 _ _ _ _ _ _ _ _ _
      | exact ih3 _
      | exact coppicerref_NetCheck.mono _ _ _ _ _ _
      | exact net_Back.mono _ _ _ _ _ _
      | exact LeO.none _
      | refine LeO.ite ?_ ?_
      | refine LeO.bind ?_ (fun _ => ?_)
set_option maxHeartbeats 8000000 in
set_option maxRecDepth 100000 in
theorem coppicerlaw_NetBacks.calls (k : Nat) (a0_0 : Int) (a0_1 : Int) (A0_2 : Option Addr) (c0_2 : Nat) (l0_2 : List (S31)) (a0_3 : Int) (a0_4 : Int) (r : Bool) (w : World) (hr0_2 : Kd.C k31 w A0_2 l0_2.length l0_2) (hc0_2 : l0_2.length ≤ c0_2) (h : coppicerlaw_NetBacks.f k a0_0 a0_1 l0_2 a0_3 a0_4 = some r) :
    Calls Try.prog 3 #[.agg #[.int .i64 a0_0, .int .i64 a0_1, .slice A0_2 l0_2.length c0_2, .int .u32 a0_3, .int .u32 a0_4]] w fun e w' => e = .returned (.bool r) ∧ Below w.heap.size w w' := by
  have hu25 := Try.underlying25
  have hu31 := Try.underlying31
  have HR0_2 := Aside0.mk hr0_2
  have HC0_2 := Aside0.mk hc0_2
  clear hr0_2 hc0_2
  have HB := Aside0.mk (Below.refl w.heap.size w)
  have H : ((net_Back.f k a0_0 a0_1 l0_2 a0_3 a0_4).bind fun bt118 => ((coppicerref_NetCheck.f k a0_0 a0_1 l0_2 a0_3 a0_4).bind fun t127 => (if t127 = 0 then (if bt118.2.2.2.2.2 = 0 then (if bt118.1 = a0_0 then (if bt118.2.1 = a0_1 then (if bt118.2.2.2.1 = a0_4 then (if bt118.2.2.2.2.1 = a0_3 then (coppicerlaw_NetBacks.j1 k ((bt118.2.2.1.length : Int) != (l0_2.length : Int)) a0_0 a0_1 l0_2 a0_3 a0_4 bt118.1 bt118.2.1 bt118.2.2.1 bt118.2.2.2.1 bt118.2.2.2.2.1) else (coppicerlaw_NetBacks.j1 k true a0_0 a0_1 l0_2 a0_3 a0_4 bt118.1 bt118.2.1 bt118.2.2.1 bt118.2.2.2.1 bt118.2.2.2.2.1)) else (coppicerlaw_NetBacks.j1 k true a0_0 a0_1 l0_2 a0_3 a0_4 bt118.1 bt118.2.1 bt118.2.2.1 bt118.2.2.2.1 bt118.2.2.2.2.1)) else (coppicerlaw_NetBacks.j1 k true a0_0 a0_1 l0_2 a0_3 a0_4 bt118.1 bt118.2.1 bt118.2.2.1 bt118.2.2.2.1 bt118.2.2.2.2.1)) else (coppicerlaw_NetBacks.j1 k true a0_0 a0_1 l0_2 a0_3 a0_4 bt118.1 bt118.2.1 bt118.2.2.1 bt118.2.2.2.1 bt118.2.2.2.2.1)) else (coppicerlaw_NetBacks.j1 k true a0_0 a0_1 l0_2 a0_3 a0_4 bt118.1 bt118.2.1 bt118.2.2.1 bt118.2.2.2.1 bt118.2.2.2.2.1)) else (if bt118.2.2.2.2.2 = t127 then (if bt118.1 = 0 then (if bt118.2.1 = 0 then (if (bt118.2.2.1.length : Int) = 0 then (if bt118.2.2.2.1 = 0 then (coppicerlaw_NetBacks.j0 k (bt118.2.2.2.2.1 == 0)) else (coppicerlaw_NetBacks.j0 k false)) else (coppicerlaw_NetBacks.j0 k false)) else (coppicerlaw_NetBacks.j0 k false)) else (coppicerlaw_NetBacks.j0 k false)) else (coppicerlaw_NetBacks.j0 k false))))) = some r := h
  clear h
  replace H := Option.bind_eq_some_iff.mp H
  obtain ⟨⟨t118, t119, t120, t123, t124, t125⟩, A20, H⟩ := H
  replace H : ((coppicerref_NetCheck.f k a0_0 a0_1 l0_2 a0_3 a0_4).bind fun t127 => (if t127 = 0 then (if t125 = 0 then (if t118 = a0_0 then (if t119 = a0_1 then (if t123 = a0_4 then (if t124 = a0_3 then (coppicerlaw_NetBacks.j1 k ((t120.length : Int) != (l0_2.length : Int)) a0_0 a0_1 l0_2 a0_3 a0_4 t118 t119 t120 t123 t124) else (coppicerlaw_NetBacks.j1 k true a0_0 a0_1 l0_2 a0_3 a0_4 t118 t119 t120 t123 t124)) else (coppicerlaw_NetBacks.j1 k true a0_0 a0_1 l0_2 a0_3 a0_4 t118 t119 t120 t123 t124)) else (coppicerlaw_NetBacks.j1 k true a0_0 a0_1 l0_2 a0_3 a0_4 t118 t119 t120 t123 t124)) else (coppicerlaw_NetBacks.j1 k true a0_0 a0_1 l0_2 a0_3 a0_4 t118 t119 t120 t123 t124)) else (coppicerlaw_NetBacks.j1 k true a0_0 a0_1 l0_2 a0_3 a0_4 t118 t119 t120 t123 t124)) else (if t125 = t127 then (if t118 = 0 then (if t119 = 0 then (if (t120.length : Int) = 0 then (if t123 = 0 then (coppicerlaw_NetBacks.j0 k (t124 == 0)) else (coppicerlaw_NetBacks.j0 k false)) else (coppicerlaw_NetBacks.j0 k false)) else (coppicerlaw_NetBacks.j0 k false)) else (coppicerlaw_NetBacks.j0 k false)) else (coppicerlaw_NetBacks.j0 k false)))) = some r := H
  have A2 := Aside0.mk A20
  clear A20
  replace H := Option.bind_eq_some_iff.mp H
  obtain ⟨t127, A30, H⟩ := H
  replace H : (if t127 = 0 then (if t125 = 0 then (if t118 = a0_0 then (if t119 = a0_1 then (if t123 = a0_4 then (if t124 = a0_3 then (coppicerlaw_NetBacks.j1 k ((t120.length : Int) != (l0_2.length : Int)) a0_0 a0_1 l0_2 a0_3 a0_4 t118 t119 t120 t123 t124) else (coppicerlaw_NetBacks.j1 k true a0_0 a0_1 l0_2 a0_3 a0_4 t118 t119 t120 t123 t124)) else (coppicerlaw_NetBacks.j1 k true a0_0 a0_1 l0_2 a0_3 a0_4 t118 t119 t120 t123 t124)) else (coppicerlaw_NetBacks.j1 k true a0_0 a0_1 l0_2 a0_3 a0_4 t118 t119 t120 t123 t124)) else (coppicerlaw_NetBacks.j1 k true a0_0 a0_1 l0_2 a0_3 a0_4 t118 t119 t120 t123 t124)) else (coppicerlaw_NetBacks.j1 k true a0_0 a0_1 l0_2 a0_3 a0_4 t118 t119 t120 t123 t124)) else (if t125 = t127 then (if t118 = 0 then (if t119 = 0 then (if (t120.length : Int) = 0 then (if t123 = 0 then (coppicerlaw_NetBacks.j0 k (t124 == 0)) else (coppicerlaw_NetBacks.j0 k false)) else (coppicerlaw_NetBacks.j0 k false)) else (coppicerlaw_NetBacks.j0 k false)) else (coppicerlaw_NetBacks.j0 k false)) else (coppicerlaw_NetBacks.j0 k false))) = some r := H
  have A3 := Aside0.mk A30
  clear A30
  by_cases c4 : t127 = 0
  · rw [if_pos c4] at H
    have c4b0 : (t127 == 0) = true := beq_iff_eq.mpr c4
    have c4b1 : (t127 != 0) = false := bne_eq_false_iff_eq.mpr c4
    clear c4
    have HC5 := Aside0.mk H
    clear H
    go_enter Try.func3, Try.ntmps3
    go_upto_region 5 with (first | ((with_reducible refine gate_dst (N := 1) rfl ?_); (try (refine gate_guard (by rfl) ?_; dsimp only)); refine box_event ?hg (N := 1) ?hd (cs := #[.int .i64 a0_0, .int .i64 a0_1, .slice A0_2 l0_2.length c0_2, .int .u32 a0_3, .int .u32 a0_4]) (t := 25) ?hr ?_; (case hd => rfl); (case hg => rfl); (case hr => first | (go_simp; done) | (go_simp; rfl)); intro gb117 hg w6 hbox hb; have n0_ := Aside0.mk (below_step (by repeat (first | (with_reducible first | exact HB.out | apply below_alloc | apply pw_below_drewN | apply below_drew1) | exact HB.out)) hb); have n1_ := Aside0.mk (hbox); have n2_ := Aside0.mk ((by rw [hg]; exact (below_size (by repeat (first | (with_reducible first | exact HB.out | apply below_alloc | apply pw_below_drewN | apply below_drew1) | exact HB.out))) : w.heap.size ≤ gb117)); have n3_ := Aside0.mk ((by rw [hg]; exact (below_size (by repeat (first | (with_reducible first | exact HB.out | apply below_alloc | apply pw_below_drewN | apply below_drew1) | exact HB.out))) : w.heap.size ≤ gb117)); clear HB; have HB := n0_; have BK117 := n1_; have GW117 := n2_; have GE117 := n3_; clear n0_ n1_ n2_ n3_; clear hb hbox hg; have hcz7_0 : w6.cell? ⟨gb117, 0, none⟩ = some (.int .i64 a0_0) := (blk_cell BK117.out 0).trans rfl; have hcz7_1 : w6.cell? ⟨gb117, 1, none⟩ = some (.int .i64 a0_1) := (blk_cell BK117.out 1).trans rfl; have hcz7_2 : w6.cell? ⟨gb117, 2, none⟩ = some (.slice A0_2 l0_2.length c0_2) := (blk_cell BK117.out 2).trans rfl; have hcz7_3 : w6.cell? ⟨gb117, 3, none⟩ = some (.int .u32 a0_3) := (blk_cell BK117.out 3).trans rfl; have hcz7_4 : w6.cell? ⟨gb117, 4, none⟩ = some (.int .u32 a0_4) := (blk_cell BK117.out 4).trans rfl; have hfz7_0 := blk_frozen BK117.out 0; have hfz7_1 := blk_frozen BK117.out 1; have hfz7_2 := blk_frozen BK117.out 2; have hfz7_3 := blk_frozen BK117.out 3; have hfz7_4 := blk_frozen BK117.out 4) | (go_at_call 15; (with_reducible refine (net_Back.calls k a0_0 a0_1 _ _ l0_2 a0_3 a0_4 t118 t119 t120 t123 t124 t125 _ ?side1 ?side2 A2.out).mono ?_); (case side1 => repeat (first | exact (Kd.C_below HR0_2.out HB.out) | (with_reducible refine Kd.C_alloc ?_ _) | (with_reducible refine Kd.C_drewN ?_ _) | (with_reducible refine Kd.C_drew ?_))); (case side2 => exact HC0_2.out); rintro e w8 ⟨v121, rfl, ho0, hb⟩; have n0_ := Aside0.mk (Kd.R_lower ho0 (below_size (by repeat (first | (with_reducible first | exact HB.out | apply below_alloc | apply pw_below_drewN | apply below_drew1 | refine below_set ?_ GE117.out) | exact HB.out)))); have n1_ := Aside0.mk (blk_below (g := gb117) (o := .cells #[.int .i64 a0_0, .int .i64 a0_1, .slice A0_2 l0_2.length c0_2, .int .u32 a0_3, .int .u32 a0_4] 25 (0, 0)) (by (with_reducible repeat (first | refine blk_drewN ?_ _ | refine blk_drew ?_ | refine blk_alloc ?_ _)); exact BK117.out) hb); have n2_ := Aside0.mk (below_step (by repeat (first | (with_reducible first | exact HB.out | apply below_alloc | apply pw_below_drewN | apply below_drew1 | refine below_set ?_ GE117.out) | exact HB.out)) hb); clear BK117; clear HB; have HO122 := n0_; have BK117 := n1_; have HB := n2_; clear n0_ n1_ n2_; (try clear hb); (try clear hb2); (try clear hk); (try clear hi); (try clear ho0)) | ((with_reducible refine gate_dst (N := 3) rfl ?_); (try (refine gate_guard (by rfl) ?_; dsimp only)); refine box_event ?hg (N := 3) ?hd (cs := #[.int .i64 0, .int .i64 0, .slice none 0 0, .int .u32 0, .int .u32 0]) (t := 25) ?hr ?_; (case hd => rfl); (case hg => rfl); (case hr => first | (go_simp; done) | (go_simp; rfl)); intro gb126 hg w9 hbox hb; have n0_ := Aside0.mk (Kd.R_below (by (with_reducible repeat (first | apply Kd.R_alloc | apply Kd.R_drewN | apply Kd.R_drew)); exact HO122.out) hb); have n1_ := Aside0.mk (blk_below (g := gb117) (o := .cells #[.int .i64 a0_0, .int .i64 a0_1, .slice A0_2 l0_2.length c0_2, .int .u32 a0_3, .int .u32 a0_4] 25 (0, 0)) (by (with_reducible repeat (first | refine blk_drewN ?_ _ | refine blk_drew ?_ | refine blk_alloc ?_ _)); exact BK117.out) hb); have n2_ := Aside0.mk (below_step (by repeat (first | (with_reducible first | exact HB.out | apply below_alloc | apply pw_below_drewN | apply below_drew1 | refine below_set ?_ GE117.out) | exact HB.out)) hb); have n3_ := Aside0.mk (hbox); have n4_ := Aside0.mk ((by rw [hg]; exact (below_size (by repeat (first | (with_reducible first | exact HB.out | apply below_alloc | apply pw_below_drewN | apply below_drew1 | refine below_set ?_ GE117.out) | exact HB.out))) : w.heap.size ≤ gb126)); have n5_ := Aside0.mk ((by rw [hg]; exact (below_size (by repeat (first | (with_reducible first | exact HB.out | apply below_alloc | apply pw_below_drewN | apply below_drew1 | refine below_set ?_ GE117.out) | exact HB.out))) : w.heap.size ≤ gb126)); have n6_ := Aside0.mk ((by rw [hg]; exact Nat.ne_of_lt (blk_lt (g := gb117) (o := .cells #[.int .i64 a0_0, .int .i64 a0_1, .slice A0_2 l0_2.length c0_2, .int .u32 a0_3, .int .u32 a0_4] 25 (0, 0)) (by (with_reducible repeat (first | refine blk_drewN ?_ _ | refine blk_drew ?_ | refine blk_alloc ?_ _)); exact BK117.out)) : gb117 ≠ gb126)); have n7_ := Aside0.mk ((by rw [hg]; exact Nat.ne_of_gt (blk_lt (g := gb117) (o := .cells #[.int .i64 a0_0, .int .i64 a0_1, .slice A0_2 l0_2.length c0_2, .int .u32 a0_3, .int .u32 a0_4] 25 (0, 0)) (by (with_reducible repeat (first | refine blk_drewN ?_ _ | refine blk_drew ?_ | refine blk_alloc ?_ _)); exact BK117.out)) : gb126 ≠ gb117)); clear HO122; clear BK117; clear HB; have HO122 := n0_; have BK117 := n1_; have HB := n2_; have BK126 := n3_; have GW126 := n4_; have GE126 := n5_; have NB117_126 := n6_; have NB126_117 := n7_; clear n0_ n1_ n2_ n3_ n4_ n5_ n6_ n7_; clear hb hbox hg; have hnb10 := NB126_117.out; have hnc10 := NB117_126.out; have hcz11_0 : w9.cell? ⟨gb126, 0, none⟩ = some (.int .i64 0) := (blk_cell BK126.out 0).trans rfl; have hcz11_1 : w9.cell? ⟨gb126, 1, none⟩ = some (.int .i64 0) := (blk_cell BK126.out 1).trans rfl; have hcz11_2 : w9.cell? ⟨gb126, 2, none⟩ = some (.slice none 0 0) := (blk_cell BK126.out 2).trans rfl; have hcz11_3 : w9.cell? ⟨gb126, 3, none⟩ = some (.int .u32 0) := (blk_cell BK126.out 3).trans rfl; have hcz11_4 : w9.cell? ⟨gb126, 4, none⟩ = some (.int .u32 0) := (blk_cell BK126.out 4).trans rfl; have hfz11_0 := blk_frozen BK126.out 0; have hfz11_1 := blk_frozen BK126.out 1; have hfz11_2 := blk_frozen BK126.out 2; have hfz11_3 := blk_frozen BK126.out 3; have hfz11_4 := blk_frozen BK126.out 4; obtain ⟨Ao12, co12, eo12⟩ := Kd.R_slice HO122.out; subst eo12; have hcz13_0 : w9.cell? ⟨gb117, 0, none⟩ = some (.int .i64 a0_0) := (blk_cell BK117.out 0).trans rfl; have hcz13_1 : w9.cell? ⟨gb117, 1, none⟩ = some (.int .i64 a0_1) := (blk_cell BK117.out 1).trans rfl; have hcz13_2 : w9.cell? ⟨gb117, 2, none⟩ = some (.slice A0_2 l0_2.length c0_2) := (blk_cell BK117.out 2).trans rfl; have hcz13_3 : w9.cell? ⟨gb117, 3, none⟩ = some (.int .u32 a0_3) := (blk_cell BK117.out 3).trans rfl; have hcz13_4 : w9.cell? ⟨gb117, 4, none⟩ = some (.int .u32 a0_4) := (blk_cell BK117.out 4).trans rfl; have hfz13_0 := blk_frozen BK117.out 0; have hfz13_1 := blk_frozen BK117.out 1; have hfz13_2 := blk_frozen BK117.out 2; have hfz13_3 := blk_frozen BK117.out 3; have hfz13_4 := blk_frozen BK117.out 4) | (go_at_call 16; (with_reducible refine (coppicerref_NetCheck.calls k a0_0 a0_1 _ _ l0_2 a0_3 a0_4 t127 _ ?side1 ?side2 A3.out).mono ?_); (case side1 => exact Kd.C_below HR0_2.out (by repeat (first | (with_reducible first | exact HB.out | apply below_alloc | apply pw_below_drewN | apply below_drew1 | refine below_set ?_ GE117.out | refine below_set ?_ GE126.out) | exact HB.out))); (case side2 => exact HC0_2.out); rintro e w14 ⟨rfl, hb⟩; have n0_ := Aside0.mk (Kd.R_below (by (with_reducible repeat (first | apply Kd.R_alloc | apply Kd.R_drewN | apply Kd.R_drew)); exact (Kd.R_mono (Kd.R_far (p := ⟨gb126, 4, none⟩) (Kd.R_far (p := ⟨gb126, 3, none⟩) (Kd.R_far (p := ⟨gb126, 2, none⟩) (Kd.R_far (p := ⟨gb126, 1, none⟩) (Kd.R_far (p := ⟨gb126, 0, none⟩) (Kd.R_types HO122.out BK126.out (by decide)) (fun _ hk => hk.2) (.int .i64 t118)) (fun _ hk => hk.2) (.int .i64 t119)) (fun _ hk => hk.2) (.slice Ao12 t120.length co12)) (fun _ hk => hk.2) (.int .u32 t123)) (fun _ hk => hk.2) (.int .u32 t124)) (fun _ h_ => h_.1))) hb); have n1_ := Aside0.mk (blk_below (g := gb117) (o := .cells #[.int .i64 a0_0, .int .i64 a0_1, .slice A0_2 l0_2.length c0_2, .int .u32 a0_3, .int .u32 a0_4] 25 (0, 0)) (by (with_reducible repeat (first | refine blk_drewN ?_ _ | refine blk_drew ?_ | refine blk_alloc ?_ _)); refine blk_far ?_ NB117_126.out _; (with_reducible repeat (first | refine blk_drewN ?_ _ | refine blk_drew ?_ | refine blk_alloc ?_ _)); refine blk_far ?_ NB117_126.out _; (with_reducible repeat (first | refine blk_drewN ?_ _ | refine blk_drew ?_ | refine blk_alloc ?_ _)); refine blk_far ?_ NB117_126.out _; (with_reducible repeat (first | refine blk_drewN ?_ _ | refine blk_drew ?_ | refine blk_alloc ?_ _)); refine blk_far ?_ NB117_126.out _; (with_reducible repeat (first | refine blk_drewN ?_ _ | refine blk_drew ?_ | refine blk_alloc ?_ _)); refine blk_far ?_ NB117_126.out _; (with_reducible repeat (first | refine blk_drewN ?_ _ | refine blk_drew ?_ | refine blk_alloc ?_ _)); exact BK117.out) hb); have n2_ := Aside0.mk (blk_below (g := gb126) (o := .cells #[.int .i64 t118, .int .i64 t119, .slice Ao12 t120.length co12, .int .u32 t123, .int .u32 t124] 25 (0, 0)) (by (with_reducible repeat (first | refine blk_drewN ?_ _ | refine blk_drew ?_ | refine blk_alloc ?_ _)); refine blk_put (cs := #[.int .i64 t118, .int .i64 t119, .slice Ao12 t120.length co12, .int .u32 t123, .int .u32 0]) ?_ 4 _ rfl; (with_reducible repeat (first | refine blk_drewN ?_ _ | refine blk_drew ?_ | refine blk_alloc ?_ _)); refine blk_put (cs := #[.int .i64 t118, .int .i64 t119, .slice Ao12 t120.length co12, .int .u32 0, .int .u32 0]) ?_ 3 _ rfl; (with_reducible repeat (first | refine blk_drewN ?_ _ | refine blk_drew ?_ | refine blk_alloc ?_ _)); refine blk_put (cs := #[.int .i64 t118, .int .i64 t119, .slice none 0 0, .int .u32 0, .int .u32 0]) ?_ 2 _ rfl; (with_reducible repeat (first | refine blk_drewN ?_ _ | refine blk_drew ?_ | refine blk_alloc ?_ _)); refine blk_put (cs := #[.int .i64 t118, .int .i64 0, .slice none 0 0, .int .u32 0, .int .u32 0]) ?_ 1 _ rfl; (with_reducible repeat (first | refine blk_drewN ?_ _ | refine blk_drew ?_ | refine blk_alloc ?_ _)); refine blk_put (cs := #[.int .i64 0, .int .i64 0, .slice none 0 0, .int .u32 0, .int .u32 0]) ?_ 0 _ rfl; (with_reducible repeat (first | refine blk_drewN ?_ _ | refine blk_drew ?_ | refine blk_alloc ?_ _)); exact BK126.out) hb); have n3_ := Aside0.mk (below_step (by repeat (first | (with_reducible first | exact HB.out | apply below_alloc | apply pw_below_drewN | apply below_drew1 | refine below_set ?_ GE117.out | refine below_set ?_ GE126.out) | exact HB.out)) hb); clear HO122; clear BK117; clear BK126; clear HB; have HO122 := n0_; have BK117 := n1_; have BK126 := n2_; have HB := n3_; clear n0_ n1_ n2_ n3_; (try clear hb); (try clear hb2); (try clear hk); (try clear hi)))
    repeat (go_quiet (first | ((with_reducible refine gate_dst (N := 1) rfl ?_); (try (refine gate_guard (by rfl) ?_; dsimp only)); refine box_event ?hg (N := 1) ?hd (cs := #[.int .i64 a0_0, .int .i64 a0_1, .slice A0_2 l0_2.length c0_2, .int .u32 a0_3, .int .u32 a0_4]) (t := 25) ?hr ?_; (case hd => rfl); (case hg => rfl); (case hr => first | (go_simp; done) | (go_simp; rfl)); intro gb117 hg w6 hbox hb; have n0_ := Aside0.mk (below_step (by repeat (first | (with_reducible first | exact HB.out | apply below_alloc | apply pw_below_drewN | apply below_drew1) | exact HB.out)) hb); have n1_ := Aside0.mk (hbox); have n2_ := Aside0.mk ((by rw [hg]; exact (below_size (by repeat (first | (with_reducible first | exact HB.out | apply below_alloc | apply pw_below_drewN | apply below_drew1) | exact HB.out))) : w.heap.size ≤ gb117)); have n3_ := Aside0.mk ((by rw [hg]; exact (below_size (by repeat (first | (with_reducible first | exact HB.out | apply below_alloc | apply pw_below_drewN | apply below_drew1) | exact HB.out))) : w.heap.size ≤ gb117)); clear HB; have HB := n0_; have BK117 := n1_; have GW117 := n2_; have GE117 := n3_; clear n0_ n1_ n2_ n3_; clear hb hbox hg; have hcz7_0 : w6.cell? ⟨gb117, 0, none⟩ = some (.int .i64 a0_0) := (blk_cell BK117.out 0).trans rfl; have hcz7_1 : w6.cell? ⟨gb117, 1, none⟩ = some (.int .i64 a0_1) := (blk_cell BK117.out 1).trans rfl; have hcz7_2 : w6.cell? ⟨gb117, 2, none⟩ = some (.slice A0_2 l0_2.length c0_2) := (blk_cell BK117.out 2).trans rfl; have hcz7_3 : w6.cell? ⟨gb117, 3, none⟩ = some (.int .u32 a0_3) := (blk_cell BK117.out 3).trans rfl; have hcz7_4 : w6.cell? ⟨gb117, 4, none⟩ = some (.int .u32 a0_4) := (blk_cell BK117.out 4).trans rfl; have hfz7_0 := blk_frozen BK117.out 0; have hfz7_1 := blk_frozen BK117.out 1; have hfz7_2 := blk_frozen BK117.out 2; have hfz7_3 := blk_frozen BK117.out 3; have hfz7_4 := blk_frozen BK117.out 4) | (go_at_call 15; (with_reducible refine (net_Back.calls k a0_0 a0_1 _ _ l0_2 a0_3 a0_4 t118 t119 t120 t123 t124 t125 _ ?side1 ?side2 A2.out).mono ?_); (case side1 => repeat (first | exact (Kd.C_below HR0_2.out HB.out) | (with_reducible refine Kd.C_alloc ?_ _) | (with_reducible refine Kd.C_drewN ?_ _) | (with_reducible refine Kd.C_drew ?_))); (case side2 => exact HC0_2.out); rintro e w8 ⟨v121, rfl, ho0, hb⟩; have n0_ := Aside0.mk (Kd.R_lower ho0 (below_size (by repeat (first | (with_reducible first | exact HB.out | apply below_alloc | apply pw_below_drewN | apply below_drew1 | refine below_set ?_ GE117.out) | exact HB.out)))); have n1_ := Aside0.mk (blk_below (g := gb117) (o := .cells #[.int .i64 a0_0, .int .i64 a0_1, .slice A0_2 l0_2.length c0_2, .int .u32 a0_3, .int .u32 a0_4] 25 (0, 0)) (by (with_reducible repeat (first | refine blk_drewN ?_ _ | refine blk_drew ?_ | refine blk_alloc ?_ _)); exact BK117.out) hb); have n2_ := Aside0.mk (below_step (by repeat (first | (with_reducible first | exact HB.out | apply below_alloc | apply pw_below_drewN | apply below_drew1 | refine below_set ?_ GE117.out) | exact HB.out)) hb); clear BK117; clear HB; have HO122 := n0_; have BK117 := n1_; have HB := n2_; clear n0_ n1_ n2_; (try clear hb); (try clear hb2); (try clear hk); (try clear hi); (try clear ho0)) | ((with_reducible refine gate_dst (N := 3) rfl ?_); (try (refine gate_guard (by rfl) ?_; dsimp only)); refine box_event ?hg (N := 3) ?hd (cs := #[.int .i64 0, .int .i64 0, .slice none 0 0, .int .u32 0, .int .u32 0]) (t := 25) ?hr ?_; (case hd => rfl); (case hg => rfl); (case hr => first | (go_simp; done) | (go_simp; rfl)); intro gb126 hg w9 hbox hb; have n0_ := Aside0.mk (Kd.R_below (by (with_reducible repeat (first | apply Kd.R_alloc | apply Kd.R_drewN | apply Kd.R_drew)); exact HO122.out) hb); have n1_ := Aside0.mk (blk_below (g := gb117) (o := .cells #[.int .i64 a0_0, .int .i64 a0_1, .slice A0_2 l0_2.length c0_2, .int .u32 a0_3, .int .u32 a0_4] 25 (0, 0)) (by (with_reducible repeat (first | refine blk_drewN ?_ _ | refine blk_drew ?_ | refine blk_alloc ?_ _)); exact BK117.out) hb); have n2_ := Aside0.mk (below_step (by repeat (first | (with_reducible first | exact HB.out | apply below_alloc | apply pw_below_drewN | apply below_drew1 | refine below_set ?_ GE117.out) | exact HB.out)) hb); have n3_ := Aside0.mk (hbox); have n4_ := Aside0.mk ((by rw [hg]; exact (below_size (by repeat (first | (with_reducible first | exact HB.out | apply below_alloc | apply pw_below_drewN | apply below_drew1 | refine below_set ?_ GE117.out) | exact HB.out))) : w.heap.size ≤ gb126)); have n5_ := Aside0.mk ((by rw [hg]; exact (below_size (by repeat (first | (with_reducible first | exact HB.out | apply below_alloc | apply pw_below_drewN | apply below_drew1 | refine below_set ?_ GE117.out) | exact HB.out))) : w.heap.size ≤ gb126)); have n6_ := Aside0.mk ((by rw [hg]; exact Nat.ne_of_lt (blk_lt (g := gb117) (o := .cells #[.int .i64 a0_0, .int .i64 a0_1, .slice A0_2 l0_2.length c0_2, .int .u32 a0_3, .int .u32 a0_4] 25 (0, 0)) (by (with_reducible repeat (first | refine blk_drewN ?_ _ | refine blk_drew ?_ | refine blk_alloc ?_ _)); exact BK117.out)) : gb117 ≠ gb126)); have n7_ := Aside0.mk ((by rw [hg]; exact Nat.ne_of_gt (blk_lt (g := gb117) (o := .cells #[.int .i64 a0_0, .int .i64 a0_1, .slice A0_2 l0_2.length c0_2, .int .u32 a0_3, .int .u32 a0_4] 25 (0, 0)) (by (with_reducible repeat (first | refine blk_drewN ?_ _ | refine blk_drew ?_ | refine blk_alloc ?_ _)); exact BK117.out)) : gb126 ≠ gb117)); clear HO122; clear BK117; clear HB; have HO122 := n0_; have BK117 := n1_; have HB := n2_; have BK126 := n3_; have GW126 := n4_; have GE126 := n5_; have NB117_126 := n6_; have NB126_117 := n7_; clear n0_ n1_ n2_ n3_ n4_ n5_ n6_ n7_; clear hb hbox hg; have hnb10 := NB126_117.out; have hnc10 := NB117_126.out; have hcz11_0 : w9.cell? ⟨gb126, 0, none⟩ = some (.int .i64 0) := (blk_cell BK126.out 0).trans rfl; have hcz11_1 : w9.cell? ⟨gb126, 1, none⟩ = some (.int .i64 0) := (blk_cell BK126.out 1).trans rfl; have hcz11_2 : w9.cell? ⟨gb126, 2, none⟩ = some (.slice none 0 0) := (blk_cell BK126.out 2).trans rfl; have hcz11_3 : w9.cell? ⟨gb126, 3, none⟩ = some (.int .u32 0) := (blk_cell BK126.out 3).trans rfl; have hcz11_4 : w9.cell? ⟨gb126, 4, none⟩ = some (.int .u32 0) := (blk_cell BK126.out 4).trans rfl; have hfz11_0 := blk_frozen BK126.out 0; have hfz11_1 := blk_frozen BK126.out 1; have hfz11_2 := blk_frozen BK126.out 2; have hfz11_3 := blk_frozen BK126.out 3; have hfz11_4 := blk_frozen BK126.out 4; obtain ⟨Ao12, co12, eo12⟩ := Kd.R_slice HO122.out; subst eo12; have hcz13_0 : w9.cell? ⟨gb117, 0, none⟩ = some (.int .i64 a0_0) := (blk_cell BK117.out 0).trans rfl; have hcz13_1 : w9.cell? ⟨gb117, 1, none⟩ = some (.int .i64 a0_1) := (blk_cell BK117.out 1).trans rfl; have hcz13_2 : w9.cell? ⟨gb117, 2, none⟩ = some (.slice A0_2 l0_2.length c0_2) := (blk_cell BK117.out 2).trans rfl; have hcz13_3 : w9.cell? ⟨gb117, 3, none⟩ = some (.int .u32 a0_3) := (blk_cell BK117.out 3).trans rfl; have hcz13_4 : w9.cell? ⟨gb117, 4, none⟩ = some (.int .u32 a0_4) := (blk_cell BK117.out 4).trans rfl; have hfz13_0 := blk_frozen BK117.out 0; have hfz13_1 := blk_frozen BK117.out 1; have hfz13_2 := blk_frozen BK117.out 2; have hfz13_3 := blk_frozen BK117.out 3; have hfz13_4 := blk_frozen BK117.out 4) | (go_at_call 16; (with_reducible refine (coppicerref_NetCheck.calls k a0_0 a0_1 _ _ l0_2 a0_3 a0_4 t127 _ ?side1 ?side2 A3.out).mono ?_); (case side1 => exact Kd.C_below HR0_2.out (by repeat (first | (with_reducible first | exact HB.out | apply below_alloc | apply pw_below_drewN | apply below_drew1 | refine below_set ?_ GE117.out | refine below_set ?_ GE126.out) | exact HB.out))); (case side2 => exact HC0_2.out); rintro e w14 ⟨rfl, hb⟩; have n0_ := Aside0.mk (Kd.R_below (by (with_reducible repeat (first | apply Kd.R_alloc | apply Kd.R_drewN | apply Kd.R_drew)); exact (Kd.R_mono (Kd.R_far (p := ⟨gb126, 4, none⟩) (Kd.R_far (p := ⟨gb126, 3, none⟩) (Kd.R_far (p := ⟨gb126, 2, none⟩) (Kd.R_far (p := ⟨gb126, 1, none⟩) (Kd.R_far (p := ⟨gb126, 0, none⟩) (Kd.R_types HO122.out BK126.out (by decide)) (fun _ hk => hk.2) (.int .i64 t118)) (fun _ hk => hk.2) (.int .i64 t119)) (fun _ hk => hk.2) (.slice Ao12 t120.length co12)) (fun _ hk => hk.2) (.int .u32 t123)) (fun _ hk => hk.2) (.int .u32 t124)) (fun _ h_ => h_.1))) hb); have n1_ := Aside0.mk (blk_below (g := gb117) (o := .cells #[.int .i64 a0_0, .int .i64 a0_1, .slice A0_2 l0_2.length c0_2, .int .u32 a0_3, .int .u32 a0_4] 25 (0, 0)) (by (with_reducible repeat (first | refine blk_drewN ?_ _ | refine blk_drew ?_ | refine blk_alloc ?_ _)); refine blk_far ?_ NB117_126.out _; (with_reducible repeat (first | refine blk_drewN ?_ _ | refine blk_drew ?_ | refine blk_alloc ?_ _)); refine blk_far ?_ NB117_126.out _; (with_reducible repeat (first | refine blk_drewN ?_ _ | refine blk_drew ?_ | refine blk_alloc ?_ _)); refine blk_far ?_ NB117_126.out _; (with_reducible repeat (first | refine blk_drewN ?_ _ | refine blk_drew ?_ | refine blk_alloc ?_ _)); refine blk_far ?_ NB117_126.out _; (with_reducible repeat (first | refine blk_drewN ?_ _ | refine blk_drew ?_ | refine blk_alloc ?_ _)); refine blk_far ?_ NB117_126.out _; (with_reducible repeat (first | refine blk_drewN ?_ _ | refine blk_drew ?_ | refine blk_alloc ?_ _)); exact BK117.out) hb); have n2_ := Aside0.mk (blk_below (g := gb126) (o := .cells #[.int .i64 t118, .int .i64 t119, .slice Ao12 t120.length co12, .int .u32 t123, .int .u32 t124] 25 (0, 0)) (by (with_reducible repeat (first | refine blk_drewN ?_ _ | refine blk_drew ?_ | refine blk_alloc ?_ _)); refine blk_put (cs := #[.int .i64 t118, .int .i64 t119, .slice Ao12 t120.length co12, .int .u32 t123, .int .u32 0]) ?_ 4 _ rfl; (with_reducible repeat (first | refine blk_drewN ?_ _ | refine blk_drew ?_ | refine blk_alloc ?_ _)); refine blk_put (cs := #[.int .i64 t118, .int .i64 t119, .slice Ao12 t120.length co12, .int .u32 0, .int .u32 0]) ?_ 3 _ rfl; (with_reducible repeat (first | refine blk_drewN ?_ _ | refine blk_drew ?_ | refine blk_alloc ?_ _)); refine blk_put (cs := #[.int .i64 t118, .int .i64 t119, .slice none 0 0, .int .u32 0, .int .u32 0]) ?_ 2 _ rfl; (with_reducible repeat (first | refine blk_drewN ?_ _ | refine blk_drew ?_ | refine blk_alloc ?_ _)); refine blk_put (cs := #[.int .i64 t118, .int .i64 0, .slice none 0 0, .int .u32 0, .int .u32 0]) ?_ 1 _ rfl; (with_reducible repeat (first | refine blk_drewN ?_ _ | refine blk_drew ?_ | refine blk_alloc ?_ _)); refine blk_put (cs := #[.int .i64 0, .int .i64 0, .slice none 0 0, .int .u32 0, .int .u32 0]) ?_ 0 _ rfl; (with_reducible repeat (first | refine blk_drewN ?_ _ | refine blk_drew ?_ | refine blk_alloc ?_ _)); exact BK126.out) hb); have n3_ := Aside0.mk (below_step (by repeat (first | (with_reducible first | exact HB.out | apply below_alloc | apply pw_below_drewN | apply below_drew1 | refine below_set ?_ GE117.out | refine below_set ?_ GE126.out) | exact HB.out)) hb); clear HO122; clear BK117; clear BK126; clear HB; have HO122 := n0_; have BK117 := n1_; have BK126 := n2_; have HB := n3_; clear n0_ n1_ n2_ n3_; (try clear hb); (try clear hb2); (try clear hk); (try clear hi))); go_upto_region 5 with (first | ((with_reducible refine gate_dst (N := 1) rfl ?_); (try (refine gate_guard (by rfl) ?_; dsimp only)); refine box_event ?hg (N := 1) ?hd (cs := #[.int .i64 a0_0, .int .i64 a0_1, .slice A0_2 l0_2.length c0_2, .int .u32 a0_3, .int .u32 a0_4]) (t := 25) ?hr ?_; (case hd => rfl); (case hg => rfl); (case hr => first | (go_simp; done) | (go_simp; rfl)); intro gb117 hg w6 hbox hb; have n0_ := Aside0.mk (below_step (by repeat (first | (with_reducible first | exact HB.out | apply below_alloc | apply pw_below_drewN | apply below_drew1) | exact HB.out)) hb); have n1_ := Aside0.mk (hbox); have n2_ := Aside0.mk ((by rw [hg]; exact (below_size (by repeat (first | (with_reducible first | exact HB.out | apply below_alloc | apply pw_below_drewN | apply below_drew1) | exact HB.out))) : w.heap.size ≤ gb117)); have n3_ := Aside0.mk ((by rw [hg]; exact (below_size (by repeat (first | (with_reducible first | exact HB.out | apply below_alloc | apply pw_below_drewN | apply below_drew1) | exact HB.out))) : w.heap.size ≤ gb117)); clear HB; have HB := n0_; have BK117 := n1_; have GW117 := n2_; have GE117 := n3_; clear n0_ n1_ n2_ n3_; clear hb hbox hg; have hcz7_0 : w6.cell? ⟨gb117, 0, none⟩ = some (.int .i64 a0_0) := (blk_cell BK117.out 0).trans rfl; have hcz7_1 : w6.cell? ⟨gb117, 1, none⟩ = some (.int .i64 a0_1) := (blk_cell BK117.out 1).trans rfl; have hcz7_2 : w6.cell? ⟨gb117, 2, none⟩ = some (.slice A0_2 l0_2.length c0_2) := (blk_cell BK117.out 2).trans rfl; have hcz7_3 : w6.cell? ⟨gb117, 3, none⟩ = some (.int .u32 a0_3) := (blk_cell BK117.out 3).trans rfl; have hcz7_4 : w6.cell? ⟨gb117, 4, none⟩ = some (.int .u32 a0_4) := (blk_cell BK117.out 4).trans rfl; have hfz7_0 := blk_frozen BK117.out 0; have hfz7_1 := blk_frozen BK117.out 1; have hfz7_2 := blk_frozen BK117.out 2; have hfz7_3 := blk_frozen BK117.out 3; have hfz7_4 := blk_frozen BK117.out 4) | (go_at_call 15; (with_reducible refine (net_Back.calls k a0_0 a0_1 _ _ l0_2 a0_3 a0_4 t118 t119 t120 t123 t124 t125 _ ?side1 ?side2 A2.out).mono ?_); (case side1 => repeat (first | exact (Kd.C_below HR0_2.out HB.out) | (with_reducible refine Kd.C_alloc ?_ _) | (with_reducible refine Kd.C_drewN ?_ _) | (with_reducible refine Kd.C_drew ?_))); (case side2 => exact HC0_2.out); rintro e w8 ⟨v121, rfl, ho0, hb⟩; have n0_ := Aside0.mk (Kd.R_lower ho0 (below_size (by repeat (first | (with_reducible first | exact HB.out | apply below_alloc | apply pw_below_drewN | apply below_drew1 | refine below_set ?_ GE117.out) | exact HB.out)))); have n1_ := Aside0.mk (blk_below (g := gb117) (o := .cells #[.int .i64 a0_0, .int .i64 a0_1, .slice A0_2 l0_2.length c0_2, .int .u32 a0_3, .int .u32 a0_4] 25 (0, 0)) (by (with_reducible repeat (first | refine blk_drewN ?_ _ | refine blk_drew ?_ | refine blk_alloc ?_ _)); exact BK117.out) hb); have n2_ := Aside0.mk (below_step (by repeat (first | (with_reducible first | exact HB.out | apply below_alloc | apply pw_below_drewN | apply below_drew1 | refine below_set ?_ GE117.out) | exact HB.out)) hb); clear BK117; clear HB; have HO122 := n0_; have BK117 := n1_; have HB := n2_; clear n0_ n1_ n2_; (try clear hb); (try clear hb2); (try clear hk); (try clear hi); (try clear ho0)) | ((with_reducible refine gate_dst (N := 3) rfl ?_); (try (refine gate_guard (by rfl) ?_; dsimp only)); refine box_event ?hg (N := 3) ?hd (cs := #[.int .i64 0, .int .i64 0, .slice none 0 0, .int .u32 0, .int .u32 0]) (t := 25) ?hr ?_; (case hd => rfl); (case hg => rfl); (case hr => first | (go_simp; done) | (go_simp; rfl)); intro gb126 hg w9 hbox hb; have n0_ := Aside0.mk (Kd.R_below (by (with_reducible repeat (first | apply Kd.R_alloc | apply Kd.R_drewN | apply Kd.R_drew)); exact HO122.out) hb); have n1_ := Aside0.mk (blk_below (g := gb117) (o := .cells #[.int .i64 a0_0, .int .i64 a0_1, .slice A0_2 l0_2.length c0_2, .int .u32 a0_3, .int .u32 a0_4] 25 (0, 0)) (by (with_reducible repeat (first | refine blk_drewN ?_ _ | refine blk_drew ?_ | refine blk_alloc ?_ _)); exact BK117.out) hb); have n2_ := Aside0.mk (below_step (by repeat (first | (with_reducible first | exact HB.out | apply below_alloc | apply pw_below_drewN | apply below_drew1 | refine below_set ?_ GE117.out) | exact HB.out)) hb); have n3_ := Aside0.mk (hbox); have n4_ := Aside0.mk ((by rw [hg]; exact (below_size (by repeat (first | (with_reducible first | exact HB.out | apply below_alloc | apply pw_below_drewN | apply below_drew1 | refine below_set ?_ GE117.out) | exact HB.out))) : w.heap.size ≤ gb126)); have n5_ := Aside0.mk ((by rw [hg]; exact (below_size (by repeat (first | (with_reducible first | exact HB.out | apply below_alloc | apply pw_below_drewN | apply below_drew1 | refine below_set ?_ GE117.out) | exact HB.out))) : w.heap.size ≤ gb126)); have n6_ := Aside0.mk ((by rw [hg]; exact Nat.ne_of_lt (blk_lt (g := gb117) (o := .cells #[.int .i64 a0_0, .int .i64 a0_1, .slice A0_2 l0_2.length c0_2, .int .u32 a0_3, .int .u32 a0_4] 25 (0, 0)) (by (with_reducible repeat (first | refine blk_drewN ?_ _ | refine blk_drew ?_ | refine blk_alloc ?_ _)); exact BK117.out)) : gb117 ≠ gb126)); have n7_ := Aside0.mk ((by rw [hg]; exact Nat.ne_of_gt (blk_lt (g := gb117) (o := .cells #[.int .i64 a0_0, .int .i64 a0_1, .slice A0_2 l0_2.length c0_2, .int .u32 a0_3, .int .u32 a0_4] 25 (0, 0)) (by (with_reducible repeat (first | refine blk_drewN ?_ _ | refine blk_drew ?_ | refine blk_alloc ?_ _)); exact BK117.out)) : gb126 ≠ gb117)); clear HO122; clear BK117; clear HB; have HO122 := n0_; have BK117 := n1_; have HB := n2_; have BK126 := n3_; have GW126 := n4_; have GE126 := n5_; have NB117_126 := n6_; have NB126_117 := n7_; clear n0_ n1_ n2_ n3_ n4_ n5_ n6_ n7_; clear hb hbox hg; have hnb10 := NB126_117.out; have hnc10 := NB117_126.out; have hcz11_0 : w9.cell? ⟨gb126, 0, none⟩ = some (.int .i64 0) := (blk_cell BK126.out 0).trans rfl; have hcz11_1 : w9.cell? ⟨gb126, 1, none⟩ = some (.int .i64 0) := (blk_cell BK126.out 1).trans rfl; have hcz11_2 : w9.cell? ⟨gb126, 2, none⟩ = some (.slice none 0 0) := (blk_cell BK126.out 2).trans rfl; have hcz11_3 : w9.cell? ⟨gb126, 3, none⟩ = some (.int .u32 0) := (blk_cell BK126.out 3).trans rfl; have hcz11_4 : w9.cell? ⟨gb126, 4, none⟩ = some (.int .u32 0) := (blk_cell BK126.out 4).trans rfl; have hfz11_0 := blk_frozen BK126.out 0; have hfz11_1 := blk_frozen BK126.out 1; have hfz11_2 := blk_frozen BK126.out 2; have hfz11_3 := blk_frozen BK126.out 3; have hfz11_4 := blk_frozen BK126.out 4; obtain ⟨Ao12, co12, eo12⟩ := Kd.R_slice HO122.out; subst eo12; have hcz13_0 : w9.cell? ⟨gb117, 0, none⟩ = some (.int .i64 a0_0) := (blk_cell BK117.out 0).trans rfl; have hcz13_1 : w9.cell? ⟨gb117, 1, none⟩ = some (.int .i64 a0_1) := (blk_cell BK117.out 1).trans rfl; have hcz13_2 : w9.cell? ⟨gb117, 2, none⟩ = some (.slice A0_2 l0_2.length c0_2) := (blk_cell BK117.out 2).trans rfl; have hcz13_3 : w9.cell? ⟨gb117, 3, none⟩ = some (.int .u32 a0_3) := (blk_cell BK117.out 3).trans rfl; have hcz13_4 : w9.cell? ⟨gb117, 4, none⟩ = some (.int .u32 a0_4) := (blk_cell BK117.out 4).trans rfl; have hfz13_0 := blk_frozen BK117.out 0; have hfz13_1 := blk_frozen BK117.out 1; have hfz13_2 := blk_frozen BK117.out 2; have hfz13_3 := blk_frozen BK117.out 3; have hfz13_4 := blk_frozen BK117.out 4) | (go_at_call 16; (with_reducible refine (coppicerref_NetCheck.calls k a0_0 a0_1 _ _ l0_2 a0_3 a0_4 t127 _ ?side1 ?side2 A3.out).mono ?_); (case side1 => exact Kd.C_below HR0_2.out (by repeat (first | (with_reducible first | exact HB.out | apply below_alloc | apply pw_below_drewN | apply below_drew1 | refine below_set ?_ GE117.out | refine below_set ?_ GE126.out) | exact HB.out))); (case side2 => exact HC0_2.out); rintro e w14 ⟨rfl, hb⟩; have n0_ := Aside0.mk (Kd.R_below (by (with_reducible repeat (first | apply Kd.R_alloc | apply Kd.R_drewN | apply Kd.R_drew)); exact (Kd.R_mono (Kd.R_far (p := ⟨gb126, 4, none⟩) (Kd.R_far (p := ⟨gb126, 3, none⟩) (Kd.R_far (p := ⟨gb126, 2, none⟩) (Kd.R_far (p := ⟨gb126, 1, none⟩) (Kd.R_far (p := ⟨gb126, 0, none⟩) (Kd.R_types HO122.out BK126.out (by decide)) (fun _ hk => hk.2) (.int .i64 t118)) (fun _ hk => hk.2) (.int .i64 t119)) (fun _ hk => hk.2) (.slice Ao12 t120.length co12)) (fun _ hk => hk.2) (.int .u32 t123)) (fun _ hk => hk.2) (.int .u32 t124)) (fun _ h_ => h_.1))) hb); have n1_ := Aside0.mk (blk_below (g := gb117) (o := .cells #[.int .i64 a0_0, .int .i64 a0_1, .slice A0_2 l0_2.length c0_2, .int .u32 a0_3, .int .u32 a0_4] 25 (0, 0)) (by (with_reducible repeat (first | refine blk_drewN ?_ _ | refine blk_drew ?_ | refine blk_alloc ?_ _)); refine blk_far ?_ NB117_126.out _; (with_reducible repeat (first | refine blk_drewN ?_ _ | refine blk_drew ?_ | refine blk_alloc ?_ _)); refine blk_far ?_ NB117_126.out _; (with_reducible repeat (first | refine blk_drewN ?_ _ | refine blk_drew ?_ | refine blk_alloc ?_ _)); refine blk_far ?_ NB117_126.out _; (with_reducible repeat (first | refine blk_drewN ?_ _ | refine blk_drew ?_ | refine blk_alloc ?_ _)); refine blk_far ?_ NB117_126.out _; (with_reducible repeat (first | refine blk_drewN ?_ _ | refine blk_drew ?_ | refine blk_alloc ?_ _)); refine blk_far ?_ NB117_126.out _; (with_reducible repeat (first | refine blk_drewN ?_ _ | refine blk_drew ?_ | refine blk_alloc ?_ _)); exact BK117.out) hb); have n2_ := Aside0.mk (blk_below (g := gb126) (o := .cells #[.int .i64 t118, .int .i64 t119, .slice Ao12 t120.length co12, .int .u32 t123, .int .u32 t124] 25 (0, 0)) (by (with_reducible repeat (first | refine blk_drewN ?_ _ | refine blk_drew ?_ | refine blk_alloc ?_ _)); refine blk_put (cs := #[.int .i64 t118, .int .i64 t119, .slice Ao12 t120.length co12, .int .u32 t123, .int .u32 0]) ?_ 4 _ rfl; (with_reducible repeat (first | refine blk_drewN ?_ _ | refine blk_drew ?_ | refine blk_alloc ?_ _)); refine blk_put (cs := #[.int .i64 t118, .int .i64 t119, .slice Ao12 t120.length co12, .int .u32 0, .int .u32 0]) ?_ 3 _ rfl; (with_reducible repeat (first | refine blk_drewN ?_ _ | refine blk_drew ?_ | refine blk_alloc ?_ _)); refine blk_put (cs := #[.int .i64 t118, .int .i64 t119, .slice none 0 0, .int .u32 0, .int .u32 0]) ?_ 2 _ rfl; (with_reducible repeat (first | refine blk_drewN ?_ _ | refine blk_drew ?_ | refine blk_alloc ?_ _)); refine blk_put (cs := #[.int .i64 t118, .int .i64 0, .slice none 0 0, .int .u32 0, .int .u32 0]) ?_ 1 _ rfl; (with_reducible repeat (first | refine blk_drewN ?_ _ | refine blk_drew ?_ | refine blk_alloc ?_ _)); refine blk_put (cs := #[.int .i64 0, .int .i64 0, .slice none 0 0, .int .u32 0, .int .u32 0]) ?_ 0 _ rfl; (with_reducible repeat (first | refine blk_drewN ?_ _ | refine blk_drew ?_ | refine blk_alloc ?_ _)); exact BK126.out) hb); have n3_ := Aside0.mk (below_step (by repeat (first | (with_reducible first | exact HB.out | apply below_alloc | apply pw_below_drewN | apply below_drew1 | refine below_set ?_ GE117.out | refine below_set ?_ GE126.out) | exact HB.out)) hb); clear HO122; clear BK117; clear BK126; clear HB; have HO122 := n0_; have BK117 := n1_; have BK126 := n2_; have HB := n3_; clear n0_ n1_ n2_ n3_; (try clear hb); (try clear hb2); (try clear hk); (try clear hi))))
    (try simp only [Act.put, List.setIfInBounds_toArray, List.set_cons_zero, List.set_cons_succ])
    go_cut [84] (fun v84 wc => ∃ (kq : Nat) (x84_4 : Bool), v84 = .bool x84_4 ∧ Aside0 (coppicerlaw_NetBacks.j1 kq x84_4 a0_0 a0_1 l0_2 a0_3 a0_4 t118 t119 t120 t123 t124 = some r) ∧ Aside0 (kq ≤ k) ∧ Aside0 (Kd.R k31 31 wc w.heap.size (fun _ => True) (.slice Ao12 t120.length co12) t120) ∧ Aside0 (wc.heap[gb117]? = some (.cells #[.int .i64 a0_0, .int .i64 a0_1, (.slice A0_2 l0_2.length c0_2), .int .u32 a0_3, .int .u32 a0_4] 25 (0, 0))) ∧ Aside0 (wc.heap[gb126]? = some (.cells #[.int .i64 t118, .int .i64 t119, (.slice Ao12 t120.length co12), .int .u32 t123, .int .u32 t124] 25 (0, 0))) ∧ Aside0 (Below w.heap.size w wc))
    case first =>
      have H := HC5.out
      clear HC5
      by_cases c15 : t125 = 0
      · rw [if_pos c15] at H
        have c15b0 : (t125 == 0) = true := beq_iff_eq.mpr c15
        have c15b1 : (t125 != 0) = false := bne_eq_false_iff_eq.mpr c15
        clear c15
        (first | rw [c15b0] | (simp only [i64_w, i32_w]; rw [c15b0]) | skip)
        by_cases c16 : t118 = a0_0
        · rw [if_pos c16] at H
          have c16b0 : (t118 == a0_0) = true := beq_iff_eq.mpr c16
          have c16b1 : (t118 != a0_0) = false := bne_eq_false_iff_eq.mpr c16
          clear c16
          by_cases c17 : t119 = a0_1
          · rw [if_pos c17] at H
            have c17b0 : (t119 == a0_1) = true := beq_iff_eq.mpr c17
            have c17b1 : (t119 != a0_1) = false := bne_eq_false_iff_eq.mpr c17
            clear c17
            by_cases c18 : t123 = a0_4
            · rw [if_pos c18] at H
              have c18b0 : (t123 == a0_4) = true := beq_iff_eq.mpr c18
              have c18b1 : (t123 != a0_4) = false := bne_eq_false_iff_eq.mpr c18
              clear c18
              by_cases c19 : t124 = a0_3
              · rw [if_pos c19] at H
                have c19b0 : (t124 == a0_3) = true := beq_iff_eq.mpr c19
                have c19b1 : (t124 != a0_3) = false := bne_eq_false_iff_eq.mpr c19
                clear c19
                have H' := Aside0.mk H
                clear H
                have hnb20 := NB126_117.out
                have hnc20 := NB117_126.out
                have hcz21_0 : w14.cell? ⟨gb126, 0, none⟩ = some (.int .i64 t118) := (blk_cell BK126.out 0).trans rfl
                have hcz21_1 : w14.cell? ⟨gb126, 1, none⟩ = some (.int .i64 t119) := (blk_cell BK126.out 1).trans rfl
                have hcz21_2 : w14.cell? ⟨gb126, 2, none⟩ = some (.slice Ao12 t120.length co12) := (blk_cell BK126.out 2).trans rfl
                have hcz21_3 : w14.cell? ⟨gb126, 3, none⟩ = some (.int .u32 t123) := (blk_cell BK126.out 3).trans rfl
                have hcz21_4 : w14.cell? ⟨gb126, 4, none⟩ = some (.int .u32 t124) := (blk_cell BK126.out 4).trans rfl
                have hfz21_0 := blk_frozen BK126.out 0
                have hfz21_1 := blk_frozen BK126.out 1
                have hfz21_2 := blk_frozen BK126.out 2
                have hfz21_3 := blk_frozen BK126.out 3
                have hfz21_4 := blk_frozen BK126.out 4
                have hcz22_0 : w14.cell? ⟨gb117, 0, none⟩ = some (.int .i64 a0_0) := (blk_cell BK117.out 0).trans rfl
                have hcz22_1 : w14.cell? ⟨gb117, 1, none⟩ = some (.int .i64 a0_1) := (blk_cell BK117.out 1).trans rfl
                have hcz22_2 : w14.cell? ⟨gb117, 2, none⟩ = some (.slice A0_2 l0_2.length c0_2) := (blk_cell BK117.out 2).trans rfl
                have hcz22_3 : w14.cell? ⟨gb117, 3, none⟩ = some (.int .u32 a0_3) := (blk_cell BK117.out 3).trans rfl
                have hcz22_4 : w14.cell? ⟨gb117, 4, none⟩ = some (.int .u32 a0_4) := (blk_cell BK117.out 4).trans rfl
                have hfz22_0 := blk_frozen BK117.out 0
                have hfz22_1 := blk_frozen BK117.out 1
                have hfz22_2 := blk_frozen BK117.out 2
                have hfz22_3 := blk_frozen BK117.out 3
                have hfz22_4 := blk_frozen BK117.out 4
                go_wp2
                repeat (go_quiet (fail); try go_wp2)
                go_meet
                case rel => exact ⟨_, (((t120.length : Int) != (l0_2.length : Int))), (by first | rfl | (simp; done) | (simp [*]; done)), H', ⟨by first | omega | exact Nat.le_refl _⟩, ⟨by (with_reducible repeat (first | apply Kd.R_alloc | apply Kd.R_drewN | apply Kd.R_drew)); exact HO122.out⟩, ⟨by (with_reducible repeat (first | refine blk_drewN ?_ _ | refine blk_drew ?_ | refine blk_alloc ?_ _)); exact BK117.out⟩, ⟨by (with_reducible repeat (first | refine blk_drewN ?_ _ | refine blk_drew ?_ | refine blk_alloc ?_ _)); exact BK126.out⟩, ⟨by repeat (first | (with_reducible first | exact HB.out | apply below_alloc | apply pw_below_drewN | apply below_drew1 | refine below_set ?_ GE117.out | refine below_set ?_ GE126.out) | exact HB.out)⟩⟩
              · rw [if_neg c19] at H
                have c19b0 : (t124 == a0_3) = false := beq_eq_false_iff_ne.mpr c19
                have c19b1 : (t124 != a0_3) = true := bne_iff_ne.mpr c19
                have H' := Aside0.mk H
                clear H
                have hnb23 := NB126_117.out
                have hnc23 := NB117_126.out
                have hcz24_0 : w14.cell? ⟨gb126, 0, none⟩ = some (.int .i64 t118) := (blk_cell BK126.out 0).trans rfl
                have hcz24_1 : w14.cell? ⟨gb126, 1, none⟩ = some (.int .i64 t119) := (blk_cell BK126.out 1).trans rfl
                have hcz24_2 : w14.cell? ⟨gb126, 2, none⟩ = some (.slice Ao12 t120.length co12) := (blk_cell BK126.out 2).trans rfl
                have hcz24_3 : w14.cell? ⟨gb126, 3, none⟩ = some (.int .u32 t123) := (blk_cell BK126.out 3).trans rfl
                have hcz24_4 : w14.cell? ⟨gb126, 4, none⟩ = some (.int .u32 t124) := (blk_cell BK126.out 4).trans rfl
                have hfz24_0 := blk_frozen BK126.out 0
                have hfz24_1 := blk_frozen BK126.out 1
                have hfz24_2 := blk_frozen BK126.out 2
                have hfz24_3 := blk_frozen BK126.out 3
                have hfz24_4 := blk_frozen BK126.out 4
                have hcz25_0 : w14.cell? ⟨gb117, 0, none⟩ = some (.int .i64 a0_0) := (blk_cell BK117.out 0).trans rfl
                have hcz25_1 : w14.cell? ⟨gb117, 1, none⟩ = some (.int .i64 a0_1) := (blk_cell BK117.out 1).trans rfl
                have hcz25_2 : w14.cell? ⟨gb117, 2, none⟩ = some (.slice A0_2 l0_2.length c0_2) := (blk_cell BK117.out 2).trans rfl
                have hcz25_3 : w14.cell? ⟨gb117, 3, none⟩ = some (.int .u32 a0_3) := (blk_cell BK117.out 3).trans rfl
                have hcz25_4 : w14.cell? ⟨gb117, 4, none⟩ = some (.int .u32 a0_4) := (blk_cell BK117.out 4).trans rfl
                have hfz25_0 := blk_frozen BK117.out 0
                have hfz25_1 := blk_frozen BK117.out 1
                have hfz25_2 := blk_frozen BK117.out 2
                have hfz25_3 := blk_frozen BK117.out 3
                have hfz25_4 := blk_frozen BK117.out 4
                go_wp2
                repeat (go_quiet (fail); try go_wp2)
                go_meet
                case rel => exact ⟨_, (true), (by first | rfl | (simp; done) | (simp [*]; done)), H', ⟨by first | omega | exact Nat.le_refl _⟩, ⟨by (with_reducible repeat (first | apply Kd.R_alloc | apply Kd.R_drewN | apply Kd.R_drew)); exact HO122.out⟩, ⟨by (with_reducible repeat (first | refine blk_drewN ?_ _ | refine blk_drew ?_ | refine blk_alloc ?_ _)); exact BK117.out⟩, ⟨by (with_reducible repeat (first | refine blk_drewN ?_ _ | refine blk_drew ?_ | refine blk_alloc ?_ _)); exact BK126.out⟩, ⟨by repeat (first | (with_reducible first | exact HB.out | apply below_alloc | apply pw_below_drewN | apply below_drew1 | refine below_set ?_ GE117.out | refine below_set ?_ GE126.out) | exact HB.out)⟩⟩
            · rw [if_neg c18] at H
              have c18b0 : (t123 == a0_4) = false := beq_eq_false_iff_ne.mpr c18
              have c18b1 : (t123 != a0_4) = true := bne_iff_ne.mpr c18
              have H' := Aside0.mk H
              clear H
              have hnb26 := NB126_117.out
              have hnc26 := NB117_126.out
              have hcz27_0 : w14.cell? ⟨gb126, 0, none⟩ = some (.int .i64 t118) := (blk_cell BK126.out 0).trans rfl
              have hcz27_1 : w14.cell? ⟨gb126, 1, none⟩ = some (.int .i64 t119) := (blk_cell BK126.out 1).trans rfl
              have hcz27_2 : w14.cell? ⟨gb126, 2, none⟩ = some (.slice Ao12 t120.length co12) := (blk_cell BK126.out 2).trans rfl
              have hcz27_3 : w14.cell? ⟨gb126, 3, none⟩ = some (.int .u32 t123) := (blk_cell BK126.out 3).trans rfl
              have hcz27_4 : w14.cell? ⟨gb126, 4, none⟩ = some (.int .u32 t124) := (blk_cell BK126.out 4).trans rfl
              have hfz27_0 := blk_frozen BK126.out 0
              have hfz27_1 := blk_frozen BK126.out 1
              have hfz27_2 := blk_frozen BK126.out 2
              have hfz27_3 := blk_frozen BK126.out 3
              have hfz27_4 := blk_frozen BK126.out 4
              have hcz28_0 : w14.cell? ⟨gb117, 0, none⟩ = some (.int .i64 a0_0) := (blk_cell BK117.out 0).trans rfl
              have hcz28_1 : w14.cell? ⟨gb117, 1, none⟩ = some (.int .i64 a0_1) := (blk_cell BK117.out 1).trans rfl
              have hcz28_2 : w14.cell? ⟨gb117, 2, none⟩ = some (.slice A0_2 l0_2.length c0_2) := (blk_cell BK117.out 2).trans rfl
              have hcz28_3 : w14.cell? ⟨gb117, 3, none⟩ = some (.int .u32 a0_3) := (blk_cell BK117.out 3).trans rfl
              have hcz28_4 : w14.cell? ⟨gb117, 4, none⟩ = some (.int .u32 a0_4) := (blk_cell BK117.out 4).trans rfl
              have hfz28_0 := blk_frozen BK117.out 0
              have hfz28_1 := blk_frozen BK117.out 1
              have hfz28_2 := blk_frozen BK117.out 2
              have hfz28_3 := blk_frozen BK117.out 3
              have hfz28_4 := blk_frozen BK117.out 4
              go_wp2
              repeat (go_quiet (fail); try go_wp2)
              go_meet
              case rel => exact ⟨_, (true), (by first | rfl | (simp; done) | (simp [*]; done)), H', ⟨by first | omega | exact Nat.le_refl _⟩, ⟨by (with_reducible repeat (first | apply Kd.R_alloc | apply Kd.R_drewN | apply Kd.R_drew)); exact HO122.out⟩, ⟨by (with_reducible repeat (first | refine blk_drewN ?_ _ | refine blk_drew ?_ | refine blk_alloc ?_ _)); exact BK117.out⟩, ⟨by (with_reducible repeat (first | refine blk_drewN ?_ _ | refine blk_drew ?_ | refine blk_alloc ?_ _)); exact BK126.out⟩, ⟨by repeat (first | (with_reducible first | exact HB.out | apply below_alloc | apply pw_below_drewN | apply below_drew1 | refine below_set ?_ GE117.out | refine below_set ?_ GE126.out) | exact HB.out)⟩⟩
          · rw [if_neg c17] at H
            have c17b0 : (t119 == a0_1) = false := beq_eq_false_iff_ne.mpr c17
            have c17b1 : (t119 != a0_1) = true := bne_iff_ne.mpr c17
            have H' := Aside0.mk H
            clear H
            have hnb29 := NB126_117.out
            have hnc29 := NB117_126.out
            have hcz30_0 : w14.cell? ⟨gb126, 0, none⟩ = some (.int .i64 t118) := (blk_cell BK126.out 0).trans rfl
            have hcz30_1 : w14.cell? ⟨gb126, 1, none⟩ = some (.int .i64 t119) := (blk_cell BK126.out 1).trans rfl
            have hcz30_2 : w14.cell? ⟨gb126, 2, none⟩ = some (.slice Ao12 t120.length co12) := (blk_cell BK126.out 2).trans rfl
            have hcz30_3 : w14.cell? ⟨gb126, 3, none⟩ = some (.int .u32 t123) := (blk_cell BK126.out 3).trans rfl
            have hcz30_4 : w14.cell? ⟨gb126, 4, none⟩ = some (.int .u32 t124) := (blk_cell BK126.out 4).trans rfl
            have hfz30_0 := blk_frozen BK126.out 0
            have hfz30_1 := blk_frozen BK126.out 1
            have hfz30_2 := blk_frozen BK126.out 2
            have hfz30_3 := blk_frozen BK126.out 3
            have hfz30_4 := blk_frozen BK126.out 4
            have hcz31_0 : w14.cell? ⟨gb117, 0, none⟩ = some (.int .i64 a0_0) := (blk_cell BK117.out 0).trans rfl
            have hcz31_1 : w14.cell? ⟨gb117, 1, none⟩ = some (.int .i64 a0_1) := (blk_cell BK117.out 1).trans rfl
            have hcz31_2 : w14.cell? ⟨gb117, 2, none⟩ = some (.slice A0_2 l0_2.length c0_2) := (blk_cell BK117.out 2).trans rfl
            have hcz31_3 : w14.cell? ⟨gb117, 3, none⟩ = some (.int .u32 a0_3) := (blk_cell BK117.out 3).trans rfl
            have hcz31_4 : w14.cell? ⟨gb117, 4, none⟩ = some (.int .u32 a0_4) := (blk_cell BK117.out 4).trans rfl
            have hfz31_0 := blk_frozen BK117.out 0
            have hfz31_1 := blk_frozen BK117.out 1
            have hfz31_2 := blk_frozen BK117.out 2
            have hfz31_3 := blk_frozen BK117.out 3
            have hfz31_4 := blk_frozen BK117.out 4
            go_wp2
            repeat (go_quiet (fail); try go_wp2)
            go_meet
            case rel => exact ⟨_, (true), (by first | rfl | (simp; done) | (simp [*]; done)), H', ⟨by first | omega | exact Nat.le_refl _⟩, ⟨by (with_reducible repeat (first | apply Kd.R_alloc | apply Kd.R_drewN | apply Kd.R_drew)); exact HO122.out⟩, ⟨by (with_reducible repeat (first | refine blk_drewN ?_ _ | refine blk_drew ?_ | refine blk_alloc ?_ _)); exact BK117.out⟩, ⟨by (with_reducible repeat (first | refine blk_drewN ?_ _ | refine blk_drew ?_ | refine blk_alloc ?_ _)); exact BK126.out⟩, ⟨by repeat (first | (with_reducible first | exact HB.out | apply below_alloc | apply pw_below_drewN | apply below_drew1 | refine below_set ?_ GE117.out | refine below_set ?_ GE126.out) | exact HB.out)⟩⟩
        · rw [if_neg c16] at H
          have c16b0 : (t118 == a0_0) = false := beq_eq_false_iff_ne.mpr c16
          have c16b1 : (t118 != a0_0) = true := bne_iff_ne.mpr c16
          have H' := Aside0.mk H
          clear H
          have hnb32 := NB126_117.out
          have hnc32 := NB117_126.out
          have hcz33_0 : w14.cell? ⟨gb126, 0, none⟩ = some (.int .i64 t118) := (blk_cell BK126.out 0).trans rfl
          have hcz33_1 : w14.cell? ⟨gb126, 1, none⟩ = some (.int .i64 t119) := (blk_cell BK126.out 1).trans rfl
          have hcz33_2 : w14.cell? ⟨gb126, 2, none⟩ = some (.slice Ao12 t120.length co12) := (blk_cell BK126.out 2).trans rfl
          have hcz33_3 : w14.cell? ⟨gb126, 3, none⟩ = some (.int .u32 t123) := (blk_cell BK126.out 3).trans rfl
          have hcz33_4 : w14.cell? ⟨gb126, 4, none⟩ = some (.int .u32 t124) := (blk_cell BK126.out 4).trans rfl
          have hfz33_0 := blk_frozen BK126.out 0
          have hfz33_1 := blk_frozen BK126.out 1
          have hfz33_2 := blk_frozen BK126.out 2
          have hfz33_3 := blk_frozen BK126.out 3
          have hfz33_4 := blk_frozen BK126.out 4
          have hcz34_0 : w14.cell? ⟨gb117, 0, none⟩ = some (.int .i64 a0_0) := (blk_cell BK117.out 0).trans rfl
          have hcz34_1 : w14.cell? ⟨gb117, 1, none⟩ = some (.int .i64 a0_1) := (blk_cell BK117.out 1).trans rfl
          have hcz34_2 : w14.cell? ⟨gb117, 2, none⟩ = some (.slice A0_2 l0_2.length c0_2) := (blk_cell BK117.out 2).trans rfl
          have hcz34_3 : w14.cell? ⟨gb117, 3, none⟩ = some (.int .u32 a0_3) := (blk_cell BK117.out 3).trans rfl
          have hcz34_4 : w14.cell? ⟨gb117, 4, none⟩ = some (.int .u32 a0_4) := (blk_cell BK117.out 4).trans rfl
          have hfz34_0 := blk_frozen BK117.out 0
          have hfz34_1 := blk_frozen BK117.out 1
          have hfz34_2 := blk_frozen BK117.out 2
          have hfz34_3 := blk_frozen BK117.out 3
          have hfz34_4 := blk_frozen BK117.out 4
          go_wp2
          repeat (go_quiet (fail); try go_wp2)
          go_meet
          case rel => exact ⟨_, (true), (by first | rfl | (simp; done) | (simp [*]; done)), H', ⟨by first | omega | exact Nat.le_refl _⟩, ⟨by (with_reducible repeat (first | apply Kd.R_alloc | apply Kd.R_drewN | apply Kd.R_drew)); exact HO122.out⟩, ⟨by (with_reducible repeat (first | refine blk_drewN ?_ _ | refine blk_drew ?_ | refine blk_alloc ?_ _)); exact BK117.out⟩, ⟨by (with_reducible repeat (first | refine blk_drewN ?_ _ | refine blk_drew ?_ | refine blk_alloc ?_ _)); exact BK126.out⟩, ⟨by repeat (first | (with_reducible first | exact HB.out | apply below_alloc | apply pw_below_drewN | apply below_drew1 | refine below_set ?_ GE117.out | refine below_set ?_ GE126.out) | exact HB.out)⟩⟩
      · rw [if_neg c15] at H
        have c15b0 : (t125 == 0) = false := beq_eq_false_iff_ne.mpr c15
        have c15b1 : (t125 != 0) = true := bne_iff_ne.mpr c15
        (first | rw [c15b0] | (simp only [i64_w, i32_w]; rw [c15b0]) | skip)
        have H' := Aside0.mk H
        clear H
        go_wp2
        repeat (go_quiet (fail); try go_wp2)
        go_meet
        case rel => exact ⟨_, (true), (by first | rfl | (simp; done) | (simp [*]; done)), H', ⟨by first | omega | exact Nat.le_refl _⟩, ⟨by (with_reducible repeat (first | apply Kd.R_alloc | apply Kd.R_drewN | apply Kd.R_drew)); exact HO122.out⟩, ⟨by (with_reducible repeat (first | refine blk_drewN ?_ _ | refine blk_drew ?_ | refine blk_alloc ?_ _)); exact BK117.out⟩, ⟨by (with_reducible repeat (first | refine blk_drewN ?_ _ | refine blk_drew ?_ | refine blk_alloc ?_ _)); exact BK126.out⟩, ⟨by repeat (first | (with_reducible first | exact HB.out | apply below_alloc | apply pw_below_drewN | apply below_drew1 | refine below_set ?_ GE117.out | refine below_set ?_ GE126.out) | exact HB.out)⟩⟩
    case rest =>
      clear HC5
      try clear c1
      try clear c2
      try clear p2
      try clear c3
      try clear c4
      try clear c4b0
      try clear c4b1
      try clear c10
      try clear c15
      try clear c15b0
      try clear c15b1
      try clear c16
      try clear c16b0
      try clear c16b1
      try clear c17
      try clear c17b0
      try clear c17b1
      try clear c18
      try clear c18b0
      try clear c18b1
      try clear c19
      try clear c19b0
      try clear c19b1
      try clear c20
      try clear c23
      try clear c26
      try clear c29
      try clear c32
      try clear hcz11_0
      try clear hcz11_1
      try clear hcz11_2
      try clear hcz11_3
      try clear hcz11_4
      try clear hcz13_0
      try clear hcz13_1
      try clear hcz13_2
      try clear hcz13_3
      try clear hcz13_4
      try clear hcz21_0
      try clear hcz21_1
      try clear hcz21_2
      try clear hcz21_3
      try clear hcz21_4
      try clear hcz22_0
      try clear hcz22_1
      try clear hcz22_2
      try clear hcz22_3
      try clear hcz22_4
      try clear hcz24_0
      try clear hcz24_1
      try clear hcz24_2
      try clear hcz24_3
      try clear hcz24_4
      try clear hcz25_0
      try clear hcz25_1
      try clear hcz25_2
      try clear hcz25_3
      try clear hcz25_4
      try clear hcz27_0
      try clear hcz27_1
      try clear hcz27_2
      try clear hcz27_3
      try clear hcz27_4
      try clear hcz28_0
      try clear hcz28_1
      try clear hcz28_2
      try clear hcz28_3
      try clear hcz28_4
      try clear hcz30_0
      try clear hcz30_1
      try clear hcz30_2
      try clear hcz30_3
      try clear hcz30_4
      try clear hcz31_0
      try clear hcz31_1
      try clear hcz31_2
      try clear hcz31_3
      try clear hcz31_4
      try clear hcz33_0
      try clear hcz33_1
      try clear hcz33_2
      try clear hcz33_3
      try clear hcz33_4
      try clear hcz34_0
      try clear hcz34_1
      try clear hcz34_2
      try clear hcz34_3
      try clear hcz34_4
      try clear hcz7_0
      try clear hcz7_1
      try clear hcz7_2
      try clear hcz7_3
      try clear hcz7_4
      try clear hfz11_0
      try clear hfz11_1
      try clear hfz11_2
      try clear hfz11_3
      try clear hfz11_4
      try clear hfz13_0
      try clear hfz13_1
      try clear hfz13_2
      try clear hfz13_3
      try clear hfz13_4
      try clear hfz21_0
      try clear hfz21_1
      try clear hfz21_2
      try clear hfz21_3
      try clear hfz21_4
      try clear hfz22_0
      try clear hfz22_1
      try clear hfz22_2
      try clear hfz22_3
      try clear hfz22_4
      try clear hfz24_0
      try clear hfz24_1
      try clear hfz24_2
      try clear hfz24_3
      try clear hfz24_4
      try clear hfz25_0
      try clear hfz25_1
      try clear hfz25_2
      try clear hfz25_3
      try clear hfz25_4
      try clear hfz27_0
      try clear hfz27_1
      try clear hfz27_2
      try clear hfz27_3
      try clear hfz27_4
      try clear hfz28_0
      try clear hfz28_1
      try clear hfz28_2
      try clear hfz28_3
      try clear hfz28_4
      try clear hfz30_0
      try clear hfz30_1
      try clear hfz30_2
      try clear hfz30_3
      try clear hfz30_4
      try clear hfz31_0
      try clear hfz31_1
      try clear hfz31_2
      try clear hfz31_3
      try clear hfz31_4
      try clear hfz33_0
      try clear hfz33_1
      try clear hfz33_2
      try clear hfz33_3
      try clear hfz33_4
      try clear hfz34_0
      try clear hfz34_1
      try clear hfz34_2
      try clear hfz34_3
      try clear hfz34_4
      try clear hfz7_0
      try clear hfz7_1
      try clear hfz7_2
      try clear hfz7_3
      try clear hfz7_4
      obtain ⟨kq, x84_4, rfl, HA, HJ4, HO_127002, BK117, BK126, HB⟩ := hcut
      cases kq with
      | zero => exact absurd HA.out (by simp [coppicerlaw_NetBacks.j1])
      | succ kj4 =>
        have H := HA.out
        clear HA
        simp only [coppicerlaw_NetBacks.j1] at H
        by_cases c35 : x84_4 = true
        · subst c35
          have H1 : (some false) = some r := by rw [if_pos rfl] at H; exact H
          clear H
          have H := H1
          clear H1
          obtain rfl := Option.some.inj H
          go_wp2
          repeat (go_quiet (fail); try go_wp2)
          go_ret
          exact ⟨by first | rfl | (simp [errW_none, errW_some] <;> rfl) | (simp [*, errW_none, errW_some] <;> rfl), by repeat (first | (with_reducible first | exact HB.out | apply below_alloc | apply pw_below_drewN | apply below_drew1 | refine below_set ?_ GE117.out | refine below_set ?_ GE126.out) | exact HB.out)⟩
        · replace c35 := Bool.eq_false_iff.mpr c35
          subst c35
          have H1 : (coppicerlaw_NetBacks.l0 kj4 l0_2 (l0_2.length : Int) 0 t118 t119 t120 t123 t124) = some r := by rw [if_neg (show ¬ (false = true) by decide)] at H; exact H
          clear H
          have H := H1
          clear H1
          have H' := Aside0.mk H
          clear H
          have hnb36 := NB117_126.out
          have hnc36 := NB126_117.out
          have hcz37_0 : wc.cell? ⟨gb117, 0, none⟩ = some (.int .i64 a0_0) := (blk_cell BK117.out 0).trans rfl
          have hcz37_1 : wc.cell? ⟨gb117, 1, none⟩ = some (.int .i64 a0_1) := (blk_cell BK117.out 1).trans rfl
          have hcz37_2 : wc.cell? ⟨gb117, 2, none⟩ = some (.slice A0_2 l0_2.length c0_2) := (blk_cell BK117.out 2).trans rfl
          have hcz37_3 : wc.cell? ⟨gb117, 3, none⟩ = some (.int .u32 a0_3) := (blk_cell BK117.out 3).trans rfl
          have hcz37_4 : wc.cell? ⟨gb117, 4, none⟩ = some (.int .u32 a0_4) := (blk_cell BK117.out 4).trans rfl
          have hfz37_0 := blk_frozen BK117.out 0
          have hfz37_1 := blk_frozen BK117.out 1
          have hfz37_2 := blk_frozen BK117.out 2
          have hfz37_3 := blk_frozen BK117.out 3
          have hfz37_4 := blk_frozen BK117.out 4
          go_wp2
          repeat (go_quiet (fail); try go_wp2)
          go_loopg [88] kj4 (fun kq v88 w' => ∃ (x88_2 : Int), v88 = .int .i64 x88_2 ∧ Aside0 (coppicerlaw_NetBacks.l0 kq l0_2 (l0_2.length : Int) x88_2 t118 t119 t120 t123 t124 = some r) ∧ Aside0 (kq ≤ kj4) ∧ Aside0 (Kd.R k31 31 w' w.heap.size (fun _ => True) (.slice Ao12 t120.length co12) t120) ∧ Aside0 (w'.heap[gb117]? = some (.cells #[.int .i64 a0_0, .int .i64 a0_1, (.slice A0_2 l0_2.length c0_2), .int .u32 a0_3, .int .u32 a0_4] 25 (0, 0))) ∧ Aside0 (w'.heap[gb126]? = some (.cells #[.int .i64 t118, .int .i64 t119, (.slice Ao12 t120.length co12), .int .u32 t123, .int .u32 t124] 25 (0, 0))) ∧ Aside0 (Below w.heap.size w w'))
          case atStart => exact ⟨(0), (by first | rfl | (simp; done) | (simp [*]; done)), H', ⟨Nat.le_refl _⟩, ⟨by (with_reducible repeat (first | apply Kd.R_alloc | apply Kd.R_drewN | apply Kd.R_drew)); exact HO_127002.out⟩, ⟨by (with_reducible repeat (first | refine blk_drewN ?_ _ | refine blk_drew ?_ | refine blk_alloc ?_ _)); exact BK117.out⟩, ⟨by (with_reducible repeat (first | refine blk_drewN ?_ _ | refine blk_drew ?_ | refine blk_alloc ?_ _)); exact BK126.out⟩, ⟨by repeat (first | (with_reducible first | exact HB.out | apply below_alloc | apply pw_below_drewN | apply below_drew1 | refine below_set ?_ GE117.out | refine below_set ?_ GE126.out) | exact HB.out)⟩⟩
          case round =>
            clear H'
            try clear c1
            try clear c2
            try clear p2
            try clear c3
            try clear c4
            try clear c4b0
            try clear c4b1
            try clear c10
            try clear c15
            try clear c15b0
            try clear c15b1
            try clear c16
            try clear c16b0
            try clear c16b1
            try clear c17
            try clear c17b0
            try clear c17b1
            try clear c18
            try clear c18b0
            try clear c18b1
            try clear c19
            try clear c19b0
            try clear c19b1
            try clear c20
            try clear c23
            try clear c26
            try clear c29
            try clear c32
            try clear c35
            try clear c36
            try clear hcz11_0
            try clear hcz11_1
            try clear hcz11_2
            try clear hcz11_3
            try clear hcz11_4
            try clear hcz13_0
            try clear hcz13_1
            try clear hcz13_2
            try clear hcz13_3
            try clear hcz13_4
            try clear hcz21_0
            try clear hcz21_1
            try clear hcz21_2
            try clear hcz21_3
            try clear hcz21_4
            try clear hcz22_0
            try clear hcz22_1
            try clear hcz22_2
            try clear hcz22_3
            try clear hcz22_4
            try clear hcz24_0
            try clear hcz24_1
            try clear hcz24_2
            try clear hcz24_3
            try clear hcz24_4
            try clear hcz25_0
            try clear hcz25_1
            try clear hcz25_2
            try clear hcz25_3
            try clear hcz25_4
            try clear hcz27_0
            try clear hcz27_1
            try clear hcz27_2
            try clear hcz27_3
            try clear hcz27_4
            try clear hcz28_0
            try clear hcz28_1
            try clear hcz28_2
            try clear hcz28_3
            try clear hcz28_4
            try clear hcz30_0
            try clear hcz30_1
            try clear hcz30_2
            try clear hcz30_3
            try clear hcz30_4
            try clear hcz31_0
            try clear hcz31_1
            try clear hcz31_2
            try clear hcz31_3
            try clear hcz31_4
            try clear hcz33_0
            try clear hcz33_1
            try clear hcz33_2
            try clear hcz33_3
            try clear hcz33_4
            try clear hcz34_0
            try clear hcz34_1
            try clear hcz34_2
            try clear hcz34_3
            try clear hcz34_4
            try clear hcz37_0
            try clear hcz37_1
            try clear hcz37_2
            try clear hcz37_3
            try clear hcz37_4
            try clear hcz7_0
            try clear hcz7_1
            try clear hcz7_2
            try clear hcz7_3
            try clear hcz7_4
            try clear hfz11_0
            try clear hfz11_1
            try clear hfz11_2
            try clear hfz11_3
            try clear hfz11_4
            try clear hfz13_0
            try clear hfz13_1
            try clear hfz13_2
            try clear hfz13_3
            try clear hfz13_4
            try clear hfz21_0
            try clear hfz21_1
            try clear hfz21_2
            try clear hfz21_3
            try clear hfz21_4
            try clear hfz22_0
            try clear hfz22_1
            try clear hfz22_2
            try clear hfz22_3
            try clear hfz22_4
            try clear hfz24_0
            try clear hfz24_1
            try clear hfz24_2
            try clear hfz24_3
            try clear hfz24_4
            try clear hfz25_0
            try clear hfz25_1
            try clear hfz25_2
            try clear hfz25_3
            try clear hfz25_4
            try clear hfz27_0
            try clear hfz27_1
            try clear hfz27_2
            try clear hfz27_3
            try clear hfz27_4
            try clear hfz28_0
            try clear hfz28_1
            try clear hfz28_2
            try clear hfz28_3
            try clear hfz28_4
            try clear hfz30_0
            try clear hfz30_1
            try clear hfz30_2
            try clear hfz30_3
            try clear hfz30_4
            try clear hfz31_0
            try clear hfz31_1
            try clear hfz31_2
            try clear hfz31_3
            try clear hfz31_4
            try clear hfz33_0
            try clear hfz33_1
            try clear hfz33_2
            try clear hfz33_3
            try clear hfz33_4
            try clear hfz34_0
            try clear hfz34_1
            try clear hfz34_2
            try clear hfz34_3
            try clear hfz34_4
            try clear hfz37_0
            try clear hfz37_1
            try clear hfz37_2
            try clear hfz37_3
            try clear hfz37_4
            try clear hfz7_0
            try clear hfz7_1
            try clear hfz7_2
            try clear hfz7_3
            try clear hfz7_4
            try clear p2
            obtain ⟨x88_2, rfl, HA, HK2, HO_127002, BK117, BK126, HB⟩ := hrel
            cases gk with
            | zero => exact absurd HA.out (by simp [coppicerlaw_NetBacks.l0])
            | succ k2 =>
              have H := HA.out
              clear HA
              simp only [coppicerlaw_NetBacks.l0] at H
              by_cases c38 : x88_2 < (l0_2.length : Int)
              · rw [if_pos c38] at H
                have c38b0 : decide (x88_2 < (l0_2.length : Int)) = true := decide_eq_true c38
                clear c38
                by_cases c39 : 0 ≤ x88_2
                · rw [if_pos c39] at H
                  have c39b0 : decide (0 ≤ x88_2) = true := decide_eq_true c39
                  clear c39
                  by_cases c40 : x88_2 < (l0_2.length : Int)
                  · rw [if_pos c40] at H
                    have c40b0 : decide (x88_2 < (l0_2.length : Int)) = true := decide_eq_true c40
                    clear c40
                    have HC41 := Aside0.mk H
                    clear H
                    have p128 : 0 ≤ (x88_2 : Int) := of_decide_eq_true (by first | (with_reducible assumption) | assumption)
                    have q128 : x88_2 < (l0_2.length : Int) := of_decide_eq_true (by first | (with_reducible assumption) | assumption)
                    obtain ⟨ad128, e128, hx128_0, hx128_1, hx128_2⟩ := at_T31 HR0_2.out x88_2 p128 q128
                    cases e128
                    replace hx128_0 := (HB.out.cell (World.block_lt_of_cell? w _ hx128_0)).trans hx128_0
                    replace hx128_1 := (HB.out.cell (World.block_lt_of_cell? w _ hx128_1)).trans hx128_1
                    replace hx128_2 := (HB.out.cell (World.block_lt_of_cell? w _ hx128_2)).trans hx128_2
                    replace p128 := eq_true p128
                    replace q128 := eq_true q128
                    go_upto_region 10 with (first | ((with_reducible refine gate_dst (N := 7) rfl ?_); (try (refine gate_guard (by rfl) ?_; dsimp only)); refine box_event ?hg (N := 7) ?hd (cs := #[.int .i64 0, .int .i64 0, .int .i64 0]) (t := 31) ?hr ?_; (case hd => rfl); (case hg => rfl); (case hr => first | (go_simp; done) | (go_simp; rfl)); intro gb129 hg w42 hbox hb; have n0_ := Aside0.mk (Kd.R_below (Kd.R_elderB (by (with_reducible repeat (first | apply Kd.R_alloc | apply Kd.R_drewN | apply Kd.R_drew)); exact HO_127002.out) gb129 (Nat.le_of_eq hg.symm)) hb); have n1_ := Aside0.mk (blk_below (g := gb117) (o := .cells #[.int .i64 a0_0, .int .i64 a0_1, .slice (some ad128) l0_2.length c0_2, .int .u32 a0_3, .int .u32 a0_4] 25 (0, 0)) (by (with_reducible repeat (first | refine blk_drewN ?_ _ | refine blk_drew ?_ | refine blk_alloc ?_ _)); exact BK117.out) hb); have n2_ := Aside0.mk (blk_below (g := gb126) (o := .cells #[.int .i64 t118, .int .i64 t119, .slice Ao12 t120.length co12, .int .u32 t123, .int .u32 t124] 25 (0, 0)) (by (with_reducible repeat (first | refine blk_drewN ?_ _ | refine blk_drew ?_ | refine blk_alloc ?_ _)); exact BK126.out) hb); have n3_ := Aside0.mk (below_step (by repeat (first | (with_reducible first | exact HB.out | apply below_alloc | apply pw_below_drewN | apply below_drew1 | refine below_set ?_ GE117.out | refine below_set ?_ GE126.out) | exact HB.out)) hb); have n4_ := Aside0.mk (hbox); have n5_ := Aside0.mk ((by rw [hg]; exact (below_size (by repeat (first | (with_reducible first | exact HB.out | apply below_alloc | apply pw_below_drewN | apply below_drew1 | refine below_set ?_ GE117.out | refine below_set ?_ GE126.out) | exact HB.out))) : w.heap.size ≤ gb129)); have n6_ := Aside0.mk ((by rw [hg]; exact (below_size (by repeat (first | (with_reducible first | exact HB.out | apply below_alloc | apply pw_below_drewN | apply below_drew1 | refine below_set ?_ GE117.out | refine below_set ?_ GE126.out) | exact HB.out))) : w.heap.size ≤ gb129)); have n7_ := Aside0.mk ((by rw [hg]; exact Nat.ne_of_lt (blk_lt (g := gb117) (o := .cells #[.int .i64 a0_0, .int .i64 a0_1, .slice (some ad128) l0_2.length c0_2, .int .u32 a0_3, .int .u32 a0_4] 25 (0, 0)) (by (with_reducible repeat (first | refine blk_drewN ?_ _ | refine blk_drew ?_ | refine blk_alloc ?_ _)); exact BK117.out)) : gb117 ≠ gb129)); have n8_ := Aside0.mk ((by rw [hg]; exact Nat.ne_of_gt (blk_lt (g := gb117) (o := .cells #[.int .i64 a0_0, .int .i64 a0_1, .slice (some ad128) l0_2.length c0_2, .int .u32 a0_3, .int .u32 a0_4] 25 (0, 0)) (by (with_reducible repeat (first | refine blk_drewN ?_ _ | refine blk_drew ?_ | refine blk_alloc ?_ _)); exact BK117.out)) : gb129 ≠ gb117)); have n9_ := Aside0.mk ((by rw [hg]; exact Nat.ne_of_lt (blk_lt (g := gb126) (o := .cells #[.int .i64 t118, .int .i64 t119, .slice Ao12 t120.length co12, .int .u32 t123, .int .u32 t124] 25 (0, 0)) (by (with_reducible repeat (first | refine blk_drewN ?_ _ | refine blk_drew ?_ | refine blk_alloc ?_ _)); exact BK126.out)) : gb126 ≠ gb129)); have n10_ := Aside0.mk ((by rw [hg]; exact Nat.ne_of_gt (blk_lt (g := gb126) (o := .cells #[.int .i64 t118, .int .i64 t119, .slice Ao12 t120.length co12, .int .u32 t123, .int .u32 t124] 25 (0, 0)) (by (with_reducible repeat (first | refine blk_drewN ?_ _ | refine blk_drew ?_ | refine blk_alloc ?_ _)); exact BK126.out)) : gb129 ≠ gb126)); clear HO_127002; clear BK117; clear BK126; clear HB; have HO_127002 := n0_; have BK117 := n1_; have BK126 := n2_; have HB := n3_; have BK129 := n4_; have GW129 := n5_; have GE129 := n6_; have NB117_129 := n7_; have NB129_117 := n8_; have NB126_129 := n9_; have NB129_126 := n10_; clear n0_ n1_ n2_ n3_ n4_ n5_ n6_ n7_ n8_ n9_ n10_; clear hb hbox hg; have hnb43 := NB129_117.out; have hnc43 := NB117_129.out; have hnb44 := NB129_126.out; have hnc44 := NB126_129.out; have hcz45_0 : w42.cell? ⟨gb129, 0, none⟩ = some (.int .i64 0) := (blk_cell BK129.out 0).trans rfl; have hcz45_1 : w42.cell? ⟨gb129, 1, none⟩ = some (.int .i64 0) := (blk_cell BK129.out 1).trans rfl; have hcz45_2 : w42.cell? ⟨gb129, 2, none⟩ = some (.int .i64 0) := (blk_cell BK129.out 2).trans rfl; have hfz45_0 := blk_frozen BK129.out 0; have hfz45_1 := blk_frozen BK129.out 1; have hfz45_2 := blk_frozen BK129.out 2))
                    repeat (go_quiet (first | ((with_reducible refine gate_dst (N := 7) rfl ?_); (try (refine gate_guard (by rfl) ?_; dsimp only)); refine box_event ?hg (N := 7) ?hd (cs := #[.int .i64 0, .int .i64 0, .int .i64 0]) (t := 31) ?hr ?_; (case hd => rfl); (case hg => rfl); (case hr => first | (go_simp; done) | (go_simp; rfl)); intro gb129 hg w42 hbox hb; have n0_ := Aside0.mk (Kd.R_below (Kd.R_elderB (by (with_reducible repeat (first | apply Kd.R_alloc | apply Kd.R_drewN | apply Kd.R_drew)); exact HO_127002.out) gb129 (Nat.le_of_eq hg.symm)) hb); have n1_ := Aside0.mk (blk_below (g := gb117) (o := .cells #[.int .i64 a0_0, .int .i64 a0_1, .slice (some ad128) l0_2.length c0_2, .int .u32 a0_3, .int .u32 a0_4] 25 (0, 0)) (by (with_reducible repeat (first | refine blk_drewN ?_ _ | refine blk_drew ?_ | refine blk_alloc ?_ _)); exact BK117.out) hb); have n2_ := Aside0.mk (blk_below (g := gb126) (o := .cells #[.int .i64 t118, .int .i64 t119, .slice Ao12 t120.length co12, .int .u32 t123, .int .u32 t124] 25 (0, 0)) (by (with_reducible repeat (first | refine blk_drewN ?_ _ | refine blk_drew ?_ | refine blk_alloc ?_ _)); exact BK126.out) hb); have n3_ := Aside0.mk (below_step (by repeat (first | (with_reducible first | exact HB.out | apply below_alloc | apply pw_below_drewN | apply below_drew1 | refine below_set ?_ GE117.out | refine below_set ?_ GE126.out) | exact HB.out)) hb); have n4_ := Aside0.mk (hbox); have n5_ := Aside0.mk ((by rw [hg]; exact (below_size (by repeat (first | (with_reducible first | exact HB.out | apply below_alloc | apply pw_below_drewN | apply below_drew1 | refine below_set ?_ GE117.out | refine below_set ?_ GE126.out) | exact HB.out))) : w.heap.size ≤ gb129)); have n6_ := Aside0.mk ((by rw [hg]; exact (below_size (by repeat (first | (with_reducible first | exact HB.out | apply below_alloc | apply pw_below_drewN | apply below_drew1 | refine below_set ?_ GE117.out | refine below_set ?_ GE126.out) | exact HB.out))) : w.heap.size ≤ gb129)); have n7_ := Aside0.mk ((by rw [hg]; exact Nat.ne_of_lt (blk_lt (g := gb117) (o := .cells #[.int .i64 a0_0, .int .i64 a0_1, .slice (some ad128) l0_2.length c0_2, .int .u32 a0_3, .int .u32 a0_4] 25 (0, 0)) (by (with_reducible repeat (first | refine blk_drewN ?_ _ | refine blk_drew ?_ | refine blk_alloc ?_ _)); exact BK117.out)) : gb117 ≠ gb129)); have n8_ := Aside0.mk ((by rw [hg]; exact Nat.ne_of_gt (blk_lt (g := gb117) (o := .cells #[.int .i64 a0_0, .int .i64 a0_1, .slice (some ad128) l0_2.length c0_2, .int .u32 a0_3, .int .u32 a0_4] 25 (0, 0)) (by (with_reducible repeat (first | refine blk_drewN ?_ _ | refine blk_drew ?_ | refine blk_alloc ?_ _)); exact BK117.out)) : gb129 ≠ gb117)); have n9_ := Aside0.mk ((by rw [hg]; exact Nat.ne_of_lt (blk_lt (g := gb126) (o := .cells #[.int .i64 t118, .int .i64 t119, .slice Ao12 t120.length co12, .int .u32 t123, .int .u32 t124] 25 (0, 0)) (by (with_reducible repeat (first | refine blk_drewN ?_ _ | refine blk_drew ?_ | refine blk_alloc ?_ _)); exact BK126.out)) : gb126 ≠ gb129)); have n10_ := Aside0.mk ((by rw [hg]; exact Nat.ne_of_gt (blk_lt (g := gb126) (o := .cells #[.int .i64 t118, .int .i64 t119, .slice Ao12 t120.length co12, .int .u32 t123, .int .u32 t124] 25 (0, 0)) (by (with_reducible repeat (first | refine blk_drewN ?_ _ | refine blk_drew ?_ | refine blk_alloc ?_ _)); exact BK126.out)) : gb129 ≠ gb126)); clear HO_127002; clear BK117; clear BK126; clear HB; have HO_127002 := n0_; have BK117 := n1_; have BK126 := n2_; have HB := n3_; have BK129 := n4_; have GW129 := n5_; have GE129 := n6_; have NB117_129 := n7_; have NB129_117 := n8_; have NB126_129 := n9_; have NB129_126 := n10_; clear n0_ n1_ n2_ n3_ n4_ n5_ n6_ n7_ n8_ n9_ n10_; clear hb hbox hg; have hnb43 := NB129_117.out; have hnc43 := NB117_129.out; have hnb44 := NB129_126.out; have hnc44 := NB126_129.out; have hcz45_0 : w42.cell? ⟨gb129, 0, none⟩ = some (.int .i64 0) := (blk_cell BK129.out 0).trans rfl; have hcz45_1 : w42.cell? ⟨gb129, 1, none⟩ = some (.int .i64 0) := (blk_cell BK129.out 1).trans rfl; have hcz45_2 : w42.cell? ⟨gb129, 2, none⟩ = some (.int .i64 0) := (blk_cell BK129.out 2).trans rfl; have hfz45_0 := blk_frozen BK129.out 0; have hfz45_1 := blk_frozen BK129.out 1; have hfz45_2 := blk_frozen BK129.out 2)); go_upto_region 10 with (first | ((with_reducible refine gate_dst (N := 7) rfl ?_); (try (refine gate_guard (by rfl) ?_; dsimp only)); refine box_event ?hg (N := 7) ?hd (cs := #[.int .i64 0, .int .i64 0, .int .i64 0]) (t := 31) ?hr ?_; (case hd => rfl); (case hg => rfl); (case hr => first | (go_simp; done) | (go_simp; rfl)); intro gb129 hg w42 hbox hb; have n0_ := Aside0.mk (Kd.R_below (Kd.R_elderB (by (with_reducible repeat (first | apply Kd.R_alloc | apply Kd.R_drewN | apply Kd.R_drew)); exact HO_127002.out) gb129 (Nat.le_of_eq hg.symm)) hb); have n1_ := Aside0.mk (blk_below (g := gb117) (o := .cells #[.int .i64 a0_0, .int .i64 a0_1, .slice (some ad128) l0_2.length c0_2, .int .u32 a0_3, .int .u32 a0_4] 25 (0, 0)) (by (with_reducible repeat (first | refine blk_drewN ?_ _ | refine blk_drew ?_ | refine blk_alloc ?_ _)); exact BK117.out) hb); have n2_ := Aside0.mk (blk_below (g := gb126) (o := .cells #[.int .i64 t118, .int .i64 t119, .slice Ao12 t120.length co12, .int .u32 t123, .int .u32 t124] 25 (0, 0)) (by (with_reducible repeat (first | refine blk_drewN ?_ _ | refine blk_drew ?_ | refine blk_alloc ?_ _)); exact BK126.out) hb); have n3_ := Aside0.mk (below_step (by repeat (first | (with_reducible first | exact HB.out | apply below_alloc | apply pw_below_drewN | apply below_drew1 | refine below_set ?_ GE117.out | refine below_set ?_ GE126.out) | exact HB.out)) hb); have n4_ := Aside0.mk (hbox); have n5_ := Aside0.mk ((by rw [hg]; exact (below_size (by repeat (first | (with_reducible first | exact HB.out | apply below_alloc | apply pw_below_drewN | apply below_drew1 | refine below_set ?_ GE117.out | refine below_set ?_ GE126.out) | exact HB.out))) : w.heap.size ≤ gb129)); have n6_ := Aside0.mk ((by rw [hg]; exact (below_size (by repeat (first | (with_reducible first | exact HB.out | apply below_alloc | apply pw_below_drewN | apply below_drew1 | refine below_set ?_ GE117.out | refine below_set ?_ GE126.out) | exact HB.out))) : w.heap.size ≤ gb129)); have n7_ := Aside0.mk ((by rw [hg]; exact Nat.ne_of_lt (blk_lt (g := gb117) (o := .cells #[.int .i64 a0_0, .int .i64 a0_1, .slice (some ad128) l0_2.length c0_2, .int .u32 a0_3, .int .u32 a0_4] 25 (0, 0)) (by (with_reducible repeat (first | refine blk_drewN ?_ _ | refine blk_drew ?_ | refine blk_alloc ?_ _)); exact BK117.out)) : gb117 ≠ gb129)); have n8_ := Aside0.mk ((by rw [hg]; exact Nat.ne_of_gt (blk_lt (g := gb117) (o := .cells #[.int .i64 a0_0, .int .i64 a0_1, .slice (some ad128) l0_2.length c0_2, .int .u32 a0_3, .int .u32 a0_4] 25 (0, 0)) (by (with_reducible repeat (first | refine blk_drewN ?_ _ | refine blk_drew ?_ | refine blk_alloc ?_ _)); exact BK117.out)) : gb129 ≠ gb117)); have n9_ := Aside0.mk ((by rw [hg]; exact Nat.ne_of_lt (blk_lt (g := gb126) (o := .cells #[.int .i64 t118, .int .i64 t119, .slice Ao12 t120.length co12, .int .u32 t123, .int .u32 t124] 25 (0, 0)) (by (with_reducible repeat (first | refine blk_drewN ?_ _ | refine blk_drew ?_ | refine blk_alloc ?_ _)); exact BK126.out)) : gb126 ≠ gb129)); have n10_ := Aside0.mk ((by rw [hg]; exact Nat.ne_of_gt (blk_lt (g := gb126) (o := .cells #[.int .i64 t118, .int .i64 t119, .slice Ao12 t120.length co12, .int .u32 t123, .int .u32 t124] 25 (0, 0)) (by (with_reducible repeat (first | refine blk_drewN ?_ _ | refine blk_drew ?_ | refine blk_alloc ?_ _)); exact BK126.out)) : gb129 ≠ gb126)); clear HO_127002; clear BK117; clear BK126; clear HB; have HO_127002 := n0_; have BK117 := n1_; have BK126 := n2_; have HB := n3_; have BK129 := n4_; have GW129 := n5_; have GE129 := n6_; have NB117_129 := n7_; have NB129_117 := n8_; have NB126_129 := n9_; have NB129_126 := n10_; clear n0_ n1_ n2_ n3_ n4_ n5_ n6_ n7_ n8_ n9_ n10_; clear hb hbox hg; have hnb43 := NB129_117.out; have hnc43 := NB117_129.out; have hnb44 := NB129_126.out; have hnc44 := NB126_129.out; have hcz45_0 : w42.cell? ⟨gb129, 0, none⟩ = some (.int .i64 0) := (blk_cell BK129.out 0).trans rfl; have hcz45_1 : w42.cell? ⟨gb129, 1, none⟩ = some (.int .i64 0) := (blk_cell BK129.out 1).trans rfl; have hcz45_2 : w42.cell? ⟨gb129, 2, none⟩ = some (.int .i64 0) := (blk_cell BK129.out 2).trans rfl; have hfz45_0 := blk_frozen BK129.out 0; have hfz45_1 := blk_frozen BK129.out 1; have hfz45_2 := blk_frozen BK129.out 2)))
                    (try simp only [Act.put, List.setIfInBounds_toArray, List.set_cons_zero, List.set_cons_succ])
                    go_cut [123] (fun v123 wc => ∃ (kq : Nat) (x123_40 : Bool), v123 = .bool x123_40 ∧ Aside0 (coppicerlaw_NetBacks.j3 kq l0_2 (l0_2.length : Int) x88_2 x123_40 t118 t119 t120 t123 t124 = some r) ∧ Aside0 (kq ≤ k2) ∧ Aside0 (Kd.R k31 31 wc w.heap.size (fun k_ => k_ ≠ gb129) (.slice Ao12 t120.length co12) t120) ∧ Aside0 (wc.heap[gb117]? = some (.cells #[.int .i64 a0_0, .int .i64 a0_1, (.slice (some ad128) l0_2.length c0_2), .int .u32 a0_3, .int .u32 a0_4] 25 (0, 0))) ∧ Aside0 (wc.heap[gb126]? = some (.cells #[.int .i64 t118, .int .i64 t119, (.slice Ao12 t120.length co12), .int .u32 t123, .int .u32 t124] 25 (0, 0))) ∧ Aside0 (wc.heap[gb129]? = some (.cells #[.int .i64 ((rd_T31 l0_2 x88_2).f0), .int .i64 ((rd_T31 l0_2 x88_2).f1), .int .i64 ((rd_T31 l0_2 x88_2).f2)] 31 (0, 0))) ∧ Aside0 (Below w.heap.size w wc))
                    case first =>
                      have H := HC41.out
                      clear HC41
                      by_cases c46 : x88_2 < (t120.length : Int)
                      · rw [if_pos c46] at H
                        have c46b0 : decide (x88_2 < (t120.length : Int)) = true := decide_eq_true c46
                        clear c46
                        (first | rw [c46b0] | (simp only [i64_w, i32_w]; rw [c46b0]) | skip)
                        by_cases c47 : ((rd_T31 t120 x88_2).f0) = ((rd_T31 l0_2 x88_2).f2)
                        · rw [if_pos c47] at H
                          have c47b0 : (((rd_T31 t120 x88_2).f0) == ((rd_T31 l0_2 x88_2).f2)) = true := beq_iff_eq.mpr c47
                          have c47b1 : (((rd_T31 t120 x88_2).f0) != ((rd_T31 l0_2 x88_2).f2)) = false := bne_eq_false_iff_eq.mpr c47
                          clear c47
                          by_cases c48 : ((rd_T31 t120 x88_2).f2) = ((rd_T31 l0_2 x88_2).f0)
                          · rw [if_pos c48] at H
                            have c48b0 : (((rd_T31 t120 x88_2).f2) == ((rd_T31 l0_2 x88_2).f0)) = true := beq_iff_eq.mpr c48
                            have c48b1 : (((rd_T31 t120 x88_2).f2) != ((rd_T31 l0_2 x88_2).f0)) = false := bne_eq_false_iff_eq.mpr c48
                            clear c48
                            have H' := Aside0.mk H
                            clear H
                            have hnb49 := NB126_117.out
                            have hnc49 := NB117_126.out
                            have hnb50 := NB126_129.out
                            have hnc50 := NB129_126.out
                            have hcz51_0 : w42.cell? ⟨gb126, 0, none⟩ = some (.int .i64 t118) := (blk_cell BK126.out 0).trans rfl
                            have hcz51_1 : w42.cell? ⟨gb126, 1, none⟩ = some (.int .i64 t119) := (blk_cell BK126.out 1).trans rfl
                            have hcz51_2 : w42.cell? ⟨gb126, 2, none⟩ = some (.slice Ao12 t120.length co12) := (blk_cell BK126.out 2).trans rfl
                            have hcz51_3 : w42.cell? ⟨gb126, 3, none⟩ = some (.int .u32 t123) := (blk_cell BK126.out 3).trans rfl
                            have hcz51_4 : w42.cell? ⟨gb126, 4, none⟩ = some (.int .u32 t124) := (blk_cell BK126.out 4).trans rfl
                            have hfz51_0 := blk_frozen BK126.out 0
                            have hfz51_1 := blk_frozen BK126.out 1
                            have hfz51_2 := blk_frozen BK126.out 2
                            have hfz51_3 := blk_frozen BK126.out 3
                            have hfz51_4 := blk_frozen BK126.out 4
                            have p130 : 0 ≤ (x88_2 : Int) := of_decide_eq_true (by first | (with_reducible assumption) | assumption)
                            have q130 : x88_2 < (t120.length : Int) := of_decide_eq_true (by first | (with_reducible assumption) | assumption)
                            obtain ⟨ad130, e130, hx130_0, hx130_1, hx130_2⟩ := at_T31 (Kd.R_reads' HO_127002.out).2.2 x88_2 p130 q130
                            cases e130
                            have hn130_0 : ad130.block ≠ gb129 := Kd.own_blk (Kd.R_away HO_127002.out (fun _ hk => hk.2))
                            have hn130_1 : ad130.block ≠ gb129 := Kd.own_blk (Kd.R_away HO_127002.out (fun _ hk => hk.2))
                            have hn130_2 : ad130.block ≠ gb129 := Kd.own_blk (Kd.R_away HO_127002.out (fun _ hk => hk.2))
                            replace hx130_0 := (cell_far (p := ⟨gb129, 0, none⟩) (by first | (rw [add_block]; exact hn130_0) | (show (Addr.add _ _).block ≠ _; rw [add_block]; exact hn130_0) | exact hn130_0) (.int .i64 ((rd_T31 l0_2 x88_2).f0))).trans hx130_0
                            replace hx130_1 := (cell_far (p := ⟨gb129, 0, none⟩) (by first | (rw [add_block]; exact hn130_0) | (show (Addr.add _ _).block ≠ _; rw [add_block]; exact hn130_0) | exact hn130_0) (.int .i64 ((rd_T31 l0_2 x88_2).f0))).trans hx130_1
                            replace hx130_2 := (cell_far (p := ⟨gb129, 0, none⟩) (by first | (rw [add_block]; exact hn130_0) | (show (Addr.add _ _).block ≠ _; rw [add_block]; exact hn130_0) | exact hn130_0) (.int .i64 ((rd_T31 l0_2 x88_2).f0))).trans hx130_2
                            replace hx130_0 := (cell_far (p := ⟨gb129, 1, none⟩) (by first | (rw [add_block]; exact hn130_1) | (show (Addr.add _ _).block ≠ _; rw [add_block]; exact hn130_1) | exact hn130_1) (.int .i64 ((rd_T31 l0_2 x88_2).f1))).trans hx130_0
                            replace hx130_1 := (cell_far (p := ⟨gb129, 1, none⟩) (by first | (rw [add_block]; exact hn130_1) | (show (Addr.add _ _).block ≠ _; rw [add_block]; exact hn130_1) | exact hn130_1) (.int .i64 ((rd_T31 l0_2 x88_2).f1))).trans hx130_1
                            replace hx130_2 := (cell_far (p := ⟨gb129, 1, none⟩) (by first | (rw [add_block]; exact hn130_1) | (show (Addr.add _ _).block ≠ _; rw [add_block]; exact hn130_1) | exact hn130_1) (.int .i64 ((rd_T31 l0_2 x88_2).f1))).trans hx130_2
                            replace hx130_0 := (cell_far (p := ⟨gb129, 2, none⟩) (by first | (rw [add_block]; exact hn130_2) | (show (Addr.add _ _).block ≠ _; rw [add_block]; exact hn130_2) | exact hn130_2) (.int .i64 ((rd_T31 l0_2 x88_2).f2))).trans hx130_0
                            replace hx130_1 := (cell_far (p := ⟨gb129, 2, none⟩) (by first | (rw [add_block]; exact hn130_2) | (show (Addr.add _ _).block ≠ _; rw [add_block]; exact hn130_2) | exact hn130_2) (.int .i64 ((rd_T31 l0_2 x88_2).f2))).trans hx130_1
                            replace hx130_2 := (cell_far (p := ⟨gb129, 2, none⟩) (by first | (rw [add_block]; exact hn130_2) | (show (Addr.add _ _).block ≠ _; rw [add_block]; exact hn130_2) | exact hn130_2) (.int .i64 ((rd_T31 l0_2 x88_2).f2))).trans hx130_2
                            (try have hy130_0 := fun (n_ : Nat) => (show (((((w42.drewN n_).setCell ⟨gb129, 0, none⟩ (.int .i64 ((rd_T31 l0_2 x88_2).f0))).setCell ⟨gb129, 1, none⟩ (.int .i64 ((rd_T31 l0_2 x88_2).f1))).setCell ⟨gb129, 2, none⟩ (.int .i64 ((rd_T31 l0_2 x88_2).f2)))).cell? _ = some _ from hx130_0))
                            (try have hy130_1 := fun (n_ : Nat) => (show (((((w42.drewN n_).setCell ⟨gb129, 0, none⟩ (.int .i64 ((rd_T31 l0_2 x88_2).f0))).setCell ⟨gb129, 1, none⟩ (.int .i64 ((rd_T31 l0_2 x88_2).f1))).setCell ⟨gb129, 2, none⟩ (.int .i64 ((rd_T31 l0_2 x88_2).f2)))).cell? _ = some _ from hx130_1))
                            (try have hy130_2 := fun (n_ : Nat) => (show (((((w42.drewN n_).setCell ⟨gb129, 0, none⟩ (.int .i64 ((rd_T31 l0_2 x88_2).f0))).setCell ⟨gb129, 1, none⟩ (.int .i64 ((rd_T31 l0_2 x88_2).f1))).setCell ⟨gb129, 2, none⟩ (.int .i64 ((rd_T31 l0_2 x88_2).f2)))).cell? _ = some _ from hx130_2))
                            clear hn130_0
                            clear hn130_1
                            clear hn130_2
                            replace p130 := eq_true p130
                            replace q130 := eq_true q130
                            have hnb52 := NB129_117.out
                            have hnc52 := NB117_129.out
                            have hcz53_0 : w42.cell? ⟨gb129, 0, none⟩ = some (.int .i64 0) := (blk_cell BK129.out 0).trans rfl
                            have hcz53_1 : w42.cell? ⟨gb129, 1, none⟩ = some (.int .i64 0) := (blk_cell BK129.out 1).trans rfl
                            have hcz53_2 : w42.cell? ⟨gb129, 2, none⟩ = some (.int .i64 0) := (blk_cell BK129.out 2).trans rfl
                            have hfz53_0 := blk_frozen BK129.out 0
                            have hfz53_1 := blk_frozen BK129.out 1
                            have hfz53_2 := blk_frozen BK129.out 2
                            have p131 : 0 ≤ (x88_2 : Int) := of_decide_eq_true (by first | (with_reducible assumption) | assumption)
                            have q131 : x88_2 < (t120.length : Int) := of_decide_eq_true (by first | (with_reducible assumption) | assumption)
                            obtain ⟨ad131, e131, hx131_0, hx131_1, hx131_2⟩ := at_T31 (Kd.R_reads' HO_127002.out).2.2 x88_2 p131 q131
                            obtain rfl : ad130 = ad131 := (by injection e131)
                            have hn131_0 : ad130.block ≠ gb129 := Kd.own_blk (Kd.R_away HO_127002.out (fun _ hk => hk.2))
                            have hn131_1 : ad130.block ≠ gb129 := Kd.own_blk (Kd.R_away HO_127002.out (fun _ hk => hk.2))
                            have hn131_2 : ad130.block ≠ gb129 := Kd.own_blk (Kd.R_away HO_127002.out (fun _ hk => hk.2))
                            replace hx131_0 := (cell_far (p := ⟨gb129, 0, none⟩) (by first | (rw [add_block]; exact hn131_0) | (show (Addr.add _ _).block ≠ _; rw [add_block]; exact hn131_0) | exact hn131_0) (.int .i64 ((rd_T31 l0_2 x88_2).f0))).trans hx131_0
                            replace hx131_1 := (cell_far (p := ⟨gb129, 0, none⟩) (by first | (rw [add_block]; exact hn131_0) | (show (Addr.add _ _).block ≠ _; rw [add_block]; exact hn131_0) | exact hn131_0) (.int .i64 ((rd_T31 l0_2 x88_2).f0))).trans hx131_1
                            replace hx131_2 := (cell_far (p := ⟨gb129, 0, none⟩) (by first | (rw [add_block]; exact hn131_0) | (show (Addr.add _ _).block ≠ _; rw [add_block]; exact hn131_0) | exact hn131_0) (.int .i64 ((rd_T31 l0_2 x88_2).f0))).trans hx131_2
                            replace hx131_0 := (cell_far (p := ⟨gb129, 1, none⟩) (by first | (rw [add_block]; exact hn131_1) | (show (Addr.add _ _).block ≠ _; rw [add_block]; exact hn131_1) | exact hn131_1) (.int .i64 ((rd_T31 l0_2 x88_2).f1))).trans hx131_0
                            replace hx131_1 := (cell_far (p := ⟨gb129, 1, none⟩) (by first | (rw [add_block]; exact hn131_1) | (show (Addr.add _ _).block ≠ _; rw [add_block]; exact hn131_1) | exact hn131_1) (.int .i64 ((rd_T31 l0_2 x88_2).f1))).trans hx131_1
                            replace hx131_2 := (cell_far (p := ⟨gb129, 1, none⟩) (by first | (rw [add_block]; exact hn131_1) | (show (Addr.add _ _).block ≠ _; rw [add_block]; exact hn131_1) | exact hn131_1) (.int .i64 ((rd_T31 l0_2 x88_2).f1))).trans hx131_2
                            replace hx131_0 := (cell_far (p := ⟨gb129, 2, none⟩) (by first | (rw [add_block]; exact hn131_2) | (show (Addr.add _ _).block ≠ _; rw [add_block]; exact hn131_2) | exact hn131_2) (.int .i64 ((rd_T31 l0_2 x88_2).f2))).trans hx131_0
                            replace hx131_1 := (cell_far (p := ⟨gb129, 2, none⟩) (by first | (rw [add_block]; exact hn131_2) | (show (Addr.add _ _).block ≠ _; rw [add_block]; exact hn131_2) | exact hn131_2) (.int .i64 ((rd_T31 l0_2 x88_2).f2))).trans hx131_1
                            replace hx131_2 := (cell_far (p := ⟨gb129, 2, none⟩) (by first | (rw [add_block]; exact hn131_2) | (show (Addr.add _ _).block ≠ _; rw [add_block]; exact hn131_2) | exact hn131_2) (.int .i64 ((rd_T31 l0_2 x88_2).f2))).trans hx131_2
                            (try have hy131_0 := fun (n_ : Nat) => (show (((((w42.drewN n_).setCell ⟨gb129, 0, none⟩ (.int .i64 ((rd_T31 l0_2 x88_2).f0))).setCell ⟨gb129, 1, none⟩ (.int .i64 ((rd_T31 l0_2 x88_2).f1))).setCell ⟨gb129, 2, none⟩ (.int .i64 ((rd_T31 l0_2 x88_2).f2)))).cell? _ = some _ from hx131_0))
                            (try have hy131_1 := fun (n_ : Nat) => (show (((((w42.drewN n_).setCell ⟨gb129, 0, none⟩ (.int .i64 ((rd_T31 l0_2 x88_2).f0))).setCell ⟨gb129, 1, none⟩ (.int .i64 ((rd_T31 l0_2 x88_2).f1))).setCell ⟨gb129, 2, none⟩ (.int .i64 ((rd_T31 l0_2 x88_2).f2)))).cell? _ = some _ from hx131_1))
                            (try have hy131_2 := fun (n_ : Nat) => (show (((((w42.drewN n_).setCell ⟨gb129, 0, none⟩ (.int .i64 ((rd_T31 l0_2 x88_2).f0))).setCell ⟨gb129, 1, none⟩ (.int .i64 ((rd_T31 l0_2 x88_2).f1))).setCell ⟨gb129, 2, none⟩ (.int .i64 ((rd_T31 l0_2 x88_2).f2)))).cell? _ = some _ from hx131_2))
                            clear hn131_0
                            clear hn131_1
                            clear hn131_2
                            replace p131 := eq_true p131
                            replace q131 := eq_true q131
                            have p132 : 0 ≤ (x88_2 : Int) := of_decide_eq_true (by first | (with_reducible assumption) | assumption)
                            have q132 : x88_2 < (t120.length : Int) := of_decide_eq_true (by first | (with_reducible assumption) | assumption)
                            obtain ⟨ad132, e132, hx132_0, hx132_1, hx132_2⟩ := at_T31 (Kd.R_reads' HO_127002.out).2.2 x88_2 p132 q132
                            obtain rfl : ad130 = ad132 := (by injection e132)
                            have hn132_0 : ad130.block ≠ gb129 := Kd.own_blk (Kd.R_away HO_127002.out (fun _ hk => hk.2))
                            have hn132_1 : ad130.block ≠ gb129 := Kd.own_blk (Kd.R_away HO_127002.out (fun _ hk => hk.2))
                            have hn132_2 : ad130.block ≠ gb129 := Kd.own_blk (Kd.R_away HO_127002.out (fun _ hk => hk.2))
                            replace hx132_0 := (cell_far (p := ⟨gb129, 0, none⟩) (by first | (rw [add_block]; exact hn132_0) | (show (Addr.add _ _).block ≠ _; rw [add_block]; exact hn132_0) | exact hn132_0) (.int .i64 ((rd_T31 l0_2 x88_2).f0))).trans hx132_0
                            replace hx132_1 := (cell_far (p := ⟨gb129, 0, none⟩) (by first | (rw [add_block]; exact hn132_0) | (show (Addr.add _ _).block ≠ _; rw [add_block]; exact hn132_0) | exact hn132_0) (.int .i64 ((rd_T31 l0_2 x88_2).f0))).trans hx132_1
                            replace hx132_2 := (cell_far (p := ⟨gb129, 0, none⟩) (by first | (rw [add_block]; exact hn132_0) | (show (Addr.add _ _).block ≠ _; rw [add_block]; exact hn132_0) | exact hn132_0) (.int .i64 ((rd_T31 l0_2 x88_2).f0))).trans hx132_2
                            replace hx132_0 := (cell_far (p := ⟨gb129, 1, none⟩) (by first | (rw [add_block]; exact hn132_1) | (show (Addr.add _ _).block ≠ _; rw [add_block]; exact hn132_1) | exact hn132_1) (.int .i64 ((rd_T31 l0_2 x88_2).f1))).trans hx132_0
                            replace hx132_1 := (cell_far (p := ⟨gb129, 1, none⟩) (by first | (rw [add_block]; exact hn132_1) | (show (Addr.add _ _).block ≠ _; rw [add_block]; exact hn132_1) | exact hn132_1) (.int .i64 ((rd_T31 l0_2 x88_2).f1))).trans hx132_1
                            replace hx132_2 := (cell_far (p := ⟨gb129, 1, none⟩) (by first | (rw [add_block]; exact hn132_1) | (show (Addr.add _ _).block ≠ _; rw [add_block]; exact hn132_1) | exact hn132_1) (.int .i64 ((rd_T31 l0_2 x88_2).f1))).trans hx132_2
                            replace hx132_0 := (cell_far (p := ⟨gb129, 2, none⟩) (by first | (rw [add_block]; exact hn132_2) | (show (Addr.add _ _).block ≠ _; rw [add_block]; exact hn132_2) | exact hn132_2) (.int .i64 ((rd_T31 l0_2 x88_2).f2))).trans hx132_0
                            replace hx132_1 := (cell_far (p := ⟨gb129, 2, none⟩) (by first | (rw [add_block]; exact hn132_2) | (show (Addr.add _ _).block ≠ _; rw [add_block]; exact hn132_2) | exact hn132_2) (.int .i64 ((rd_T31 l0_2 x88_2).f2))).trans hx132_1
                            replace hx132_2 := (cell_far (p := ⟨gb129, 2, none⟩) (by first | (rw [add_block]; exact hn132_2) | (show (Addr.add _ _).block ≠ _; rw [add_block]; exact hn132_2) | exact hn132_2) (.int .i64 ((rd_T31 l0_2 x88_2).f2))).trans hx132_2
                            (try have hy132_0 := fun (n_ : Nat) => (show (((((w42.drewN n_).setCell ⟨gb129, 0, none⟩ (.int .i64 ((rd_T31 l0_2 x88_2).f0))).setCell ⟨gb129, 1, none⟩ (.int .i64 ((rd_T31 l0_2 x88_2).f1))).setCell ⟨gb129, 2, none⟩ (.int .i64 ((rd_T31 l0_2 x88_2).f2)))).cell? _ = some _ from hx132_0))
                            (try have hy132_1 := fun (n_ : Nat) => (show (((((w42.drewN n_).setCell ⟨gb129, 0, none⟩ (.int .i64 ((rd_T31 l0_2 x88_2).f0))).setCell ⟨gb129, 1, none⟩ (.int .i64 ((rd_T31 l0_2 x88_2).f1))).setCell ⟨gb129, 2, none⟩ (.int .i64 ((rd_T31 l0_2 x88_2).f2)))).cell? _ = some _ from hx132_1))
                            (try have hy132_2 := fun (n_ : Nat) => (show (((((w42.drewN n_).setCell ⟨gb129, 0, none⟩ (.int .i64 ((rd_T31 l0_2 x88_2).f0))).setCell ⟨gb129, 1, none⟩ (.int .i64 ((rd_T31 l0_2 x88_2).f1))).setCell ⟨gb129, 2, none⟩ (.int .i64 ((rd_T31 l0_2 x88_2).f2)))).cell? _ = some _ from hx132_2))
                            clear hn132_0
                            clear hn132_1
                            clear hn132_2
                            replace p132 := eq_true p132
                            replace q132 := eq_true q132
                            go_wp2
                            repeat (go_quiet (fail); try go_wp2)
                            go_meet
                            case rel => exact ⟨_, ((((rd_T31 t120 x88_2).f1) != ((rd_T31 l0_2 x88_2).f1))), (by first | rfl | (simp; done) | (simp [*]; done)), H', ⟨by have := HJ4.out; have := HK2.out; first | omega | exact Nat.le_refl _⟩, ⟨by (with_reducible repeat (first | apply Kd.R_alloc | apply Kd.R_drewN | apply Kd.R_drew)); exact Kd.R_mono (Kd.R_far (p := ⟨gb129, 2, none⟩) (Kd.R_far (p := ⟨gb129, 1, none⟩) (Kd.R_far (p := ⟨gb129, 0, none⟩) (Kd.R_mono HO_127002.out (fun k_ hk => (⟨hk, hk.2⟩ : _ ∧ k_ ≠ gb129))) (fun _ hk => hk.2) (.int .i64 ((rd_T31 l0_2 x88_2).f0))) (fun _ hk => hk.2) (.int .i64 ((rd_T31 l0_2 x88_2).f1))) (fun _ hk => hk.2) (.int .i64 ((rd_T31 l0_2 x88_2).f2))) (fun _ hk => hk.1.2)⟩, ⟨by (with_reducible repeat (first | refine blk_drewN ?_ _ | refine blk_drew ?_ | refine blk_alloc ?_ _)); refine blk_far ?_ NB117_129.out _; (with_reducible repeat (first | refine blk_drewN ?_ _ | refine blk_drew ?_ | refine blk_alloc ?_ _)); refine blk_far ?_ NB117_129.out _; (with_reducible repeat (first | refine blk_drewN ?_ _ | refine blk_drew ?_ | refine blk_alloc ?_ _)); refine blk_far ?_ NB117_129.out _; (with_reducible repeat (first | refine blk_drewN ?_ _ | refine blk_drew ?_ | refine blk_alloc ?_ _)); exact BK117.out⟩, ⟨by (with_reducible repeat (first | refine blk_drewN ?_ _ | refine blk_drew ?_ | refine blk_alloc ?_ _)); refine blk_far ?_ NB126_129.out _; (with_reducible repeat (first | refine blk_drewN ?_ _ | refine blk_drew ?_ | refine blk_alloc ?_ _)); refine blk_far ?_ NB126_129.out _; (with_reducible repeat (first | refine blk_drewN ?_ _ | refine blk_drew ?_ | refine blk_alloc ?_ _)); refine blk_far ?_ NB126_129.out _; (with_reducible repeat (first | refine blk_drewN ?_ _ | refine blk_drew ?_ | refine blk_alloc ?_ _)); exact BK126.out⟩, ⟨by (with_reducible repeat (first | refine blk_drewN ?_ _ | refine blk_drew ?_ | refine blk_alloc ?_ _)); refine blk_put (cs := #[.int .i64 ((rd_T31 l0_2 x88_2).f0), .int .i64 ((rd_T31 l0_2 x88_2).f1), .int .i64 0]) ?_ 2 _ rfl; (with_reducible repeat (first | refine blk_drewN ?_ _ | refine blk_drew ?_ | refine blk_alloc ?_ _)); refine blk_put (cs := #[.int .i64 ((rd_T31 l0_2 x88_2).f0), .int .i64 0, .int .i64 0]) ?_ 1 _ rfl; (with_reducible repeat (first | refine blk_drewN ?_ _ | refine blk_drew ?_ | refine blk_alloc ?_ _)); refine blk_put (cs := #[.int .i64 0, .int .i64 0, .int .i64 0]) ?_ 0 _ rfl; (with_reducible repeat (first | refine blk_drewN ?_ _ | refine blk_drew ?_ | refine blk_alloc ?_ _)); exact BK129.out⟩, ⟨by repeat (first | (with_reducible first | exact HB.out | apply below_alloc | apply pw_below_drewN | apply below_drew1 | refine below_set ?_ GE117.out | refine below_set ?_ GE126.out | refine below_set ?_ GE129.out) | exact HB.out)⟩⟩
                          · rw [if_neg c48] at H
                            have c48b0 : (((rd_T31 t120 x88_2).f2) == ((rd_T31 l0_2 x88_2).f0)) = false := beq_eq_false_iff_ne.mpr c48
                            have c48b1 : (((rd_T31 t120 x88_2).f2) != ((rd_T31 l0_2 x88_2).f0)) = true := bne_iff_ne.mpr c48
                            have H' := Aside0.mk H
                            clear H
                            have hnb54 := NB126_117.out
                            have hnc54 := NB117_126.out
                            have hnb55 := NB126_129.out
                            have hnc55 := NB129_126.out
                            have hcz56_0 : w42.cell? ⟨gb126, 0, none⟩ = some (.int .i64 t118) := (blk_cell BK126.out 0).trans rfl
                            have hcz56_1 : w42.cell? ⟨gb126, 1, none⟩ = some (.int .i64 t119) := (blk_cell BK126.out 1).trans rfl
                            have hcz56_2 : w42.cell? ⟨gb126, 2, none⟩ = some (.slice Ao12 t120.length co12) := (blk_cell BK126.out 2).trans rfl
                            have hcz56_3 : w42.cell? ⟨gb126, 3, none⟩ = some (.int .u32 t123) := (blk_cell BK126.out 3).trans rfl
                            have hcz56_4 : w42.cell? ⟨gb126, 4, none⟩ = some (.int .u32 t124) := (blk_cell BK126.out 4).trans rfl
                            have hfz56_0 := blk_frozen BK126.out 0
                            have hfz56_1 := blk_frozen BK126.out 1
                            have hfz56_2 := blk_frozen BK126.out 2
                            have hfz56_3 := blk_frozen BK126.out 3
                            have hfz56_4 := blk_frozen BK126.out 4
                            have p130 : 0 ≤ (x88_2 : Int) := of_decide_eq_true (by first | (with_reducible assumption) | assumption)
                            have q130 : x88_2 < (t120.length : Int) := of_decide_eq_true (by first | (with_reducible assumption) | assumption)
                            obtain ⟨ad130, e130, hx130_0, hx130_1, hx130_2⟩ := at_T31 (Kd.R_reads' HO_127002.out).2.2 x88_2 p130 q130
                            cases e130
                            have hn130_0 : ad130.block ≠ gb129 := Kd.own_blk (Kd.R_away HO_127002.out (fun _ hk => hk.2))
                            have hn130_1 : ad130.block ≠ gb129 := Kd.own_blk (Kd.R_away HO_127002.out (fun _ hk => hk.2))
                            have hn130_2 : ad130.block ≠ gb129 := Kd.own_blk (Kd.R_away HO_127002.out (fun _ hk => hk.2))
                            replace hx130_0 := (cell_far (p := ⟨gb129, 0, none⟩) (by first | (rw [add_block]; exact hn130_0) | (show (Addr.add _ _).block ≠ _; rw [add_block]; exact hn130_0) | exact hn130_0) (.int .i64 ((rd_T31 l0_2 x88_2).f0))).trans hx130_0
                            replace hx130_1 := (cell_far (p := ⟨gb129, 0, none⟩) (by first | (rw [add_block]; exact hn130_0) | (show (Addr.add _ _).block ≠ _; rw [add_block]; exact hn130_0) | exact hn130_0) (.int .i64 ((rd_T31 l0_2 x88_2).f0))).trans hx130_1
                            replace hx130_2 := (cell_far (p := ⟨gb129, 0, none⟩) (by first | (rw [add_block]; exact hn130_0) | (show (Addr.add _ _).block ≠ _; rw [add_block]; exact hn130_0) | exact hn130_0) (.int .i64 ((rd_T31 l0_2 x88_2).f0))).trans hx130_2
                            replace hx130_0 := (cell_far (p := ⟨gb129, 1, none⟩) (by first | (rw [add_block]; exact hn130_1) | (show (Addr.add _ _).block ≠ _; rw [add_block]; exact hn130_1) | exact hn130_1) (.int .i64 ((rd_T31 l0_2 x88_2).f1))).trans hx130_0
                            replace hx130_1 := (cell_far (p := ⟨gb129, 1, none⟩) (by first | (rw [add_block]; exact hn130_1) | (show (Addr.add _ _).block ≠ _; rw [add_block]; exact hn130_1) | exact hn130_1) (.int .i64 ((rd_T31 l0_2 x88_2).f1))).trans hx130_1
                            replace hx130_2 := (cell_far (p := ⟨gb129, 1, none⟩) (by first | (rw [add_block]; exact hn130_1) | (show (Addr.add _ _).block ≠ _; rw [add_block]; exact hn130_1) | exact hn130_1) (.int .i64 ((rd_T31 l0_2 x88_2).f1))).trans hx130_2
                            replace hx130_0 := (cell_far (p := ⟨gb129, 2, none⟩) (by first | (rw [add_block]; exact hn130_2) | (show (Addr.add _ _).block ≠ _; rw [add_block]; exact hn130_2) | exact hn130_2) (.int .i64 ((rd_T31 l0_2 x88_2).f2))).trans hx130_0
                            replace hx130_1 := (cell_far (p := ⟨gb129, 2, none⟩) (by first | (rw [add_block]; exact hn130_2) | (show (Addr.add _ _).block ≠ _; rw [add_block]; exact hn130_2) | exact hn130_2) (.int .i64 ((rd_T31 l0_2 x88_2).f2))).trans hx130_1
                            replace hx130_2 := (cell_far (p := ⟨gb129, 2, none⟩) (by first | (rw [add_block]; exact hn130_2) | (show (Addr.add _ _).block ≠ _; rw [add_block]; exact hn130_2) | exact hn130_2) (.int .i64 ((rd_T31 l0_2 x88_2).f2))).trans hx130_2
                            (try have hy130_0 := fun (n_ : Nat) => (show (((((w42.drewN n_).setCell ⟨gb129, 0, none⟩ (.int .i64 ((rd_T31 l0_2 x88_2).f0))).setCell ⟨gb129, 1, none⟩ (.int .i64 ((rd_T31 l0_2 x88_2).f1))).setCell ⟨gb129, 2, none⟩ (.int .i64 ((rd_T31 l0_2 x88_2).f2)))).cell? _ = some _ from hx130_0))
                            (try have hy130_1 := fun (n_ : Nat) => (show (((((w42.drewN n_).setCell ⟨gb129, 0, none⟩ (.int .i64 ((rd_T31 l0_2 x88_2).f0))).setCell ⟨gb129, 1, none⟩ (.int .i64 ((rd_T31 l0_2 x88_2).f1))).setCell ⟨gb129, 2, none⟩ (.int .i64 ((rd_T31 l0_2 x88_2).f2)))).cell? _ = some _ from hx130_1))
                            (try have hy130_2 := fun (n_ : Nat) => (show (((((w42.drewN n_).setCell ⟨gb129, 0, none⟩ (.int .i64 ((rd_T31 l0_2 x88_2).f0))).setCell ⟨gb129, 1, none⟩ (.int .i64 ((rd_T31 l0_2 x88_2).f1))).setCell ⟨gb129, 2, none⟩ (.int .i64 ((rd_T31 l0_2 x88_2).f2)))).cell? _ = some _ from hx130_2))
                            clear hn130_0
                            clear hn130_1
                            clear hn130_2
                            replace p130 := eq_true p130
                            replace q130 := eq_true q130
                            have hnb57 := NB129_117.out
                            have hnc57 := NB117_129.out
                            have hcz58_0 : w42.cell? ⟨gb129, 0, none⟩ = some (.int .i64 0) := (blk_cell BK129.out 0).trans rfl
                            have hcz58_1 : w42.cell? ⟨gb129, 1, none⟩ = some (.int .i64 0) := (blk_cell BK129.out 1).trans rfl
                            have hcz58_2 : w42.cell? ⟨gb129, 2, none⟩ = some (.int .i64 0) := (blk_cell BK129.out 2).trans rfl
                            have hfz58_0 := blk_frozen BK129.out 0
                            have hfz58_1 := blk_frozen BK129.out 1
                            have hfz58_2 := blk_frozen BK129.out 2
                            have p131 : 0 ≤ (x88_2 : Int) := of_decide_eq_true (by first | (with_reducible assumption) | assumption)
                            have q131 : x88_2 < (t120.length : Int) := of_decide_eq_true (by first | (with_reducible assumption) | assumption)
                            obtain ⟨ad131, e131, hx131_0, hx131_1, hx131_2⟩ := at_T31 (Kd.R_reads' HO_127002.out).2.2 x88_2 p131 q131
                            obtain rfl : ad130 = ad131 := (by injection e131)
                            have hn131_0 : ad130.block ≠ gb129 := Kd.own_blk (Kd.R_away HO_127002.out (fun _ hk => hk.2))
                            have hn131_1 : ad130.block ≠ gb129 := Kd.own_blk (Kd.R_away HO_127002.out (fun _ hk => hk.2))
                            have hn131_2 : ad130.block ≠ gb129 := Kd.own_blk (Kd.R_away HO_127002.out (fun _ hk => hk.2))
                            replace hx131_0 := (cell_far (p := ⟨gb129, 0, none⟩) (by first | (rw [add_block]; exact hn131_0) | (show (Addr.add _ _).block ≠ _; rw [add_block]; exact hn131_0) | exact hn131_0) (.int .i64 ((rd_T31 l0_2 x88_2).f0))).trans hx131_0
                            replace hx131_1 := (cell_far (p := ⟨gb129, 0, none⟩) (by first | (rw [add_block]; exact hn131_0) | (show (Addr.add _ _).block ≠ _; rw [add_block]; exact hn131_0) | exact hn131_0) (.int .i64 ((rd_T31 l0_2 x88_2).f0))).trans hx131_1
                            replace hx131_2 := (cell_far (p := ⟨gb129, 0, none⟩) (by first | (rw [add_block]; exact hn131_0) | (show (Addr.add _ _).block ≠ _; rw [add_block]; exact hn131_0) | exact hn131_0) (.int .i64 ((rd_T31 l0_2 x88_2).f0))).trans hx131_2
                            replace hx131_0 := (cell_far (p := ⟨gb129, 1, none⟩) (by first | (rw [add_block]; exact hn131_1) | (show (Addr.add _ _).block ≠ _; rw [add_block]; exact hn131_1) | exact hn131_1) (.int .i64 ((rd_T31 l0_2 x88_2).f1))).trans hx131_0
                            replace hx131_1 := (cell_far (p := ⟨gb129, 1, none⟩) (by first | (rw [add_block]; exact hn131_1) | (show (Addr.add _ _).block ≠ _; rw [add_block]; exact hn131_1) | exact hn131_1) (.int .i64 ((rd_T31 l0_2 x88_2).f1))).trans hx131_1
                            replace hx131_2 := (cell_far (p := ⟨gb129, 1, none⟩) (by first | (rw [add_block]; exact hn131_1) | (show (Addr.add _ _).block ≠ _; rw [add_block]; exact hn131_1) | exact hn131_1) (.int .i64 ((rd_T31 l0_2 x88_2).f1))).trans hx131_2
                            replace hx131_0 := (cell_far (p := ⟨gb129, 2, none⟩) (by first | (rw [add_block]; exact hn131_2) | (show (Addr.add _ _).block ≠ _; rw [add_block]; exact hn131_2) | exact hn131_2) (.int .i64 ((rd_T31 l0_2 x88_2).f2))).trans hx131_0
                            replace hx131_1 := (cell_far (p := ⟨gb129, 2, none⟩) (by first | (rw [add_block]; exact hn131_2) | (show (Addr.add _ _).block ≠ _; rw [add_block]; exact hn131_2) | exact hn131_2) (.int .i64 ((rd_T31 l0_2 x88_2).f2))).trans hx131_1
                            replace hx131_2 := (cell_far (p := ⟨gb129, 2, none⟩) (by first | (rw [add_block]; exact hn131_2) | (show (Addr.add _ _).block ≠ _; rw [add_block]; exact hn131_2) | exact hn131_2) (.int .i64 ((rd_T31 l0_2 x88_2).f2))).trans hx131_2
                            (try have hy131_0 := fun (n_ : Nat) => (show (((((w42.drewN n_).setCell ⟨gb129, 0, none⟩ (.int .i64 ((rd_T31 l0_2 x88_2).f0))).setCell ⟨gb129, 1, none⟩ (.int .i64 ((rd_T31 l0_2 x88_2).f1))).setCell ⟨gb129, 2, none⟩ (.int .i64 ((rd_T31 l0_2 x88_2).f2)))).cell? _ = some _ from hx131_0))
                            (try have hy131_1 := fun (n_ : Nat) => (show (((((w42.drewN n_).setCell ⟨gb129, 0, none⟩ (.int .i64 ((rd_T31 l0_2 x88_2).f0))).setCell ⟨gb129, 1, none⟩ (.int .i64 ((rd_T31 l0_2 x88_2).f1))).setCell ⟨gb129, 2, none⟩ (.int .i64 ((rd_T31 l0_2 x88_2).f2)))).cell? _ = some _ from hx131_1))
                            (try have hy131_2 := fun (n_ : Nat) => (show (((((w42.drewN n_).setCell ⟨gb129, 0, none⟩ (.int .i64 ((rd_T31 l0_2 x88_2).f0))).setCell ⟨gb129, 1, none⟩ (.int .i64 ((rd_T31 l0_2 x88_2).f1))).setCell ⟨gb129, 2, none⟩ (.int .i64 ((rd_T31 l0_2 x88_2).f2)))).cell? _ = some _ from hx131_2))
                            clear hn131_0
                            clear hn131_1
                            clear hn131_2
                            replace p131 := eq_true p131
                            replace q131 := eq_true q131
                            go_wp2
                            repeat (go_quiet (fail); try go_wp2)
                            go_meet
                            case rel => exact ⟨_, (true), (by first | rfl | (simp; done) | (simp [*]; done)), H', ⟨by have := HJ4.out; have := HK2.out; first | omega | exact Nat.le_refl _⟩, ⟨by (with_reducible repeat (first | apply Kd.R_alloc | apply Kd.R_drewN | apply Kd.R_drew)); exact Kd.R_mono (Kd.R_far (p := ⟨gb129, 2, none⟩) (Kd.R_far (p := ⟨gb129, 1, none⟩) (Kd.R_far (p := ⟨gb129, 0, none⟩) (Kd.R_mono HO_127002.out (fun k_ hk => (⟨hk, hk.2⟩ : _ ∧ k_ ≠ gb129))) (fun _ hk => hk.2) (.int .i64 ((rd_T31 l0_2 x88_2).f0))) (fun _ hk => hk.2) (.int .i64 ((rd_T31 l0_2 x88_2).f1))) (fun _ hk => hk.2) (.int .i64 ((rd_T31 l0_2 x88_2).f2))) (fun _ hk => hk.1.2)⟩, ⟨by (with_reducible repeat (first | refine blk_drewN ?_ _ | refine blk_drew ?_ | refine blk_alloc ?_ _)); refine blk_far ?_ NB117_129.out _; (with_reducible repeat (first | refine blk_drewN ?_ _ | refine blk_drew ?_ | refine blk_alloc ?_ _)); refine blk_far ?_ NB117_129.out _; (with_reducible repeat (first | refine blk_drewN ?_ _ | refine blk_drew ?_ | refine blk_alloc ?_ _)); refine blk_far ?_ NB117_129.out _; (with_reducible repeat (first | refine blk_drewN ?_ _ | refine blk_drew ?_ | refine blk_alloc ?_ _)); exact BK117.out⟩, ⟨by (with_reducible repeat (first | refine blk_drewN ?_ _ | refine blk_drew ?_ | refine blk_alloc ?_ _)); refine blk_far ?_ NB126_129.out _; (with_reducible repeat (first | refine blk_drewN ?_ _ | refine blk_drew ?_ | refine blk_alloc ?_ _)); refine blk_far ?_ NB126_129.out _; (with_reducible repeat (first | refine blk_drewN ?_ _ | refine blk_drew ?_ | refine blk_alloc ?_ _)); refine blk_far ?_ NB126_129.out _; (with_reducible repeat (first | refine blk_drewN ?_ _ | refine blk_drew ?_ | refine blk_alloc ?_ _)); exact BK126.out⟩, ⟨by (with_reducible repeat (first | refine blk_drewN ?_ _ | refine blk_drew ?_ | refine blk_alloc ?_ _)); refine blk_put (cs := #[.int .i64 ((rd_T31 l0_2 x88_2).f0), .int .i64 ((rd_T31 l0_2 x88_2).f1), .int .i64 0]) ?_ 2 _ rfl; (with_reducible repeat (first | refine blk_drewN ?_ _ | refine blk_drew ?_ | refine blk_alloc ?_ _)); refine blk_put (cs := #[.int .i64 ((rd_T31 l0_2 x88_2).f0), .int .i64 0, .int .i64 0]) ?_ 1 _ rfl; (with_reducible repeat (first | refine blk_drewN ?_ _ | refine blk_drew ?_ | refine blk_alloc ?_ _)); refine blk_put (cs := #[.int .i64 0, .int .i64 0, .int .i64 0]) ?_ 0 _ rfl; (with_reducible repeat (first | refine blk_drewN ?_ _ | refine blk_drew ?_ | refine blk_alloc ?_ _)); exact BK129.out⟩, ⟨by repeat (first | (with_reducible first | exact HB.out | apply below_alloc | apply pw_below_drewN | apply below_drew1 | refine below_set ?_ GE117.out | refine below_set ?_ GE126.out | refine below_set ?_ GE129.out) | exact HB.out)⟩⟩
                        · rw [if_neg c47] at H
                          have c47b0 : (((rd_T31 t120 x88_2).f0) == ((rd_T31 l0_2 x88_2).f2)) = false := beq_eq_false_iff_ne.mpr c47
                          have c47b1 : (((rd_T31 t120 x88_2).f0) != ((rd_T31 l0_2 x88_2).f2)) = true := bne_iff_ne.mpr c47
                          have H' := Aside0.mk H
                          clear H
                          have hnb59 := NB126_117.out
                          have hnc59 := NB117_126.out
                          have hnb60 := NB126_129.out
                          have hnc60 := NB129_126.out
                          have hcz61_0 : w42.cell? ⟨gb126, 0, none⟩ = some (.int .i64 t118) := (blk_cell BK126.out 0).trans rfl
                          have hcz61_1 : w42.cell? ⟨gb126, 1, none⟩ = some (.int .i64 t119) := (blk_cell BK126.out 1).trans rfl
                          have hcz61_2 : w42.cell? ⟨gb126, 2, none⟩ = some (.slice Ao12 t120.length co12) := (blk_cell BK126.out 2).trans rfl
                          have hcz61_3 : w42.cell? ⟨gb126, 3, none⟩ = some (.int .u32 t123) := (blk_cell BK126.out 3).trans rfl
                          have hcz61_4 : w42.cell? ⟨gb126, 4, none⟩ = some (.int .u32 t124) := (blk_cell BK126.out 4).trans rfl
                          have hfz61_0 := blk_frozen BK126.out 0
                          have hfz61_1 := blk_frozen BK126.out 1
                          have hfz61_2 := blk_frozen BK126.out 2
                          have hfz61_3 := blk_frozen BK126.out 3
                          have hfz61_4 := blk_frozen BK126.out 4
                          have p130 : 0 ≤ (x88_2 : Int) := of_decide_eq_true (by first | (with_reducible assumption) | assumption)
                          have q130 : x88_2 < (t120.length : Int) := of_decide_eq_true (by first | (with_reducible assumption) | assumption)
                          obtain ⟨ad130, e130, hx130_0, hx130_1, hx130_2⟩ := at_T31 (Kd.R_reads' HO_127002.out).2.2 x88_2 p130 q130
                          cases e130
                          have hn130_0 : ad130.block ≠ gb129 := Kd.own_blk (Kd.R_away HO_127002.out (fun _ hk => hk.2))
                          have hn130_1 : ad130.block ≠ gb129 := Kd.own_blk (Kd.R_away HO_127002.out (fun _ hk => hk.2))
                          have hn130_2 : ad130.block ≠ gb129 := Kd.own_blk (Kd.R_away HO_127002.out (fun _ hk => hk.2))
                          replace hx130_0 := (cell_far (p := ⟨gb129, 0, none⟩) (by first | (rw [add_block]; exact hn130_0) | (show (Addr.add _ _).block ≠ _; rw [add_block]; exact hn130_0) | exact hn130_0) (.int .i64 ((rd_T31 l0_2 x88_2).f0))).trans hx130_0
                          replace hx130_1 := (cell_far (p := ⟨gb129, 0, none⟩) (by first | (rw [add_block]; exact hn130_0) | (show (Addr.add _ _).block ≠ _; rw [add_block]; exact hn130_0) | exact hn130_0) (.int .i64 ((rd_T31 l0_2 x88_2).f0))).trans hx130_1
                          replace hx130_2 := (cell_far (p := ⟨gb129, 0, none⟩) (by first | (rw [add_block]; exact hn130_0) | (show (Addr.add _ _).block ≠ _; rw [add_block]; exact hn130_0) | exact hn130_0) (.int .i64 ((rd_T31 l0_2 x88_2).f0))).trans hx130_2
                          replace hx130_0 := (cell_far (p := ⟨gb129, 1, none⟩) (by first | (rw [add_block]; exact hn130_1) | (show (Addr.add _ _).block ≠ _; rw [add_block]; exact hn130_1) | exact hn130_1) (.int .i64 ((rd_T31 l0_2 x88_2).f1))).trans hx130_0
                          replace hx130_1 := (cell_far (p := ⟨gb129, 1, none⟩) (by first | (rw [add_block]; exact hn130_1) | (show (Addr.add _ _).block ≠ _; rw [add_block]; exact hn130_1) | exact hn130_1) (.int .i64 ((rd_T31 l0_2 x88_2).f1))).trans hx130_1
                          replace hx130_2 := (cell_far (p := ⟨gb129, 1, none⟩) (by first | (rw [add_block]; exact hn130_1) | (show (Addr.add _ _).block ≠ _; rw [add_block]; exact hn130_1) | exact hn130_1) (.int .i64 ((rd_T31 l0_2 x88_2).f1))).trans hx130_2
                          replace hx130_0 := (cell_far (p := ⟨gb129, 2, none⟩) (by first | (rw [add_block]; exact hn130_2) | (show (Addr.add _ _).block ≠ _; rw [add_block]; exact hn130_2) | exact hn130_2) (.int .i64 ((rd_T31 l0_2 x88_2).f2))).trans hx130_0
                          replace hx130_1 := (cell_far (p := ⟨gb129, 2, none⟩) (by first | (rw [add_block]; exact hn130_2) | (show (Addr.add _ _).block ≠ _; rw [add_block]; exact hn130_2) | exact hn130_2) (.int .i64 ((rd_T31 l0_2 x88_2).f2))).trans hx130_1
                          replace hx130_2 := (cell_far (p := ⟨gb129, 2, none⟩) (by first | (rw [add_block]; exact hn130_2) | (show (Addr.add _ _).block ≠ _; rw [add_block]; exact hn130_2) | exact hn130_2) (.int .i64 ((rd_T31 l0_2 x88_2).f2))).trans hx130_2
                          (try have hy130_0 := fun (n_ : Nat) => (show (((((w42.drewN n_).setCell ⟨gb129, 0, none⟩ (.int .i64 ((rd_T31 l0_2 x88_2).f0))).setCell ⟨gb129, 1, none⟩ (.int .i64 ((rd_T31 l0_2 x88_2).f1))).setCell ⟨gb129, 2, none⟩ (.int .i64 ((rd_T31 l0_2 x88_2).f2)))).cell? _ = some _ from hx130_0))
                          (try have hy130_1 := fun (n_ : Nat) => (show (((((w42.drewN n_).setCell ⟨gb129, 0, none⟩ (.int .i64 ((rd_T31 l0_2 x88_2).f0))).setCell ⟨gb129, 1, none⟩ (.int .i64 ((rd_T31 l0_2 x88_2).f1))).setCell ⟨gb129, 2, none⟩ (.int .i64 ((rd_T31 l0_2 x88_2).f2)))).cell? _ = some _ from hx130_1))
                          (try have hy130_2 := fun (n_ : Nat) => (show (((((w42.drewN n_).setCell ⟨gb129, 0, none⟩ (.int .i64 ((rd_T31 l0_2 x88_2).f0))).setCell ⟨gb129, 1, none⟩ (.int .i64 ((rd_T31 l0_2 x88_2).f1))).setCell ⟨gb129, 2, none⟩ (.int .i64 ((rd_T31 l0_2 x88_2).f2)))).cell? _ = some _ from hx130_2))
                          clear hn130_0
                          clear hn130_1
                          clear hn130_2
                          replace p130 := eq_true p130
                          replace q130 := eq_true q130
                          have hnb62 := NB129_117.out
                          have hnc62 := NB117_129.out
                          have hcz63_0 : w42.cell? ⟨gb129, 0, none⟩ = some (.int .i64 0) := (blk_cell BK129.out 0).trans rfl
                          have hcz63_1 : w42.cell? ⟨gb129, 1, none⟩ = some (.int .i64 0) := (blk_cell BK129.out 1).trans rfl
                          have hcz63_2 : w42.cell? ⟨gb129, 2, none⟩ = some (.int .i64 0) := (blk_cell BK129.out 2).trans rfl
                          have hfz63_0 := blk_frozen BK129.out 0
                          have hfz63_1 := blk_frozen BK129.out 1
                          have hfz63_2 := blk_frozen BK129.out 2
                          go_wp2
                          repeat (go_quiet (fail); try go_wp2)
                          go_meet
                          case rel => exact ⟨_, (true), (by first | rfl | (simp; done) | (simp [*]; done)), H', ⟨by have := HJ4.out; have := HK2.out; first | omega | exact Nat.le_refl _⟩, ⟨by (with_reducible repeat (first | apply Kd.R_alloc | apply Kd.R_drewN | apply Kd.R_drew)); exact Kd.R_mono (Kd.R_far (p := ⟨gb129, 2, none⟩) (Kd.R_far (p := ⟨gb129, 1, none⟩) (Kd.R_far (p := ⟨gb129, 0, none⟩) (Kd.R_mono HO_127002.out (fun k_ hk => (⟨hk, hk.2⟩ : _ ∧ k_ ≠ gb129))) (fun _ hk => hk.2) (.int .i64 ((rd_T31 l0_2 x88_2).f0))) (fun _ hk => hk.2) (.int .i64 ((rd_T31 l0_2 x88_2).f1))) (fun _ hk => hk.2) (.int .i64 ((rd_T31 l0_2 x88_2).f2))) (fun _ hk => hk.1.2)⟩, ⟨by (with_reducible repeat (first | refine blk_drewN ?_ _ | refine blk_drew ?_ | refine blk_alloc ?_ _)); refine blk_far ?_ NB117_129.out _; (with_reducible repeat (first | refine blk_drewN ?_ _ | refine blk_drew ?_ | refine blk_alloc ?_ _)); refine blk_far ?_ NB117_129.out _; (with_reducible repeat (first | refine blk_drewN ?_ _ | refine blk_drew ?_ | refine blk_alloc ?_ _)); refine blk_far ?_ NB117_129.out _; (with_reducible repeat (first | refine blk_drewN ?_ _ | refine blk_drew ?_ | refine blk_alloc ?_ _)); exact BK117.out⟩, ⟨by (with_reducible repeat (first | refine blk_drewN ?_ _ | refine blk_drew ?_ | refine blk_alloc ?_ _)); refine blk_far ?_ NB126_129.out _; (with_reducible repeat (first | refine blk_drewN ?_ _ | refine blk_drew ?_ | refine blk_alloc ?_ _)); refine blk_far ?_ NB126_129.out _; (with_reducible repeat (first | refine blk_drewN ?_ _ | refine blk_drew ?_ | refine blk_alloc ?_ _)); refine blk_far ?_ NB126_129.out _; (with_reducible repeat (first | refine blk_drewN ?_ _ | refine blk_drew ?_ | refine blk_alloc ?_ _)); exact BK126.out⟩, ⟨by (with_reducible repeat (first | refine blk_drewN ?_ _ | refine blk_drew ?_ | refine blk_alloc ?_ _)); refine blk_put (cs := #[.int .i64 ((rd_T31 l0_2 x88_2).f0), .int .i64 ((rd_T31 l0_2 x88_2).f1), .int .i64 0]) ?_ 2 _ rfl; (with_reducible repeat (first | refine blk_drewN ?_ _ | refine blk_drew ?_ | refine blk_alloc ?_ _)); refine blk_put (cs := #[.int .i64 ((rd_T31 l0_2 x88_2).f0), .int .i64 0, .int .i64 0]) ?_ 1 _ rfl; (with_reducible repeat (first | refine blk_drewN ?_ _ | refine blk_drew ?_ | refine blk_alloc ?_ _)); refine blk_put (cs := #[.int .i64 0, .int .i64 0, .int .i64 0]) ?_ 0 _ rfl; (with_reducible repeat (first | refine blk_drewN ?_ _ | refine blk_drew ?_ | refine blk_alloc ?_ _)); exact BK129.out⟩, ⟨by repeat (first | (with_reducible first | exact HB.out | apply below_alloc | apply pw_below_drewN | apply below_drew1 | refine below_set ?_ GE117.out | refine below_set ?_ GE126.out | refine below_set ?_ GE129.out) | exact HB.out)⟩⟩
                      · rw [if_neg c46] at H
                        exact absurd H (by simp)
                    case rest =>
                      clear HC41
                      try clear c1
                      try clear p1
                      try clear q1
                      try clear hx1
                      try clear c2
                      try clear p2
                      try clear c3
                      try clear c4
                      try clear c4b0
                      try clear c4b1
                      try clear c5
                      try clear c6
                      try clear c10
                      try clear p12
                      try clear q12
                      try clear hx12
                      try clear p13
                      try clear q13
                      try clear hx13
                      try clear c15
                      try clear c15b0
                      try clear c15b1
                      try clear c16
                      try clear c16b0
                      try clear c16b1
                      try clear c17
                      try clear c17b0
                      try clear c17b1
                      try clear c18
                      try clear c18b0
                      try clear c18b1
                      try clear c19
                      try clear c19b0
                      try clear c19b1
                      try clear c20
                      try clear c23
                      try clear c26
                      try clear c29
                      try clear c32
                      try clear c35
                      try clear c36
                      try clear c38
                      try clear c38b0
                      try clear c39
                      try clear c39b0
                      try clear c40
                      try clear c40b0
                      try clear c43
                      try clear c44
                      try clear c46
                      try clear c46b0
                      try clear c47
                      try clear c47b0
                      try clear c47b1
                      try clear c48
                      try clear c48b0
                      try clear c48b1
                      try clear c49
                      try clear c50
                      try clear c52
                      try clear c54
                      try clear c55
                      try clear c57
                      try clear c59
                      try clear c60
                      try clear c62
                      try clear hcz11_0
                      try clear hcz11_1
                      try clear hcz11_2
                      try clear hcz11_3
                      try clear hcz11_4
                      try clear hcz13_0
                      try clear hcz13_1
                      try clear hcz13_2
                      try clear hcz13_3
                      try clear hcz13_4
                      try clear hcz21_0
                      try clear hcz21_1
                      try clear hcz21_2
                      try clear hcz21_3
                      try clear hcz21_4
                      try clear hcz22_0
                      try clear hcz22_1
                      try clear hcz22_2
                      try clear hcz22_3
                      try clear hcz22_4
                      try clear hcz24_0
                      try clear hcz24_1
                      try clear hcz24_2
                      try clear hcz24_3
                      try clear hcz24_4
                      try clear hcz25_0
                      try clear hcz25_1
                      try clear hcz25_2
                      try clear hcz25_3
                      try clear hcz25_4
                      try clear hcz27_0
                      try clear hcz27_1
                      try clear hcz27_2
                      try clear hcz27_3
                      try clear hcz27_4
                      try clear hcz28_0
                      try clear hcz28_1
                      try clear hcz28_2
                      try clear hcz28_3
                      try clear hcz28_4
                      try clear hcz30_0
                      try clear hcz30_1
                      try clear hcz30_2
                      try clear hcz30_3
                      try clear hcz30_4
                      try clear hcz31_0
                      try clear hcz31_1
                      try clear hcz31_2
                      try clear hcz31_3
                      try clear hcz31_4
                      try clear hcz33_0
                      try clear hcz33_1
                      try clear hcz33_2
                      try clear hcz33_3
                      try clear hcz33_4
                      try clear hcz34_0
                      try clear hcz34_1
                      try clear hcz34_2
                      try clear hcz34_3
                      try clear hcz34_4
                      try clear hcz37_0
                      try clear hcz37_1
                      try clear hcz37_2
                      try clear hcz37_3
                      try clear hcz37_4
                      try clear hcz45_0
                      try clear hcz45_1
                      try clear hcz45_2
                      try clear hcz51_0
                      try clear hcz51_1
                      try clear hcz51_2
                      try clear hcz51_3
                      try clear hcz51_4
                      try clear hcz53_0
                      try clear hcz53_1
                      try clear hcz53_2
                      try clear hcz56_0
                      try clear hcz56_1
                      try clear hcz56_2
                      try clear hcz56_3
                      try clear hcz56_4
                      try clear hcz58_0
                      try clear hcz58_1
                      try clear hcz58_2
                      try clear hcz61_0
                      try clear hcz61_1
                      try clear hcz61_2
                      try clear hcz61_3
                      try clear hcz61_4
                      try clear hcz63_0
                      try clear hcz63_1
                      try clear hcz63_2
                      try clear hcz7_0
                      try clear hcz7_1
                      try clear hcz7_2
                      try clear hcz7_3
                      try clear hcz7_4
                      try clear hfz11_0
                      try clear hfz11_1
                      try clear hfz11_2
                      try clear hfz11_3
                      try clear hfz11_4
                      try clear hfz13_0
                      try clear hfz13_1
                      try clear hfz13_2
                      try clear hfz13_3
                      try clear hfz13_4
                      try clear hfz21_0
                      try clear hfz21_1
                      try clear hfz21_2
                      try clear hfz21_3
                      try clear hfz21_4
                      try clear hfz22_0
                      try clear hfz22_1
                      try clear hfz22_2
                      try clear hfz22_3
                      try clear hfz22_4
                      try clear hfz24_0
                      try clear hfz24_1
                      try clear hfz24_2
                      try clear hfz24_3
                      try clear hfz24_4
                      try clear hfz25_0
                      try clear hfz25_1
                      try clear hfz25_2
                      try clear hfz25_3
                      try clear hfz25_4
                      try clear hfz27_0
                      try clear hfz27_1
                      try clear hfz27_2
                      try clear hfz27_3
                      try clear hfz27_4
                      try clear hfz28_0
                      try clear hfz28_1
                      try clear hfz28_2
                      try clear hfz28_3
                      try clear hfz28_4
                      try clear hfz30_0
                      try clear hfz30_1
                      try clear hfz30_2
                      try clear hfz30_3
                      try clear hfz30_4
                      try clear hfz31_0
                      try clear hfz31_1
                      try clear hfz31_2
                      try clear hfz31_3
                      try clear hfz31_4
                      try clear hfz33_0
                      try clear hfz33_1
                      try clear hfz33_2
                      try clear hfz33_3
                      try clear hfz33_4
                      try clear hfz34_0
                      try clear hfz34_1
                      try clear hfz34_2
                      try clear hfz34_3
                      try clear hfz34_4
                      try clear hfz37_0
                      try clear hfz37_1
                      try clear hfz37_2
                      try clear hfz37_3
                      try clear hfz37_4
                      try clear hfz45_0
                      try clear hfz45_1
                      try clear hfz45_2
                      try clear hfz51_0
                      try clear hfz51_1
                      try clear hfz51_2
                      try clear hfz51_3
                      try clear hfz51_4
                      try clear hfz53_0
                      try clear hfz53_1
                      try clear hfz53_2
                      try clear hfz56_0
                      try clear hfz56_1
                      try clear hfz56_2
                      try clear hfz56_3
                      try clear hfz56_4
                      try clear hfz58_0
                      try clear hfz58_1
                      try clear hfz58_2
                      try clear hfz61_0
                      try clear hfz61_1
                      try clear hfz61_2
                      try clear hfz61_3
                      try clear hfz61_4
                      try clear hfz63_0
                      try clear hfz63_1
                      try clear hfz63_2
                      try clear hfz7_0
                      try clear hfz7_1
                      try clear hfz7_2
                      try clear hfz7_3
                      try clear hfz7_4
                      try clear hx128_0
                      try clear hx128_1
                      try clear hx128_2
                      try clear hx130_0
                      try clear hx130_1
                      try clear hx130_2
                      try clear hx131_0
                      try clear hx131_1
                      try clear hx131_2
                      try clear hx132_0
                      try clear hx132_1
                      try clear hx132_2
                      try clear p128
                      try clear p130
                      try clear p131
                      try clear p132
                      try clear p2
                      try clear q128
                      try clear q130
                      try clear q131
                      try clear q132
                      obtain ⟨kq, x123_40, rfl, HA, HJ40, HO_127002, BK117, BK126, BK129, HB⟩ := hcut
                      cases kq with
                      | zero => exact absurd HA.out (by simp [coppicerlaw_NetBacks.j3])
                      | succ kj40 =>
                        have H := HA.out
                        clear HA
                        simp only [coppicerlaw_NetBacks.j3] at H
                        by_cases c64 : x123_40 = true
                        · subst c64
                          have H1 : (some false) = some r := by rw [if_pos rfl] at H; exact H
                          clear H
                          have H := H1
                          clear H1
                          obtain rfl := Option.some.inj H
                          go_wp2
                          repeat (go_quiet (fail); try go_wp2)
                          go_ret
                          exact ⟨by first | rfl | (simp [errW_none, errW_some] <;> rfl) | (simp [*, errW_none, errW_some] <;> rfl), by repeat (first | (with_reducible first | exact HB.out | apply below_alloc | apply pw_below_drewN | apply below_drew1 | refine below_set ?_ GE117.out | refine below_set ?_ GE126.out | refine below_set ?_ GE129.out) | exact HB.out)⟩
                        · replace c64 := Bool.eq_false_iff.mpr c64
                          subst c64
                          have H1 : (coppicerlaw_NetBacks.l0 kj40 l0_2 (l0_2.length : Int) (wrap64 (x88_2 + 1)) t118 t119 t120 t123 t124) = some r := by rw [if_neg (show ¬ (false = true) by decide)] at H; exact H
                          clear H
                          have H := H1
                          clear H1
                          have H' := Aside0.mk H
                          clear H
                          go_wp2
                          repeat (go_quiet (fail); try go_wp2)
                          go_roundg kj40
                          case measure => have := HJ4.out; have := HK2.out; have := HJ40.out; omega
                          case rel => exact ⟨(wrap64 (x88_2 + 1)), (by first | rfl | (simp; done) | (simp [*]; done)), H', ⟨by have := HJ4.out; have := HK2.out; have := HJ40.out; omega⟩, ⟨by (with_reducible repeat (first | apply Kd.R_alloc | apply Kd.R_drewN | apply Kd.R_drew)); exact Kd.R_mono HO_127002.out (fun _ hk => trivial)⟩, ⟨by (with_reducible repeat (first | refine blk_drewN ?_ _ | refine blk_drew ?_ | refine blk_alloc ?_ _)); exact BK117.out⟩, ⟨by (with_reducible repeat (first | refine blk_drewN ?_ _ | refine blk_drew ?_ | refine blk_alloc ?_ _)); exact BK126.out⟩, ⟨by repeat (first | (with_reducible first | exact HB.out | apply below_alloc | apply pw_below_drewN | apply below_drew1 | refine below_set ?_ GE117.out | refine below_set ?_ GE126.out | refine below_set ?_ GE129.out) | exact HB.out)⟩⟩
                  · rw [if_neg c40] at H
                    exact absurd H (by simp)
                · rw [if_neg c39] at H
                  exact absurd H (by simp)
              · rw [if_neg c38] at H
                have c38b0 : decide (x88_2 < (l0_2.length : Int)) = false := decide_eq_false c38
                clear c38
                obtain rfl := Option.some.inj H
                go_wp2
                repeat (go_quiet (fail); try go_wp2)
                go_ret
                exact ⟨by first | rfl | (simp [errW_none, errW_some] <;> rfl) | (simp [*, errW_none, errW_some] <;> rfl), by repeat (first | (with_reducible first | exact HB.out | apply below_alloc | apply pw_below_drewN | apply below_drew1 | refine below_set ?_ GE117.out | refine below_set ?_ GE126.out) | exact HB.out)⟩
  · rw [if_neg c4] at H
    have c4b0 : (t127 == 0) = false := beq_eq_false_iff_ne.mpr c4
    have c4b1 : (t127 != 0) = true := bne_iff_ne.mpr c4
    have HC65 := Aside0.mk H
    clear H
    go_enter Try.func3, Try.ntmps3
    go_upto_region 4 with (first | ((with_reducible refine gate_dst (N := 1) rfl ?_); (try (refine gate_guard (by rfl) ?_; dsimp only)); refine box_event ?hg (N := 1) ?hd (cs := #[.int .i64 a0_0, .int .i64 a0_1, .slice A0_2 l0_2.length c0_2, .int .u32 a0_3, .int .u32 a0_4]) (t := 25) ?hr ?_; (case hd => rfl); (case hg => rfl); (case hr => first | (go_simp; done) | (go_simp; rfl)); intro gb117 hg w66 hbox hb; have n0_ := Aside0.mk (below_step (by repeat (first | (with_reducible first | exact HB.out | apply below_alloc | apply pw_below_drewN | apply below_drew1) | exact HB.out)) hb); have n1_ := Aside0.mk (hbox); have n2_ := Aside0.mk ((by rw [hg]; exact (below_size (by repeat (first | (with_reducible first | exact HB.out | apply below_alloc | apply pw_below_drewN | apply below_drew1) | exact HB.out))) : w.heap.size ≤ gb117)); have n3_ := Aside0.mk ((by rw [hg]; exact (below_size (by repeat (first | (with_reducible first | exact HB.out | apply below_alloc | apply pw_below_drewN | apply below_drew1) | exact HB.out))) : w.heap.size ≤ gb117)); clear HB; have HB := n0_; have BK117 := n1_; have GW117 := n2_; have GE117 := n3_; clear n0_ n1_ n2_ n3_; clear hb hbox hg; have hcz67_0 : w66.cell? ⟨gb117, 0, none⟩ = some (.int .i64 a0_0) := (blk_cell BK117.out 0).trans rfl; have hcz67_1 : w66.cell? ⟨gb117, 1, none⟩ = some (.int .i64 a0_1) := (blk_cell BK117.out 1).trans rfl; have hcz67_2 : w66.cell? ⟨gb117, 2, none⟩ = some (.slice A0_2 l0_2.length c0_2) := (blk_cell BK117.out 2).trans rfl; have hcz67_3 : w66.cell? ⟨gb117, 3, none⟩ = some (.int .u32 a0_3) := (blk_cell BK117.out 3).trans rfl; have hcz67_4 : w66.cell? ⟨gb117, 4, none⟩ = some (.int .u32 a0_4) := (blk_cell BK117.out 4).trans rfl; have hfz67_0 := blk_frozen BK117.out 0; have hfz67_1 := blk_frozen BK117.out 1; have hfz67_2 := blk_frozen BK117.out 2; have hfz67_3 := blk_frozen BK117.out 3; have hfz67_4 := blk_frozen BK117.out 4) | (go_at_call 15; (with_reducible refine (net_Back.calls k a0_0 a0_1 _ _ l0_2 a0_3 a0_4 t118 t119 t120 t123 t124 t125 _ ?side1 ?side2 A2.out).mono ?_); (case side1 => repeat (first | exact (Kd.C_below HR0_2.out HB.out) | (with_reducible refine Kd.C_alloc ?_ _) | (with_reducible refine Kd.C_drewN ?_ _) | (with_reducible refine Kd.C_drew ?_))); (case side2 => exact HC0_2.out); rintro e w68 ⟨v121, rfl, ho0, hb⟩; have n0_ := Aside0.mk (Kd.R_lower ho0 (below_size (by repeat (first | (with_reducible first | exact HB.out | apply below_alloc | apply pw_below_drewN | apply below_drew1 | refine below_set ?_ GE117.out) | exact HB.out)))); have n1_ := Aside0.mk (blk_below (g := gb117) (o := .cells #[.int .i64 a0_0, .int .i64 a0_1, .slice A0_2 l0_2.length c0_2, .int .u32 a0_3, .int .u32 a0_4] 25 (0, 0)) (by (with_reducible repeat (first | refine blk_drewN ?_ _ | refine blk_drew ?_ | refine blk_alloc ?_ _)); exact BK117.out) hb); have n2_ := Aside0.mk (below_step (by repeat (first | (with_reducible first | exact HB.out | apply below_alloc | apply pw_below_drewN | apply below_drew1 | refine below_set ?_ GE117.out) | exact HB.out)) hb); clear BK117; clear HB; have HO122 := n0_; have BK117 := n1_; have HB := n2_; clear n0_ n1_ n2_; (try clear hb); (try clear hb2); (try clear hk); (try clear hi); (try clear ho0)) | ((with_reducible refine gate_dst (N := 3) rfl ?_); (try (refine gate_guard (by rfl) ?_; dsimp only)); refine box_event ?hg (N := 3) ?hd (cs := #[.int .i64 0, .int .i64 0, .slice none 0 0, .int .u32 0, .int .u32 0]) (t := 25) ?hr ?_; (case hd => rfl); (case hg => rfl); (case hr => first | (go_simp; done) | (go_simp; rfl)); intro gb126 hg w69 hbox hb; have n0_ := Aside0.mk (Kd.R_below (by (with_reducible repeat (first | apply Kd.R_alloc | apply Kd.R_drewN | apply Kd.R_drew)); exact HO122.out) hb); have n1_ := Aside0.mk (blk_below (g := gb117) (o := .cells #[.int .i64 a0_0, .int .i64 a0_1, .slice A0_2 l0_2.length c0_2, .int .u32 a0_3, .int .u32 a0_4] 25 (0, 0)) (by (with_reducible repeat (first | refine blk_drewN ?_ _ | refine blk_drew ?_ | refine blk_alloc ?_ _)); exact BK117.out) hb); have n2_ := Aside0.mk (below_step (by repeat (first | (with_reducible first | exact HB.out | apply below_alloc | apply pw_below_drewN | apply below_drew1 | refine below_set ?_ GE117.out) | exact HB.out)) hb); have n3_ := Aside0.mk (hbox); have n4_ := Aside0.mk ((by rw [hg]; exact (below_size (by repeat (first | (with_reducible first | exact HB.out | apply below_alloc | apply pw_below_drewN | apply below_drew1 | refine below_set ?_ GE117.out) | exact HB.out))) : w.heap.size ≤ gb126)); have n5_ := Aside0.mk ((by rw [hg]; exact (below_size (by repeat (first | (with_reducible first | exact HB.out | apply below_alloc | apply pw_below_drewN | apply below_drew1 | refine below_set ?_ GE117.out) | exact HB.out))) : w.heap.size ≤ gb126)); have n6_ := Aside0.mk ((by rw [hg]; exact Nat.ne_of_lt (blk_lt (g := gb117) (o := .cells #[.int .i64 a0_0, .int .i64 a0_1, .slice A0_2 l0_2.length c0_2, .int .u32 a0_3, .int .u32 a0_4] 25 (0, 0)) (by (with_reducible repeat (first | refine blk_drewN ?_ _ | refine blk_drew ?_ | refine blk_alloc ?_ _)); exact BK117.out)) : gb117 ≠ gb126)); have n7_ := Aside0.mk ((by rw [hg]; exact Nat.ne_of_gt (blk_lt (g := gb117) (o := .cells #[.int .i64 a0_0, .int .i64 a0_1, .slice A0_2 l0_2.length c0_2, .int .u32 a0_3, .int .u32 a0_4] 25 (0, 0)) (by (with_reducible repeat (first | refine blk_drewN ?_ _ | refine blk_drew ?_ | refine blk_alloc ?_ _)); exact BK117.out)) : gb126 ≠ gb117)); clear HO122; clear BK117; clear HB; have HO122 := n0_; have BK117 := n1_; have HB := n2_; have BK126 := n3_; have GW126 := n4_; have GE126 := n5_; have NB117_126 := n6_; have NB126_117 := n7_; clear n0_ n1_ n2_ n3_ n4_ n5_ n6_ n7_; clear hb hbox hg; have hnb70 := NB126_117.out; have hnc70 := NB117_126.out; have hcz71_0 : w69.cell? ⟨gb126, 0, none⟩ = some (.int .i64 0) := (blk_cell BK126.out 0).trans rfl; have hcz71_1 : w69.cell? ⟨gb126, 1, none⟩ = some (.int .i64 0) := (blk_cell BK126.out 1).trans rfl; have hcz71_2 : w69.cell? ⟨gb126, 2, none⟩ = some (.slice none 0 0) := (blk_cell BK126.out 2).trans rfl; have hcz71_3 : w69.cell? ⟨gb126, 3, none⟩ = some (.int .u32 0) := (blk_cell BK126.out 3).trans rfl; have hcz71_4 : w69.cell? ⟨gb126, 4, none⟩ = some (.int .u32 0) := (blk_cell BK126.out 4).trans rfl; have hfz71_0 := blk_frozen BK126.out 0; have hfz71_1 := blk_frozen BK126.out 1; have hfz71_2 := blk_frozen BK126.out 2; have hfz71_3 := blk_frozen BK126.out 3; have hfz71_4 := blk_frozen BK126.out 4; obtain ⟨Ao72, co72, eo72⟩ := Kd.R_slice HO122.out; subst eo72; have hcz73_0 : w69.cell? ⟨gb117, 0, none⟩ = some (.int .i64 a0_0) := (blk_cell BK117.out 0).trans rfl; have hcz73_1 : w69.cell? ⟨gb117, 1, none⟩ = some (.int .i64 a0_1) := (blk_cell BK117.out 1).trans rfl; have hcz73_2 : w69.cell? ⟨gb117, 2, none⟩ = some (.slice A0_2 l0_2.length c0_2) := (blk_cell BK117.out 2).trans rfl; have hcz73_3 : w69.cell? ⟨gb117, 3, none⟩ = some (.int .u32 a0_3) := (blk_cell BK117.out 3).trans rfl; have hcz73_4 : w69.cell? ⟨gb117, 4, none⟩ = some (.int .u32 a0_4) := (blk_cell BK117.out 4).trans rfl; have hfz73_0 := blk_frozen BK117.out 0; have hfz73_1 := blk_frozen BK117.out 1; have hfz73_2 := blk_frozen BK117.out 2; have hfz73_3 := blk_frozen BK117.out 3; have hfz73_4 := blk_frozen BK117.out 4) | (go_at_call 16; (with_reducible refine (coppicerref_NetCheck.calls k a0_0 a0_1 _ _ l0_2 a0_3 a0_4 t127 _ ?side1 ?side2 A3.out).mono ?_); (case side1 => exact Kd.C_below HR0_2.out (by repeat (first | (with_reducible first | exact HB.out | apply below_alloc | apply pw_below_drewN | apply below_drew1 | refine below_set ?_ GE117.out | refine below_set ?_ GE126.out) | exact HB.out))); (case side2 => exact HC0_2.out); rintro e w74 ⟨rfl, hb⟩; have n0_ := Aside0.mk (Kd.R_below (by (with_reducible repeat (first | apply Kd.R_alloc | apply Kd.R_drewN | apply Kd.R_drew)); exact (Kd.R_mono (Kd.R_far (p := ⟨gb126, 4, none⟩) (Kd.R_far (p := ⟨gb126, 3, none⟩) (Kd.R_far (p := ⟨gb126, 2, none⟩) (Kd.R_far (p := ⟨gb126, 1, none⟩) (Kd.R_far (p := ⟨gb126, 0, none⟩) (Kd.R_types HO122.out BK126.out (by decide)) (fun _ hk => hk.2) (.int .i64 t118)) (fun _ hk => hk.2) (.int .i64 t119)) (fun _ hk => hk.2) (.slice Ao72 t120.length co72)) (fun _ hk => hk.2) (.int .u32 t123)) (fun _ hk => hk.2) (.int .u32 t124)) (fun _ h_ => h_.1))) hb); have n1_ := Aside0.mk (blk_below (g := gb117) (o := .cells #[.int .i64 a0_0, .int .i64 a0_1, .slice A0_2 l0_2.length c0_2, .int .u32 a0_3, .int .u32 a0_4] 25 (0, 0)) (by (with_reducible repeat (first | refine blk_drewN ?_ _ | refine blk_drew ?_ | refine blk_alloc ?_ _)); refine blk_far ?_ NB117_126.out _; (with_reducible repeat (first | refine blk_drewN ?_ _ | refine blk_drew ?_ | refine blk_alloc ?_ _)); refine blk_far ?_ NB117_126.out _; (with_reducible repeat (first | refine blk_drewN ?_ _ | refine blk_drew ?_ | refine blk_alloc ?_ _)); refine blk_far ?_ NB117_126.out _; (with_reducible repeat (first | refine blk_drewN ?_ _ | refine blk_drew ?_ | refine blk_alloc ?_ _)); refine blk_far ?_ NB117_126.out _; (with_reducible repeat (first | refine blk_drewN ?_ _ | refine blk_drew ?_ | refine blk_alloc ?_ _)); refine blk_far ?_ NB117_126.out _; (with_reducible repeat (first | refine blk_drewN ?_ _ | refine blk_drew ?_ | refine blk_alloc ?_ _)); exact BK117.out) hb); have n2_ := Aside0.mk (blk_below (g := gb126) (o := .cells #[.int .i64 t118, .int .i64 t119, .slice Ao72 t120.length co72, .int .u32 t123, .int .u32 t124] 25 (0, 0)) (by (with_reducible repeat (first | refine blk_drewN ?_ _ | refine blk_drew ?_ | refine blk_alloc ?_ _)); refine blk_put (cs := #[.int .i64 t118, .int .i64 t119, .slice Ao72 t120.length co72, .int .u32 t123, .int .u32 0]) ?_ 4 _ rfl; (with_reducible repeat (first | refine blk_drewN ?_ _ | refine blk_drew ?_ | refine blk_alloc ?_ _)); refine blk_put (cs := #[.int .i64 t118, .int .i64 t119, .slice Ao72 t120.length co72, .int .u32 0, .int .u32 0]) ?_ 3 _ rfl; (with_reducible repeat (first | refine blk_drewN ?_ _ | refine blk_drew ?_ | refine blk_alloc ?_ _)); refine blk_put (cs := #[.int .i64 t118, .int .i64 t119, .slice none 0 0, .int .u32 0, .int .u32 0]) ?_ 2 _ rfl; (with_reducible repeat (first | refine blk_drewN ?_ _ | refine blk_drew ?_ | refine blk_alloc ?_ _)); refine blk_put (cs := #[.int .i64 t118, .int .i64 0, .slice none 0 0, .int .u32 0, .int .u32 0]) ?_ 1 _ rfl; (with_reducible repeat (first | refine blk_drewN ?_ _ | refine blk_drew ?_ | refine blk_alloc ?_ _)); refine blk_put (cs := #[.int .i64 0, .int .i64 0, .slice none 0 0, .int .u32 0, .int .u32 0]) ?_ 0 _ rfl; (with_reducible repeat (first | refine blk_drewN ?_ _ | refine blk_drew ?_ | refine blk_alloc ?_ _)); exact BK126.out) hb); have n3_ := Aside0.mk (below_step (by repeat (first | (with_reducible first | exact HB.out | apply below_alloc | apply pw_below_drewN | apply below_drew1 | refine below_set ?_ GE117.out | refine below_set ?_ GE126.out) | exact HB.out)) hb); clear HO122; clear BK117; clear BK126; clear HB; have HO122 := n0_; have BK117 := n1_; have BK126 := n2_; have HB := n3_; clear n0_ n1_ n2_ n3_; (try clear hb); (try clear hb2); (try clear hk); (try clear hi)))
    repeat (go_quiet (first | ((with_reducible refine gate_dst (N := 1) rfl ?_); (try (refine gate_guard (by rfl) ?_; dsimp only)); refine box_event ?hg (N := 1) ?hd (cs := #[.int .i64 a0_0, .int .i64 a0_1, .slice A0_2 l0_2.length c0_2, .int .u32 a0_3, .int .u32 a0_4]) (t := 25) ?hr ?_; (case hd => rfl); (case hg => rfl); (case hr => first | (go_simp; done) | (go_simp; rfl)); intro gb117 hg w66 hbox hb; have n0_ := Aside0.mk (below_step (by repeat (first | (with_reducible first | exact HB.out | apply below_alloc | apply pw_below_drewN | apply below_drew1) | exact HB.out)) hb); have n1_ := Aside0.mk (hbox); have n2_ := Aside0.mk ((by rw [hg]; exact (below_size (by repeat (first | (with_reducible first | exact HB.out | apply below_alloc | apply pw_below_drewN | apply below_drew1) | exact HB.out))) : w.heap.size ≤ gb117)); have n3_ := Aside0.mk ((by rw [hg]; exact (below_size (by repeat (first | (with_reducible first | exact HB.out | apply below_alloc | apply pw_below_drewN | apply below_drew1) | exact HB.out))) : w.heap.size ≤ gb117)); clear HB; have HB := n0_; have BK117 := n1_; have GW117 := n2_; have GE117 := n3_; clear n0_ n1_ n2_ n3_; clear hb hbox hg; have hcz67_0 : w66.cell? ⟨gb117, 0, none⟩ = some (.int .i64 a0_0) := (blk_cell BK117.out 0).trans rfl; have hcz67_1 : w66.cell? ⟨gb117, 1, none⟩ = some (.int .i64 a0_1) := (blk_cell BK117.out 1).trans rfl; have hcz67_2 : w66.cell? ⟨gb117, 2, none⟩ = some (.slice A0_2 l0_2.length c0_2) := (blk_cell BK117.out 2).trans rfl; have hcz67_3 : w66.cell? ⟨gb117, 3, none⟩ = some (.int .u32 a0_3) := (blk_cell BK117.out 3).trans rfl; have hcz67_4 : w66.cell? ⟨gb117, 4, none⟩ = some (.int .u32 a0_4) := (blk_cell BK117.out 4).trans rfl; have hfz67_0 := blk_frozen BK117.out 0; have hfz67_1 := blk_frozen BK117.out 1; have hfz67_2 := blk_frozen BK117.out 2; have hfz67_3 := blk_frozen BK117.out 3; have hfz67_4 := blk_frozen BK117.out 4) | (go_at_call 15; (with_reducible refine (net_Back.calls k a0_0 a0_1 _ _ l0_2 a0_3 a0_4 t118 t119 t120 t123 t124 t125 _ ?side1 ?side2 A2.out).mono ?_); (case side1 => repeat (first | exact (Kd.C_below HR0_2.out HB.out) | (with_reducible refine Kd.C_alloc ?_ _) | (with_reducible refine Kd.C_drewN ?_ _) | (with_reducible refine Kd.C_drew ?_))); (case side2 => exact HC0_2.out); rintro e w68 ⟨v121, rfl, ho0, hb⟩; have n0_ := Aside0.mk (Kd.R_lower ho0 (below_size (by repeat (first | (with_reducible first | exact HB.out | apply below_alloc | apply pw_below_drewN | apply below_drew1 | refine below_set ?_ GE117.out) | exact HB.out)))); have n1_ := Aside0.mk (blk_below (g := gb117) (o := .cells #[.int .i64 a0_0, .int .i64 a0_1, .slice A0_2 l0_2.length c0_2, .int .u32 a0_3, .int .u32 a0_4] 25 (0, 0)) (by (with_reducible repeat (first | refine blk_drewN ?_ _ | refine blk_drew ?_ | refine blk_alloc ?_ _)); exact BK117.out) hb); have n2_ := Aside0.mk (below_step (by repeat (first | (with_reducible first | exact HB.out | apply below_alloc | apply pw_below_drewN | apply below_drew1 | refine below_set ?_ GE117.out) | exact HB.out)) hb); clear BK117; clear HB; have HO122 := n0_; have BK117 := n1_; have HB := n2_; clear n0_ n1_ n2_; (try clear hb); (try clear hb2); (try clear hk); (try clear hi); (try clear ho0)) | ((with_reducible refine gate_dst (N := 3) rfl ?_); (try (refine gate_guard (by rfl) ?_; dsimp only)); refine box_event ?hg (N := 3) ?hd (cs := #[.int .i64 0, .int .i64 0, .slice none 0 0, .int .u32 0, .int .u32 0]) (t := 25) ?hr ?_; (case hd => rfl); (case hg => rfl); (case hr => first | (go_simp; done) | (go_simp; rfl)); intro gb126 hg w69 hbox hb; have n0_ := Aside0.mk (Kd.R_below (by (with_reducible repeat (first | apply Kd.R_alloc | apply Kd.R_drewN | apply Kd.R_drew)); exact HO122.out) hb); have n1_ := Aside0.mk (blk_below (g := gb117) (o := .cells #[.int .i64 a0_0, .int .i64 a0_1, .slice A0_2 l0_2.length c0_2, .int .u32 a0_3, .int .u32 a0_4] 25 (0, 0)) (by (with_reducible repeat (first | refine blk_drewN ?_ _ | refine blk_drew ?_ | refine blk_alloc ?_ _)); exact BK117.out) hb); have n2_ := Aside0.mk (below_step (by repeat (first | (with_reducible first | exact HB.out | apply below_alloc | apply pw_below_drewN | apply below_drew1 | refine below_set ?_ GE117.out) | exact HB.out)) hb); have n3_ := Aside0.mk (hbox); have n4_ := Aside0.mk ((by rw [hg]; exact (below_size (by repeat (first | (with_reducible first | exact HB.out | apply below_alloc | apply pw_below_drewN | apply below_drew1 | refine below_set ?_ GE117.out) | exact HB.out))) : w.heap.size ≤ gb126)); have n5_ := Aside0.mk ((by rw [hg]; exact (below_size (by repeat (first | (with_reducible first | exact HB.out | apply below_alloc | apply pw_below_drewN | apply below_drew1 | refine below_set ?_ GE117.out) | exact HB.out))) : w.heap.size ≤ gb126)); have n6_ := Aside0.mk ((by rw [hg]; exact Nat.ne_of_lt (blk_lt (g := gb117) (o := .cells #[.int .i64 a0_0, .int .i64 a0_1, .slice A0_2 l0_2.length c0_2, .int .u32 a0_3, .int .u32 a0_4] 25 (0, 0)) (by (with_reducible repeat (first | refine blk_drewN ?_ _ | refine blk_drew ?_ | refine blk_alloc ?_ _)); exact BK117.out)) : gb117 ≠ gb126)); have n7_ := Aside0.mk ((by rw [hg]; exact Nat.ne_of_gt (blk_lt (g := gb117) (o := .cells #[.int .i64 a0_0, .int .i64 a0_1, .slice A0_2 l0_2.length c0_2, .int .u32 a0_3, .int .u32 a0_4] 25 (0, 0)) (by (with_reducible repeat (first | refine blk_drewN ?_ _ | refine blk_drew ?_ | refine blk_alloc ?_ _)); exact BK117.out)) : gb126 ≠ gb117)); clear HO122; clear BK117; clear HB; have HO122 := n0_; have BK117 := n1_; have HB := n2_; have BK126 := n3_; have GW126 := n4_; have GE126 := n5_; have NB117_126 := n6_; have NB126_117 := n7_; clear n0_ n1_ n2_ n3_ n4_ n5_ n6_ n7_; clear hb hbox hg; have hnb70 := NB126_117.out; have hnc70 := NB117_126.out; have hcz71_0 : w69.cell? ⟨gb126, 0, none⟩ = some (.int .i64 0) := (blk_cell BK126.out 0).trans rfl; have hcz71_1 : w69.cell? ⟨gb126, 1, none⟩ = some (.int .i64 0) := (blk_cell BK126.out 1).trans rfl; have hcz71_2 : w69.cell? ⟨gb126, 2, none⟩ = some (.slice none 0 0) := (blk_cell BK126.out 2).trans rfl; have hcz71_3 : w69.cell? ⟨gb126, 3, none⟩ = some (.int .u32 0) := (blk_cell BK126.out 3).trans rfl; have hcz71_4 : w69.cell? ⟨gb126, 4, none⟩ = some (.int .u32 0) := (blk_cell BK126.out 4).trans rfl; have hfz71_0 := blk_frozen BK126.out 0; have hfz71_1 := blk_frozen BK126.out 1; have hfz71_2 := blk_frozen BK126.out 2; have hfz71_3 := blk_frozen BK126.out 3; have hfz71_4 := blk_frozen BK126.out 4; obtain ⟨Ao72, co72, eo72⟩ := Kd.R_slice HO122.out; subst eo72; have hcz73_0 : w69.cell? ⟨gb117, 0, none⟩ = some (.int .i64 a0_0) := (blk_cell BK117.out 0).trans rfl; have hcz73_1 : w69.cell? ⟨gb117, 1, none⟩ = some (.int .i64 a0_1) := (blk_cell BK117.out 1).trans rfl; have hcz73_2 : w69.cell? ⟨gb117, 2, none⟩ = some (.slice A0_2 l0_2.length c0_2) := (blk_cell BK117.out 2).trans rfl; have hcz73_3 : w69.cell? ⟨gb117, 3, none⟩ = some (.int .u32 a0_3) := (blk_cell BK117.out 3).trans rfl; have hcz73_4 : w69.cell? ⟨gb117, 4, none⟩ = some (.int .u32 a0_4) := (blk_cell BK117.out 4).trans rfl; have hfz73_0 := blk_frozen BK117.out 0; have hfz73_1 := blk_frozen BK117.out 1; have hfz73_2 := blk_frozen BK117.out 2; have hfz73_3 := blk_frozen BK117.out 3; have hfz73_4 := blk_frozen BK117.out 4) | (go_at_call 16; (with_reducible refine (coppicerref_NetCheck.calls k a0_0 a0_1 _ _ l0_2 a0_3 a0_4 t127 _ ?side1 ?side2 A3.out).mono ?_); (case side1 => exact Kd.C_below HR0_2.out (by repeat (first | (with_reducible first | exact HB.out | apply below_alloc | apply pw_below_drewN | apply below_drew1 | refine below_set ?_ GE117.out | refine below_set ?_ GE126.out) | exact HB.out))); (case side2 => exact HC0_2.out); rintro e w74 ⟨rfl, hb⟩; have n0_ := Aside0.mk (Kd.R_below (by (with_reducible repeat (first | apply Kd.R_alloc | apply Kd.R_drewN | apply Kd.R_drew)); exact (Kd.R_mono (Kd.R_far (p := ⟨gb126, 4, none⟩) (Kd.R_far (p := ⟨gb126, 3, none⟩) (Kd.R_far (p := ⟨gb126, 2, none⟩) (Kd.R_far (p := ⟨gb126, 1, none⟩) (Kd.R_far (p := ⟨gb126, 0, none⟩) (Kd.R_types HO122.out BK126.out (by decide)) (fun _ hk => hk.2) (.int .i64 t118)) (fun _ hk => hk.2) (.int .i64 t119)) (fun _ hk => hk.2) (.slice Ao72 t120.length co72)) (fun _ hk => hk.2) (.int .u32 t123)) (fun _ hk => hk.2) (.int .u32 t124)) (fun _ h_ => h_.1))) hb); have n1_ := Aside0.mk (blk_below (g := gb117) (o := .cells #[.int .i64 a0_0, .int .i64 a0_1, .slice A0_2 l0_2.length c0_2, .int .u32 a0_3, .int .u32 a0_4] 25 (0, 0)) (by (with_reducible repeat (first | refine blk_drewN ?_ _ | refine blk_drew ?_ | refine blk_alloc ?_ _)); refine blk_far ?_ NB117_126.out _; (with_reducible repeat (first | refine blk_drewN ?_ _ | refine blk_drew ?_ | refine blk_alloc ?_ _)); refine blk_far ?_ NB117_126.out _; (with_reducible repeat (first | refine blk_drewN ?_ _ | refine blk_drew ?_ | refine blk_alloc ?_ _)); refine blk_far ?_ NB117_126.out _; (with_reducible repeat (first | refine blk_drewN ?_ _ | refine blk_drew ?_ | refine blk_alloc ?_ _)); refine blk_far ?_ NB117_126.out _; (with_reducible repeat (first | refine blk_drewN ?_ _ | refine blk_drew ?_ | refine blk_alloc ?_ _)); refine blk_far ?_ NB117_126.out _; (with_reducible repeat (first | refine blk_drewN ?_ _ | refine blk_drew ?_ | refine blk_alloc ?_ _)); exact BK117.out) hb); have n2_ := Aside0.mk (blk_below (g := gb126) (o := .cells #[.int .i64 t118, .int .i64 t119, .slice Ao72 t120.length co72, .int .u32 t123, .int .u32 t124] 25 (0, 0)) (by (with_reducible repeat (first | refine blk_drewN ?_ _ | refine blk_drew ?_ | refine blk_alloc ?_ _)); refine blk_put (cs := #[.int .i64 t118, .int .i64 t119, .slice Ao72 t120.length co72, .int .u32 t123, .int .u32 0]) ?_ 4 _ rfl; (with_reducible repeat (first | refine blk_drewN ?_ _ | refine blk_drew ?_ | refine blk_alloc ?_ _)); refine blk_put (cs := #[.int .i64 t118, .int .i64 t119, .slice Ao72 t120.length co72, .int .u32 0, .int .u32 0]) ?_ 3 _ rfl; (with_reducible repeat (first | refine blk_drewN ?_ _ | refine blk_drew ?_ | refine blk_alloc ?_ _)); refine blk_put (cs := #[.int .i64 t118, .int .i64 t119, .slice none 0 0, .int .u32 0, .int .u32 0]) ?_ 2 _ rfl; (with_reducible repeat (first | refine blk_drewN ?_ _ | refine blk_drew ?_ | refine blk_alloc ?_ _)); refine blk_put (cs := #[.int .i64 t118, .int .i64 0, .slice none 0 0, .int .u32 0, .int .u32 0]) ?_ 1 _ rfl; (with_reducible repeat (first | refine blk_drewN ?_ _ | refine blk_drew ?_ | refine blk_alloc ?_ _)); refine blk_put (cs := #[.int .i64 0, .int .i64 0, .slice none 0 0, .int .u32 0, .int .u32 0]) ?_ 0 _ rfl; (with_reducible repeat (first | refine blk_drewN ?_ _ | refine blk_drew ?_ | refine blk_alloc ?_ _)); exact BK126.out) hb); have n3_ := Aside0.mk (below_step (by repeat (first | (with_reducible first | exact HB.out | apply below_alloc | apply pw_below_drewN | apply below_drew1 | refine below_set ?_ GE117.out | refine below_set ?_ GE126.out) | exact HB.out)) hb); clear HO122; clear BK117; clear BK126; clear HB; have HO122 := n0_; have BK117 := n1_; have BK126 := n2_; have HB := n3_; clear n0_ n1_ n2_ n3_; (try clear hb); (try clear hb2); (try clear hk); (try clear hi))); go_upto_region 4 with (first | ((with_reducible refine gate_dst (N := 1) rfl ?_); (try (refine gate_guard (by rfl) ?_; dsimp only)); refine box_event ?hg (N := 1) ?hd (cs := #[.int .i64 a0_0, .int .i64 a0_1, .slice A0_2 l0_2.length c0_2, .int .u32 a0_3, .int .u32 a0_4]) (t := 25) ?hr ?_; (case hd => rfl); (case hg => rfl); (case hr => first | (go_simp; done) | (go_simp; rfl)); intro gb117 hg w66 hbox hb; have n0_ := Aside0.mk (below_step (by repeat (first | (with_reducible first | exact HB.out | apply below_alloc | apply pw_below_drewN | apply below_drew1) | exact HB.out)) hb); have n1_ := Aside0.mk (hbox); have n2_ := Aside0.mk ((by rw [hg]; exact (below_size (by repeat (first | (with_reducible first | exact HB.out | apply below_alloc | apply pw_below_drewN | apply below_drew1) | exact HB.out))) : w.heap.size ≤ gb117)); have n3_ := Aside0.mk ((by rw [hg]; exact (below_size (by repeat (first | (with_reducible first | exact HB.out | apply below_alloc | apply pw_below_drewN | apply below_drew1) | exact HB.out))) : w.heap.size ≤ gb117)); clear HB; have HB := n0_; have BK117 := n1_; have GW117 := n2_; have GE117 := n3_; clear n0_ n1_ n2_ n3_; clear hb hbox hg; have hcz67_0 : w66.cell? ⟨gb117, 0, none⟩ = some (.int .i64 a0_0) := (blk_cell BK117.out 0).trans rfl; have hcz67_1 : w66.cell? ⟨gb117, 1, none⟩ = some (.int .i64 a0_1) := (blk_cell BK117.out 1).trans rfl; have hcz67_2 : w66.cell? ⟨gb117, 2, none⟩ = some (.slice A0_2 l0_2.length c0_2) := (blk_cell BK117.out 2).trans rfl; have hcz67_3 : w66.cell? ⟨gb117, 3, none⟩ = some (.int .u32 a0_3) := (blk_cell BK117.out 3).trans rfl; have hcz67_4 : w66.cell? ⟨gb117, 4, none⟩ = some (.int .u32 a0_4) := (blk_cell BK117.out 4).trans rfl; have hfz67_0 := blk_frozen BK117.out 0; have hfz67_1 := blk_frozen BK117.out 1; have hfz67_2 := blk_frozen BK117.out 2; have hfz67_3 := blk_frozen BK117.out 3; have hfz67_4 := blk_frozen BK117.out 4) | (go_at_call 15; (with_reducible refine (net_Back.calls k a0_0 a0_1 _ _ l0_2 a0_3 a0_4 t118 t119 t120 t123 t124 t125 _ ?side1 ?side2 A2.out).mono ?_); (case side1 => repeat (first | exact (Kd.C_below HR0_2.out HB.out) | (with_reducible refine Kd.C_alloc ?_ _) | (with_reducible refine Kd.C_drewN ?_ _) | (with_reducible refine Kd.C_drew ?_))); (case side2 => exact HC0_2.out); rintro e w68 ⟨v121, rfl, ho0, hb⟩; have n0_ := Aside0.mk (Kd.R_lower ho0 (below_size (by repeat (first | (with_reducible first | exact HB.out | apply below_alloc | apply pw_below_drewN | apply below_drew1 | refine below_set ?_ GE117.out) | exact HB.out)))); have n1_ := Aside0.mk (blk_below (g := gb117) (o := .cells #[.int .i64 a0_0, .int .i64 a0_1, .slice A0_2 l0_2.length c0_2, .int .u32 a0_3, .int .u32 a0_4] 25 (0, 0)) (by (with_reducible repeat (first | refine blk_drewN ?_ _ | refine blk_drew ?_ | refine blk_alloc ?_ _)); exact BK117.out) hb); have n2_ := Aside0.mk (below_step (by repeat (first | (with_reducible first | exact HB.out | apply below_alloc | apply pw_below_drewN | apply below_drew1 | refine below_set ?_ GE117.out) | exact HB.out)) hb); clear BK117; clear HB; have HO122 := n0_; have BK117 := n1_; have HB := n2_; clear n0_ n1_ n2_; (try clear hb); (try clear hb2); (try clear hk); (try clear hi); (try clear ho0)) | ((with_reducible refine gate_dst (N := 3) rfl ?_); (try (refine gate_guard (by rfl) ?_; dsimp only)); refine box_event ?hg (N := 3) ?hd (cs := #[.int .i64 0, .int .i64 0, .slice none 0 0, .int .u32 0, .int .u32 0]) (t := 25) ?hr ?_; (case hd => rfl); (case hg => rfl); (case hr => first | (go_simp; done) | (go_simp; rfl)); intro gb126 hg w69 hbox hb; have n0_ := Aside0.mk (Kd.R_below (by (with_reducible repeat (first | apply Kd.R_alloc | apply Kd.R_drewN | apply Kd.R_drew)); exact HO122.out) hb); have n1_ := Aside0.mk (blk_below (g := gb117) (o := .cells #[.int .i64 a0_0, .int .i64 a0_1, .slice A0_2 l0_2.length c0_2, .int .u32 a0_3, .int .u32 a0_4] 25 (0, 0)) (by (with_reducible repeat (first | refine blk_drewN ?_ _ | refine blk_drew ?_ | refine blk_alloc ?_ _)); exact BK117.out) hb); have n2_ := Aside0.mk (below_step (by repeat (first | (with_reducible first | exact HB.out | apply below_alloc | apply pw_below_drewN | apply below_drew1 | refine below_set ?_ GE117.out) | exact HB.out)) hb); have n3_ := Aside0.mk (hbox); have n4_ := Aside0.mk ((by rw [hg]; exact (below_size (by repeat (first | (with_reducible first | exact HB.out | apply below_alloc | apply pw_below_drewN | apply below_drew1 | refine below_set ?_ GE117.out) | exact HB.out))) : w.heap.size ≤ gb126)); have n5_ := Aside0.mk ((by rw [hg]; exact (below_size (by repeat (first | (with_reducible first | exact HB.out | apply below_alloc | apply pw_below_drewN | apply below_drew1 | refine below_set ?_ GE117.out) | exact HB.out))) : w.heap.size ≤ gb126)); have n6_ := Aside0.mk ((by rw [hg]; exact Nat.ne_of_lt (blk_lt (g := gb117) (o := .cells #[.int .i64 a0_0, .int .i64 a0_1, .slice A0_2 l0_2.length c0_2, .int .u32 a0_3, .int .u32 a0_4] 25 (0, 0)) (by (with_reducible repeat (first | refine blk_drewN ?_ _ | refine blk_drew ?_ | refine blk_alloc ?_ _)); exact BK117.out)) : gb117 ≠ gb126)); have n7_ := Aside0.mk ((by rw [hg]; exact Nat.ne_of_gt (blk_lt (g := gb117) (o := .cells #[.int .i64 a0_0, .int .i64 a0_1, .slice A0_2 l0_2.length c0_2, .int .u32 a0_3, .int .u32 a0_4] 25 (0, 0)) (by (with_reducible repeat (first | refine blk_drewN ?_ _ | refine blk_drew ?_ | refine blk_alloc ?_ _)); exact BK117.out)) : gb126 ≠ gb117)); clear HO122; clear BK117; clear HB; have HO122 := n0_; have BK117 := n1_; have HB := n2_; have BK126 := n3_; have GW126 := n4_; have GE126 := n5_; have NB117_126 := n6_; have NB126_117 := n7_; clear n0_ n1_ n2_ n3_ n4_ n5_ n6_ n7_; clear hb hbox hg; have hnb70 := NB126_117.out; have hnc70 := NB117_126.out; have hcz71_0 : w69.cell? ⟨gb126, 0, none⟩ = some (.int .i64 0) := (blk_cell BK126.out 0).trans rfl; have hcz71_1 : w69.cell? ⟨gb126, 1, none⟩ = some (.int .i64 0) := (blk_cell BK126.out 1).trans rfl; have hcz71_2 : w69.cell? ⟨gb126, 2, none⟩ = some (.slice none 0 0) := (blk_cell BK126.out 2).trans rfl; have hcz71_3 : w69.cell? ⟨gb126, 3, none⟩ = some (.int .u32 0) := (blk_cell BK126.out 3).trans rfl; have hcz71_4 : w69.cell? ⟨gb126, 4, none⟩ = some (.int .u32 0) := (blk_cell BK126.out 4).trans rfl; have hfz71_0 := blk_frozen BK126.out 0; have hfz71_1 := blk_frozen BK126.out 1; have hfz71_2 := blk_frozen BK126.out 2; have hfz71_3 := blk_frozen BK126.out 3; have hfz71_4 := blk_frozen BK126.out 4; obtain ⟨Ao72, co72, eo72⟩ := Kd.R_slice HO122.out; subst eo72; have hcz73_0 : w69.cell? ⟨gb117, 0, none⟩ = some (.int .i64 a0_0) := (blk_cell BK117.out 0).trans rfl; have hcz73_1 : w69.cell? ⟨gb117, 1, none⟩ = some (.int .i64 a0_1) := (blk_cell BK117.out 1).trans rfl; have hcz73_2 : w69.cell? ⟨gb117, 2, none⟩ = some (.slice A0_2 l0_2.length c0_2) := (blk_cell BK117.out 2).trans rfl; have hcz73_3 : w69.cell? ⟨gb117, 3, none⟩ = some (.int .u32 a0_3) := (blk_cell BK117.out 3).trans rfl; have hcz73_4 : w69.cell? ⟨gb117, 4, none⟩ = some (.int .u32 a0_4) := (blk_cell BK117.out 4).trans rfl; have hfz73_0 := blk_frozen BK117.out 0; have hfz73_1 := blk_frozen BK117.out 1; have hfz73_2 := blk_frozen BK117.out 2; have hfz73_3 := blk_frozen BK117.out 3; have hfz73_4 := blk_frozen BK117.out 4) | (go_at_call 16; (with_reducible refine (coppicerref_NetCheck.calls k a0_0 a0_1 _ _ l0_2 a0_3 a0_4 t127 _ ?side1 ?side2 A3.out).mono ?_); (case side1 => exact Kd.C_below HR0_2.out (by repeat (first | (with_reducible first | exact HB.out | apply below_alloc | apply pw_below_drewN | apply below_drew1 | refine below_set ?_ GE117.out | refine below_set ?_ GE126.out) | exact HB.out))); (case side2 => exact HC0_2.out); rintro e w74 ⟨rfl, hb⟩; have n0_ := Aside0.mk (Kd.R_below (by (with_reducible repeat (first | apply Kd.R_alloc | apply Kd.R_drewN | apply Kd.R_drew)); exact (Kd.R_mono (Kd.R_far (p := ⟨gb126, 4, none⟩) (Kd.R_far (p := ⟨gb126, 3, none⟩) (Kd.R_far (p := ⟨gb126, 2, none⟩) (Kd.R_far (p := ⟨gb126, 1, none⟩) (Kd.R_far (p := ⟨gb126, 0, none⟩) (Kd.R_types HO122.out BK126.out (by decide)) (fun _ hk => hk.2) (.int .i64 t118)) (fun _ hk => hk.2) (.int .i64 t119)) (fun _ hk => hk.2) (.slice Ao72 t120.length co72)) (fun _ hk => hk.2) (.int .u32 t123)) (fun _ hk => hk.2) (.int .u32 t124)) (fun _ h_ => h_.1))) hb); have n1_ := Aside0.mk (blk_below (g := gb117) (o := .cells #[.int .i64 a0_0, .int .i64 a0_1, .slice A0_2 l0_2.length c0_2, .int .u32 a0_3, .int .u32 a0_4] 25 (0, 0)) (by (with_reducible repeat (first | refine blk_drewN ?_ _ | refine blk_drew ?_ | refine blk_alloc ?_ _)); refine blk_far ?_ NB117_126.out _; (with_reducible repeat (first | refine blk_drewN ?_ _ | refine blk_drew ?_ | refine blk_alloc ?_ _)); refine blk_far ?_ NB117_126.out _; (with_reducible repeat (first | refine blk_drewN ?_ _ | refine blk_drew ?_ | refine blk_alloc ?_ _)); refine blk_far ?_ NB117_126.out _; (with_reducible repeat (first | refine blk_drewN ?_ _ | refine blk_drew ?_ | refine blk_alloc ?_ _)); refine blk_far ?_ NB117_126.out _; (with_reducible repeat (first | refine blk_drewN ?_ _ | refine blk_drew ?_ | refine blk_alloc ?_ _)); refine blk_far ?_ NB117_126.out _; (with_reducible repeat (first | refine blk_drewN ?_ _ | refine blk_drew ?_ | refine blk_alloc ?_ _)); exact BK117.out) hb); have n2_ := Aside0.mk (blk_below (g := gb126) (o := .cells #[.int .i64 t118, .int .i64 t119, .slice Ao72 t120.length co72, .int .u32 t123, .int .u32 t124] 25 (0, 0)) (by (with_reducible repeat (first | refine blk_drewN ?_ _ | refine blk_drew ?_ | refine blk_alloc ?_ _)); refine blk_put (cs := #[.int .i64 t118, .int .i64 t119, .slice Ao72 t120.length co72, .int .u32 t123, .int .u32 0]) ?_ 4 _ rfl; (with_reducible repeat (first | refine blk_drewN ?_ _ | refine blk_drew ?_ | refine blk_alloc ?_ _)); refine blk_put (cs := #[.int .i64 t118, .int .i64 t119, .slice Ao72 t120.length co72, .int .u32 0, .int .u32 0]) ?_ 3 _ rfl; (with_reducible repeat (first | refine blk_drewN ?_ _ | refine blk_drew ?_ | refine blk_alloc ?_ _)); refine blk_put (cs := #[.int .i64 t118, .int .i64 t119, .slice none 0 0, .int .u32 0, .int .u32 0]) ?_ 2 _ rfl; (with_reducible repeat (first | refine blk_drewN ?_ _ | refine blk_drew ?_ | refine blk_alloc ?_ _)); refine blk_put (cs := #[.int .i64 t118, .int .i64 0, .slice none 0 0, .int .u32 0, .int .u32 0]) ?_ 1 _ rfl; (with_reducible repeat (first | refine blk_drewN ?_ _ | refine blk_drew ?_ | refine blk_alloc ?_ _)); refine blk_put (cs := #[.int .i64 0, .int .i64 0, .slice none 0 0, .int .u32 0, .int .u32 0]) ?_ 0 _ rfl; (with_reducible repeat (first | refine blk_drewN ?_ _ | refine blk_drew ?_ | refine blk_alloc ?_ _)); exact BK126.out) hb); have n3_ := Aside0.mk (below_step (by repeat (first | (with_reducible first | exact HB.out | apply below_alloc | apply pw_below_drewN | apply below_drew1 | refine below_set ?_ GE117.out | refine below_set ?_ GE126.out) | exact HB.out)) hb); clear HO122; clear BK117; clear BK126; clear HB; have HO122 := n0_; have BK117 := n1_; have BK126 := n2_; have HB := n3_; clear n0_ n1_ n2_ n3_; (try clear hb); (try clear hb2); (try clear hk); (try clear hi))))
    (try simp only [Act.put, List.setIfInBounds_toArray, List.set_cons_zero, List.set_cons_succ])
    go_cut [2] (fun v2 wc => ∃ (kq : Nat) (x2_64 : Bool), v2 = .bool x2_64 ∧ Aside0 (coppicerlaw_NetBacks.j0 kq x2_64 = some r) ∧ Aside0 (kq ≤ k) ∧ Aside0 (Kd.R k31 31 wc w.heap.size (fun _ => True) (.slice Ao72 t120.length co72) t120) ∧ Aside0 (wc.heap[gb117]? = some (.cells #[.int .i64 a0_0, .int .i64 a0_1, (.slice A0_2 l0_2.length c0_2), .int .u32 a0_3, .int .u32 a0_4] 25 (0, 0))) ∧ Aside0 (wc.heap[gb126]? = some (.cells #[.int .i64 t118, .int .i64 t119, (.slice Ao72 t120.length co72), .int .u32 t123, .int .u32 t124] 25 (0, 0))) ∧ Aside0 (Below w.heap.size w wc))
    case first =>
      have H := HC65.out
      clear HC65
      by_cases c75 : t125 = t127
      · rw [if_pos c75] at H
        have c75b0 : (t125 == t127) = true := beq_iff_eq.mpr c75
        have c75b1 : (t125 != t127) = false := bne_eq_false_iff_eq.mpr c75
        clear c75
        (first | rw [c75b0] | (simp only [i64_w, i32_w]; rw [c75b0]) | skip)
        by_cases c76 : t118 = 0
        · rw [if_pos c76] at H
          have c76b0 : (t118 == 0) = true := beq_iff_eq.mpr c76
          have c76b1 : (t118 != 0) = false := bne_eq_false_iff_eq.mpr c76
          clear c76
          by_cases c77 : t119 = 0
          · rw [if_pos c77] at H
            have c77b0 : (t119 == 0) = true := beq_iff_eq.mpr c77
            have c77b1 : (t119 != 0) = false := bne_eq_false_iff_eq.mpr c77
            clear c77
            by_cases c78 : (t120.length : Int) = 0
            · rw [if_pos c78] at H
              have c78b0 : ((t120.length : Int) == 0) = true := beq_iff_eq.mpr c78
              have c78b1 : ((t120.length : Int) != 0) = false := bne_eq_false_iff_eq.mpr c78
              clear c78
              by_cases c79 : t123 = 0
              · rw [if_pos c79] at H
                have c79b0 : (t123 == 0) = true := beq_iff_eq.mpr c79
                have c79b1 : (t123 != 0) = false := bne_eq_false_iff_eq.mpr c79
                clear c79
                have H' := Aside0.mk H
                clear H
                have hnb80 := NB126_117.out
                have hnc80 := NB117_126.out
                have hcz81_0 : w74.cell? ⟨gb126, 0, none⟩ = some (.int .i64 t118) := (blk_cell BK126.out 0).trans rfl
                have hcz81_1 : w74.cell? ⟨gb126, 1, none⟩ = some (.int .i64 t119) := (blk_cell BK126.out 1).trans rfl
                have hcz81_2 : w74.cell? ⟨gb126, 2, none⟩ = some (.slice Ao72 t120.length co72) := (blk_cell BK126.out 2).trans rfl
                have hcz81_3 : w74.cell? ⟨gb126, 3, none⟩ = some (.int .u32 t123) := (blk_cell BK126.out 3).trans rfl
                have hcz81_4 : w74.cell? ⟨gb126, 4, none⟩ = some (.int .u32 t124) := (blk_cell BK126.out 4).trans rfl
                have hfz81_0 := blk_frozen BK126.out 0
                have hfz81_1 := blk_frozen BK126.out 1
                have hfz81_2 := blk_frozen BK126.out 2
                have hfz81_3 := blk_frozen BK126.out 3
                have hfz81_4 := blk_frozen BK126.out 4
                go_wp2
                repeat (go_quiet (fail); try go_wp2)
                go_meet
                case rel => exact ⟨_, ((t124 == 0)), (by first | rfl | (simp; done) | (simp [*]; done)), H', ⟨by first | omega | exact Nat.le_refl _⟩, ⟨by (with_reducible repeat (first | apply Kd.R_alloc | apply Kd.R_drewN | apply Kd.R_drew)); exact HO122.out⟩, ⟨by (with_reducible repeat (first | refine blk_drewN ?_ _ | refine blk_drew ?_ | refine blk_alloc ?_ _)); exact BK117.out⟩, ⟨by (with_reducible repeat (first | refine blk_drewN ?_ _ | refine blk_drew ?_ | refine blk_alloc ?_ _)); exact BK126.out⟩, ⟨by repeat (first | (with_reducible first | exact HB.out | apply below_alloc | apply pw_below_drewN | apply below_drew1 | refine below_set ?_ GE117.out | refine below_set ?_ GE126.out) | exact HB.out)⟩⟩
              · rw [if_neg c79] at H
                have c79b0 : (t123 == 0) = false := beq_eq_false_iff_ne.mpr c79
                have c79b1 : (t123 != 0) = true := bne_iff_ne.mpr c79
                have H' := Aside0.mk H
                clear H
                have hnb82 := NB126_117.out
                have hnc82 := NB117_126.out
                have hcz83_0 : w74.cell? ⟨gb126, 0, none⟩ = some (.int .i64 t118) := (blk_cell BK126.out 0).trans rfl
                have hcz83_1 : w74.cell? ⟨gb126, 1, none⟩ = some (.int .i64 t119) := (blk_cell BK126.out 1).trans rfl
                have hcz83_2 : w74.cell? ⟨gb126, 2, none⟩ = some (.slice Ao72 t120.length co72) := (blk_cell BK126.out 2).trans rfl
                have hcz83_3 : w74.cell? ⟨gb126, 3, none⟩ = some (.int .u32 t123) := (blk_cell BK126.out 3).trans rfl
                have hcz83_4 : w74.cell? ⟨gb126, 4, none⟩ = some (.int .u32 t124) := (blk_cell BK126.out 4).trans rfl
                have hfz83_0 := blk_frozen BK126.out 0
                have hfz83_1 := blk_frozen BK126.out 1
                have hfz83_2 := blk_frozen BK126.out 2
                have hfz83_3 := blk_frozen BK126.out 3
                have hfz83_4 := blk_frozen BK126.out 4
                go_wp2
                repeat (go_quiet (fail); try go_wp2)
                go_meet
                case rel => exact ⟨_, (false), (by first | rfl | (simp; done) | (simp [*]; done)), H', ⟨by first | omega | exact Nat.le_refl _⟩, ⟨by (with_reducible repeat (first | apply Kd.R_alloc | apply Kd.R_drewN | apply Kd.R_drew)); exact HO122.out⟩, ⟨by (with_reducible repeat (first | refine blk_drewN ?_ _ | refine blk_drew ?_ | refine blk_alloc ?_ _)); exact BK117.out⟩, ⟨by (with_reducible repeat (first | refine blk_drewN ?_ _ | refine blk_drew ?_ | refine blk_alloc ?_ _)); exact BK126.out⟩, ⟨by repeat (first | (with_reducible first | exact HB.out | apply below_alloc | apply pw_below_drewN | apply below_drew1 | refine below_set ?_ GE117.out | refine below_set ?_ GE126.out) | exact HB.out)⟩⟩
            · rw [if_neg c78] at H
              have c78b0 : ((t120.length : Int) == 0) = false := beq_eq_false_iff_ne.mpr c78
              have c78b1 : ((t120.length : Int) != 0) = true := bne_iff_ne.mpr c78
              have c78b2 : ¬ (t120 = []) := fun h_ => c78 (by rw [h_]; rfl)
              have H' := Aside0.mk H
              clear H
              have hnb84 := NB126_117.out
              have hnc84 := NB117_126.out
              have hcz85_0 : w74.cell? ⟨gb126, 0, none⟩ = some (.int .i64 t118) := (blk_cell BK126.out 0).trans rfl
              have hcz85_1 : w74.cell? ⟨gb126, 1, none⟩ = some (.int .i64 t119) := (blk_cell BK126.out 1).trans rfl
              have hcz85_2 : w74.cell? ⟨gb126, 2, none⟩ = some (.slice Ao72 t120.length co72) := (blk_cell BK126.out 2).trans rfl
              have hcz85_3 : w74.cell? ⟨gb126, 3, none⟩ = some (.int .u32 t123) := (blk_cell BK126.out 3).trans rfl
              have hcz85_4 : w74.cell? ⟨gb126, 4, none⟩ = some (.int .u32 t124) := (blk_cell BK126.out 4).trans rfl
              have hfz85_0 := blk_frozen BK126.out 0
              have hfz85_1 := blk_frozen BK126.out 1
              have hfz85_2 := blk_frozen BK126.out 2
              have hfz85_3 := blk_frozen BK126.out 3
              have hfz85_4 := blk_frozen BK126.out 4
              go_wp2
              repeat (go_quiet (fail); try go_wp2)
              go_meet
              case rel => exact ⟨_, (false), (by first | rfl | (simp; done) | (simp [*]; done)), H', ⟨by first | omega | exact Nat.le_refl _⟩, ⟨by (with_reducible repeat (first | apply Kd.R_alloc | apply Kd.R_drewN | apply Kd.R_drew)); exact HO122.out⟩, ⟨by (with_reducible repeat (first | refine blk_drewN ?_ _ | refine blk_drew ?_ | refine blk_alloc ?_ _)); exact BK117.out⟩, ⟨by (with_reducible repeat (first | refine blk_drewN ?_ _ | refine blk_drew ?_ | refine blk_alloc ?_ _)); exact BK126.out⟩, ⟨by repeat (first | (with_reducible first | exact HB.out | apply below_alloc | apply pw_below_drewN | apply below_drew1 | refine below_set ?_ GE117.out | refine below_set ?_ GE126.out) | exact HB.out)⟩⟩
          · rw [if_neg c77] at H
            have c77b0 : (t119 == 0) = false := beq_eq_false_iff_ne.mpr c77
            have c77b1 : (t119 != 0) = true := bne_iff_ne.mpr c77
            have H' := Aside0.mk H
            clear H
            have hnb86 := NB126_117.out
            have hnc86 := NB117_126.out
            have hcz87_0 : w74.cell? ⟨gb126, 0, none⟩ = some (.int .i64 t118) := (blk_cell BK126.out 0).trans rfl
            have hcz87_1 : w74.cell? ⟨gb126, 1, none⟩ = some (.int .i64 t119) := (blk_cell BK126.out 1).trans rfl
            have hcz87_2 : w74.cell? ⟨gb126, 2, none⟩ = some (.slice Ao72 t120.length co72) := (blk_cell BK126.out 2).trans rfl
            have hcz87_3 : w74.cell? ⟨gb126, 3, none⟩ = some (.int .u32 t123) := (blk_cell BK126.out 3).trans rfl
            have hcz87_4 : w74.cell? ⟨gb126, 4, none⟩ = some (.int .u32 t124) := (blk_cell BK126.out 4).trans rfl
            have hfz87_0 := blk_frozen BK126.out 0
            have hfz87_1 := blk_frozen BK126.out 1
            have hfz87_2 := blk_frozen BK126.out 2
            have hfz87_3 := blk_frozen BK126.out 3
            have hfz87_4 := blk_frozen BK126.out 4
            go_wp2
            repeat (go_quiet (fail); try go_wp2)
            go_meet
            case rel => exact ⟨_, (false), (by first | rfl | (simp; done) | (simp [*]; done)), H', ⟨by first | omega | exact Nat.le_refl _⟩, ⟨by (with_reducible repeat (first | apply Kd.R_alloc | apply Kd.R_drewN | apply Kd.R_drew)); exact HO122.out⟩, ⟨by (with_reducible repeat (first | refine blk_drewN ?_ _ | refine blk_drew ?_ | refine blk_alloc ?_ _)); exact BK117.out⟩, ⟨by (with_reducible repeat (first | refine blk_drewN ?_ _ | refine blk_drew ?_ | refine blk_alloc ?_ _)); exact BK126.out⟩, ⟨by repeat (first | (with_reducible first | exact HB.out | apply below_alloc | apply pw_below_drewN | apply below_drew1 | refine below_set ?_ GE117.out | refine below_set ?_ GE126.out) | exact HB.out)⟩⟩
        · rw [if_neg c76] at H
          have c76b0 : (t118 == 0) = false := beq_eq_false_iff_ne.mpr c76
          have c76b1 : (t118 != 0) = true := bne_iff_ne.mpr c76
          have H' := Aside0.mk H
          clear H
          have hnb88 := NB126_117.out
          have hnc88 := NB117_126.out
          have hcz89_0 : w74.cell? ⟨gb126, 0, none⟩ = some (.int .i64 t118) := (blk_cell BK126.out 0).trans rfl
          have hcz89_1 : w74.cell? ⟨gb126, 1, none⟩ = some (.int .i64 t119) := (blk_cell BK126.out 1).trans rfl
          have hcz89_2 : w74.cell? ⟨gb126, 2, none⟩ = some (.slice Ao72 t120.length co72) := (blk_cell BK126.out 2).trans rfl
          have hcz89_3 : w74.cell? ⟨gb126, 3, none⟩ = some (.int .u32 t123) := (blk_cell BK126.out 3).trans rfl
          have hcz89_4 : w74.cell? ⟨gb126, 4, none⟩ = some (.int .u32 t124) := (blk_cell BK126.out 4).trans rfl
          have hfz89_0 := blk_frozen BK126.out 0
          have hfz89_1 := blk_frozen BK126.out 1
          have hfz89_2 := blk_frozen BK126.out 2
          have hfz89_3 := blk_frozen BK126.out 3
          have hfz89_4 := blk_frozen BK126.out 4
          go_wp2
          repeat (go_quiet (fail); try go_wp2)
          go_meet
          case rel => exact ⟨_, (false), (by first | rfl | (simp; done) | (simp [*]; done)), H', ⟨by first | omega | exact Nat.le_refl _⟩, ⟨by (with_reducible repeat (first | apply Kd.R_alloc | apply Kd.R_drewN | apply Kd.R_drew)); exact HO122.out⟩, ⟨by (with_reducible repeat (first | refine blk_drewN ?_ _ | refine blk_drew ?_ | refine blk_alloc ?_ _)); exact BK117.out⟩, ⟨by (with_reducible repeat (first | refine blk_drewN ?_ _ | refine blk_drew ?_ | refine blk_alloc ?_ _)); exact BK126.out⟩, ⟨by repeat (first | (with_reducible first | exact HB.out | apply below_alloc | apply pw_below_drewN | apply below_drew1 | refine below_set ?_ GE117.out | refine below_set ?_ GE126.out) | exact HB.out)⟩⟩
      · rw [if_neg c75] at H
        have c75b0 : (t125 == t127) = false := beq_eq_false_iff_ne.mpr c75
        have c75b1 : (t125 != t127) = true := bne_iff_ne.mpr c75
        (first | rw [c75b0] | (simp only [i64_w, i32_w]; rw [c75b0]) | skip)
        have H' := Aside0.mk H
        clear H
        go_wp2
        repeat (go_quiet (fail); try go_wp2)
        go_meet
        case rel => exact ⟨_, (false), (by first | rfl | (simp; done) | (simp [*]; done)), H', ⟨by first | omega | exact Nat.le_refl _⟩, ⟨by (with_reducible repeat (first | apply Kd.R_alloc | apply Kd.R_drewN | apply Kd.R_drew)); exact HO122.out⟩, ⟨by (with_reducible repeat (first | refine blk_drewN ?_ _ | refine blk_drew ?_ | refine blk_alloc ?_ _)); exact BK117.out⟩, ⟨by (with_reducible repeat (first | refine blk_drewN ?_ _ | refine blk_drew ?_ | refine blk_alloc ?_ _)); exact BK126.out⟩, ⟨by repeat (first | (with_reducible first | exact HB.out | apply below_alloc | apply pw_below_drewN | apply below_drew1 | refine below_set ?_ GE117.out | refine below_set ?_ GE126.out) | exact HB.out)⟩⟩
    case rest =>
      clear HC65
      try clear c1
      try clear p1
      try clear q1
      try clear hx1
      try clear c2
      try clear p2
      try clear c3
      try clear c4
      try clear c4b0
      try clear c4b1
      try clear c5
      try clear c6
      try clear p6
      try clear c7
      try clear c8
      try clear c10
      try clear p12
      try clear q12
      try clear hx12
      try clear p13
      try clear q13
      try clear hx13
      try clear c15
      try clear c15b0
      try clear c15b1
      try clear c16
      try clear c16b0
      try clear c16b1
      try clear c17
      try clear c17b0
      try clear c17b1
      try clear c18
      try clear c18b0
      try clear c18b1
      try clear c19
      try clear c19b0
      try clear c19b1
      try clear c20
      try clear c23
      try clear c26
      try clear c29
      try clear c32
      try clear c35
      try clear c36
      try clear c38
      try clear c38b0
      try clear c39
      try clear c39b0
      try clear c40
      try clear c40b0
      try clear c43
      try clear c44
      try clear c46
      try clear c46b0
      try clear c47
      try clear c47b0
      try clear c47b1
      try clear c48
      try clear c48b0
      try clear c48b1
      try clear c49
      try clear c50
      try clear c52
      try clear c54
      try clear c55
      try clear c57
      try clear c59
      try clear c60
      try clear c62
      try clear c64
      try clear p64
      try clear c70
      try clear c75
      try clear c75b0
      try clear c75b1
      try clear c76
      try clear c76b0
      try clear c76b1
      try clear c77
      try clear c77b0
      try clear c77b1
      try clear c78
      try clear c78b0
      try clear c78b1
      try clear c78b2
      try clear c79
      try clear c79b0
      try clear c79b1
      try clear c80
      try clear c82
      try clear c84
      try clear c86
      try clear c88
      try clear hcz11_0
      try clear hcz11_1
      try clear hcz11_2
      try clear hcz11_3
      try clear hcz11_4
      try clear hcz13_0
      try clear hcz13_1
      try clear hcz13_2
      try clear hcz13_3
      try clear hcz13_4
      try clear hcz21_0
      try clear hcz21_1
      try clear hcz21_2
      try clear hcz21_3
      try clear hcz21_4
      try clear hcz22_0
      try clear hcz22_1
      try clear hcz22_2
      try clear hcz22_3
      try clear hcz22_4
      try clear hcz24_0
      try clear hcz24_1
      try clear hcz24_2
      try clear hcz24_3
      try clear hcz24_4
      try clear hcz25_0
      try clear hcz25_1
      try clear hcz25_2
      try clear hcz25_3
      try clear hcz25_4
      try clear hcz27_0
      try clear hcz27_1
      try clear hcz27_2
      try clear hcz27_3
      try clear hcz27_4
      try clear hcz28_0
      try clear hcz28_1
      try clear hcz28_2
      try clear hcz28_3
      try clear hcz28_4
      try clear hcz30_0
      try clear hcz30_1
      try clear hcz30_2
      try clear hcz30_3
      try clear hcz30_4
      try clear hcz31_0
      try clear hcz31_1
      try clear hcz31_2
      try clear hcz31_3
      try clear hcz31_4
      try clear hcz33_0
      try clear hcz33_1
      try clear hcz33_2
      try clear hcz33_3
      try clear hcz33_4
      try clear hcz34_0
      try clear hcz34_1
      try clear hcz34_2
      try clear hcz34_3
      try clear hcz34_4
      try clear hcz37_0
      try clear hcz37_1
      try clear hcz37_2
      try clear hcz37_3
      try clear hcz37_4
      try clear hcz45_0
      try clear hcz45_1
      try clear hcz45_2
      try clear hcz51_0
      try clear hcz51_1
      try clear hcz51_2
      try clear hcz51_3
      try clear hcz51_4
      try clear hcz53_0
      try clear hcz53_1
      try clear hcz53_2
      try clear hcz56_0
      try clear hcz56_1
      try clear hcz56_2
      try clear hcz56_3
      try clear hcz56_4
      try clear hcz58_0
      try clear hcz58_1
      try clear hcz58_2
      try clear hcz61_0
      try clear hcz61_1
      try clear hcz61_2
      try clear hcz61_3
      try clear hcz61_4
      try clear hcz63_0
      try clear hcz63_1
      try clear hcz63_2
      try clear hcz67_0
      try clear hcz67_1
      try clear hcz67_2
      try clear hcz67_3
      try clear hcz67_4
      try clear hcz71_0
      try clear hcz71_1
      try clear hcz71_2
      try clear hcz71_3
      try clear hcz71_4
      try clear hcz73_0
      try clear hcz73_1
      try clear hcz73_2
      try clear hcz73_3
      try clear hcz73_4
      try clear hcz7_0
      try clear hcz7_1
      try clear hcz7_2
      try clear hcz7_3
      try clear hcz7_4
      try clear hcz81_0
      try clear hcz81_1
      try clear hcz81_2
      try clear hcz81_3
      try clear hcz81_4
      try clear hcz83_0
      try clear hcz83_1
      try clear hcz83_2
      try clear hcz83_3
      try clear hcz83_4
      try clear hcz85_0
      try clear hcz85_1
      try clear hcz85_2
      try clear hcz85_3
      try clear hcz85_4
      try clear hcz87_0
      try clear hcz87_1
      try clear hcz87_2
      try clear hcz87_3
      try clear hcz87_4
      try clear hcz89_0
      try clear hcz89_1
      try clear hcz89_2
      try clear hcz89_3
      try clear hcz89_4
      try clear hfz11_0
      try clear hfz11_1
      try clear hfz11_2
      try clear hfz11_3
      try clear hfz11_4
      try clear hfz13_0
      try clear hfz13_1
      try clear hfz13_2
      try clear hfz13_3
      try clear hfz13_4
      try clear hfz21_0
      try clear hfz21_1
      try clear hfz21_2
      try clear hfz21_3
      try clear hfz21_4
      try clear hfz22_0
      try clear hfz22_1
      try clear hfz22_2
      try clear hfz22_3
      try clear hfz22_4
      try clear hfz24_0
      try clear hfz24_1
      try clear hfz24_2
      try clear hfz24_3
      try clear hfz24_4
      try clear hfz25_0
      try clear hfz25_1
      try clear hfz25_2
      try clear hfz25_3
      try clear hfz25_4
      try clear hfz27_0
      try clear hfz27_1
      try clear hfz27_2
      try clear hfz27_3
      try clear hfz27_4
      try clear hfz28_0
      try clear hfz28_1
      try clear hfz28_2
      try clear hfz28_3
      try clear hfz28_4
      try clear hfz30_0
      try clear hfz30_1
      try clear hfz30_2
      try clear hfz30_3
      try clear hfz30_4
      try clear hfz31_0
      try clear hfz31_1
      try clear hfz31_2
      try clear hfz31_3
      try clear hfz31_4
      try clear hfz33_0
      try clear hfz33_1
      try clear hfz33_2
      try clear hfz33_3
      try clear hfz33_4
      try clear hfz34_0
      try clear hfz34_1
      try clear hfz34_2
      try clear hfz34_3
      try clear hfz34_4
      try clear hfz37_0
      try clear hfz37_1
      try clear hfz37_2
      try clear hfz37_3
      try clear hfz37_4
      try clear hfz45_0
      try clear hfz45_1
      try clear hfz45_2
      try clear hfz51_0
      try clear hfz51_1
      try clear hfz51_2
      try clear hfz51_3
      try clear hfz51_4
      try clear hfz53_0
      try clear hfz53_1
      try clear hfz53_2
      try clear hfz56_0
      try clear hfz56_1
      try clear hfz56_2
      try clear hfz56_3
      try clear hfz56_4
      try clear hfz58_0
      try clear hfz58_1
      try clear hfz58_2
      try clear hfz61_0
      try clear hfz61_1
      try clear hfz61_2
      try clear hfz61_3
      try clear hfz61_4
      try clear hfz63_0
      try clear hfz63_1
      try clear hfz63_2
      try clear hfz67_0
      try clear hfz67_1
      try clear hfz67_2
      try clear hfz67_3
      try clear hfz67_4
      try clear hfz71_0
      try clear hfz71_1
      try clear hfz71_2
      try clear hfz71_3
      try clear hfz71_4
      try clear hfz73_0
      try clear hfz73_1
      try clear hfz73_2
      try clear hfz73_3
      try clear hfz73_4
      try clear hfz7_0
      try clear hfz7_1
      try clear hfz7_2
      try clear hfz7_3
      try clear hfz7_4
      try clear hfz81_0
      try clear hfz81_1
      try clear hfz81_2
      try clear hfz81_3
      try clear hfz81_4
      try clear hfz83_0
      try clear hfz83_1
      try clear hfz83_2
      try clear hfz83_3
      try clear hfz83_4
      try clear hfz85_0
      try clear hfz85_1
      try clear hfz85_2
      try clear hfz85_3
      try clear hfz85_4
      try clear hfz87_0
      try clear hfz87_1
      try clear hfz87_2
      try clear hfz87_3
      try clear hfz87_4
      try clear hfz89_0
      try clear hfz89_1
      try clear hfz89_2
      try clear hfz89_3
      try clear hfz89_4
      try clear hx128_0
      try clear hx128_1
      try clear hx128_2
      try clear hx130_0
      try clear hx130_1
      try clear hx130_2
      try clear hx131_0
      try clear hx131_1
      try clear hx131_2
      try clear hx132_0
      try clear hx132_1
      try clear hx132_2
      try clear p1
      try clear p12
      try clear p128
      try clear p13
      try clear p130
      try clear p131
      try clear p132
      try clear p2
      try clear q1
      try clear q12
      try clear q128
      try clear q13
      try clear q130
      try clear q131
      try clear q132
      obtain ⟨kq, x2_64, rfl, HA, HJ64, HO_127002, BK117, BK126, HB⟩ := hcut
      cases kq with
      | zero => exact absurd HA.out (by simp [coppicerlaw_NetBacks.j0])
      | succ kj64 =>
        have H := HA.out
        clear HA
        simp only [coppicerlaw_NetBacks.j0] at H
        obtain rfl := Option.some.inj H
        go_wp2
        repeat (go_quiet (fail); try go_wp2)
        go_ret
        exact ⟨by first | rfl | (simp [errW_none, errW_some] <;> rfl) | (simp [*, errW_none, errW_some] <;> rfl), by repeat (first | (with_reducible first | exact HB.out | apply below_alloc | apply pw_below_drewN | apply below_drew1 | refine below_set ?_ GE117.out | refine below_set ?_ GE126.out) | exact HB.out)⟩

end Go.Proofs.Ytidjihmlkaeemaa.PNetBacks
