-- Written by a program of this session: a turn of the print kit's own.
import Derived.Test.YtbehbngcofonmaaPTableNamesx0
import Derived.Test.YtbehbngcofonmaaPTableNamesx5
import Derived.Test.YtbehbngcofonmaaPTableNamesx7
import Derived.Test.YtbehbngcofonmaaPTableNamesx9
namespace Go.Proofs.Ytbehbngcofonmaa.PTableNames
open Go.RowKit Go.Proofs.YtbehbngcofonmaaW.PrintWords Go.Proofs.YtbehbngcofonmaaW.PrintLast Go.Proofs.YtbehbngcofonmaaW.PrintMore
attribute [local go_sem] max2_int min2_int max_two min_two max_three min_three max_four min_four   -- for this text's walks alone
set_option linter.unusedVariables false
set_option linter.unusedSimpArgs false

/-! ### coppicerlaw_TableNames: function 3 -/
def coppicerlaw_TableNames.l0 : Nat → List Int → Int → Int → Int → List (List (List Bool)) → Int → Int → Option (Bool)
  | 0, _, _, _, _, _, _, _ => none
  | k + 1, x1, x5, x6, x8, x31, x32, x33 => if x33 < x32 then (if 0 ≤ x33 then (if x33 < (x31.length : Int) then (if 0 < ((rd_L7 x31 x33).length : Int) then (if 0 ≤ (x1.length : Int) then (if (x1.length : Int) < ((rd_L6 (rd_L7 x31 x33) 0).length : Int) then (if rdOf false (rd_L6 (rd_L7 x31 x33) 0) (x1.length : Int) = true then (if 0 ≤ (IntKind.u64.wrap (x33)) then (coppicerlaw_TableNames.l0 k x1 x5 x6 ((x8 + (shl .u32 1 (IntKind.u64.wrap (x33)))) % 4294967296) x31 x32 (wrap64 (x33 + 1))) else (none)) else (coppicerlaw_TableNames.l0 k x1 x5 x6 x8 x31 x32 (wrap64 (x33 + 1)))) else (none)) else (none)) else (none)) else (none)) else (none)) else (if x6 = 0 then (some (x5 == x8)) else (some false))
def coppicerlaw_TableNames.f (k : Nat) (a0_0 : Int) (a0_1 : Int) (a0_2 : Int) (l0_3 : List (S47)) (l1 : List Int) : Option (Bool) := (table_Names.f k a0_0 a0_1 a0_2 l0_3 l1).bind fun bt186 => ((coppicerlaw_wordOf.f k a0_0 a0_1 a0_2 l0_3 l1).bind fun t188 => (if t188 = 0 then ((coppicerref_Table.f k a0_0 a0_1 a0_2 l0_3 l1).bind fun t189 => (coppicerlaw_TableNames.l0 k l1 bt186.1 bt186.2 0 t189 (t189.length : Int) 0)) else (if bt186.2 = t188 then (some (bt186.1 == 0)) else (some false))))
theorem coppicerlaw_TableNames.mono_l : ∀ k, (∀ y0 y1 y2 y3 y4 y5 y6, LeO (coppicerlaw_TableNames.l0 k y0 y1 y2 y3 y4 y5 y6) (coppicerlaw_TableNames.l0 (k + 1) y0 y1 y2 y3 y4 y5 y6))
  | 0 => fun _ _ _ _ _ _ _ r h => by simp [coppicerlaw_TableNames.l0] at h
  | k + 1 => by
    have ih0 := coppicerlaw_TableNames.mono_l k
    · intro y0 y1 y2 y3 y4 y5 y6
      unfold coppicerlaw_TableNames.l0
      repeat' first
      | (with_reducible exact ih0 _ _ _ _ _ _ _)
      | (with_reducible exact coppicerlaw_wordOf.mono _ _ _ _ _ _)
      | (with_reducible exact coppicerref_Table.mono _ _ _ _ _ _)
      | (with_reducible exact table_Names.mono _ _ _ _ _ _)
      | (with_reducible exact LeO.refl _)
      | (with_reducible exact LeO.none _)
      | (with_reducible refine LeO.ite ?_ ?_)
      | (with_reducible refine LeO.bind ?_ (fun _ => ?_))
      | exact ih0 _ _ _ _ _ _ _
      | exact coppicerlaw_wordOf.mono _ _ _ _ _ _
      | exact coppicerref_Table.mono _ _ _ _ _ _
      | exact table_Names.mono _ _ _ _ _ _
      | exact LeO.none _
      | refine LeO.ite ?_ ?_
      | refine LeO.bind ?_ (fun _ => ?_)
theorem coppicerlaw_TableNames.mono : ∀ a0 a1 a2 a3 a4 k, LeO (coppicerlaw_TableNames.f k a0 a1 a2 a3 a4) (coppicerlaw_TableNames.f (k + 1) a0 a1 a2 a3 a4) := by
  intro a0 a1 a2 a3 a4 k
  have ih0 := coppicerlaw_TableNames.mono_l k
  unfold coppicerlaw_TableNames.f
  repeat' first
      | (with_reducible exact ih0 _ _ _ _ _ _ _)
      | (with_reducible exact coppicerlaw_wordOf.mono _ _ _ _ _ _)
      | (with_reducible exact coppicerref_Table.mono _ _ _ _ _ _)
      | (with_reducible exact table_Names.mono _ _ _ _ _ _)
      | (with_reducible exact LeO.refl _)
      | (with_reducible exact LeO.none _)
      | (with_reducible refine LeO.ite ?_ ?_)
      | (with_reducible refine LeO.bind ?_ (fun _ => ?_))
      | exact ih0 _ _ _ _ _ _ _
      | exact coppicerlaw_wordOf.mono _ _ _ _ _ _
      | exact coppicerref_Table.mono _ _ _ _ _ _
      | exact table_Names.mono _ _ _ _ _ _
      | exact LeO.none _
      | refine LeO.ite ?_ ?_
      | refine LeO.bind ?_ (fun _ => ?_)
set_option maxHeartbeats 8000000 in
set_option maxRecDepth 100000 in
theorem coppicerlaw_TableNames.calls (k : Nat) (a0_0 : Int) (a0_1 : Int) (a0_2 : Int) (A0_3 : Option Addr) (c0_3 : Nat) (l0_3 : List (S47)) (A1 : Option Addr) (c1 : Nat) (l1 : List Int) (r : Bool) (w : World) (hr0_3 : Kd.C k47 w A0_3 l0_3.length l0_3) (hc0_3 : l0_3.length ≤ c0_3) (hr1 : Kd.C (Kd.int .i64) w A1 l1.length l1) (hc1 : l1.length ≤ c1) (h : coppicerlaw_TableNames.f k a0_0 a0_1 a0_2 l0_3 l1 = some r) :
    Calls Try.prog 3 #[.agg #[.int .i64 a0_0, .int .i64 a0_1, .int .i64 a0_2, .slice A0_3 l0_3.length c0_3], .slice A1 l1.length c1] w fun e w' => e = .returned (.bool r) ∧ Below w.heap.size w w' := by
  have hu24 := Try.underlying24
  have HR0_3 := Aside0.mk hr0_3
  have HC0_3 := Aside0.mk hc0_3
  clear hr0_3 hc0_3
  have HR1 := Aside0.mk hr1
  have HC1 := Aside0.mk hc1
  clear hr1 hc1
  have HB := Aside0.mk (Below.refl w.heap.size w)
  have H : ((table_Names.f k a0_0 a0_1 a0_2 l0_3 l1).bind fun bt186 => ((coppicerlaw_wordOf.f k a0_0 a0_1 a0_2 l0_3 l1).bind fun t188 => (if t188 = 0 then ((coppicerref_Table.f k a0_0 a0_1 a0_2 l0_3 l1).bind fun t189 => (coppicerlaw_TableNames.l0 k l1 bt186.1 bt186.2 0 t189 (t189.length : Int) 0)) else (if bt186.2 = t188 then (some (bt186.1 == 0)) else (some false))))) = some r := h
  clear h
  replace H := Option.bind_eq_some_iff.mp H
  obtain ⟨⟨t186, t187⟩, A30, H⟩ := H
  replace H : ((coppicerlaw_wordOf.f k a0_0 a0_1 a0_2 l0_3 l1).bind fun t188 => (if t188 = 0 then ((coppicerref_Table.f k a0_0 a0_1 a0_2 l0_3 l1).bind fun t189 => (coppicerlaw_TableNames.l0 k l1 t186 t187 0 t189 (t189.length : Int) 0)) else (if t187 = t188 then (some (t186 == 0)) else (some false)))) = some r := H
  have A3 := Aside0.mk A30
  clear A30
  replace H := Option.bind_eq_some_iff.mp H
  obtain ⟨t188, A40, H⟩ := H
  replace H : (if t188 = 0 then ((coppicerref_Table.f k a0_0 a0_1 a0_2 l0_3 l1).bind fun t189 => (coppicerlaw_TableNames.l0 k l1 t186 t187 0 t189 (t189.length : Int) 0)) else (if t187 = t188 then (some (t186 == 0)) else (some false))) = some r := H
  have A4 := Aside0.mk A40
  clear A40
  by_cases c5 : t188 = 0
  · rw [if_pos c5] at H
    have c5b0 : (t188 == 0) = true := beq_iff_eq.mpr c5
    have c5b1 : (t188 != 0) = false := bne_eq_false_iff_eq.mpr c5
    clear c5
    replace H := Option.bind_eq_some_iff.mp H
    obtain ⟨t189, A60, H⟩ := H
    replace H : (coppicerlaw_TableNames.l0 k l1 t186 t187 0 t189 (t189.length : Int) 0) = some r := H
    have A6 := Aside0.mk A60
    clear A60
    have H' := Aside0.mk H
    clear H
    go_enter Try.func3, Try.ntmps3
    go_wp2_with (first | ((with_reducible refine gate_dst (N := 2) rfl ?_); refine box_event ?hg (N := 2) ?hd (cs := #[.int .i64 a0_0, .int .i64 a0_1, .int .i64 a0_2, .slice A0_3 l0_3.length c0_3]) (t := 24) ?hr ?_; (case hd => rfl); (case hg => rfl); (case hr => first | (go_simp; done) | (go_simp; rfl)); intro gb185 hg w7 hbox hb; have n0_ := Aside0.mk (below_step (by repeat (first | (with_reducible first | exact HB.out | apply below_alloc | apply pw_below_drewN | apply below_drew1) | exact HB.out)) hb); have n1_ := Aside0.mk (hbox); have n2_ := Aside0.mk ((by rw [hg]; exact (below_size (by repeat (first | (with_reducible first | exact HB.out | apply below_alloc | apply pw_below_drewN | apply below_drew1) | exact HB.out))) : w.heap.size ≤ gb185)); have n3_ := Aside0.mk ((by rw [hg]; exact (below_size (by repeat (first | (with_reducible first | exact HB.out | apply below_alloc | apply pw_below_drewN | apply below_drew1) | exact HB.out))) : w.heap.size ≤ gb185)); clear HB; have HB := n0_; have BK185 := n1_; have GW185 := n2_; have GE185 := n3_; clear n0_ n1_ n2_ n3_; clear hb hbox hg; have hcz8_0 : w7.cell? ⟨gb185, 0, none⟩ = some (.int .i64 a0_0) := (blk_cell BK185.out 0).trans rfl; have hcz8_1 : w7.cell? ⟨gb185, 1, none⟩ = some (.int .i64 a0_1) := (blk_cell BK185.out 1).trans rfl; have hcz8_2 : w7.cell? ⟨gb185, 2, none⟩ = some (.int .i64 a0_2) := (blk_cell BK185.out 2).trans rfl; have hcz8_3 : w7.cell? ⟨gb185, 3, none⟩ = some (.slice A0_3 l0_3.length c0_3) := (blk_cell BK185.out 3).trans rfl; have hfz8_0 := blk_frozen BK185.out 0; have hfz8_1 := blk_frozen BK185.out 1; have hfz8_2 := blk_frozen BK185.out 2; have hfz8_3 := blk_frozen BK185.out 3) | ((with_reducible refine gate_callee (f := 5) rfl ?_); refine goesL_ (some 14) rfl rfl Try.func5 (by kernel_rfl) rfl #[.agg #[.int .i64 a0_0, .int .i64 a0_1, .int .i64 a0_2, .slice A0_3 l0_3.length c0_3], .slice A1 l1.length c1] rfl (by (try simp only [List.map_toArray, List.map_cons, List.map_nil]); first | done | rfl | (simp only [List.length_drop, List.length_take]; rfl)) ?_; (with_reducible refine (table_Names.calls k a0_0 a0_1 a0_2 _ _ l0_3 _ _ l1 t186 t187 _ ?side1 ?side2 ?side3 ?side4 A3.out).mono ?_); (case side1 => repeat (first | exact (Kd.C_below HR0_3.out HB.out) | (with_reducible refine Kd.C_alloc ?_ _) | (with_reducible refine Kd.C_drewN ?_ _) | (with_reducible refine Kd.C_drew ?_))); (case side2 => exact HC0_3.out); (case side3 => repeat (first | exact (Kd.C_below HR1.out HB.out) | (with_reducible refine Kd.C_alloc ?_ _) | (with_reducible refine Kd.C_drewN ?_ _) | (with_reducible refine Kd.C_drew ?_))); (case side4 => exact HC1.out); rintro e w9 ⟨rfl, hb⟩; refine ⟨_, rfl, ?_⟩; have n0_ := Aside0.mk (blk_below (g := gb185) (o := .cells #[.int .i64 a0_0, .int .i64 a0_1, .int .i64 a0_2, .slice A0_3 l0_3.length c0_3] 24 (0, 0)) (by (with_reducible repeat (first | refine blk_drewN ?_ _ | refine blk_drew ?_ | refine blk_alloc ?_ _)); exact BK185.out) hb); have n1_ := Aside0.mk (below_step (by repeat (first | (with_reducible first | exact HB.out | apply below_alloc | apply pw_below_drewN | apply below_drew1 | refine below_set ?_ GE185.out) | exact HB.out)) hb); clear BK185; clear HB; have BK185 := n0_; have HB := n1_; clear n0_ n1_; (try clear hb); (try clear hb2); (try clear hk); (try clear hi); have hcz10_0 : w9.cell? ⟨gb185, 0, none⟩ = some (.int .i64 a0_0) := (blk_cell BK185.out 0).trans rfl; have hcz10_1 : w9.cell? ⟨gb185, 1, none⟩ = some (.int .i64 a0_1) := (blk_cell BK185.out 1).trans rfl; have hcz10_2 : w9.cell? ⟨gb185, 2, none⟩ = some (.int .i64 a0_2) := (blk_cell BK185.out 2).trans rfl; have hcz10_3 : w9.cell? ⟨gb185, 3, none⟩ = some (.slice A0_3 l0_3.length c0_3) := (blk_cell BK185.out 3).trans rfl; have hfz10_0 := blk_frozen BK185.out 0; have hfz10_1 := blk_frozen BK185.out 1; have hfz10_2 := blk_frozen BK185.out 2; have hfz10_3 := blk_frozen BK185.out 3) | ((with_reducible refine gate_callee (f := 6) rfl ?_); refine goesL_ (some 19) rfl rfl Try.func6 (by kernel_rfl) rfl #[.agg #[.int .i64 a0_0, .int .i64 a0_1, .int .i64 a0_2, .slice A0_3 l0_3.length c0_3], .slice A1 l1.length c1] rfl (by (try simp only [List.map_toArray, List.map_cons, List.map_nil]); first | done | rfl | (simp only [List.length_drop, List.length_take]; rfl)) ?_; (with_reducible refine (coppicerlaw_wordOf.calls k a0_0 a0_1 a0_2 _ _ l0_3 _ _ l1 t188 _ ?side1 ?side2 ?side3 ?side4 A4.out).mono ?_); (case side1 => repeat (first | exact (Kd.C_below HR0_3.out HB.out) | (with_reducible refine Kd.C_alloc ?_ _) | (with_reducible refine Kd.C_drewN ?_ _) | (with_reducible refine Kd.C_drew ?_))); (case side2 => exact HC0_3.out); (case side3 => repeat (first | exact (Kd.C_below HR1.out HB.out) | (with_reducible refine Kd.C_alloc ?_ _) | (with_reducible refine Kd.C_drewN ?_ _) | (with_reducible refine Kd.C_drew ?_))); (case side4 => exact HC1.out); rintro e w11 ⟨rfl, hb⟩; refine ⟨_, rfl, ?_⟩; have n0_ := Aside0.mk (blk_below (g := gb185) (o := .cells #[.int .i64 a0_0, .int .i64 a0_1, .int .i64 a0_2, .slice A0_3 l0_3.length c0_3] 24 (0, 0)) (by (with_reducible repeat (first | refine blk_drewN ?_ _ | refine blk_drew ?_ | refine blk_alloc ?_ _)); exact BK185.out) hb); have n1_ := Aside0.mk (below_step (by repeat (first | (with_reducible first | exact HB.out | apply below_alloc | apply pw_below_drewN | apply below_drew1 | refine below_set ?_ GE185.out) | exact HB.out)) hb); clear BK185; clear HB; have BK185 := n0_; have HB := n1_; clear n0_ n1_; (try clear hb); (try clear hb2); (try clear hk); (try clear hi); have hcz12_0 : w11.cell? ⟨gb185, 0, none⟩ = some (.int .i64 a0_0) := (blk_cell BK185.out 0).trans rfl; have hcz12_1 : w11.cell? ⟨gb185, 1, none⟩ = some (.int .i64 a0_1) := (blk_cell BK185.out 1).trans rfl; have hcz12_2 : w11.cell? ⟨gb185, 2, none⟩ = some (.int .i64 a0_2) := (blk_cell BK185.out 2).trans rfl; have hcz12_3 : w11.cell? ⟨gb185, 3, none⟩ = some (.slice A0_3 l0_3.length c0_3) := (blk_cell BK185.out 3).trans rfl; have hfz12_0 := blk_frozen BK185.out 0; have hfz12_1 := blk_frozen BK185.out 1; have hfz12_2 := blk_frozen BK185.out 2; have hfz12_3 := blk_frozen BK185.out 3) | ((with_reducible refine gate_callee (f := 7) rfl ?_); refine goesL_ (some 31) rfl rfl Try.func7 (by kernel_rfl) rfl #[.agg #[.int .i64 a0_0, .int .i64 a0_1, .int .i64 a0_2, .slice A0_3 l0_3.length c0_3], .slice A1 l1.length c1] rfl (by (try simp only [List.map_toArray, List.map_cons, List.map_nil]); first | done | rfl | (simp only [List.length_drop, List.length_take]; rfl)) ?_; (with_reducible refine (coppicerref_Table.calls k a0_0 a0_1 a0_2 _ _ l0_3 _ _ l1 t189 _ ?side1 ?side2 ?side3 ?side4 A6.out).mono ?_); (case side1 => repeat (first | exact (Kd.C_below HR0_3.out HB.out) | (with_reducible refine Kd.C_alloc ?_ _) | (with_reducible refine Kd.C_drewN ?_ _) | (with_reducible refine Kd.C_drew ?_))); (case side2 => exact HC0_3.out); (case side3 => repeat (first | exact (Kd.C_below HR1.out HB.out) | (with_reducible refine Kd.C_alloc ?_ _) | (with_reducible refine Kd.C_drewN ?_ _) | (with_reducible refine Kd.C_drew ?_))); (case side4 => exact HC1.out); rintro e w13 ⟨v190, rfl, ho0, hb⟩; refine ⟨_, rfl, ?_⟩; have n0_ := Aside0.mk (Kd.R_lower ho0 (below_size (by repeat (first | (with_reducible first | exact HB.out | apply below_alloc | apply pw_below_drewN | apply below_drew1 | refine below_set ?_ GE185.out) | exact HB.out)))); have n1_ := Aside0.mk (blk_below (g := gb185) (o := .cells #[.int .i64 a0_0, .int .i64 a0_1, .int .i64 a0_2, .slice A0_3 l0_3.length c0_3] 24 (0, 0)) (by (with_reducible repeat (first | refine blk_drewN ?_ _ | refine blk_drew ?_ | refine blk_alloc ?_ _)); exact BK185.out) hb); have n2_ := Aside0.mk (below_step (by repeat (first | (with_reducible first | exact HB.out | apply below_alloc | apply pw_below_drewN | apply below_drew1 | refine below_set ?_ GE185.out) | exact HB.out)) hb); clear BK185; clear HB; have HO191 := n0_; have BK185 := n1_; have HB := n2_; clear n0_ n1_ n2_; (try clear hb); (try clear hb2); (try clear hk); (try clear hi); (try clear ho0); obtain ⟨Ao14, co14, eo14⟩ := Kd.R_slice HO191.out; subst eo14))
    go_loopg [8, 33] k (fun kq v8 v33 w' => ∃ (x8_1 : Int) (x33_1 : Int), v8 = .int .u32 x8_1 ∧ v33 = .int .i64 x33_1 ∧ Aside0 (coppicerlaw_TableNames.l0 kq l1 t186 t187 x8_1 t189 (t189.length : Int) x33_1 = some r) ∧ Aside0 (kq ≤ k) ∧ Aside0 (Kd.R (Kd.slice 34 (Kd.slice 4 Kd.bool)) 33 w' w.heap.size (fun _ => True) (.slice Ao14 t189.length co14) t189) ∧ Aside0 (w'.heap[gb185]? = some (.cells #[.int .i64 a0_0, .int .i64 a0_1, .int .i64 a0_2, (.slice A0_3 l0_3.length c0_3)] 24 (0, 0))) ∧ Aside0 (Below w.heap.size w w'))
    case atStart => exact ⟨(0), (0), (by first | rfl | (simp; done) | (simp [*]; done)), (by first | rfl | (simp; done) | (simp [*]; done)), H', ⟨Nat.le_refl _⟩, ⟨by (with_reducible repeat (first | apply Kd.R_alloc | apply Kd.R_drewN | apply Kd.R_drew)); exact HO191.out⟩, ⟨by (with_reducible repeat (first | refine blk_drewN ?_ _ | refine blk_drew ?_ | refine blk_alloc ?_ _)); exact BK185.out⟩, ⟨by repeat (first | (with_reducible first | exact HB.out | apply below_alloc | apply pw_below_drewN | apply below_drew1 | refine below_set ?_ GE185.out) | exact HB.out)⟩⟩
    case round =>
      clear H'
      try clear c1
      try clear p2
      try clear c3
      try clear c5
      try clear c5b0
      try clear c5b1
      try clear c6
      try clear c7
      try clear hcz10_0
      try clear hcz10_1
      try clear hcz10_2
      try clear hcz10_3
      try clear hcz12_0
      try clear hcz12_1
      try clear hcz12_2
      try clear hcz12_3
      try clear hcz8_0
      try clear hcz8_1
      try clear hcz8_2
      try clear hcz8_3
      try clear hfz10_0
      try clear hfz10_1
      try clear hfz10_2
      try clear hfz10_3
      try clear hfz12_0
      try clear hfz12_1
      try clear hfz12_2
      try clear hfz12_3
      try clear hfz8_0
      try clear hfz8_1
      try clear hfz8_2
      try clear hfz8_3
      obtain ⟨x8_1, x33_1, rfl, rfl, HA, HK1, HO_31, BK185, HB⟩ := hrel
      cases gk with
      | zero => exact absurd HA.out (by simp [coppicerlaw_TableNames.l0])
      | succ k1 =>
        have H := HA.out
        clear HA
        simp only [coppicerlaw_TableNames.l0] at H
        by_cases c15 : x33_1 < (t189.length : Int)
        · rw [if_pos c15] at H
          have c15b0 : decide (x33_1 < (t189.length : Int)) = true := decide_eq_true c15
          clear c15
          by_cases c16 : 0 ≤ x33_1
          · rw [if_pos c16] at H
            have c16b0 : decide (0 ≤ x33_1) = true := decide_eq_true c16
            clear c16
            by_cases c17 : x33_1 < (t189.length : Int)
            · rw [if_pos c17] at H
              have c17b0 : decide (x33_1 < (t189.length : Int)) = true := decide_eq_true c17
              clear c17
              by_cases c18 : 0 < ((rd_L7 t189 x33_1).length : Int)
              · rw [if_pos c18] at H
                have c18b0 : decide (0 < ((rd_L7 t189 x33_1).length : Int)) = true := decide_eq_true c18
                have c18b1 : decide (0 < (rd_L7 t189 x33_1).length) = true := decide_eq_true (by omega)
                clear c18
                by_cases c19 : 0 ≤ (l1.length : Int)
                · rw [if_pos c19] at H
                  have c19b0 : decide (0 ≤ (l1.length : Int)) = true := decide_eq_true c19
                  have c19b1 : decide (0 ≤ l1.length) = true := decide_eq_true (by omega)
                  clear c19
                  by_cases c20 : (l1.length : Int) < ((rd_L6 (rd_L7 t189 x33_1) 0).length : Int)
                  · rw [if_pos c20] at H
                    have c20b0 : decide ((l1.length : Int) < ((rd_L6 (rd_L7 t189 x33_1) 0).length : Int)) = true := decide_eq_true c20
                    have c20b1 : decide (l1.length < (rd_L6 (rd_L7 t189 x33_1) 0).length) = true := decide_eq_true (Int.ofNat_lt.mp c20)
                    clear c20
                    obtain ⟨bq21, hbq21⟩ : ∃ b_ : Bool, b_ = (rdOf false (rd_L6 (rd_L7 t189 x33_1) 0) (l1.length : Int)) := ⟨_, rfl⟩
                    replace H : (if bq21 = true then (if 0 ≤ (IntKind.u64.wrap (x33_1)) then (coppicerlaw_TableNames.l0 k1 l1 t186 t187 ((x8_1 + (shl .u32 1 (IntKind.u64.wrap (x33_1)))) % 4294967296) t189 (t189.length : Int) (wrap64 (x33_1 + 1))) else (none)) else (coppicerlaw_TableNames.l0 k1 l1 t186 t187 x8_1 t189 (t189.length : Int) (wrap64 (x33_1 + 1)))) = some r := by rw [← hbq21] at H; exact H
                    have Nbq21 := Aside0.mk hbq21
                    clear hbq21
                    by_cases c22 : bq21 = true
                    · subst c22
                      have H1 : (if 0 ≤ (IntKind.u64.wrap (x33_1)) then (coppicerlaw_TableNames.l0 k1 l1 t186 t187 ((x8_1 + (shl .u32 1 (IntKind.u64.wrap (x33_1)))) % 4294967296) t189 (t189.length : Int) (wrap64 (x33_1 + 1))) else (none)) = some r := by rw [if_pos rfl] at H; exact H
                      clear H
                      have H := H1
                      clear H1
                      obtain ⟨ji23, hji23⟩ : ∃ j_ : Int, (IntKind.u64.wrap (x33_1)) = j_ := ⟨_, rfl⟩
                      replace H : (if 0 ≤ (ji23) then (coppicerlaw_TableNames.l0 k1 l1 t186 t187 ((x8_1 + (shl .u32 1 (ji23))) % 4294967296) t189 (t189.length : Int) (wrap64 (x33_1 + 1))) else (none)) = some r := by first | (rw [hji23] at H; exact H) | (simp only [hji23] at H ⊢; exact H)
                      by_cases c24 : 0 ≤ (ji23)
                      · rw [if_pos c24] at H
                        have c24b0 := eq_true c24
                        have c24b1 : decide (0 ≤ (ji23)) = true := decide_eq_true c24
                        clear c24
                        obtain ⟨ji25, hji25⟩ : ∃ j_ : Int, (shl .u32 1 (ji23)) = j_ := ⟨_, rfl⟩
                        replace H : (coppicerlaw_TableNames.l0 k1 l1 t186 t187 ((x8_1 + (ji25)) % 4294967296) t189 (t189.length : Int) (wrap64 (x33_1 + 1))) = some r := by first | (rw [hji25] at H; exact H) | (simp only [hji25] at H ⊢; exact H)
                        have hji25_ : (IntKind.u32.wrap (1 * 2 ^ min (ji23).toNat 32)) = ji25 := hji25
                        have hji25z : (ji23) ≤ 32 → (IntKind.u32.wrap (1 * 2 ^ (ji23).toNat)) = ji25 := shl_small hji25
                        have hji25u : (IntKind.u32.wrap (2 ^ min (ji23).toNat 32)) = ji25 := by have h_ := hji25_; rw [Int.one_mul] at h_; exact h_
                        have hji25v : (ji23) ≤ 32 → (IntKind.u32.wrap (2 ^ (ji23).toNat)) = ji25 := fun hle_ => by have h_ := hji25z hle_; rw [Int.one_mul] at h_; exact h_
                        have H' := Aside0.mk H
                        clear H
                        have p192 : 0 ≤ (x33_1 : Int) := of_decide_eq_true (by first | (with_reducible assumption) | assumption)
                        have q192 : x33_1 < (t189.length : Int) := of_decide_eq_true (by first | (with_reducible assumption) | assumption)
                        obtain ⟨ad192, A192_0, c192_0, e192, hx192_0, hl192_0, hi192_0⟩ := at_L7 (Kd.R_reads' HO_31.out).2.2 x33_1 p192 q192
                        cases e192
                        obtain ⟨ce192, hce192, hMe192, hcc192⟩ := Kd.R_get HO_31.out [] x33_1 p192 (by first | exact q192 | exact of_decide_eq_true (by first | (with_reducible assumption) | assumption) | (have e_ := (Kd.R_reads' HO_31.out).1; omega))
                        obtain ⟨ve192_0, rfl, ge192_0⟩ := hMe192
                        have hv192_0 := hcc192 0 _ rfl
                        rw [Nat.add_zero, show ((Kd.slice 34 (Kd.slice 4 Kd.bool))).sz = 1 from rfl, Nat.mul_one] at hv192_0
                        replace hv192_0 := Option.some.inj (hv192_0.symm.trans hx192_0)
                        rw [hv192_0] at ge192_0
                        have HL192_0 := Aside0.mk (show Kd.R (Kd.slice 4 Kd.bool) 34 _ _ _ _ (rd_L7 t189 x33_1) from ge192_0)
                        clear hv192_0 ge192_0
                        clear hcc192 hce192
                        have HR192_0 := Aside0.mk hi192_0
                        have HC192_0 := Aside0.mk hl192_0
                        clear hi192_0 hl192_0
                        replace p192 := eq_true p192
                        replace q192 := eq_true q192
                        have p193 : 0 ≤ (0 : Int) := (by omega)
                        have q193 : 0 < ((rd_L7 t189 x33_1).length : Int) := of_decide_eq_true (by first | (with_reducible assumption) | assumption)
                        obtain ⟨ad193, A193_0, c193_0, e193, hx193_0, hl193_0, hi193_0⟩ := at_L6 (by repeat (first | (with_reducible exact HR192_0.out) | (with_reducible refine Kd.C_alloc ?_ _) | (with_reducible refine Kd.C_drewN ?_ _) | (with_reducible refine Kd.C_drew ?_) | exact HR192_0.out)) 0 p193 q193
                        cases e193
                        obtain ⟨ce193, hce193, hMe193, hcc193⟩ := Kd.R_get HL192_0.out [] 0 p193 (by first | exact q193 | exact of_decide_eq_true (by first | (with_reducible assumption) | assumption) | (have e_ := (Kd.R_reads' HL192_0.out).1; omega))
                        obtain ⟨ve193_0, rfl, ge193_0⟩ := hMe193
                        have hv193_0 := hcc193 0 _ rfl
                        rw [Nat.add_zero, show ((Kd.slice 4 Kd.bool)).sz = 1 from rfl, Nat.mul_one] at hv193_0
                        replace hv193_0 := Option.some.inj (hv193_0.symm.trans hx193_0)
                        rw [hv193_0] at ge193_0
                        have HL193_0 := Aside0.mk (show Kd.R Kd.bool 4 _ _ _ _ (rd_L6 (rd_L7 t189 x33_1) 0) from ge193_0)
                        clear hv193_0 ge193_0
                        clear hcc193 hce193
                        have qi193 : (0 < (rd_L7 t189 x33_1).length) = True := eq_true (by omega)
                        (try rw [show ((0 : Int)).toNat = 0 from rfl] at hx193_0)
                        (try rw [Addr.add_zero'] at hx193_0)
                        have HR193_0 := Aside0.mk hi193_0
                        have HC193_0 := Aside0.mk hl193_0
                        clear hi193_0 hl193_0
                        replace p193 := eq_true p193
                        replace q193 := eq_true q193
                        have p194 : 0 ≤ ((l1.length : Int) : Int) := of_decide_eq_true (by first | (with_reducible assumption) | assumption)
                        have q194 : (l1.length : Int) < ((rd_L6 (rd_L7 t189 x33_1) 0).length : Int) := of_decide_eq_true (by first | (with_reducible assumption) | assumption)
                        obtain ⟨ad194, e194, hx194_0⟩ := Kd.at_bool (by repeat (first | (with_reducible exact HR193_0.out) | (with_reducible refine Kd.C_alloc ?_ _) | (with_reducible refine Kd.C_drewN ?_ _) | (with_reducible refine Kd.C_drew ?_) | exact HR193_0.out)) (l1.length : Int) p194 q194
                        (try rw [← Nbq21.out] at hx194_0)
                        cases e194
                        (try simp only [Go.IntWalk.toNatUp] at hx194_0)
                        replace p194 := eq_true p194
                        replace q194 := eq_true q194
                        go_wp2
                        (first | go_roundg k1 | (simp only [← hji25]; go_roundg k1) | (simp only [← hji23, ← hji25]; go_roundg k1))
                        case measure => have := HK1.out; omega
                        case rel => first | exact ⟨((x8_1 + (ji25)) % 4294967296), (wrap64 (x33_1 + 1)), (by first | rfl | (simp; done) | (simp only [← hji25] <;> (first | rfl | simp)) | (simp [*]; done)), (by first | rfl | (simp; done) | (simp [*]; done)), H', ⟨by have := HK1.out; omega⟩, ⟨by (with_reducible repeat (first | apply Kd.R_alloc | apply Kd.R_drewN | apply Kd.R_drew)); exact HO_31.out⟩, ⟨by (with_reducible repeat (first | refine blk_drewN ?_ _ | refine blk_drew ?_ | refine blk_alloc ?_ _)); exact BK185.out⟩, ⟨by repeat (first | (with_reducible first | exact HB.out | apply below_alloc | apply pw_below_drewN | apply below_drew1 | refine below_set ?_ GE185.out) | exact HB.out)⟩⟩ | (subst hji25; subst hji23; exact ⟨((x8_1 + (shl .u32 1 (IntKind.u64.wrap (x33_1)))) % 4294967296), (wrap64 (x33_1 + 1)), (by first | rfl | (simp; done) | (simp only [← hji25] <;> (first | rfl | simp)) | (simp [*]; done)), (by first | rfl | (simp; done) | (simp [*]; done)), H', ⟨by have := HK1.out; omega⟩, ⟨by (with_reducible repeat (first | apply Kd.R_alloc | apply Kd.R_drewN | apply Kd.R_drew)); exact HO_31.out⟩, ⟨by (with_reducible repeat (first | refine blk_drewN ?_ _ | refine blk_drew ?_ | refine blk_alloc ?_ _)); exact BK185.out⟩, ⟨by repeat (first | (with_reducible first | exact HB.out | apply below_alloc | apply pw_below_drewN | apply below_drew1 | refine below_set ?_ GE185.out) | exact HB.out)⟩⟩)
                      · rw [if_neg c24] at H
                        exact absurd H (by simp)
                    · replace c22 := Bool.eq_false_iff.mpr c22
                      subst c22
                      have H1 : (coppicerlaw_TableNames.l0 k1 l1 t186 t187 x8_1 t189 (t189.length : Int) (wrap64 (x33_1 + 1))) = some r := by rw [if_neg (show ¬ (false = true) by decide)] at H; exact H
                      clear H
                      have H := H1
                      clear H1
                      have H' := Aside0.mk H
                      clear H
                      have p192 : 0 ≤ (x33_1 : Int) := of_decide_eq_true (by first | (with_reducible assumption) | assumption)
                      have q192 : x33_1 < (t189.length : Int) := of_decide_eq_true (by first | (with_reducible assumption) | assumption)
                      obtain ⟨ad192, A192_0, c192_0, e192, hx192_0, hl192_0, hi192_0⟩ := at_L7 (Kd.R_reads' HO_31.out).2.2 x33_1 p192 q192
                      cases e192
                      obtain ⟨ce192, hce192, hMe192, hcc192⟩ := Kd.R_get HO_31.out [] x33_1 p192 (by first | exact q192 | exact of_decide_eq_true (by first | (with_reducible assumption) | assumption) | (have e_ := (Kd.R_reads' HO_31.out).1; omega))
                      obtain ⟨ve192_0, rfl, ge192_0⟩ := hMe192
                      have hv192_0 := hcc192 0 _ rfl
                      rw [Nat.add_zero, show ((Kd.slice 34 (Kd.slice 4 Kd.bool))).sz = 1 from rfl, Nat.mul_one] at hv192_0
                      replace hv192_0 := Option.some.inj (hv192_0.symm.trans hx192_0)
                      rw [hv192_0] at ge192_0
                      have HL192_0 := Aside0.mk (show Kd.R (Kd.slice 4 Kd.bool) 34 _ _ _ _ (rd_L7 t189 x33_1) from ge192_0)
                      clear hv192_0 ge192_0
                      clear hcc192 hce192
                      have HR192_0 := Aside0.mk hi192_0
                      have HC192_0 := Aside0.mk hl192_0
                      clear hi192_0 hl192_0
                      replace p192 := eq_true p192
                      replace q192 := eq_true q192
                      have p193 : 0 ≤ (0 : Int) := (by omega)
                      have q193 : 0 < ((rd_L7 t189 x33_1).length : Int) := of_decide_eq_true (by first | (with_reducible assumption) | assumption)
                      obtain ⟨ad193, A193_0, c193_0, e193, hx193_0, hl193_0, hi193_0⟩ := at_L6 (by repeat (first | (with_reducible exact HR192_0.out) | (with_reducible refine Kd.C_alloc ?_ _) | (with_reducible refine Kd.C_drewN ?_ _) | (with_reducible refine Kd.C_drew ?_) | exact HR192_0.out)) 0 p193 q193
                      cases e193
                      obtain ⟨ce193, hce193, hMe193, hcc193⟩ := Kd.R_get HL192_0.out [] 0 p193 (by first | exact q193 | exact of_decide_eq_true (by first | (with_reducible assumption) | assumption) | (have e_ := (Kd.R_reads' HL192_0.out).1; omega))
                      obtain ⟨ve193_0, rfl, ge193_0⟩ := hMe193
                      have hv193_0 := hcc193 0 _ rfl
                      rw [Nat.add_zero, show ((Kd.slice 4 Kd.bool)).sz = 1 from rfl, Nat.mul_one] at hv193_0
                      replace hv193_0 := Option.some.inj (hv193_0.symm.trans hx193_0)
                      rw [hv193_0] at ge193_0
                      have HL193_0 := Aside0.mk (show Kd.R Kd.bool 4 _ _ _ _ (rd_L6 (rd_L7 t189 x33_1) 0) from ge193_0)
                      clear hv193_0 ge193_0
                      clear hcc193 hce193
                      have qi193 : (0 < (rd_L7 t189 x33_1).length) = True := eq_true (by omega)
                      (try rw [show ((0 : Int)).toNat = 0 from rfl] at hx193_0)
                      (try rw [Addr.add_zero'] at hx193_0)
                      have HR193_0 := Aside0.mk hi193_0
                      have HC193_0 := Aside0.mk hl193_0
                      clear hi193_0 hl193_0
                      replace p193 := eq_true p193
                      replace q193 := eq_true q193
                      have p194 : 0 ≤ ((l1.length : Int) : Int) := of_decide_eq_true (by first | (with_reducible assumption) | assumption)
                      have q194 : (l1.length : Int) < ((rd_L6 (rd_L7 t189 x33_1) 0).length : Int) := of_decide_eq_true (by first | (with_reducible assumption) | assumption)
                      obtain ⟨ad194, e194, hx194_0⟩ := Kd.at_bool (by repeat (first | (with_reducible exact HR193_0.out) | (with_reducible refine Kd.C_alloc ?_ _) | (with_reducible refine Kd.C_drewN ?_ _) | (with_reducible refine Kd.C_drew ?_) | exact HR193_0.out)) (l1.length : Int) p194 q194
                      (try rw [← Nbq21.out] at hx194_0)
                      cases e194
                      (try simp only [Go.IntWalk.toNatUp] at hx194_0)
                      replace p194 := eq_true p194
                      replace q194 := eq_true q194
                      go_wp2
                      go_roundg k1
                      case measure => have := HK1.out; omega
                      case rel => exact ⟨(x8_1), (wrap64 (x33_1 + 1)), (by first | rfl | (simp; done) | (simp [*]; done)), (by first | rfl | (simp; done) | (simp [*]; done)), H', ⟨by have := HK1.out; omega⟩, ⟨by (with_reducible repeat (first | apply Kd.R_alloc | apply Kd.R_drewN | apply Kd.R_drew)); exact HO_31.out⟩, ⟨by (with_reducible repeat (first | refine blk_drewN ?_ _ | refine blk_drew ?_ | refine blk_alloc ?_ _)); exact BK185.out⟩, ⟨by repeat (first | (with_reducible first | exact HB.out | apply below_alloc | apply pw_below_drewN | apply below_drew1 | refine below_set ?_ GE185.out) | exact HB.out)⟩⟩
                  · rw [if_neg c20] at H
                    exact absurd H (by simp)
                · rw [if_neg c19] at H
                  exact absurd H (by simp)
              · rw [if_neg c18] at H
                exact absurd H (by simp)
            · rw [if_neg c17] at H
              exact absurd H (by simp)
          · rw [if_neg c16] at H
            exact absurd H (by simp)
        · rw [if_neg c15] at H
          have c15b0 : decide (x33_1 < (t189.length : Int)) = false := decide_eq_false c15
          clear c15
          by_cases c26 : t187 = 0
          · rw [if_pos c26] at H
            have c26b0 : (t187 == 0) = true := beq_iff_eq.mpr c26
            have c26b1 : (t187 != 0) = false := bne_eq_false_iff_eq.mpr c26
            clear c26
            obtain rfl := Option.some.inj H
            go_wp2
            go_ret
            exact ⟨by first | rfl | (simp [errW_none, errW_some] <;> rfl) | (simp [*, errW_none, errW_some] <;> rfl), by repeat (first | (with_reducible first | exact HB.out | apply below_alloc | apply pw_below_drewN | apply below_drew1 | refine below_set ?_ GE185.out) | exact HB.out)⟩
          · rw [if_neg c26] at H
            have c26b0 : (t187 == 0) = false := beq_eq_false_iff_ne.mpr c26
            have c26b1 : (t187 != 0) = true := bne_iff_ne.mpr c26
            obtain rfl := Option.some.inj H
            go_wp2
            go_ret
            exact ⟨by first | rfl | (simp [errW_none, errW_some] <;> rfl) | (simp [*, errW_none, errW_some] <;> rfl), by repeat (first | (with_reducible first | exact HB.out | apply below_alloc | apply pw_below_drewN | apply below_drew1 | refine below_set ?_ GE185.out) | exact HB.out)⟩
  · rw [if_neg c5] at H
    have c5b0 : (t188 == 0) = false := beq_eq_false_iff_ne.mpr c5
    have c5b1 : (t188 != 0) = true := bne_iff_ne.mpr c5
    by_cases c27 : t187 = t188
    · rw [if_pos c27] at H
      have c27b0 : (t187 == t188) = true := beq_iff_eq.mpr c27
      have c27b1 : (t187 != t188) = false := bne_eq_false_iff_eq.mpr c27
      clear c27
      obtain rfl := Option.some.inj H
      go_enter Try.func3, Try.ntmps3
      go_wp2_with (first | ((with_reducible refine gate_dst (N := 2) rfl ?_); refine box_event ?hg (N := 2) ?hd (cs := #[.int .i64 a0_0, .int .i64 a0_1, .int .i64 a0_2, .slice A0_3 l0_3.length c0_3]) (t := 24) ?hr ?_; (case hd => rfl); (case hg => rfl); (case hr => first | (go_simp; done) | (go_simp; rfl)); intro gb185 hg w28 hbox hb; have n0_ := Aside0.mk (below_step (by repeat (first | (with_reducible first | exact HB.out | apply below_alloc | apply pw_below_drewN | apply below_drew1) | exact HB.out)) hb); have n1_ := Aside0.mk (hbox); have n2_ := Aside0.mk ((by rw [hg]; exact (below_size (by repeat (first | (with_reducible first | exact HB.out | apply below_alloc | apply pw_below_drewN | apply below_drew1) | exact HB.out))) : w.heap.size ≤ gb185)); have n3_ := Aside0.mk ((by rw [hg]; exact (below_size (by repeat (first | (with_reducible first | exact HB.out | apply below_alloc | apply pw_below_drewN | apply below_drew1) | exact HB.out))) : w.heap.size ≤ gb185)); clear HB; have HB := n0_; have BK185 := n1_; have GW185 := n2_; have GE185 := n3_; clear n0_ n1_ n2_ n3_; clear hb hbox hg; have hcz29_0 : w28.cell? ⟨gb185, 0, none⟩ = some (.int .i64 a0_0) := (blk_cell BK185.out 0).trans rfl; have hcz29_1 : w28.cell? ⟨gb185, 1, none⟩ = some (.int .i64 a0_1) := (blk_cell BK185.out 1).trans rfl; have hcz29_2 : w28.cell? ⟨gb185, 2, none⟩ = some (.int .i64 a0_2) := (blk_cell BK185.out 2).trans rfl; have hcz29_3 : w28.cell? ⟨gb185, 3, none⟩ = some (.slice A0_3 l0_3.length c0_3) := (blk_cell BK185.out 3).trans rfl; have hfz29_0 := blk_frozen BK185.out 0; have hfz29_1 := blk_frozen BK185.out 1; have hfz29_2 := blk_frozen BK185.out 2; have hfz29_3 := blk_frozen BK185.out 3) | ((with_reducible refine gate_callee (f := 5) rfl ?_); refine goesL_ (some 14) rfl rfl Try.func5 (by kernel_rfl) rfl #[.agg #[.int .i64 a0_0, .int .i64 a0_1, .int .i64 a0_2, .slice A0_3 l0_3.length c0_3], .slice A1 l1.length c1] rfl (by (try simp only [List.map_toArray, List.map_cons, List.map_nil]); first | done | rfl | (simp only [List.length_drop, List.length_take]; rfl)) ?_; (with_reducible refine (table_Names.calls k a0_0 a0_1 a0_2 _ _ l0_3 _ _ l1 t186 t187 _ ?side1 ?side2 ?side3 ?side4 A3.out).mono ?_); (case side1 => repeat (first | exact (Kd.C_below HR0_3.out HB.out) | (with_reducible refine Kd.C_alloc ?_ _) | (with_reducible refine Kd.C_drewN ?_ _) | (with_reducible refine Kd.C_drew ?_))); (case side2 => exact HC0_3.out); (case side3 => repeat (first | exact (Kd.C_below HR1.out HB.out) | (with_reducible refine Kd.C_alloc ?_ _) | (with_reducible refine Kd.C_drewN ?_ _) | (with_reducible refine Kd.C_drew ?_))); (case side4 => exact HC1.out); rintro e w30 ⟨rfl, hb⟩; refine ⟨_, rfl, ?_⟩; have n0_ := Aside0.mk (blk_below (g := gb185) (o := .cells #[.int .i64 a0_0, .int .i64 a0_1, .int .i64 a0_2, .slice A0_3 l0_3.length c0_3] 24 (0, 0)) (by (with_reducible repeat (first | refine blk_drewN ?_ _ | refine blk_drew ?_ | refine blk_alloc ?_ _)); exact BK185.out) hb); have n1_ := Aside0.mk (below_step (by repeat (first | (with_reducible first | exact HB.out | apply below_alloc | apply pw_below_drewN | apply below_drew1 | refine below_set ?_ GE185.out) | exact HB.out)) hb); clear BK185; clear HB; have BK185 := n0_; have HB := n1_; clear n0_ n1_; (try clear hb); (try clear hb2); (try clear hk); (try clear hi); have hcz31_0 : w30.cell? ⟨gb185, 0, none⟩ = some (.int .i64 a0_0) := (blk_cell BK185.out 0).trans rfl; have hcz31_1 : w30.cell? ⟨gb185, 1, none⟩ = some (.int .i64 a0_1) := (blk_cell BK185.out 1).trans rfl; have hcz31_2 : w30.cell? ⟨gb185, 2, none⟩ = some (.int .i64 a0_2) := (blk_cell BK185.out 2).trans rfl; have hcz31_3 : w30.cell? ⟨gb185, 3, none⟩ = some (.slice A0_3 l0_3.length c0_3) := (blk_cell BK185.out 3).trans rfl; have hfz31_0 := blk_frozen BK185.out 0; have hfz31_1 := blk_frozen BK185.out 1; have hfz31_2 := blk_frozen BK185.out 2; have hfz31_3 := blk_frozen BK185.out 3) | ((with_reducible refine gate_callee (f := 6) rfl ?_); refine goesL_ (some 19) rfl rfl Try.func6 (by kernel_rfl) rfl #[.agg #[.int .i64 a0_0, .int .i64 a0_1, .int .i64 a0_2, .slice A0_3 l0_3.length c0_3], .slice A1 l1.length c1] rfl (by (try simp only [List.map_toArray, List.map_cons, List.map_nil]); first | done | rfl | (simp only [List.length_drop, List.length_take]; rfl)) ?_; (with_reducible refine (coppicerlaw_wordOf.calls k a0_0 a0_1 a0_2 _ _ l0_3 _ _ l1 t188 _ ?side1 ?side2 ?side3 ?side4 A4.out).mono ?_); (case side1 => repeat (first | exact (Kd.C_below HR0_3.out HB.out) | (with_reducible refine Kd.C_alloc ?_ _) | (with_reducible refine Kd.C_drewN ?_ _) | (with_reducible refine Kd.C_drew ?_))); (case side2 => exact HC0_3.out); (case side3 => repeat (first | exact (Kd.C_below HR1.out HB.out) | (with_reducible refine Kd.C_alloc ?_ _) | (with_reducible refine Kd.C_drewN ?_ _) | (with_reducible refine Kd.C_drew ?_))); (case side4 => exact HC1.out); rintro e w32 ⟨rfl, hb⟩; refine ⟨_, rfl, ?_⟩; have n0_ := Aside0.mk (blk_below (g := gb185) (o := .cells #[.int .i64 a0_0, .int .i64 a0_1, .int .i64 a0_2, .slice A0_3 l0_3.length c0_3] 24 (0, 0)) (by (with_reducible repeat (first | refine blk_drewN ?_ _ | refine blk_drew ?_ | refine blk_alloc ?_ _)); exact BK185.out) hb); have n1_ := Aside0.mk (below_step (by repeat (first | (with_reducible first | exact HB.out | apply below_alloc | apply pw_below_drewN | apply below_drew1 | refine below_set ?_ GE185.out) | exact HB.out)) hb); clear BK185; clear HB; have BK185 := n0_; have HB := n1_; clear n0_ n1_; (try clear hb); (try clear hb2); (try clear hk); (try clear hi)))
      go_ret
      exact ⟨by first | rfl | (simp [errW_none, errW_some] <;> rfl) | (simp [*, errW_none, errW_some] <;> rfl), by repeat (first | (with_reducible first | exact HB.out | apply below_alloc | apply pw_below_drewN | apply below_drew1 | refine below_set ?_ GE185.out) | exact HB.out)⟩
    · rw [if_neg c27] at H
      have c27b0 : (t187 == t188) = false := beq_eq_false_iff_ne.mpr c27
      have c27b1 : (t187 != t188) = true := bne_iff_ne.mpr c27
      obtain rfl := Option.some.inj H
      go_enter Try.func3, Try.ntmps3
      go_wp2_with (first | ((with_reducible refine gate_dst (N := 2) rfl ?_); refine box_event ?hg (N := 2) ?hd (cs := #[.int .i64 a0_0, .int .i64 a0_1, .int .i64 a0_2, .slice A0_3 l0_3.length c0_3]) (t := 24) ?hr ?_; (case hd => rfl); (case hg => rfl); (case hr => first | (go_simp; done) | (go_simp; rfl)); intro gb185 hg w33 hbox hb; have n0_ := Aside0.mk (below_step (by repeat (first | (with_reducible first | exact HB.out | apply below_alloc | apply pw_below_drewN | apply below_drew1) | exact HB.out)) hb); have n1_ := Aside0.mk (hbox); have n2_ := Aside0.mk ((by rw [hg]; exact (below_size (by repeat (first | (with_reducible first | exact HB.out | apply below_alloc | apply pw_below_drewN | apply below_drew1) | exact HB.out))) : w.heap.size ≤ gb185)); have n3_ := Aside0.mk ((by rw [hg]; exact (below_size (by repeat (first | (with_reducible first | exact HB.out | apply below_alloc | apply pw_below_drewN | apply below_drew1) | exact HB.out))) : w.heap.size ≤ gb185)); clear HB; have HB := n0_; have BK185 := n1_; have GW185 := n2_; have GE185 := n3_; clear n0_ n1_ n2_ n3_; clear hb hbox hg; have hcz34_0 : w33.cell? ⟨gb185, 0, none⟩ = some (.int .i64 a0_0) := (blk_cell BK185.out 0).trans rfl; have hcz34_1 : w33.cell? ⟨gb185, 1, none⟩ = some (.int .i64 a0_1) := (blk_cell BK185.out 1).trans rfl; have hcz34_2 : w33.cell? ⟨gb185, 2, none⟩ = some (.int .i64 a0_2) := (blk_cell BK185.out 2).trans rfl; have hcz34_3 : w33.cell? ⟨gb185, 3, none⟩ = some (.slice A0_3 l0_3.length c0_3) := (blk_cell BK185.out 3).trans rfl; have hfz34_0 := blk_frozen BK185.out 0; have hfz34_1 := blk_frozen BK185.out 1; have hfz34_2 := blk_frozen BK185.out 2; have hfz34_3 := blk_frozen BK185.out 3) | ((with_reducible refine gate_callee (f := 5) rfl ?_); refine goesL_ (some 14) rfl rfl Try.func5 (by kernel_rfl) rfl #[.agg #[.int .i64 a0_0, .int .i64 a0_1, .int .i64 a0_2, .slice A0_3 l0_3.length c0_3], .slice A1 l1.length c1] rfl (by (try simp only [List.map_toArray, List.map_cons, List.map_nil]); first | done | rfl | (simp only [List.length_drop, List.length_take]; rfl)) ?_; (with_reducible refine (table_Names.calls k a0_0 a0_1 a0_2 _ _ l0_3 _ _ l1 t186 t187 _ ?side1 ?side2 ?side3 ?side4 A3.out).mono ?_); (case side1 => repeat (first | exact (Kd.C_below HR0_3.out HB.out) | (with_reducible refine Kd.C_alloc ?_ _) | (with_reducible refine Kd.C_drewN ?_ _) | (with_reducible refine Kd.C_drew ?_))); (case side2 => exact HC0_3.out); (case side3 => repeat (first | exact (Kd.C_below HR1.out HB.out) | (with_reducible refine Kd.C_alloc ?_ _) | (with_reducible refine Kd.C_drewN ?_ _) | (with_reducible refine Kd.C_drew ?_))); (case side4 => exact HC1.out); rintro e w35 ⟨rfl, hb⟩; refine ⟨_, rfl, ?_⟩; have n0_ := Aside0.mk (blk_below (g := gb185) (o := .cells #[.int .i64 a0_0, .int .i64 a0_1, .int .i64 a0_2, .slice A0_3 l0_3.length c0_3] 24 (0, 0)) (by (with_reducible repeat (first | refine blk_drewN ?_ _ | refine blk_drew ?_ | refine blk_alloc ?_ _)); exact BK185.out) hb); have n1_ := Aside0.mk (below_step (by repeat (first | (with_reducible first | exact HB.out | apply below_alloc | apply pw_below_drewN | apply below_drew1 | refine below_set ?_ GE185.out) | exact HB.out)) hb); clear BK185; clear HB; have BK185 := n0_; have HB := n1_; clear n0_ n1_; (try clear hb); (try clear hb2); (try clear hk); (try clear hi); have hcz36_0 : w35.cell? ⟨gb185, 0, none⟩ = some (.int .i64 a0_0) := (blk_cell BK185.out 0).trans rfl; have hcz36_1 : w35.cell? ⟨gb185, 1, none⟩ = some (.int .i64 a0_1) := (blk_cell BK185.out 1).trans rfl; have hcz36_2 : w35.cell? ⟨gb185, 2, none⟩ = some (.int .i64 a0_2) := (blk_cell BK185.out 2).trans rfl; have hcz36_3 : w35.cell? ⟨gb185, 3, none⟩ = some (.slice A0_3 l0_3.length c0_3) := (blk_cell BK185.out 3).trans rfl; have hfz36_0 := blk_frozen BK185.out 0; have hfz36_1 := blk_frozen BK185.out 1; have hfz36_2 := blk_frozen BK185.out 2; have hfz36_3 := blk_frozen BK185.out 3) | ((with_reducible refine gate_callee (f := 6) rfl ?_); refine goesL_ (some 19) rfl rfl Try.func6 (by kernel_rfl) rfl #[.agg #[.int .i64 a0_0, .int .i64 a0_1, .int .i64 a0_2, .slice A0_3 l0_3.length c0_3], .slice A1 l1.length c1] rfl (by (try simp only [List.map_toArray, List.map_cons, List.map_nil]); first | done | rfl | (simp only [List.length_drop, List.length_take]; rfl)) ?_; (with_reducible refine (coppicerlaw_wordOf.calls k a0_0 a0_1 a0_2 _ _ l0_3 _ _ l1 t188 _ ?side1 ?side2 ?side3 ?side4 A4.out).mono ?_); (case side1 => repeat (first | exact (Kd.C_below HR0_3.out HB.out) | (with_reducible refine Kd.C_alloc ?_ _) | (with_reducible refine Kd.C_drewN ?_ _) | (with_reducible refine Kd.C_drew ?_))); (case side2 => exact HC0_3.out); (case side3 => repeat (first | exact (Kd.C_below HR1.out HB.out) | (with_reducible refine Kd.C_alloc ?_ _) | (with_reducible refine Kd.C_drewN ?_ _) | (with_reducible refine Kd.C_drew ?_))); (case side4 => exact HC1.out); rintro e w37 ⟨rfl, hb⟩; refine ⟨_, rfl, ?_⟩; have n0_ := Aside0.mk (blk_below (g := gb185) (o := .cells #[.int .i64 a0_0, .int .i64 a0_1, .int .i64 a0_2, .slice A0_3 l0_3.length c0_3] 24 (0, 0)) (by (with_reducible repeat (first | refine blk_drewN ?_ _ | refine blk_drew ?_ | refine blk_alloc ?_ _)); exact BK185.out) hb); have n1_ := Aside0.mk (below_step (by repeat (first | (with_reducible first | exact HB.out | apply below_alloc | apply pw_below_drewN | apply below_drew1 | refine below_set ?_ GE185.out) | exact HB.out)) hb); clear BK185; clear HB; have BK185 := n0_; have HB := n1_; clear n0_ n1_; (try clear hb); (try clear hb2); (try clear hk); (try clear hi)))
      go_ret
      exact ⟨by first | rfl | (simp [errW_none, errW_some] <;> rfl) | (simp [*, errW_none, errW_some] <;> rfl), by repeat (first | (with_reducible first | exact HB.out | apply below_alloc | apply pw_below_drewN | apply below_drew1 | refine below_set ?_ GE185.out) | exact HB.out)⟩

end Go.Proofs.Ytbehbngcofonmaa.PTableNames
