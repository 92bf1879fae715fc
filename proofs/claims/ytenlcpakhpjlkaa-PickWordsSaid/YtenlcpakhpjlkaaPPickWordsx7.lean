-- Written by a program of this session: a turn of the print kit's own.
import Derived.Test.YtenlcpakhpjlkaaPPickWordsx0
import Derived.Test.YtenlcpakhpjlkaaPPickWordsx3
import Derived.Test.YtenlcpakhpjlkaaPPickWordsx4
import Derived.Test.YtenlcpakhpjlkaaPPickWordsx5
import Derived.Test.YtenlcpakhpjlkaaPPickWordsx6
namespace Go.Proofs.Ytenlcpakhpjlkaa.PPickWords
open Go.RowKit Go.Proofs.YtenlcpakhpjlkaaW.PrintWords Go.Proofs.YtenlcpakhpjlkaaW.PrintLast Go.Proofs.YtenlcpakhpjlkaaW.PrintMore
attribute [local go_sem] max2_int min2_int max_two min_two max_three min_three max_four min_four   -- for this text's walks alone
set_option linter.unusedVariables false
set_option linter.unusedSimpArgs false

/-! ### coppicerlaw_PickWords: function 3 -/
mutual
def coppicerlaw_PickWords.j0 : Nat → List Int → List Int → Int → Int → Bool → Int → Int → Int → List (S40) → Option (Bool)
  | 0, _, _, _, _, _, _, _, _, _ => none
  | k + 1, x1, x5, x6, x7, x29, x153000, x153001, x153002, x153003 => if x29 = true then (coppicerlaw_PickWords.j1 k x1 x5 x6 1 x153000 x153001 x153002 x153003) else (coppicerlaw_PickWords.j1 k x1 x5 x6 x7 x153000 x153001 x153002 x153003)
def coppicerlaw_PickWords.j1 : Nat → List Int → List Int → Int → Int → Int → Int → Int → List (S40) → Option (Bool)
  | 0, _, _, _, _, _, _, _, _ => none
  | k + 1, x1, x5, x6, x7, x153000, x153001, x153002, x153003 => coppicerlaw_PickWords.l0 k x1 x5 x6 x7 x1 (x1.length : Int) 0 x153000 x153001 x153002 x153003
def coppicerlaw_PickWords.l0 : Nat → List Int → List Int → Int → Int → List Int → Int → Int → Int → Int → Int → List (S40) → Option (Bool)
  | 0, _, _, _, _, _, _, _, _, _, _, _ => none
  | k + 1, x1, x5, x6, x7, x30, x31, x32, x153000, x153001, x153002, x153003 => if x32 < x31 then (if 0 ≤ x32 then (if x32 < (x30.length : Int) then (if x7 = 0 then (if (rd x30 x32) < 0 then (coppicerlaw_PickWords.l0 k x1 x5 x6 4 x30 x31 (wrap64 (x32 + 1)) x153000 x153001 x153002 x153003) else (if (rd x30 x32) ≥ (x153003.length : Int) then (coppicerlaw_PickWords.l0 k x1 x5 x6 4 x30 x31 (wrap64 (x32 + 1)) x153000 x153001 x153002 x153003) else (coppicerlaw_PickWords.l0 k x1 x5 x6 x7 x30 x31 (wrap64 (x32 + 1)) x153000 x153001 x153002 x153003))) else (coppicerlaw_PickWords.l0 k x1 x5 x6 x7 x30 x31 (wrap64 (x32 + 1)) x153000 x153001 x153002 x153003)) else (none)) else (none)) else (if x7 = 0 then ((coppicerref_Follows.f k x153000 x153001 x153002 x153003 x1).bind fun bt159 => (coppicerlaw_PickWords.l1 k x5 x6 x7 bt159.1 bt159.2 (bt159.1.length : Int) 0 x153000 x153001 x153002 x153003)) else (if x6 = x7 then (some ((x5.length : Int) == 0)) else (some false)))
def coppicerlaw_PickWords.l1 : Nat → List Int → Int → Int → List Int → Bool → Int → Int → Int → Int → Int → List (S40) → Option (Bool)
  | 0, _, _, _, _, _, _, _, _, _, _, _ => none
  | k + 1, x5, x6, x7, x11, x12, x59, x60, x153000, x153001, x153002, x153003 => if x60 < x59 then (if 0 ≤ x60 then (if x60 < (x11.length : Int) then (if x12 = true then (coppicerlaw_PickWords.l1 k x5 x6 x7 x11 (decide ((rd x11 x60) < x153000)) x59 (wrap64 (x60 + 1)) x153000 x153001 x153002 x153003) else (coppicerlaw_PickWords.l1 k x5 x6 x7 x11 false x59 (wrap64 (x60 + 1)) x153000 x153001 x153002 x153003)) else (none)) else (none)) else (if x12 = true then (if (x11.length : Int) > 60 then (if x6 = 1 then (some ((x5.length : Int) == 0)) else (some false)) else (if x7 = 0 then (if x6 = 0 then ((coppicerref_Ints.f k x5 x11).bind fun t164 => (some t164)) else (some false)) else (if x6 = x7 then (some ((x5.length : Int) == 0)) else (some false)))) else (if x6 = 3 then (some ((x5.length : Int) == 0)) else (some false)))
end
def coppicerlaw_PickWords.f (k : Nat) (a0_0 : Int) (a0_1 : Int) (a0_2 : Int) (l0_3 : List (S40)) (l1 : List Int) : Option (Bool) := (pick_Word.f k a0_0 a0_1 a0_2 l0_3 l1).bind fun bt153 => ((coppicerref_GrammarCheck.f k a0_0 a0_1 a0_2 l0_3).bind fun t157 => (if t157 = 0 then (coppicerlaw_PickWords.j0 k l1 bt153.1 bt153.2 t157 (decide ((l1.length : Int) > 60)) a0_0 a0_1 a0_2 l0_3) else (coppicerlaw_PickWords.j0 k l1 bt153.1 bt153.2 t157 false a0_0 a0_1 a0_2 l0_3)))
theorem coppicerlaw_PickWords.mono_l : ∀ k, (∀ y0 y1 y2 y3 y4 y5 y6 y7 y8, LeO (coppicerlaw_PickWords.j0 k y0 y1 y2 y3 y4 y5 y6 y7 y8) (coppicerlaw_PickWords.j0 (k + 1) y0 y1 y2 y3 y4 y5 y6 y7 y8)) ∧ (∀ y0 y1 y2 y3 y4 y5 y6 y7, LeO (coppicerlaw_PickWords.j1 k y0 y1 y2 y3 y4 y5 y6 y7) (coppicerlaw_PickWords.j1 (k + 1) y0 y1 y2 y3 y4 y5 y6 y7)) ∧ (∀ y0 y1 y2 y3 y4 y5 y6 y7 y8 y9 y10, LeO (coppicerlaw_PickWords.l0 k y0 y1 y2 y3 y4 y5 y6 y7 y8 y9 y10) (coppicerlaw_PickWords.l0 (k + 1) y0 y1 y2 y3 y4 y5 y6 y7 y8 y9 y10)) ∧ (∀ y0 y1 y2 y3 y4 y5 y6 y7 y8 y9 y10, LeO (coppicerlaw_PickWords.l1 k y0 y1 y2 y3 y4 y5 y6 y7 y8 y9 y10) (coppicerlaw_PickWords.l1 (k + 1) y0 y1 y2 y3 y4 y5 y6 y7 y8 y9 y10))
  | 0 => ⟨fun _ _ _ _ _ _ _ _ _ r h => by simp [coppicerlaw_PickWords.j0] at h, fun _ _ _ _ _ _ _ _ r h => by simp [coppicerlaw_PickWords.j1] at h, fun _ _ _ _ _ _ _ _ _ _ _ r h => by simp [coppicerlaw_PickWords.l0] at h, fun _ _ _ _ _ _ _ _ _ _ _ r h => by simp [coppicerlaw_PickWords.l1] at h⟩
  | k + 1 => by
    obtain ⟨ih0, ih1, ih2, ih3⟩ := coppicerlaw_PickWords.mono_l k
    refine ⟨?_, ?_, ?_, ?_⟩
    · intro y0 y1 y2 y3 y4 y5 y6 y7 y8
      unfold coppicerlaw_PickWords.j0
      repeat' first
      | (with_reducible exact ih0 _ _ _ _ _ _ _ _ _)
      | (with_reducible exact ih1 _ _ _ _ _ _ _ _)
      | (with_reducible exact ih2 _ _ _ _ _ _ _ _ _ _ _)
      | (with_reducible exact ih3 _ _ _ _ _ _ _ _ _ _ _)
      | (with_reducible exact coppicerref_Follows.mono _ _ _ _ _ _)
      | (with_reducible exact coppicerref_GrammarCheck.mono _ _ _ _ _)
      | (with_reducible exact coppicerref_Ints.mono _ _ _)
      | (with_reducible exact pick_Word.mono _ _ _ _ _ _)
      | (with_reducible exact LeO.refl _)
      | (with_reducible exact LeO.none _)
      | (with_reducible refine LeO.ite ?_ ?_)
      | (with_reducible refine LeO.bind ?_ (fun _ => ?_))
      | exact ih0 _ _ _ _ _ _ _ _ _
      | exact ih1 _ _ _ _ _ _ _ _
      | exact ih2 _ _ _ _ _ _ _ _ _ _ _
      | exact ih3 _ _ _ _ _ _ _ _ _ _ _
      | exact coppicerref_Follows.mono _ _ _ _ _ _
      | exact coppicerref_GrammarCheck.mono _ _ _ _ _
      | exact coppicerref_Ints.mono _ _ _
      | exact pick_Word.mono _ _ _ _ _ _
      | exact LeO.none _
      | refine LeO.ite ?_ ?_
      | refine LeO.bind ?_ (fun _ => ?_)
    · intro y0 y1 y2 y3 y4 y5 y6 y7
      unfold coppicerlaw_PickWords.j1
      repeat' first
      | (with_reducible exact ih0 _ _ _ _ _ _ _ _ _)
      | (with_reducible exact ih1 _ _ _ _ _ _ _ _)
      | (with_reducible exact ih2 _ _ _ _ _ _ _ _ _ _ _)
      | (with_reducible exact ih3 _ _ _ _ _ _ _ _ _ _ _)
      | (with_reducible exact coppicerref_Follows.mono _ _ _ _ _ _)
      | (with_reducible exact coppicerref_GrammarCheck.mono _ _ _ _ _)
      | (with_reducible exact coppicerref_Ints.mono _ _ _)
      | (with_reducible exact pick_Word.mono _ _ _ _ _ _)
      | (with_reducible exact LeO.refl _)
      | (with_reducible exact LeO.none _)
      | (with_reducible refine LeO.ite ?_ ?_)
      | (with_reducible refine LeO.bind ?_ (fun _ => ?_))
      | exact ih0 _ _ _ _ _ _ _ _ _
      | exact ih1 _ _ _ _ _ _ _ _
      | exact ih2 _ _ _ _ _ _ _ _ _ _ _
      | exact ih3 _ _ _ _ _ _ _ _ _ _ _
      | exact coppicerref_Follows.mono _ _ _ _ _ _
      | exact coppicerref_GrammarCheck.mono _ _ _ _ _
      | exact coppicerref_Ints.mono _ _ _
      | exact pick_Word.mono _ _ _ _ _ _
      | exact LeO.none _
      | refine LeO.ite ?_ ?_
      | refine LeO.bind ?_ (fun _ => ?_)
    · intro y0 y1 y2 y3 y4 y5 y6 y7 y8 y9 y10
      unfold coppicerlaw_PickWords.l0
      repeat' first
      | (with_reducible exact ih0 _ _ _ _ _ _ _ _ _)
      | (with_reducible exact ih1 _ _ _ _ _ _ _ _)
      | (with_reducible exact ih2 _ _ _ _ _ _ _ _ _ _ _)
      | (with_reducible exact ih3 _ _ _ _ _ _ _ _ _ _ _)
      | (with_reducible exact coppicerref_Follows.mono _ _ _ _ _ _)
      | (with_reducible exact coppicerref_GrammarCheck.mono _ _ _ _ _)
      | (with_reducible exact coppicerref_Ints.mono _ _ _)
      | (with_reducible exact pick_Word.mono _ _ _ _ _ _)
      | (with_reducible exact LeO.refl _)
      | (with_reducible exact LeO.none _)
      | (with_reducible refine LeO.ite ?_ ?_)
      | (with_reducible refine LeO.bind ?_ (fun _ => ?_))
      | exact ih0 _ _ _ _ _ _ _ _ _
      | exact ih1 _ _ _ _ _ _ _ _
      | exact ih2 _ _ _ _ _ _ _ _ _ _ _
      | exact ih3 _ _ _ _ _ _ _ _ _ _ _
      | exact coppicerref_Follows.mono _ _ _ _ _ _
      | exact coppicerref_GrammarCheck.mono _ _ _ _ _
      | exact coppicerref_Ints.mono _ _ _
      | exact pick_Word.mono _ _ _ _ _ _
      | exact LeO.none _
      | refine LeO.ite ?_ ?_
      | refine LeO.bind ?_ (fun _ => ?_)
    · intro y0 y1 y2 y3 y4 y5 y6 y7 y8 y9 y10
      unfold coppicerlaw_PickWords.l1
      repeat' first
      | (with_reducible exact ih0 _ _ _ _ _ _ _ _ _)
      | (with_reducible exact ih1 _ _ _ _ _ _ _ _)
      | (with_reducible exact ih2 _ _ _ _ _ _ _ _ _ _ _)
      | (with_reducible exact ih3 _ _ _ _ _ _ _ _ _ _ _)
      | (with_reducible exact coppicerref_Follows.mono _ _ _ _ _ _)
      | (with_reducible exact coppicerref_GrammarCheck.mono _ _ _ _ _)
      | (with_reducible exact coppicerref_Ints.mono _ _ _)
      | (with_reducible exact pick_Word.mono _ _ _ _ _ _)
      | (with_reducible exact LeO.refl _)
      | (with_reducible exact LeO.none _)
      | (with_reducible refine LeO.ite ?_ ?_)
      | (with_reducible refine LeO.bind ?_ (fun _ => ?_))
      | exact ih0 _ _ _ _ _ _ _ _ _
      | exact ih1 _ _ _ _ _ _ _ _
      | exact ih2 _ _ _ _ _ _ _ _ _ _ _
      | exact ih3 _ _ _ _ _ _ _ _ _ _ _
      | exact coppicerref_Follows.mono _ _ _ _ _ _
      | exact coppicerref_GrammarCheck.mono _ _ _ _ _
      | exact coppicerref_Ints.mono _ _ _
      | exact pick_Word.mono _ _ _ _ _ _
      | exact LeO.none _
      | refine LeO.ite ?_ ?_
      | refine LeO.bind ?_ (fun _ => ?_)
theorem coppicerlaw_PickWords.mono : ∀ a0 a1 a2 a3 a4 k, LeO (coppicerlaw_PickWords.f k a0 a1 a2 a3 a4) (coppicerlaw_PickWords.f (k + 1) a0 a1 a2 a3 a4) := by
  intro a0 a1 a2 a3 a4 k
  obtain ⟨ih0, ih1, ih2, ih3⟩ := coppicerlaw_PickWords.mono_l k
  unfold coppicerlaw_PickWords.f
  repeat' first
      | (with_reducible exact ih0 _ _ _ _ _ _ _ _ _)
      | (with_reducible exact ih1 _ _ _ _ _ _ _ _)
      | (with_reducible exact ih2 _ _ _ _ _ _ _ _ _ _ _)
      | (with_reducible exact ih3 _ _ _ _ _ _ _ _ _ _ _)
      | (with_reducible exact coppicerref_Follows.mono _ _ _ _ _ _)
      | (with_reducible exact coppicerref_GrammarCheck.mono _ _ _ _ _)
      | (with_reducible exact coppicerref_Ints.mono _ _ _)
      | (with_reducible exact pick_Word.mono _ _ _ _ _ _)
      | (with_reducible exact LeO.refl _)
      | (with_reducible exact LeO.none _)
      | (with_reducible refine LeO.ite ?_ ?_)
      | (with_reducible refine LeO.bind ?_ (fun _ => ?_))
      | exact ih0 _ _ _ _ _ _ _ _ _
      | exact ih1 _ _ _ _ _ _ _ _
      | exact ih2 _ _ _ _ _ _ _ _ _ _ _
      | exact ih3 _ _ _ _ _ _ _ _ _ _ _
      | exact coppicerref_Follows.mono _ _ _ _ _ _
      | exact coppicerref_GrammarCheck.mono _ _ _ _ _
      | exact coppicerref_Ints.mono _ _ _
      | exact pick_Word.mono _ _ _ _ _ _
      | exact LeO.none _
      | refine LeO.ite ?_ ?_
      | refine LeO.bind ?_ (fun _ => ?_)
set_option maxHeartbeats 8000000 in
set_option maxRecDepth 100000 in
theorem coppicerlaw_PickWords.calls (k : Nat) (a0_0 : Int) (a0_1 : Int) (a0_2 : Int) (A0_3 : Option Addr) (c0_3 : Nat) (l0_3 : List (S40)) (A1 : Option Addr) (c1 : Nat) (l1 : List Int) (r : Bool) (w : World) (hr0_3 : Kd.C k40 w A0_3 l0_3.length l0_3) (hc0_3 : l0_3.length ≤ c0_3) (hr1 : Kd.C (Kd.int .i64) w A1 l1.length l1) (hc1 : l1.length ≤ c1) (h : coppicerlaw_PickWords.f k a0_0 a0_1 a0_2 l0_3 l1 = some r) :
    Calls Try.prog 3 #[.agg #[.int .i64 a0_0, .int .i64 a0_1, .int .i64 a0_2, .slice A0_3 l0_3.length c0_3], .slice A1 l1.length c1] w fun e w' => e = .returned (.bool r) ∧ Below w.heap.size w w' := by
  have hu24 := Try.underlying24
  have HR0_3 := Aside0.mk hr0_3
  have HC0_3 := Aside0.mk hc0_3
  clear hr0_3 hc0_3
  have HR1 := Aside0.mk hr1
  have HC1 := Aside0.mk hc1
  clear hr1 hc1
  have HB := Aside0.mk (Below.refl w.heap.size w)
  have H : ((pick_Word.f k a0_0 a0_1 a0_2 l0_3 l1).bind fun bt153 => ((coppicerref_GrammarCheck.f k a0_0 a0_1 a0_2 l0_3).bind fun t157 => (if t157 = 0 then (coppicerlaw_PickWords.j0 k l1 bt153.1 bt153.2 t157 (decide ((l1.length : Int) > 60)) a0_0 a0_1 a0_2 l0_3) else (coppicerlaw_PickWords.j0 k l1 bt153.1 bt153.2 t157 false a0_0 a0_1 a0_2 l0_3)))) = some r := h
  clear h
  replace H := Option.bind_eq_some_iff.mp H
  obtain ⟨⟨t153, t156⟩, A30, H⟩ := H
  replace H : ((coppicerref_GrammarCheck.f k a0_0 a0_1 a0_2 l0_3).bind fun t157 => (if t157 = 0 then (coppicerlaw_PickWords.j0 k l1 t153 t156 t157 (decide ((l1.length : Int) > 60)) a0_0 a0_1 a0_2 l0_3) else (coppicerlaw_PickWords.j0 k l1 t153 t156 t157 false a0_0 a0_1 a0_2 l0_3))) = some r := H
  have A3 := Aside0.mk A30
  clear A30
  replace H := Option.bind_eq_some_iff.mp H
  obtain ⟨t157, A40, H⟩ := H
  replace H : (if t157 = 0 then (coppicerlaw_PickWords.j0 k l1 t153 t156 t157 (decide ((l1.length : Int) > 60)) a0_0 a0_1 a0_2 l0_3) else (coppicerlaw_PickWords.j0 k l1 t153 t156 t157 false a0_0 a0_1 a0_2 l0_3)) = some r := H
  have A4 := Aside0.mk A40
  clear A40
  have HC5 := Aside0.mk H
  clear H
  go_enter Try.func3, Try.ntmps3
  go_upto_region 3 with (first | ((with_reducible refine gate_dst (N := 2) rfl ?_); (try (refine gate_guard (by rfl) ?_; dsimp only)); refine box_event ?hg (N := 2) ?hd (cs := #[.int .i64 a0_0, .int .i64 a0_1, .int .i64 a0_2, .slice A0_3 l0_3.length c0_3]) (t := 24) ?hr ?_; (case hd => rfl); (case hg => rfl); (case hr => first | (go_simp; done) | (go_simp; rfl)); intro gb152 hg w6 hbox hb; have n0_ := Aside0.mk (below_step (by repeat (first | (with_reducible first | exact HB.out | apply below_alloc | apply pw_below_drewN | apply below_drew1) | exact HB.out)) hb); have n1_ := Aside0.mk (hbox); have n2_ := Aside0.mk ((by rw [hg]; exact (below_size (by repeat (first | (with_reducible first | exact HB.out | apply below_alloc | apply pw_below_drewN | apply below_drew1) | exact HB.out))) : w.heap.size ≤ gb152)); have n3_ := Aside0.mk ((by rw [hg]; exact (below_size (by repeat (first | (with_reducible first | exact HB.out | apply below_alloc | apply pw_below_drewN | apply below_drew1) | exact HB.out))) : w.heap.size ≤ gb152)); clear HB; have HB := n0_; have BK152 := n1_; have GW152 := n2_; have GE152 := n3_; clear n0_ n1_ n2_ n3_; clear hb hbox hg; have hcz7_0 : w6.cell? ⟨gb152, 0, none⟩ = some (.int .i64 a0_0) := (blk_cell BK152.out 0).trans rfl; have hcz7_1 : w6.cell? ⟨gb152, 1, none⟩ = some (.int .i64 a0_1) := (blk_cell BK152.out 1).trans rfl; have hcz7_2 : w6.cell? ⟨gb152, 2, none⟩ = some (.int .i64 a0_2) := (blk_cell BK152.out 2).trans rfl; have hcz7_3 : w6.cell? ⟨gb152, 3, none⟩ = some (.slice A0_3 l0_3.length c0_3) := (blk_cell BK152.out 3).trans rfl; have hfz7_0 := blk_frozen BK152.out 0; have hfz7_1 := blk_frozen BK152.out 1; have hfz7_2 := blk_frozen BK152.out 2; have hfz7_3 := blk_frozen BK152.out 3) | ((with_reducible refine gate_callee (f := 4) rfl ?_); refine goesL_ (some 18) rfl rfl Try.func4 (by kernel_rfl) rfl #[.agg #[.int .i64 a0_0, .int .i64 a0_1, .int .i64 a0_2, .slice A0_3 l0_3.length c0_3], .slice A1 l1.length c1] rfl (by (try simp only [List.map_toArray, List.map_cons, List.map_nil]); first | done | rfl | (simp only [List.length_drop, List.length_take]; rfl)) ?_; (with_reducible refine (pick_Word.calls k a0_0 a0_1 a0_2 _ _ l0_3 _ _ l1 t153 t156 _ ?side1 ?side2 ?side3 ?side4 A3.out).mono ?_); (case side1 => repeat (first | exact (Kd.C_below HR0_3.out HB.out) | (with_reducible refine Kd.C_alloc ?_ _) | (with_reducible refine Kd.C_drewN ?_ _) | (with_reducible refine Kd.C_drew ?_))); (case side2 => exact HC0_3.out); (case side3 => repeat (first | exact (Kd.C_below HR1.out HB.out) | (with_reducible refine Kd.C_alloc ?_ _) | (with_reducible refine Kd.C_drewN ?_ _) | (with_reducible refine Kd.C_drew ?_))); (case side4 => exact HC1.out); rintro e w8 ⟨v154, rfl, ho0, hb⟩; refine ⟨_, rfl, ?_⟩; have n0_ := Aside0.mk (Kd.R_lower ho0 (below_size (by repeat (first | (with_reducible first | exact HB.out | apply below_alloc | apply pw_below_drewN | apply below_drew1 | refine below_set ?_ GE152.out) | exact HB.out)))); have n1_ := Aside0.mk (blk_below (g := gb152) (o := .cells #[.int .i64 a0_0, .int .i64 a0_1, .int .i64 a0_2, .slice A0_3 l0_3.length c0_3] 24 (0, 0)) (by (with_reducible repeat (first | refine blk_drewN ?_ _ | refine blk_drew ?_ | refine blk_alloc ?_ _)); exact BK152.out) hb); have n2_ := Aside0.mk (below_step (by repeat (first | (with_reducible first | exact HB.out | apply below_alloc | apply pw_below_drewN | apply below_drew1 | refine below_set ?_ GE152.out) | exact HB.out)) hb); clear BK152; clear HB; have HO155 := n0_; have BK152 := n1_; have HB := n2_; clear n0_ n1_ n2_; (try clear hb); (try clear hb2); (try clear hk); (try clear hi); (try clear ho0); have hcz9_0 : w8.cell? ⟨gb152, 0, none⟩ = some (.int .i64 a0_0) := (blk_cell BK152.out 0).trans rfl; have hcz9_1 : w8.cell? ⟨gb152, 1, none⟩ = some (.int .i64 a0_1) := (blk_cell BK152.out 1).trans rfl; have hcz9_2 : w8.cell? ⟨gb152, 2, none⟩ = some (.int .i64 a0_2) := (blk_cell BK152.out 2).trans rfl; have hcz9_3 : w8.cell? ⟨gb152, 3, none⟩ = some (.slice A0_3 l0_3.length c0_3) := (blk_cell BK152.out 3).trans rfl; have hfz9_0 := blk_frozen BK152.out 0; have hfz9_1 := blk_frozen BK152.out 1; have hfz9_2 := blk_frozen BK152.out 2; have hfz9_3 := blk_frozen BK152.out 3) | ((with_reducible refine gate_callee (f := 5) rfl ?_); refine goesL_ (some 22) rfl rfl Try.func5 (by kernel_rfl) rfl #[.agg #[.int .i64 a0_0, .int .i64 a0_1, .int .i64 a0_2, .slice A0_3 l0_3.length c0_3]] rfl (by (try simp only [List.map_toArray, List.map_cons, List.map_nil]); first | done | rfl | (simp only [List.length_drop, List.length_take]; rfl)) ?_; (with_reducible refine (coppicerref_GrammarCheck.calls k a0_0 a0_1 a0_2 _ _ l0_3 t157 _ ?side1 ?side2 A4.out).mono ?_); (case side1 => repeat (first | exact (Kd.C_below HR0_3.out HB.out) | (with_reducible refine Kd.C_alloc ?_ _) | (with_reducible refine Kd.C_drewN ?_ _) | (with_reducible refine Kd.C_drew ?_))); (case side2 => exact HC0_3.out); rintro e w10 ⟨rfl, hb⟩; refine ⟨_, rfl, ?_⟩; have n0_ := Aside0.mk (Kd.R_below (by (with_reducible repeat (first | apply Kd.R_alloc | apply Kd.R_drewN | apply Kd.R_drew)); exact HO155.out) hb); have n1_ := Aside0.mk (blk_below (g := gb152) (o := .cells #[.int .i64 a0_0, .int .i64 a0_1, .int .i64 a0_2, .slice A0_3 l0_3.length c0_3] 24 (0, 0)) (by (with_reducible repeat (first | refine blk_drewN ?_ _ | refine blk_drew ?_ | refine blk_alloc ?_ _)); exact BK152.out) hb); have n2_ := Aside0.mk (below_step (by repeat (first | (with_reducible first | exact HB.out | apply below_alloc | apply pw_below_drewN | apply below_drew1 | refine below_set ?_ GE152.out) | exact HB.out)) hb); clear HO155; clear BK152; clear HB; have HO155 := n0_; have BK152 := n1_; have HB := n2_; clear n0_ n1_ n2_; (try clear hb); (try clear hb2); (try clear hk); (try clear hi)))
  (try simp only [Act.put, List.setIfInBounds_toArray, List.set_cons_zero, List.set_cons_succ])
  go_cut [29] (fun v29 wc => ∃ (kq : Nat) (x29_4 : Bool), v29 = .bool x29_4 ∧ Aside0 (coppicerlaw_PickWords.j0 kq l1 t153 t156 t157 x29_4 a0_0 a0_1 a0_2 l0_3 = some r) ∧ Aside0 (kq ≤ k) ∧ Aside0 (Kd.R (Kd.int .i64) 3 wc w.heap.size (fun _ => True) v154 t153) ∧ Aside0 (wc.heap[gb152]? = some (.cells #[.int .i64 a0_0, .int .i64 a0_1, .int .i64 a0_2, (.slice A0_3 l0_3.length c0_3)] 24 (0, 0))) ∧ Aside0 (Below w.heap.size w wc))
  case first =>
    have H := HC5.out
    clear HC5
    by_cases c11 : t157 = 0
    · rw [if_pos c11] at H
      have c11b0 : (t157 == 0) = true := beq_iff_eq.mpr c11
      have c11b1 : (t157 != 0) = false := bne_eq_false_iff_eq.mpr c11
      clear c11
      (first | rw [c11b0] | (simp only [i64_w, i32_w]; rw [c11b0]) | skip)
      have H' := Aside0.mk H
      clear H
      go_wp2
      go_meet
      case rel => exact ⟨_, (decide ((l1.length : Int) > 60)), (by first | rfl | (simp; done) | (simp [*]; done)), H', ⟨by first | omega | exact Nat.le_refl _⟩, ⟨by (with_reducible repeat (first | apply Kd.R_alloc | apply Kd.R_drewN | apply Kd.R_drew)); exact HO155.out⟩, ⟨by (with_reducible repeat (first | refine blk_drewN ?_ _ | refine blk_drew ?_ | refine blk_alloc ?_ _)); exact BK152.out⟩, ⟨by repeat (first | (with_reducible first | exact HB.out | apply below_alloc | apply pw_below_drewN | apply below_drew1 | refine below_set ?_ GE152.out) | exact HB.out)⟩⟩
    · rw [if_neg c11] at H
      have c11b0 : (t157 == 0) = false := beq_eq_false_iff_ne.mpr c11
      have c11b1 : (t157 != 0) = true := bne_iff_ne.mpr c11
      (first | rw [c11b0] | (simp only [i64_w, i32_w]; rw [c11b0]) | skip)
      have H' := Aside0.mk H
      clear H
      go_wp2
      go_meet
      case rel => exact ⟨_, (false), (by first | rfl | (simp; done) | (simp [*]; done)), H', ⟨by first | omega | exact Nat.le_refl _⟩, ⟨by (with_reducible repeat (first | apply Kd.R_alloc | apply Kd.R_drewN | apply Kd.R_drew)); exact HO155.out⟩, ⟨by (with_reducible repeat (first | refine blk_drewN ?_ _ | refine blk_drew ?_ | refine blk_alloc ?_ _)); exact BK152.out⟩, ⟨by repeat (first | (with_reducible first | exact HB.out | apply below_alloc | apply pw_below_drewN | apply below_drew1 | refine below_set ?_ GE152.out) | exact HB.out)⟩⟩
  case rest =>
    clear HC5
    try clear c1
    try clear p2
    try clear c3
    try clear c4
    try clear c5
    try clear c11
    try clear c11b0
    try clear c11b1
    try clear hcz7_0
    try clear hcz7_1
    try clear hcz7_2
    try clear hcz7_3
    try clear hcz9_0
    try clear hcz9_1
    try clear hcz9_2
    try clear hcz9_3
    try clear hfz7_0
    try clear hfz7_1
    try clear hfz7_2
    try clear hfz7_3
    try clear hfz9_0
    try clear hfz9_1
    try clear hfz9_2
    try clear hfz9_3
    obtain ⟨kq, x29_4, rfl, HA, HJ4, HO_5, BK152, HB⟩ := hcut
    cases kq with
    | zero => exact absurd HA.out (by simp [coppicerlaw_PickWords.j0])
    | succ kj4 =>
      have H := HA.out
      clear HA
      simp only [coppicerlaw_PickWords.j0] at H
      have HC12 := Aside0.mk H
      clear H
      go_upto_if 29 with (fail)
      go_cut [7] (fun v7 wc => ∃ (kq : Nat) (x7_11 : Int), v7 = .int .i64 x7_11 ∧ Aside0 (coppicerlaw_PickWords.j1 kq l1 t153 t156 x7_11 a0_0 a0_1 a0_2 l0_3 = some r) ∧ Aside0 (kq ≤ kj4) ∧ Aside0 (Kd.R (Kd.int .i64) 3 wc w.heap.size (fun _ => True) v154 t153) ∧ Aside0 (wc.heap[gb152]? = some (.cells #[.int .i64 a0_0, .int .i64 a0_1, .int .i64 a0_2, (.slice A0_3 l0_3.length c0_3)] 24 (0, 0))) ∧ Aside0 (Below w.heap.size w wc))
      case first =>
        have H := HC12.out
        clear HC12
        by_cases c13 : x29_4 = true
        · subst c13
          have H1 : (coppicerlaw_PickWords.j1 kj4 l1 t153 t156 1 a0_0 a0_1 a0_2 l0_3) = some r := by rw [if_pos rfl] at H; exact H
          clear H
          have H := H1
          clear H1
          have H' := Aside0.mk H
          clear H
          go_wp2
          go_meet
          case rel => exact ⟨_, (1), (by first | rfl | (simp; done) | (simp [*]; done)), H', ⟨by have := HJ4.out; first | omega | exact Nat.le_refl _⟩, ⟨by (with_reducible repeat (first | apply Kd.R_alloc | apply Kd.R_drewN | apply Kd.R_drew)); exact HO_5.out⟩, ⟨by (with_reducible repeat (first | refine blk_drewN ?_ _ | refine blk_drew ?_ | refine blk_alloc ?_ _)); exact BK152.out⟩, ⟨by repeat (first | (with_reducible first | exact HB.out | apply below_alloc | apply pw_below_drewN | apply below_drew1 | refine below_set ?_ GE152.out) | exact HB.out)⟩⟩
        · replace c13 := Bool.eq_false_iff.mpr c13
          subst c13
          have H1 : (coppicerlaw_PickWords.j1 kj4 l1 t153 t156 t157 a0_0 a0_1 a0_2 l0_3) = some r := by rw [if_neg (show ¬ (false = true) by decide)] at H; exact H
          clear H
          have H := H1
          clear H1
          have H' := Aside0.mk H
          clear H
          go_wp2
          go_meet
          case rel => exact ⟨_, (t157), (by first | rfl | (simp; done) | (simp [*]; done)), H', ⟨by have := HJ4.out; first | omega | exact Nat.le_refl _⟩, ⟨by (with_reducible repeat (first | apply Kd.R_alloc | apply Kd.R_drewN | apply Kd.R_drew)); exact HO_5.out⟩, ⟨by (with_reducible repeat (first | refine blk_drewN ?_ _ | refine blk_drew ?_ | refine blk_alloc ?_ _)); exact BK152.out⟩, ⟨by repeat (first | (with_reducible first | exact HB.out | apply below_alloc | apply pw_below_drewN | apply below_drew1 | refine below_set ?_ GE152.out) | exact HB.out)⟩⟩
      case rest =>
        clear HC12
        try clear c1
        try clear p2
        try clear c3
        try clear c4
        try clear c5
        try clear c11
        try clear c11b0
        try clear c11b1
        try clear c13
        try clear hcz7_0
        try clear hcz7_1
        try clear hcz7_2
        try clear hcz7_3
        try clear hcz9_0
        try clear hcz9_1
        try clear hcz9_2
        try clear hcz9_3
        try clear hfz7_0
        try clear hfz7_1
        try clear hfz7_2
        try clear hfz7_3
        try clear hfz9_0
        try clear hfz9_1
        try clear hfz9_2
        try clear hfz9_3
        try clear p2
        obtain ⟨kq, x7_11, rfl, HA, HJ11, HO_5, BK152, HB⟩ := hcut
        cases kq with
        | zero => exact absurd HA.out (by simp [coppicerlaw_PickWords.j1])
        | succ kj11 =>
          have H := HA.out
          clear HA
          simp only [coppicerlaw_PickWords.j1] at H
          have H' := Aside0.mk H
          clear H
          go_wp2
          go_loopg [7, 32] kj11 (fun kq v7 v32 w' => ∃ (x7_3 : Int) (x32_3 : Int), v7 = .int .i64 x7_3 ∧ v32 = .int .i64 x32_3 ∧ Aside0 (coppicerlaw_PickWords.l0 kq l1 t153 t156 x7_3 l1 (l1.length : Int) x32_3 a0_0 a0_1 a0_2 l0_3 = some r) ∧ Aside0 (kq ≤ kj11) ∧ Aside0 (Kd.R (Kd.int .i64) 3 w' w.heap.size (fun _ => True) v154 t153) ∧ Aside0 (w'.heap[gb152]? = some (.cells #[.int .i64 a0_0, .int .i64 a0_1, .int .i64 a0_2, (.slice A0_3 l0_3.length c0_3)] 24 (0, 0))) ∧ Aside0 (Below w.heap.size w w'))
          case atStart => exact ⟨(x7_11), (0), (by first | rfl | (simp; done) | (simp [*]; done)), (by first | rfl | (simp; done) | (simp [*]; done)), H', ⟨Nat.le_refl _⟩, ⟨by (with_reducible repeat (first | apply Kd.R_alloc | apply Kd.R_drewN | apply Kd.R_drew)); exact HO_5.out⟩, ⟨by (with_reducible repeat (first | refine blk_drewN ?_ _ | refine blk_drew ?_ | refine blk_alloc ?_ _)); exact BK152.out⟩, ⟨by repeat (first | (with_reducible first | exact HB.out | apply below_alloc | apply pw_below_drewN | apply below_drew1 | refine below_set ?_ GE152.out) | exact HB.out)⟩⟩
          case round =>
            clear H'
            try clear c1
            try clear p2
            try clear c3
            try clear c4
            try clear c5
            try clear c11
            try clear c11b0
            try clear c11b1
            try clear c13
            try clear hcz7_0
            try clear hcz7_1
            try clear hcz7_2
            try clear hcz7_3
            try clear hcz9_0
            try clear hcz9_1
            try clear hcz9_2
            try clear hcz9_3
            try clear hfz7_0
            try clear hfz7_1
            try clear hfz7_2
            try clear hfz7_3
            try clear hfz9_0
            try clear hfz9_1
            try clear hfz9_2
            try clear hfz9_3
            try clear p2
            obtain ⟨x7_3, x32_3, rfl, rfl, HA, HK3, HO_5, BK152, HB⟩ := hrel
            cases gk with
            | zero => exact absurd HA.out (by simp [coppicerlaw_PickWords.l0])
            | succ k3 =>
              have H := HA.out
              clear HA
              simp only [coppicerlaw_PickWords.l0] at H
              by_cases c14 : x32_3 < (l1.length : Int)
              · rw [if_pos c14] at H
                have c14b0 : decide (x32_3 < (l1.length : Int)) = true := decide_eq_true c14
                clear c14
                by_cases c15 : 0 ≤ x32_3
                · rw [if_pos c15] at H
                  have c15b0 : decide (0 ≤ x32_3) = true := decide_eq_true c15
                  clear c15
                  by_cases c16 : x32_3 < (l1.length : Int)
                  · rw [if_pos c16] at H
                    have c16b0 : decide (x32_3 < (l1.length : Int)) = true := decide_eq_true c16
                    clear c16
                    by_cases c17 : x7_3 = 0
                    · rw [if_pos c17] at H
                      have c17b0 : (x7_3 == 0) = true := beq_iff_eq.mpr c17
                      have c17b1 : (x7_3 != 0) = false := bne_eq_false_iff_eq.mpr c17
                      clear c17
                      by_cases c18 : (rd l1 x32_3) < 0
                      · rw [if_pos c18] at H
                        have c18b0 : decide ((rd l1 x32_3) < 0) = true := decide_eq_true c18
                        clear c18
                        have H' := Aside0.mk H
                        clear H
                        have p158 : 0 ≤ (x32_3 : Int) := of_decide_eq_true (by first | (with_reducible assumption) | assumption)
                        have q158 : x32_3 < (l1.length : Int) := of_decide_eq_true (by first | (with_reducible assumption) | assumption)
                        obtain ⟨ad158, e158, hx158_0⟩ := Kd.at_int HR1.out x32_3 p158 q158
                        cases e158
                        replace hx158_0 := (HB.out.cell (World.block_lt_of_cell? w _ hx158_0)).trans hx158_0
                        replace p158 := eq_true p158
                        replace q158 := eq_true q158
                        go_wp2
                        go_roundg k3
                        case measure => have := HJ4.out; have := HJ11.out; have := HK3.out; omega
                        case rel => exact ⟨(4), (wrap64 (x32_3 + 1)), (by first | rfl | (simp; done) | (simp [*]; done)), (by first | rfl | (simp; done) | (simp [*]; done)), H', ⟨by have := HJ4.out; have := HJ11.out; have := HK3.out; omega⟩, ⟨by (with_reducible repeat (first | apply Kd.R_alloc | apply Kd.R_drewN | apply Kd.R_drew)); exact HO_5.out⟩, ⟨by (with_reducible repeat (first | refine blk_drewN ?_ _ | refine blk_drew ?_ | refine blk_alloc ?_ _)); exact BK152.out⟩, ⟨by repeat (first | (with_reducible first | exact HB.out | apply below_alloc | apply pw_below_drewN | apply below_drew1 | refine below_set ?_ GE152.out) | exact HB.out)⟩⟩
                      · rw [if_neg c18] at H
                        have c18b0 : decide ((rd l1 x32_3) < 0) = false := decide_eq_false c18
                        clear c18
                        by_cases c19 : (rd l1 x32_3) ≥ (l0_3.length : Int)
                        · rw [if_pos c19] at H
                          have c19b0 : decide ((l0_3.length : Int) ≤ (rd l1 x32_3)) = true := decide_eq_true c19
                          clear c19
                          have H' := Aside0.mk H
                          clear H
                          have p158 : 0 ≤ (x32_3 : Int) := of_decide_eq_true (by first | (with_reducible assumption) | assumption)
                          have q158 : x32_3 < (l1.length : Int) := of_decide_eq_true (by first | (with_reducible assumption) | assumption)
                          obtain ⟨ad158, e158, hx158_0⟩ := Kd.at_int HR1.out x32_3 p158 q158
                          cases e158
                          replace hx158_0 := (HB.out.cell (World.block_lt_of_cell? w _ hx158_0)).trans hx158_0
                          replace p158 := eq_true p158
                          replace q158 := eq_true q158
                          have hcz20_0 : wr.cell? ⟨gb152, 0, none⟩ = some (.int .i64 a0_0) := (blk_cell BK152.out 0).trans rfl
                          have hcz20_1 : wr.cell? ⟨gb152, 1, none⟩ = some (.int .i64 a0_1) := (blk_cell BK152.out 1).trans rfl
                          have hcz20_2 : wr.cell? ⟨gb152, 2, none⟩ = some (.int .i64 a0_2) := (blk_cell BK152.out 2).trans rfl
                          have hcz20_3 : wr.cell? ⟨gb152, 3, none⟩ = some (.slice A0_3 l0_3.length c0_3) := (blk_cell BK152.out 3).trans rfl
                          have hfz20_0 := blk_frozen BK152.out 0
                          have hfz20_1 := blk_frozen BK152.out 1
                          have hfz20_2 := blk_frozen BK152.out 2
                          have hfz20_3 := blk_frozen BK152.out 3
                          go_wp2
                          go_roundg k3
                          case measure => have := HJ4.out; have := HJ11.out; have := HK3.out; omega
                          case rel => exact ⟨(4), (wrap64 (x32_3 + 1)), (by first | rfl | (simp; done) | (simp [*]; done)), (by first | rfl | (simp; done) | (simp [*]; done)), H', ⟨by have := HJ4.out; have := HJ11.out; have := HK3.out; omega⟩, ⟨by (with_reducible repeat (first | apply Kd.R_alloc | apply Kd.R_drewN | apply Kd.R_drew)); exact HO_5.out⟩, ⟨by (with_reducible repeat (first | refine blk_drewN ?_ _ | refine blk_drew ?_ | refine blk_alloc ?_ _)); exact BK152.out⟩, ⟨by repeat (first | (with_reducible first | exact HB.out | apply below_alloc | apply pw_below_drewN | apply below_drew1 | refine below_set ?_ GE152.out) | exact HB.out)⟩⟩
                        · rw [if_neg c19] at H
                          have c19b0 : decide ((l0_3.length : Int) ≤ (rd l1 x32_3)) = false := decide_eq_false c19
                          clear c19
                          have H' := Aside0.mk H
                          clear H
                          have p158 : 0 ≤ (x32_3 : Int) := of_decide_eq_true (by first | (with_reducible assumption) | assumption)
                          have q158 : x32_3 < (l1.length : Int) := of_decide_eq_true (by first | (with_reducible assumption) | assumption)
                          obtain ⟨ad158, e158, hx158_0⟩ := Kd.at_int HR1.out x32_3 p158 q158
                          cases e158
                          replace hx158_0 := (HB.out.cell (World.block_lt_of_cell? w _ hx158_0)).trans hx158_0
                          replace p158 := eq_true p158
                          replace q158 := eq_true q158
                          have hcz21_0 : wr.cell? ⟨gb152, 0, none⟩ = some (.int .i64 a0_0) := (blk_cell BK152.out 0).trans rfl
                          have hcz21_1 : wr.cell? ⟨gb152, 1, none⟩ = some (.int .i64 a0_1) := (blk_cell BK152.out 1).trans rfl
                          have hcz21_2 : wr.cell? ⟨gb152, 2, none⟩ = some (.int .i64 a0_2) := (blk_cell BK152.out 2).trans rfl
                          have hcz21_3 : wr.cell? ⟨gb152, 3, none⟩ = some (.slice A0_3 l0_3.length c0_3) := (blk_cell BK152.out 3).trans rfl
                          have hfz21_0 := blk_frozen BK152.out 0
                          have hfz21_1 := blk_frozen BK152.out 1
                          have hfz21_2 := blk_frozen BK152.out 2
                          have hfz21_3 := blk_frozen BK152.out 3
                          go_wp2
                          go_roundg k3
                          case measure => have := HJ4.out; have := HJ11.out; have := HK3.out; omega
                          case rel => exact ⟨(x7_3), (wrap64 (x32_3 + 1)), (by first | rfl | (simp; done) | (simp [*]; done)), (by first | rfl | (simp; done) | (simp [*]; done)), H', ⟨by have := HJ4.out; have := HJ11.out; have := HK3.out; omega⟩, ⟨by (with_reducible repeat (first | apply Kd.R_alloc | apply Kd.R_drewN | apply Kd.R_drew)); exact HO_5.out⟩, ⟨by (with_reducible repeat (first | refine blk_drewN ?_ _ | refine blk_drew ?_ | refine blk_alloc ?_ _)); exact BK152.out⟩, ⟨by repeat (first | (with_reducible first | exact HB.out | apply below_alloc | apply pw_below_drewN | apply below_drew1 | refine below_set ?_ GE152.out) | exact HB.out)⟩⟩
                    · rw [if_neg c17] at H
                      have c17b0 : (x7_3 == 0) = false := beq_eq_false_iff_ne.mpr c17
                      have c17b1 : (x7_3 != 0) = true := bne_iff_ne.mpr c17
                      have H' := Aside0.mk H
                      clear H
                      have p158 : 0 ≤ (x32_3 : Int) := of_decide_eq_true (by first | (with_reducible assumption) | assumption)
                      have q158 : x32_3 < (l1.length : Int) := of_decide_eq_true (by first | (with_reducible assumption) | assumption)
                      obtain ⟨ad158, e158, hx158_0⟩ := Kd.at_int HR1.out x32_3 p158 q158
                      cases e158
                      replace hx158_0 := (HB.out.cell (World.block_lt_of_cell? w _ hx158_0)).trans hx158_0
                      replace p158 := eq_true p158
                      replace q158 := eq_true q158
                      go_wp2
                      go_roundg k3
                      case measure => have := HJ4.out; have := HJ11.out; have := HK3.out; omega
                      case rel => exact ⟨(x7_3), (wrap64 (x32_3 + 1)), (by first | rfl | (simp; done) | (simp [*]; done)), (by first | rfl | (simp; done) | (simp [*]; done)), H', ⟨by have := HJ4.out; have := HJ11.out; have := HK3.out; omega⟩, ⟨by (with_reducible repeat (first | apply Kd.R_alloc | apply Kd.R_drewN | apply Kd.R_drew)); exact HO_5.out⟩, ⟨by (with_reducible repeat (first | refine blk_drewN ?_ _ | refine blk_drew ?_ | refine blk_alloc ?_ _)); exact BK152.out⟩, ⟨by repeat (first | (with_reducible first | exact HB.out | apply below_alloc | apply pw_below_drewN | apply below_drew1 | refine below_set ?_ GE152.out) | exact HB.out)⟩⟩
                  · rw [if_neg c16] at H
                    exact absurd H (by simp)
                · rw [if_neg c15] at H
                  exact absurd H (by simp)
              · rw [if_neg c14] at H
                have c14b0 : decide (x32_3 < (l1.length : Int)) = false := decide_eq_false c14
                clear c14
                by_cases c22 : x7_3 = 0
                · rw [if_pos c22] at H
                  have c22b0 : (x7_3 == 0) = true := beq_iff_eq.mpr c22
                  have c22b1 : (x7_3 != 0) = false := bne_eq_false_iff_eq.mpr c22
                  clear c22
                  replace H := Option.bind_eq_some_iff.mp H
                  obtain ⟨⟨t159, t162⟩, A230, H⟩ := H
                  replace H : (coppicerlaw_PickWords.l1 k3 t153 t156 x7_3 t159 t162 (t159.length : Int) 0 a0_0 a0_1 a0_2 l0_3) = some r := H
                  have A23 := Aside0.mk A230
                  clear A230
                  have H' := Aside0.mk H
                  clear H
                  have hcz24_0 : wr.cell? ⟨gb152, 0, none⟩ = some (.int .i64 a0_0) := (blk_cell BK152.out 0).trans rfl
                  have hcz24_1 : wr.cell? ⟨gb152, 1, none⟩ = some (.int .i64 a0_1) := (blk_cell BK152.out 1).trans rfl
                  have hcz24_2 : wr.cell? ⟨gb152, 2, none⟩ = some (.int .i64 a0_2) := (blk_cell BK152.out 2).trans rfl
                  have hcz24_3 : wr.cell? ⟨gb152, 3, none⟩ = some (.slice A0_3 l0_3.length c0_3) := (blk_cell BK152.out 3).trans rfl
                  have hfz24_0 := blk_frozen BK152.out 0
                  have hfz24_1 := blk_frozen BK152.out 1
                  have hfz24_2 := blk_frozen BK152.out 2
                  have hfz24_3 := blk_frozen BK152.out 3
                  go_wp2_with (first | ((with_reducible refine gate_callee (f := 6) rfl ?_); refine goesL_ (some 55) rfl rfl Try.func6 (by kernel_rfl) rfl #[.agg #[.int .i64 a0_0, .int .i64 a0_1, .int .i64 a0_2, .slice A0_3 l0_3.length c0_3], .slice A1 l1.length c1] rfl (by (try simp only [List.map_toArray, List.map_cons, List.map_nil]); first | done | rfl | (simp only [List.length_drop, List.length_take]; rfl)) ?_; (with_reducible refine (coppicerref_Follows.calls k3 a0_0 a0_1 a0_2 _ _ l0_3 _ _ l1 t159 t162 _ ?side1 ?side2 ?side3 ?side4 A23.out).mono ?_); (case side1 => repeat (first | exact (Kd.C_below HR0_3.out HB.out) | (with_reducible refine Kd.C_alloc ?_ _) | (with_reducible refine Kd.C_drewN ?_ _) | (with_reducible refine Kd.C_drew ?_))); (case side2 => exact HC0_3.out); (case side3 => repeat (first | exact (Kd.C_below HR1.out HB.out) | (with_reducible refine Kd.C_alloc ?_ _) | (with_reducible refine Kd.C_drewN ?_ _) | (with_reducible refine Kd.C_drew ?_))); (case side4 => exact HC1.out); rintro e w25 ⟨v160, rfl, ho0, hb⟩; refine ⟨_, rfl, ?_⟩; have n0_ := Aside0.mk (Kd.R_elder' (by (with_reducible repeat (first | apply Kd.R_alloc | apply Kd.R_drewN | apply Kd.R_drew)); exact HO_5.out) (Kd.R_base ho0) hb); have n1_ := Aside0.mk (Kd.R_lower (Kd.R_new' ho0 (Kd.R_lt (by (with_reducible repeat (first | apply Kd.R_alloc | apply Kd.R_drewN | apply Kd.R_drew)); exact HO_5.out))) (below_size (by repeat (first | (with_reducible first | exact HB.out | apply below_alloc | apply pw_below_drewN | apply below_drew1 | refine below_set ?_ GE152.out) | exact HB.out)))); have n2_ := Aside0.mk (blk_below (g := gb152) (o := .cells #[.int .i64 a0_0, .int .i64 a0_1, .int .i64 a0_2, .slice A0_3 l0_3.length c0_3] 24 (0, 0)) (by (with_reducible repeat (first | refine blk_drewN ?_ _ | refine blk_drew ?_ | refine blk_alloc ?_ _)); exact BK152.out) hb); have n3_ := Aside0.mk (below_step (by repeat (first | (with_reducible first | exact HB.out | apply below_alloc | apply pw_below_drewN | apply below_drew1 | refine below_set ?_ GE152.out) | exact HB.out)) hb); clear HO_5; clear BK152; clear HB; have HO_5 := n0_; have HO161 := n1_; have BK152 := n2_; have HB := n3_; clear n0_ n1_ n2_ n3_; (try clear hb); (try clear hb2); (try clear hk); (try clear hi); (try clear ho0); obtain ⟨Ao26, co26, eo26⟩ := Kd.R_slice HO161.out; subst eo26))
                  go_loopg [12, 60] k3 (fun kq v12 v60 w' => ∃ (x12_4 : Bool) (x60_4 : Int), v12 = .bool x12_4 ∧ v60 = .int .i64 x60_4 ∧ Aside0 (coppicerlaw_PickWords.l1 kq t153 t156 x7_3 t159 x12_4 (t159.length : Int) x60_4 a0_0 a0_1 a0_2 l0_3 = some r) ∧ Aside0 (kq ≤ k3) ∧ Aside0 (Kd.R (Kd.int .i64) 3 w' w.heap.size (fun k_ => some k_ ≠ ((.slice Ao26 t159.length co26) : Value).ownBlock) v154 t153) ∧ Aside0 (Kd.R (Kd.int .i64) 3 w' w.heap.size (fun k_ => some k_ ≠ (v154 : Value).ownBlock) (.slice Ao26 t159.length co26) t159) ∧ Aside0 (w'.heap[gb152]? = some (.cells #[.int .i64 a0_0, .int .i64 a0_1, .int .i64 a0_2, (.slice A0_3 l0_3.length c0_3)] 24 (0, 0))) ∧ Aside0 (Below w.heap.size w w'))
                  case atStart => exact ⟨(t162), (0), (by first | rfl | (simp; done) | (simp [*]; done)), (by first | rfl | (simp; done) | (simp [*]; done)), H', ⟨Nat.le_refl _⟩, ⟨by (with_reducible repeat (first | apply Kd.R_alloc | apply Kd.R_drewN | apply Kd.R_drew)); exact Kd.R_mono HO_5.out (fun _ hk => hk.2)⟩, ⟨by (with_reducible repeat (first | apply Kd.R_alloc | apply Kd.R_drewN | apply Kd.R_drew)); exact Kd.R_mono HO161.out (fun _ hk => hk.2)⟩, ⟨by (with_reducible repeat (first | refine blk_drewN ?_ _ | refine blk_drew ?_ | refine blk_alloc ?_ _)); exact BK152.out⟩, ⟨by repeat (first | (with_reducible first | exact HB.out | apply below_alloc | apply pw_below_drewN | apply below_drew1 | refine below_set ?_ GE152.out) | exact HB.out)⟩⟩
                  case round =>
                    clear H'
                    try clear c1
                    try clear p1
                    try clear q1
                    try clear hx1
                    try clear c2
                    try clear p2
                    try clear c3
                    try clear c4
                    try clear c5
                    try clear c6
                    try clear p6
                    try clear c11
                    try clear c11b0
                    try clear c11b1
                    try clear c13
                    try clear c14
                    try clear c14b0
                    try clear c15
                    try clear c15b0
                    try clear p15
                    try clear q15
                    try clear hx15
                    try clear c16
                    try clear c16b0
                    try clear c17
                    try clear c17b0
                    try clear c17b1
                    try clear c18
                    try clear c18b0
                    try clear c19
                    try clear c19b0
                    try clear c22
                    try clear c22b0
                    try clear c22b1
                    try clear hcz20_0
                    try clear hcz20_1
                    try clear hcz20_2
                    try clear hcz20_3
                    try clear hcz21_0
                    try clear hcz21_1
                    try clear hcz21_2
                    try clear hcz21_3
                    try clear hcz24_0
                    try clear hcz24_1
                    try clear hcz24_2
                    try clear hcz24_3
                    try clear hcz7_0
                    try clear hcz7_1
                    try clear hcz7_2
                    try clear hcz7_3
                    try clear hcz9_0
                    try clear hcz9_1
                    try clear hcz9_2
                    try clear hcz9_3
                    try clear hfz20_0
                    try clear hfz20_1
                    try clear hfz20_2
                    try clear hfz20_3
                    try clear hfz21_0
                    try clear hfz21_1
                    try clear hfz21_2
                    try clear hfz21_3
                    try clear hfz24_0
                    try clear hfz24_1
                    try clear hfz24_2
                    try clear hfz24_3
                    try clear hfz7_0
                    try clear hfz7_1
                    try clear hfz7_2
                    try clear hfz7_3
                    try clear hfz9_0
                    try clear hfz9_1
                    try clear hfz9_2
                    try clear hfz9_3
                    try clear hx158_0
                    try clear p158
                    try clear p2
                    try clear q158
                    obtain ⟨x12_4, x60_4, rfl, rfl, HA, HK4, HO_5, HO_11, BK152, HB⟩ := hrel
                    cases gk with
                    | zero => exact absurd HA.out (by simp [coppicerlaw_PickWords.l1])
                    | succ k4 =>
                      have H := HA.out
                      clear HA
                      simp only [coppicerlaw_PickWords.l1] at H
                      by_cases c27 : x60_4 < (t159.length : Int)
                      · rw [if_pos c27] at H
                        have c27b0 : decide (x60_4 < (t159.length : Int)) = true := decide_eq_true c27
                        clear c27
                        by_cases c28 : 0 ≤ x60_4
                        · rw [if_pos c28] at H
                          have c28b0 : decide (0 ≤ x60_4) = true := decide_eq_true c28
                          clear c28
                          by_cases c29 : x60_4 < (t159.length : Int)
                          · rw [if_pos c29] at H
                            have c29b0 : decide (x60_4 < (t159.length : Int)) = true := decide_eq_true c29
                            clear c29
                            by_cases c30 : x12_4 = true
                            · subst c30
                              have H1 : (coppicerlaw_PickWords.l1 k4 t153 t156 x7_3 t159 (decide ((rd t159 x60_4) < a0_0)) (t159.length : Int) (wrap64 (x60_4 + 1)) a0_0 a0_1 a0_2 l0_3) = some r := by rw [if_pos rfl] at H; exact H
                              clear H
                              have H := H1
                              clear H1
                              have H' := Aside0.mk H
                              clear H
                              have p163 : 0 ≤ (x60_4 : Int) := of_decide_eq_true (by first | (with_reducible assumption) | assumption)
                              have q163 : x60_4 < (t159.length : Int) := of_decide_eq_true (by first | (with_reducible assumption) | assumption)
                              obtain ⟨ad163, e163, hx163_0⟩ := Kd.at_int (Kd.R_reads' HO_11.out).2.2 x60_4 p163 q163
                              cases e163
                              replace p163 := eq_true p163
                              replace q163 := eq_true q163
                              have hcz31_0 : wr.cell? ⟨gb152, 0, none⟩ = some (.int .i64 a0_0) := (blk_cell BK152.out 0).trans rfl
                              have hcz31_1 : wr.cell? ⟨gb152, 1, none⟩ = some (.int .i64 a0_1) := (blk_cell BK152.out 1).trans rfl
                              have hcz31_2 : wr.cell? ⟨gb152, 2, none⟩ = some (.int .i64 a0_2) := (blk_cell BK152.out 2).trans rfl
                              have hcz31_3 : wr.cell? ⟨gb152, 3, none⟩ = some (.slice A0_3 l0_3.length c0_3) := (blk_cell BK152.out 3).trans rfl
                              have hfz31_0 := blk_frozen BK152.out 0
                              have hfz31_1 := blk_frozen BK152.out 1
                              have hfz31_2 := blk_frozen BK152.out 2
                              have hfz31_3 := blk_frozen BK152.out 3
                              go_wp2
                              go_roundg k4
                              case measure => have := HJ4.out; have := HJ11.out; have := HK3.out; have := HK4.out; omega
                              case rel => exact ⟨(decide ((rd t159 x60_4) < a0_0)), (wrap64 (x60_4 + 1)), (by first | rfl | (simp; done) | (simp [*]; done)), (by first | rfl | (simp; done) | (simp [*]; done)), H', ⟨by have := HJ4.out; have := HJ11.out; have := HK3.out; have := HK4.out; omega⟩, ⟨by (with_reducible repeat (first | apply Kd.R_alloc | apply Kd.R_drewN | apply Kd.R_drew)); exact HO_5.out⟩, ⟨by (with_reducible repeat (first | apply Kd.R_alloc | apply Kd.R_drewN | apply Kd.R_drew)); exact HO_11.out⟩, ⟨by (with_reducible repeat (first | refine blk_drewN ?_ _ | refine blk_drew ?_ | refine blk_alloc ?_ _)); exact BK152.out⟩, ⟨by repeat (first | (with_reducible first | exact HB.out | apply below_alloc | apply pw_below_drewN | apply below_drew1 | refine below_set ?_ GE152.out) | exact HB.out)⟩⟩
                            · replace c30 := Bool.eq_false_iff.mpr c30
                              subst c30
                              have H1 : (coppicerlaw_PickWords.l1 k4 t153 t156 x7_3 t159 false (t159.length : Int) (wrap64 (x60_4 + 1)) a0_0 a0_1 a0_2 l0_3) = some r := by rw [if_neg (show ¬ (false = true) by decide)] at H; exact H
                              clear H
                              have H := H1
                              clear H1
                              have H' := Aside0.mk H
                              clear H
                              have p163 : 0 ≤ (x60_4 : Int) := of_decide_eq_true (by first | (with_reducible assumption) | assumption)
                              have q163 : x60_4 < (t159.length : Int) := of_decide_eq_true (by first | (with_reducible assumption) | assumption)
                              obtain ⟨ad163, e163, hx163_0⟩ := Kd.at_int (Kd.R_reads' HO_11.out).2.2 x60_4 p163 q163
                              cases e163
                              replace p163 := eq_true p163
                              replace q163 := eq_true q163
                              go_wp2
                              go_roundg k4
                              case measure => have := HJ4.out; have := HJ11.out; have := HK3.out; have := HK4.out; omega
                              case rel => exact ⟨(false), (wrap64 (x60_4 + 1)), (by first | rfl | (simp; done) | (simp [*]; done)), (by first | rfl | (simp; done) | (simp [*]; done)), H', ⟨by have := HJ4.out; have := HJ11.out; have := HK3.out; have := HK4.out; omega⟩, ⟨by (with_reducible repeat (first | apply Kd.R_alloc | apply Kd.R_drewN | apply Kd.R_drew)); exact HO_5.out⟩, ⟨by (with_reducible repeat (first | apply Kd.R_alloc | apply Kd.R_drewN | apply Kd.R_drew)); exact HO_11.out⟩, ⟨by (with_reducible repeat (first | refine blk_drewN ?_ _ | refine blk_drew ?_ | refine blk_alloc ?_ _)); exact BK152.out⟩, ⟨by repeat (first | (with_reducible first | exact HB.out | apply below_alloc | apply pw_below_drewN | apply below_drew1 | refine below_set ?_ GE152.out) | exact HB.out)⟩⟩
                          · rw [if_neg c29] at H
                            exact absurd H (by simp)
                        · rw [if_neg c28] at H
                          exact absurd H (by simp)
                      · rw [if_neg c27] at H
                        have c27b0 : decide (x60_4 < (t159.length : Int)) = false := decide_eq_false c27
                        clear c27
                        by_cases c32 : x12_4 = true
                        · subst c32
                          have H1 : (if (t159.length : Int) > 60 then (if t156 = 1 then (some ((t153.length : Int) == 0)) else (some false)) else (if x7_3 = 0 then (if t156 = 0 then ((coppicerref_Ints.f k4 t153 t159).bind fun t164 => (some t164)) else (some false)) else (if t156 = x7_3 then (some ((t153.length : Int) == 0)) else (some false)))) = some r := by rw [if_pos rfl] at H; exact H
                          clear H
                          have H := H1
                          clear H1
                          by_cases c33 : (t159.length : Int) > 60
                          · rw [if_pos c33] at H
                            have c33b0 : decide (60 < (t159.length : Int)) = true := decide_eq_true c33
                            have c33b1 : decide (60 < t159.length) = true := decide_eq_true (by omega)
                            clear c33
                            by_cases c34 : t156 = 1
                            · rw [if_pos c34] at H
                              have c34b0 : (t156 == 1) = true := beq_iff_eq.mpr c34
                              have c34b1 : (t156 != 1) = false := bne_eq_false_iff_eq.mpr c34
                              clear c34
                              obtain rfl := Option.some.inj H
                              obtain ⟨Ao35, co35, eo35⟩ := Kd.R_slice HO_5.out
                              subst eo35
                              go_wp2
                              go_ret
                              exact ⟨by first | rfl | (simp [errW_none, errW_some] <;> rfl) | (simp [*, errW_none, errW_some] <;> rfl), by repeat (first | (with_reducible first | exact HB.out | apply below_alloc | apply pw_below_drewN | apply below_drew1 | refine below_set ?_ GE152.out) | exact HB.out)⟩
                            · rw [if_neg c34] at H
                              have c34b0 : (t156 == 1) = false := beq_eq_false_iff_ne.mpr c34
                              have c34b1 : (t156 != 1) = true := bne_iff_ne.mpr c34
                              obtain rfl := Option.some.inj H
                              go_wp2
                              go_ret
                              exact ⟨by first | rfl | (simp [errW_none, errW_some] <;> rfl) | (simp [*, errW_none, errW_some] <;> rfl), by repeat (first | (with_reducible first | exact HB.out | apply below_alloc | apply pw_below_drewN | apply below_drew1 | refine below_set ?_ GE152.out) | exact HB.out)⟩
                          · rw [if_neg c33] at H
                            have c33b0 : decide (60 < (t159.length : Int)) = false := decide_eq_false c33
                            have c33b1 : decide (60 < t159.length) = false := decide_eq_false (by omega)
                            clear c33
                            by_cases c36 : x7_3 = 0
                            · rw [if_pos c36] at H
                              have c36b0 : (x7_3 == 0) = true := beq_iff_eq.mpr c36
                              have c36b1 : (x7_3 != 0) = false := bne_eq_false_iff_eq.mpr c36
                              clear c36
                              by_cases c37 : t156 = 0
                              · rw [if_pos c37] at H
                                have c37b0 : (t156 == 0) = true := beq_iff_eq.mpr c37
                                have c37b1 : (t156 != 0) = false := bne_eq_false_iff_eq.mpr c37
                                clear c37
                                replace H := Option.bind_eq_some_iff.mp H
                                obtain ⟨t164, A380, H⟩ := H
                                replace H : (some t164) = some r := H
                                have A38 := Aside0.mk A380
                                clear A380
                                obtain rfl := Option.some.inj H
                                obtain ⟨Ao39, co39, eo39⟩ := Kd.R_slice HO_5.out
                                subst eo39
                                go_wp2_with (first | (go_at_call 7; (with_reducible refine (coppicerref_Ints.calls k4 _ _ t153 _ _ t159 t164 _ ?side1 ?side2 ?side3 ?side4 A38.out).mono ?_); (case side1 => repeat (first | exact (Kd.R_reads' HO_5.out).2.2 | (with_reducible refine Kd.C_alloc ?_ _) | (with_reducible refine Kd.C_drewN ?_ _) | (with_reducible refine Kd.C_drew ?_))); (case side2 => exact (Kd.R_reads' HO_5.out).2.1); (case side3 => repeat (first | exact (Kd.R_reads' HO_11.out).2.2 | (with_reducible refine Kd.C_alloc ?_ _) | (with_reducible refine Kd.C_drewN ?_ _) | (with_reducible refine Kd.C_drew ?_))); (case side4 => exact (Kd.R_reads' HO_11.out).2.1); rintro e w' ⟨rfl, ⟨nd, rfl⟩⟩))
                                go_ret
                                exact ⟨by first | rfl | (simp [errW_none, errW_some] <;> rfl) | (simp [*, errW_none, errW_some] <;> rfl), by repeat (first | (with_reducible first | exact HB.out | apply below_alloc | apply pw_below_drewN | apply below_drew1 | refine below_set ?_ GE152.out) | exact HB.out)⟩
                              · rw [if_neg c37] at H
                                have c37b0 : (t156 == 0) = false := beq_eq_false_iff_ne.mpr c37
                                have c37b1 : (t156 != 0) = true := bne_iff_ne.mpr c37
                                obtain rfl := Option.some.inj H
                                go_wp2
                                go_ret
                                exact ⟨by first | rfl | (simp [errW_none, errW_some] <;> rfl) | (simp [*, errW_none, errW_some] <;> rfl), by repeat (first | (with_reducible first | exact HB.out | apply below_alloc | apply pw_below_drewN | apply below_drew1 | refine below_set ?_ GE152.out) | exact HB.out)⟩
                            · rw [if_neg c36] at H
                              have c36b0 : (x7_3 == 0) = false := beq_eq_false_iff_ne.mpr c36
                              have c36b1 : (x7_3 != 0) = true := bne_iff_ne.mpr c36
                              by_cases c40 : t156 = x7_3
                              · rw [if_pos c40] at H
                                have c40b0 : (t156 == x7_3) = true := beq_iff_eq.mpr c40
                                have c40b1 : (t156 != x7_3) = false := bne_eq_false_iff_eq.mpr c40
                                clear c40
                                obtain rfl := Option.some.inj H
                                obtain ⟨Ao41, co41, eo41⟩ := Kd.R_slice HO_5.out
                                subst eo41
                                go_wp2
                                go_ret
                                exact ⟨by first | rfl | (simp [errW_none, errW_some] <;> rfl) | (simp [*, errW_none, errW_some] <;> rfl), by repeat (first | (with_reducible first | exact HB.out | apply below_alloc | apply pw_below_drewN | apply below_drew1 | refine below_set ?_ GE152.out) | exact HB.out)⟩
                              · rw [if_neg c40] at H
                                have c40b0 : (t156 == x7_3) = false := beq_eq_false_iff_ne.mpr c40
                                have c40b1 : (t156 != x7_3) = true := bne_iff_ne.mpr c40
                                obtain rfl := Option.some.inj H
                                go_wp2
                                go_ret
                                exact ⟨by first | rfl | (simp [errW_none, errW_some] <;> rfl) | (simp [*, errW_none, errW_some] <;> rfl), by repeat (first | (with_reducible first | exact HB.out | apply below_alloc | apply pw_below_drewN | apply below_drew1 | refine below_set ?_ GE152.out) | exact HB.out)⟩
                        · replace c32 := Bool.eq_false_iff.mpr c32
                          subst c32
                          have H1 : (if t156 = 3 then (some ((t153.length : Int) == 0)) else (some false)) = some r := by rw [if_neg (show ¬ (false = true) by decide)] at H; exact H
                          clear H
                          have H := H1
                          clear H1
                          by_cases c42 : t156 = 3
                          · rw [if_pos c42] at H
                            have c42b0 : (t156 == 3) = true := beq_iff_eq.mpr c42
                            have c42b1 : (t156 != 3) = false := bne_eq_false_iff_eq.mpr c42
                            clear c42
                            obtain rfl := Option.some.inj H
                            obtain ⟨Ao43, co43, eo43⟩ := Kd.R_slice HO_5.out
                            subst eo43
                            go_wp2
                            go_ret
                            exact ⟨by first | rfl | (simp [errW_none, errW_some] <;> rfl) | (simp [*, errW_none, errW_some] <;> rfl), by repeat (first | (with_reducible first | exact HB.out | apply below_alloc | apply pw_below_drewN | apply below_drew1 | refine below_set ?_ GE152.out) | exact HB.out)⟩
                          · rw [if_neg c42] at H
                            have c42b0 : (t156 == 3) = false := beq_eq_false_iff_ne.mpr c42
                            have c42b1 : (t156 != 3) = true := bne_iff_ne.mpr c42
                            obtain rfl := Option.some.inj H
                            go_wp2
                            go_ret
                            exact ⟨by first | rfl | (simp [errW_none, errW_some] <;> rfl) | (simp [*, errW_none, errW_some] <;> rfl), by repeat (first | (with_reducible first | exact HB.out | apply below_alloc | apply pw_below_drewN | apply below_drew1 | refine below_set ?_ GE152.out) | exact HB.out)⟩
                · rw [if_neg c22] at H
                  have c22b0 : (x7_3 == 0) = false := beq_eq_false_iff_ne.mpr c22
                  have c22b1 : (x7_3 != 0) = true := bne_iff_ne.mpr c22
                  by_cases c44 : t156 = x7_3
                  · rw [if_pos c44] at H
                    have c44b0 : (t156 == x7_3) = true := beq_iff_eq.mpr c44
                    have c44b1 : (t156 != x7_3) = false := bne_eq_false_iff_eq.mpr c44
                    clear c44
                    obtain rfl := Option.some.inj H
                    obtain ⟨Ao45, co45, eo45⟩ := Kd.R_slice HO_5.out
                    subst eo45
                    go_wp2
                    go_ret
                    exact ⟨by first | rfl | (simp [errW_none, errW_some] <;> rfl) | (simp [*, errW_none, errW_some] <;> rfl), by repeat (first | (with_reducible first | exact HB.out | apply below_alloc | apply pw_below_drewN | apply below_drew1 | refine below_set ?_ GE152.out) | exact HB.out)⟩
                  · rw [if_neg c44] at H
                    have c44b0 : (t156 == x7_3) = false := beq_eq_false_iff_ne.mpr c44
                    have c44b1 : (t156 != x7_3) = true := bne_iff_ne.mpr c44
                    obtain rfl := Option.some.inj H
                    go_wp2
                    go_ret
                    exact ⟨by first | rfl | (simp [errW_none, errW_some] <;> rfl) | (simp [*, errW_none, errW_some] <;> rfl), by repeat (first | (with_reducible first | exact HB.out | apply below_alloc | apply pw_below_drewN | apply below_drew1 | refine below_set ?_ GE152.out) | exact HB.out)⟩

end Go.Proofs.Ytenlcpakhpjlkaa.PPickWords
