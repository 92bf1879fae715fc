-- Written by a program of this session: a turn of the print kit's own.
import Derived.Test.YtmfdfffedkejjaaPSolveArdensx0
import Derived.Test.YtmfdfffedkejjaaPSolveArdensx1
import Derived.Test.YtmfdfffedkejjaaPSolveArdensx2
import Derived.Test.YtmfdfffedkejjaaPSolveArdensx3
namespace Go.Proofs.Ytmfdfffedkejjaa.PSolveArdens
open Go.RowKit Go.Proofs.YtmfdfffedkejjaaW.PrintWords Go.Proofs.YtmfdfffedkejjaaW.PrintLast Go.Proofs.YtmfdfffedkejjaaW.PrintMore
attribute [local go_sem] max2_int min2_int max_two min_two max_three min_three max_four min_four   -- for this text's walks alone
set_option linter.unusedVariables false
set_option linter.unusedSimpArgs false

/-! ### solve_Arden: function 20 -/
mutual
def solve_Arden.l0 : Nat → List (S67) → List (S67) → List (S67) → Int → Int → Option ((List (S67)) × Int)
  | 0, _, _, _, _, _ => none
  | k + 1, x1, x10, x34, x35, x36 => if x36 < x35 then (if 0 ≤ x36 then (if x36 < (x34.length : Int) then (if ((rd_T67 x34 x36).f0) = 4 then (solve_Arden.j1 k x1 x10 x34 x35 x36 ((rd_T67 x34 x36).f0) (((rd_T67 x34 x36).f0) == 4) ((rd_T67 x34 x36).f0) ((rd_T67 x34 x36).f1) ((rd_T67 x34 x36).f2)) else (solve_Arden.j1 k x1 x10 x34 x35 x36 ((rd_T67 x34 x36).f0) (((rd_T67 x34 x36).f0) == 5) ((rd_T67 x34 x36).f0) ((rd_T67 x34 x36).f1) ((rd_T67 x34 x36).f2))) else (none)) else (none)) else (if x10.length < 5864062014805 then (some ((x10 ++ [(⟨4, (x1.length : Int), wrap64 ((x10.length : Int) - 1)⟩ : S67)]), 0)) else (none))
def solve_Arden.j1 : Nat → List (S67) → List (S67) → List (S67) → Int → Int → Int → Bool → Int → Int → Int → Option ((List (S67)) × Int)
  | 0, _, _, _, _, _, _, _, _, _, _ => none
  | k + 1, x1, x10, x34, x35, x36, x41, x42, x153000, x153001, x153002 => if x42 = true then (if x10.length < 5864062014805 then (solve_Arden.l0 k x1 (x10 ++ [(⟨x153000, wrap64 ((wrap64 (x153001 + (x1.length : Int))) + 1), wrap64 ((wrap64 (x153002 + (x1.length : Int))) + 1)⟩ : S67)]) x34 x35 (wrap64 (x36 + 1))) else (none)) else (if x41 = 6 then (if x10.length < 5864062014805 then (solve_Arden.l0 k x1 (x10 ++ [(⟨x153000, wrap64 (x153001 + (wrap64 ((x1.length : Int) + 1))), x153002⟩ : S67)]) x34 x35 (wrap64 (x36 + 1))) else (none)) else (if x10.length < 5864062014805 then (solve_Arden.l0 k x1 (x10 ++ [(⟨x153000, x153001, x153002⟩ : S67)]) x34 x35 (wrap64 (x36 + 1))) else (none)))
end
def solve_Arden.f (k : Nat) (a0 : Int) (l1 : List (S67)) (l2 : List (S67)) : Option ((List (S67)) × Int) := (sentence_Check.f k a0 l1).bind fun t140 => (if t140 = 0 then ((sentence_Check.f k a0 l2).bind fun t141 => (if t141 = 0 then ((slices_Clone_Sapi_Node_api_Node.f l1).bind fun t142 => (if t142.length < 5864062014805 then (solve_Arden.l0 k l1 (t142 ++ [(⟨6, wrap64 ((l1.length : Int) - 1), 0⟩ : S67)]) l2 (l2.length : Int) 0) else (none))) else (some (([] : List (S67)), t141)))) else (some (([] : List (S67)), t140)))
theorem solve_Arden.mono_l : ∀ k, (∀ y0 y1 y2 y3 y4, LeO (solve_Arden.l0 k y0 y1 y2 y3 y4) (solve_Arden.l0 (k + 1) y0 y1 y2 y3 y4)) ∧ (∀ y0 y1 y2 y3 y4 y5 y6 y7 y8 y9, LeO (solve_Arden.j1 k y0 y1 y2 y3 y4 y5 y6 y7 y8 y9) (solve_Arden.j1 (k + 1) y0 y1 y2 y3 y4 y5 y6 y7 y8 y9))
  | 0 => ⟨fun _ _ _ _ _ r h => by simp [solve_Arden.l0] at h, fun _ _ _ _ _ _ _ _ _ _ r h => by simp [solve_Arden.j1] at h⟩
  | k + 1 => by
    obtain ⟨ih0, ih1⟩ := solve_Arden.mono_l k
    refine ⟨?_, ?_⟩
    · intro y0 y1 y2 y3 y4
      unfold solve_Arden.l0
      repeat' first
      | (with_reducible exact ih0 _ _ _ _ _)
      | (with_reducible exact ih1 _ _ _ _ _ _ _ _ _ _)
      | (with_reducible exact sentence_Check.mono _ _ _)
      | (with_reducible exact LeO.refl _)
      | (with_reducible exact LeO.none _)
      | (with_reducible refine LeO.ite ?_ ?_)
      | (with_reducible refine LeO.bind ?_ (fun _ => ?_))
      | exact ih0 _ _ _ _ _
      | exact ih1 _ _ _ _ _ _ _ _ _ _
      | exact sentence_Check.mono _ _ _
      | exact LeO.none _
      | refine LeO.ite ?_ ?_
      | refine LeO.bind ?_ (fun _ => ?_)
    · intro y0 y1 y2 y3 y4 y5 y6 y7 y8 y9
      unfold solve_Arden.j1
      repeat' first
      | (with_reducible exact ih0 _ _ _ _ _)
      | (with_reducible exact ih1 _ _ _ _ _ _ _ _ _ _)
      | (with_reducible exact sentence_Check.mono _ _ _)
      | (with_reducible exact LeO.refl _)
      | (with_reducible exact LeO.none _)
      | (with_reducible refine LeO.ite ?_ ?_)
      | (with_reducible refine LeO.bind ?_ (fun _ => ?_))
      | exact ih0 _ _ _ _ _
      | exact ih1 _ _ _ _ _ _ _ _ _ _
      | exact sentence_Check.mono _ _ _
      | exact LeO.none _
      | refine LeO.ite ?_ ?_
      | refine LeO.bind ?_ (fun _ => ?_)
theorem solve_Arden.mono : ∀ a0 a1 a2 k, LeO (solve_Arden.f k a0 a1 a2) (solve_Arden.f (k + 1) a0 a1 a2) := by
  intro a0 a1 a2 k
  obtain ⟨ih0, ih1⟩ := solve_Arden.mono_l k
  unfold solve_Arden.f
  repeat' first
      | (with_reducible exact ih0 _ _ _ _ _)
      | (with_reducible exact ih1 _ _ _ _ _ _ _ _ _ _)
      | (with_reducible exact sentence_Check.mono _ _ _)
      | (with_reducible exact LeO.refl _)
      | (with_reducible exact LeO.none _)
      | (with_reducible refine LeO.ite ?_ ?_)
      | (with_reducible refine LeO.bind ?_ (fun _ => ?_))
      | exact ih0 _ _ _ _ _
      | exact ih1 _ _ _ _ _ _ _ _ _ _
      | exact sentence_Check.mono _ _ _
      | exact LeO.none _
      | refine LeO.ite ?_ ?_
      | refine LeO.bind ?_ (fun _ => ?_)
set_option maxHeartbeats 8000000 in
set_option maxRecDepth 100000 in
theorem solve_Arden.calls (k : Nat) (a0 : Int) (A1 : Option Addr) (c1 : Nat) (l1 : List (S67)) (A2 : Option Addr) (c2 : Nat) (l2 : List (S67)) (r1 : List (S67)) (r2 : Int) (w : World) (hr1 : Kd.C k67 w A1 l1.length l1) (hc1 : l1.length ≤ c1) (hr2 : Kd.C k67 w A2 l2.length l2) (hc2 : l2.length ≤ c2) (h : solve_Arden.f k a0 l1 l2 = some (r1, r2)) :
    Calls Try.prog 20 #[.int .i64 a0, .slice A1 l1.length c1, .slice A2 l2.length c2] w fun e w' => ∃ v0_ : Value, e = .returned (.tuple #[v0_, .int .i64 r2]) ∧ Kd.R k67 67 w' w.heap.size (fun _ => True) v0_ r1 ∧ Below w.heap.size w w' := by
  have hu67 := Try.underlying67
  have hu3 := Try.underlying3
  have HR1 := Aside0.mk hr1
  have HC1 := Aside0.mk hc1
  clear hr1 hc1
  have HR2 := Aside0.mk hr2
  have HC2 := Aside0.mk hc2
  clear hr2 hc2
  have HB := Aside0.mk (Below.refl w.heap.size w)
  have H : ((sentence_Check.f k a0 l1).bind fun t140 => (if t140 = 0 then ((sentence_Check.f k a0 l2).bind fun t141 => (if t141 = 0 then ((slices_Clone_Sapi_Node_api_Node.f l1).bind fun t142 => (if t142.length < 5864062014805 then (solve_Arden.l0 k l1 (t142 ++ [(⟨6, wrap64 ((l1.length : Int) - 1), 0⟩ : S67)]) l2 (l2.length : Int) 0) else (none))) else (some (([] : List (S67)), t141)))) else (some (([] : List (S67)), t140)))) = some (r1, r2) := h
  clear h
  replace H := Option.bind_eq_some_iff.mp H
  obtain ⟨t140, A40, H⟩ := H
  replace H : (if t140 = 0 then ((sentence_Check.f k a0 l2).bind fun t141 => (if t141 = 0 then ((slices_Clone_Sapi_Node_api_Node.f l1).bind fun t142 => (if t142.length < 5864062014805 then (solve_Arden.l0 k l1 (t142 ++ [(⟨6, wrap64 ((l1.length : Int) - 1), 0⟩ : S67)]) l2 (l2.length : Int) 0) else (none))) else (some (([] : List (S67)), t141)))) else (some (([] : List (S67)), t140))) = some (r1, r2) := H
  have A4 := Aside0.mk A40
  clear A40
  by_cases c5 : t140 = 0
  · rw [if_pos c5] at H
    have c5b0 : (t140 == 0) = true := beq_iff_eq.mpr c5
    have c5b1 : (t140 != 0) = false := bne_eq_false_iff_eq.mpr c5
    clear c5
    replace H := Option.bind_eq_some_iff.mp H
    obtain ⟨t141, A60, H⟩ := H
    replace H : (if t141 = 0 then ((slices_Clone_Sapi_Node_api_Node.f l1).bind fun t142 => (if t142.length < 5864062014805 then (solve_Arden.l0 k l1 (t142 ++ [(⟨6, wrap64 ((l1.length : Int) - 1), 0⟩ : S67)]) l2 (l2.length : Int) 0) else (none))) else (some (([] : List (S67)), t141))) = some (r1, r2) := H
    have A6 := Aside0.mk A60
    clear A60
    by_cases c7 : t141 = 0
    · rw [if_pos c7] at H
      have c7b0 : (t141 == 0) = true := beq_iff_eq.mpr c7
      have c7b1 : (t141 != 0) = false := bne_eq_false_iff_eq.mpr c7
      clear c7
      replace H := Option.bind_eq_some_iff.mp H
      obtain ⟨t142, A80, H⟩ := H
      replace H : (if t142.length < 5864062014805 then (solve_Arden.l0 k l1 (t142 ++ [(⟨6, wrap64 ((l1.length : Int) - 1), 0⟩ : S67)]) l2 (l2.length : Int) 0) else (none)) = some (r1, r2) := H
      have A8 := Aside0.mk A80
      clear A80
      by_cases c9 : t142.length < 5864062014805
      · rw [if_pos c9] at H
        have LMc9 := Aside0.mk c9
        clear c9
        obtain ⟨y145, hy145⟩ : ∃ y_ : List (S67), y_ = (t142 ++ [(⟨6, wrap64 ((l1.length : Int) - 1), 0⟩ : S67)]) := ⟨_, rfl⟩
        replace H : (solve_Arden.l0 k l1 y145 l2 (l2.length : Int) 0) = some (r1, r2) := by first | (rw [hy145]; with_reducible exact H) | (have H2_ := (Option.bind_some _ _).symm.trans H; rw [hy145]; with_reducible exact H2_) | (have H2_ := (Option.bind_some _ _).symm.trans H; with_reducible exact H2_) | with_reducible exact H | (rw [hy145]; exact H) | exact H
        have Ny145 := Aside0.mk hy145
        clear hy145
        have H' := Aside0.mk H
        clear H
        go_enter Try.func20, Try.ntmps20
        go_wp2_with (first | ((with_reducible refine gate_callee (f := 35) rfl ?_); refine goesL_ (some 15) rfl rfl Try.func35 (by kernel_rfl) rfl #[.int .i64 a0, .slice A1 l1.length c1] rfl (by (try simp only [List.map_toArray, List.map_cons, List.map_nil]); first | done | rfl | (simp only [List.length_drop, List.length_take]; rfl)) ?_; (with_reducible refine (sentence_Check.calls k a0 _ _ l1 t140 _ ?side1 ?side2 A4.out).mono ?_); (case side1 => repeat (first | exact HR1.out | (with_reducible refine Kd.C_alloc ?_ _) | (with_reducible refine Kd.C_drewN ?_ _) | (with_reducible refine Kd.C_drew ?_))); (case side2 => exact HC1.out); rintro e w10 ⟨rfl, hb⟩; refine ⟨_, rfl, ?_⟩; have n0_ := Aside0.mk (below_step (by repeat (first | (with_reducible first | exact HB.out | apply below_alloc | apply pw_below_drewN | apply below_drew1) | exact HB.out)) hb); clear HB; have HB := n0_; clear n0_; (try clear hb); (try clear hb2); (try clear hk); (try clear hi)) | ((with_reducible refine gate_callee (f := 35) rfl ?_); refine goesL_ (some 21) rfl rfl Try.func35 (by kernel_rfl) rfl #[.int .i64 a0, .slice A2 l2.length c2] rfl (by (try simp only [List.map_toArray, List.map_cons, List.map_nil]); first | done | rfl | (simp only [List.length_drop, List.length_take]; rfl)) ?_; (with_reducible refine (sentence_Check.calls k a0 _ _ l2 t141 _ ?side1 ?side2 A6.out).mono ?_); (case side1 => repeat (first | exact (Kd.C_below HR2.out HB.out) | (with_reducible refine Kd.C_alloc ?_ _) | (with_reducible refine Kd.C_drewN ?_ _) | (with_reducible refine Kd.C_drew ?_))); (case side2 => exact HC2.out); rintro e w11 ⟨rfl, hb⟩; refine ⟨_, rfl, ?_⟩; have n0_ := Aside0.mk (below_step (by repeat (first | (with_reducible first | exact HB.out | apply below_alloc | apply pw_below_drewN | apply below_drew1) | exact HB.out)) hb); clear HB; have HB := n0_; clear n0_; (try clear hb); (try clear hb2); (try clear hk); (try clear hi)) | ((with_reducible refine gate_callee (f := 36) rfl ?_); refine goesL_ (some 26) rfl rfl Try.func36 (by kernel_rfl) rfl #[.slice A1 l1.length c1] rfl (by (try simp only [List.map_toArray, List.map_cons, List.map_nil]); first | done | rfl | (simp only [List.length_drop, List.length_take]; rfl)) ?_; (with_reducible refine (slices_Clone_Sapi_Node_api_Node.calls _ _ l1 t142 _ ?side1 ?side2 A8.out).mono ?_); (case side1 => repeat (first | exact (Kd.C_below HR1.out HB.out) | (with_reducible refine Kd.C_alloc ?_ _) | (with_reducible refine Kd.C_drewN ?_ _) | (with_reducible refine Kd.C_drew ?_))); (case side2 => exact HC1.out); rintro e w12 ⟨v143, rfl, ho0, hb⟩; refine ⟨_, rfl, ?_⟩; have n0_ := Aside0.mk (Kd.R_lower ho0 (below_size (by repeat (first | (with_reducible first | exact HB.out | apply below_alloc | apply pw_below_drewN | apply below_drew1) | exact HB.out)))); have n1_ := Aside0.mk (below_step (by repeat (first | (with_reducible first | exact HB.out | apply below_alloc | apply pw_below_drewN | apply below_drew1) | exact HB.out)) hb); clear HB; have HO144 := n0_; have HB := n1_; clear n0_ n1_; (try clear hb); (try clear hb2); (try clear hk); (try clear hi); (try clear ho0)) | ((with_reducible refine gate_builtin (b := .append) (xs := #[.tmp 27, .tmp 32]) rfl ?_); at_builtin; refine Kd.R_append k67 (w0 := w) w.heap.size rfl (.tmp 27) (.tmp 32) 22 67 (.agg #[(.int .i64 0), (.int .i64 0), (.int .i64 0)]) 24 rfl Try.underlying22 info67 rfl (by decide) (by omega) v143 t142 (⟨6, wrap64 ((l1.length : Int) - 1), 0⟩ : S67) [.int .i64 6, .int .i64 (wrap64 ((l1.length : Int) - 1)), .int .i64 0] (fun _ => True) (fun _ => False) rfl rfl ?aP (fun _ hk => hk.elim) ?aF ?aO ?aB ?aS ?aL ?_; (case aP => exact k67_mkM _ _ _ (⟨6, wrap64 ((l1.length : Int) - 1), 0⟩ : S67)); (case aB => exact (by repeat (first | (with_reducible first | exact HB.out | apply below_alloc | apply pw_below_drewN | apply below_drew1) | exact HB.out))); (case aF => exact (fun _ _ => trivial)); (case aO => exact (by (with_reducible repeat (first | apply Kd.R_alloc | apply Kd.R_drewN | apply Kd.R_drew)); exact HO144.out)); (case aS => exact (below_size (by repeat (first | (with_reducible first | exact HB.out | apply below_alloc | apply pw_below_drewN | apply below_drew1) | exact HB.out)))); (case aL => have := LMc9.out; omega); intro v146 w13 ho hb hg hat; rw [← Ny145.out] at ho; have n0_ := Aside0.mk (hb); have n1_ := Aside0.mk (ho); clear HB; clear HO144; have HB := n0_; have HO147 := n1_; clear n0_ n1_; clear ho hb hg hat))
        go_loopg [10, 36] k (fun kq v10 v36 w' => ∃ (x10_1 : List (S67)) (x36_1 : Int), v36 = .int .i64 x36_1 ∧ Aside0 (solve_Arden.l0 kq l1 x10_1 l2 (l2.length : Int) x36_1 = some (r1, r2)) ∧ Aside0 (kq ≤ k) ∧ Aside0 (Kd.R k67 67 w' w.heap.size (fun _ => True) v10 x10_1) ∧ Aside0 (Below w.heap.size w w'))
        case atStart => exact ⟨(y145), (0), (by first | rfl | (simp; done) | (simp [*]; done)), H', ⟨Nat.le_refl _⟩, ⟨by (with_reducible repeat (first | apply Kd.R_alloc | apply Kd.R_drewN | apply Kd.R_drew)); exact HO147.out⟩, ⟨by repeat (first | (with_reducible first | exact HB.out | apply below_alloc | apply pw_below_drewN | apply below_drew1) | exact HB.out)⟩⟩
        case round =>
          clear H'
          try clear c1
          try clear c2
          try clear p2
          try clear c3
          try clear c5
          try clear c5b0
          try clear c5b1
          try clear p6
          try clear c7
          try clear c7b0
          try clear c7b1
          try clear c9
          obtain ⟨x10_1, x36_1, rfl, HA, HK1, HO_10, HB⟩ := hrel
          cases gk with
          | zero => exact absurd HA.out (by simp [solve_Arden.l0])
          | succ k1 =>
            have H := HA.out
            clear HA
            simp only [solve_Arden.l0] at H
            by_cases c14 : x36_1 < (l2.length : Int)
            · rw [if_pos c14] at H
              have c14b0 : decide (x36_1 < (l2.length : Int)) = true := decide_eq_true c14
              clear c14
              by_cases c15 : 0 ≤ x36_1
              · rw [if_pos c15] at H
                have c15b0 : decide (0 ≤ x36_1) = true := decide_eq_true c15
                clear c15
                by_cases c16 : x36_1 < (l2.length : Int)
                · rw [if_pos c16] at H
                  have c16b0 : decide (x36_1 < (l2.length : Int)) = true := decide_eq_true c16
                  clear c16
                  have HC17 := Aside0.mk H
                  clear H
                  have p151 : 0 ≤ (x36_1 : Int) := of_decide_eq_true (by first | (with_reducible assumption) | assumption)
                  have q151 : x36_1 < (l2.length : Int) := of_decide_eq_true (by first | (with_reducible assumption) | assumption)
                  obtain ⟨ad151, e151, hx151_0, hx151_1, hx151_2⟩ := at_T67 HR2.out x36_1 p151 q151
                  cases e151
                  replace hx151_0 := (HB.out.cell (World.block_lt_of_cell? w _ hx151_0)).trans hx151_0
                  replace hx151_1 := (HB.out.cell (World.block_lt_of_cell? w _ hx151_1)).trans hx151_1
                  replace hx151_2 := (HB.out.cell (World.block_lt_of_cell? w _ hx151_2)).trans hx151_2
                  replace p151 := eq_true p151
                  replace q151 := eq_true q151
                  go_upto_if 42 with (first | ((with_reducible refine gate_dst (N := 12) rfl ?_); refine box_event ?hg (N := 12) ?hd (cs := #[.int .i64 0, .int .i64 0, .int .i64 0]) (t := 67) ?hr ?_; (case hd => rfl); (case hg => rfl); (case hr => first | (go_simp; done) | (go_simp; rfl)); intro gb152 hg w18 hbox hb; have n0_ := Aside0.mk (Kd.R_below (Kd.R_elderB (by (with_reducible repeat (first | apply Kd.R_alloc | apply Kd.R_drewN | apply Kd.R_drew)); exact HO_10.out) gb152 (Nat.le_of_eq hg.symm)) hb); have n1_ := Aside0.mk (below_step (by repeat (first | (with_reducible first | exact HB.out | apply below_alloc | apply pw_below_drewN | apply below_drew1) | exact HB.out)) hb); have n2_ := Aside0.mk (hbox); have n3_ := Aside0.mk ((by rw [hg]; exact (below_size (by repeat (first | (with_reducible first | exact HB.out | apply below_alloc | apply pw_below_drewN | apply below_drew1) | exact HB.out))) : w.heap.size ≤ gb152)); have n4_ := Aside0.mk ((by rw [hg]; exact (below_size (by repeat (first | (with_reducible first | exact HB.out | apply below_alloc | apply pw_below_drewN | apply below_drew1) | exact HB.out))) : w.heap.size ≤ gb152)); clear HO_10; clear HB; have HO_10 := n0_; have HB := n1_; have BK152 := n2_; have GW152 := n3_; have GE152 := n4_; clear n0_ n1_ n2_ n3_ n4_; clear hb hbox hg; have hcz19_0 : w18.cell? ⟨gb152, 0, none⟩ = some (.int .i64 0) := (blk_cell BK152.out 0).trans rfl; have hcz19_1 : w18.cell? ⟨gb152, 1, none⟩ = some (.int .i64 0) := (blk_cell BK152.out 1).trans rfl; have hcz19_2 : w18.cell? ⟨gb152, 2, none⟩ = some (.int .i64 0) := (blk_cell BK152.out 2).trans rfl; have hfz19_0 := blk_frozen BK152.out 0; have hfz19_1 := blk_frozen BK152.out 1; have hfz19_2 := blk_frozen BK152.out 2))
                  (try simp only [Act.put, List.setIfInBounds_toArray, List.set_cons_zero, List.set_cons_succ])
                  go_cut [42] (fun v42 wc => ∃ (kq : Nat) (x42_16 : Bool), v42 = .bool x42_16 ∧ Aside0 (solve_Arden.j1 kq l1 x10_1 l2 (l2.length : Int) x36_1 ((rd_T67 l2 x36_1).f0) x42_16 ((rd_T67 l2 x36_1).f0) ((rd_T67 l2 x36_1).f1) ((rd_T67 l2 x36_1).f2) = some (r1, r2)) ∧ Aside0 (kq ≤ k1) ∧ Aside0 (Kd.R k67 67 wc w.heap.size (fun k_ => k_ ≠ gb152) u10 x10_1) ∧ Aside0 (wc.heap[gb152]? = some (.cells #[.int .i64 ((rd_T67 l2 x36_1).f0), .int .i64 ((rd_T67 l2 x36_1).f1), .int .i64 ((rd_T67 l2 x36_1).f2)] 67 (0, 0))) ∧ Aside0 (Below w.heap.size w wc))
                  case first =>
                    have H := HC17.out
                    clear HC17
                    by_cases c20 : ((rd_T67 l2 x36_1).f0) = 4
                    · rw [if_pos c20] at H
                      have c20b0 : (((rd_T67 l2 x36_1).f0) == 4) = true := beq_iff_eq.mpr c20
                      have c20b1 : (((rd_T67 l2 x36_1).f0) != 4) = false := bne_eq_false_iff_eq.mpr c20
                      clear c20
                      (first | rw [c20b0] | (simp only [i64_w, i32_w]; rw [c20b0]) | skip)
                      have H' := Aside0.mk H
                      clear H
                      go_wp2
                      go_meet
                      case rel => exact ⟨_, ((((rd_T67 l2 x36_1).f0) == 4)), (by first | rfl | (simp; done) | (simp [*]; done)), H', ⟨by have := HK1.out; first | omega | exact Nat.le_refl _⟩, ⟨by (with_reducible repeat (first | apply Kd.R_alloc | apply Kd.R_drewN | apply Kd.R_drew)); exact Kd.R_mono (Kd.R_far (p := ⟨gb152, 2, none⟩) (Kd.R_far (p := ⟨gb152, 1, none⟩) (Kd.R_far (p := ⟨gb152, 0, none⟩) (Kd.R_mono HO_10.out (fun k_ hk => (⟨hk, hk.2⟩ : _ ∧ k_ ≠ gb152))) (fun _ hk => hk.2) (.int .i64 ((rd_T67 l2 x36_1).f0))) (fun _ hk => hk.2) (.int .i64 ((rd_T67 l2 x36_1).f1))) (fun _ hk => hk.2) (.int .i64 ((rd_T67 l2 x36_1).f2))) (fun _ hk => hk.1.2)⟩, ⟨by (with_reducible repeat (first | refine blk_drewN ?_ _ | refine blk_drew ?_ | refine blk_alloc ?_ _)); refine blk_put (cs := #[.int .i64 ((rd_T67 l2 x36_1).f0), .int .i64 ((rd_T67 l2 x36_1).f1), .int .i64 0]) ?_ 2 _ rfl; (with_reducible repeat (first | refine blk_drewN ?_ _ | refine blk_drew ?_ | refine blk_alloc ?_ _)); refine blk_put (cs := #[.int .i64 ((rd_T67 l2 x36_1).f0), .int .i64 0, .int .i64 0]) ?_ 1 _ rfl; (with_reducible repeat (first | refine blk_drewN ?_ _ | refine blk_drew ?_ | refine blk_alloc ?_ _)); refine blk_put (cs := #[.int .i64 0, .int .i64 0, .int .i64 0]) ?_ 0 _ rfl; (with_reducible repeat (first | refine blk_drewN ?_ _ | refine blk_drew ?_ | refine blk_alloc ?_ _)); exact BK152.out⟩, ⟨by repeat (first | (with_reducible first | exact HB.out | apply below_alloc | apply pw_below_drewN | apply below_drew1 | refine below_set ?_ GE152.out) | exact HB.out)⟩⟩
                    · rw [if_neg c20] at H
                      have c20b0 : (((rd_T67 l2 x36_1).f0) == 4) = false := beq_eq_false_iff_ne.mpr c20
                      have c20b1 : (((rd_T67 l2 x36_1).f0) != 4) = true := bne_iff_ne.mpr c20
                      (first | rw [c20b0] | (simp only [i64_w, i32_w]; rw [c20b0]) | skip)
                      have H' := Aside0.mk H
                      clear H
                      go_wp2
                      go_meet
                      case rel => exact ⟨_, ((((rd_T67 l2 x36_1).f0) == 5)), (by first | rfl | (simp; done) | (simp [*]; done)), H', ⟨by have := HK1.out; first | omega | exact Nat.le_refl _⟩, ⟨by (with_reducible repeat (first | apply Kd.R_alloc | apply Kd.R_drewN | apply Kd.R_drew)); exact Kd.R_mono (Kd.R_far (p := ⟨gb152, 2, none⟩) (Kd.R_far (p := ⟨gb152, 1, none⟩) (Kd.R_far (p := ⟨gb152, 0, none⟩) (Kd.R_mono HO_10.out (fun k_ hk => (⟨hk, hk.2⟩ : _ ∧ k_ ≠ gb152))) (fun _ hk => hk.2) (.int .i64 ((rd_T67 l2 x36_1).f0))) (fun _ hk => hk.2) (.int .i64 ((rd_T67 l2 x36_1).f1))) (fun _ hk => hk.2) (.int .i64 ((rd_T67 l2 x36_1).f2))) (fun _ hk => hk.1.2)⟩, ⟨by (with_reducible repeat (first | refine blk_drewN ?_ _ | refine blk_drew ?_ | refine blk_alloc ?_ _)); refine blk_put (cs := #[.int .i64 ((rd_T67 l2 x36_1).f0), .int .i64 ((rd_T67 l2 x36_1).f1), .int .i64 0]) ?_ 2 _ rfl; (with_reducible repeat (first | refine blk_drewN ?_ _ | refine blk_drew ?_ | refine blk_alloc ?_ _)); refine blk_put (cs := #[.int .i64 ((rd_T67 l2 x36_1).f0), .int .i64 0, .int .i64 0]) ?_ 1 _ rfl; (with_reducible repeat (first | refine blk_drewN ?_ _ | refine blk_drew ?_ | refine blk_alloc ?_ _)); refine blk_put (cs := #[.int .i64 0, .int .i64 0, .int .i64 0]) ?_ 0 _ rfl; (with_reducible repeat (first | refine blk_drewN ?_ _ | refine blk_drew ?_ | refine blk_alloc ?_ _)); exact BK152.out⟩, ⟨by repeat (first | (with_reducible first | exact HB.out | apply below_alloc | apply pw_below_drewN | apply below_drew1 | refine below_set ?_ GE152.out) | exact HB.out)⟩⟩
                  case rest =>
                    clear HC17
                    try clear c1
                    try clear p1
                    try clear q1
                    try clear hx1
                    try clear c2
                    try clear p2
                    try clear c3
                    try clear c5
                    try clear c5b0
                    try clear c5b1
                    try clear p6
                    try clear c7
                    try clear c7b0
                    try clear c7b1
                    try clear c9
                    try clear c14
                    try clear c14b0
                    try clear c15
                    try clear c15b0
                    try clear p15
                    try clear q15
                    try clear hx15
                    try clear c16
                    try clear c16b0
                    try clear c20
                    try clear c20b0
                    try clear c20b1
                    try clear hcz19_0
                    try clear hcz19_1
                    try clear hcz19_2
                    try clear hfz19_0
                    try clear hfz19_1
                    try clear hfz19_2
                    try clear hx151_0
                    try clear hx151_1
                    try clear hx151_2
                    try clear p151
                    try clear p2
                    try clear p6
                    try clear q151
                    obtain ⟨kq, x42_16, rfl, HA, HJ16, HO_10, BK152, HB⟩ := hcut
                    cases kq with
                    | zero => exact absurd HA.out (by simp [solve_Arden.j1])
                    | succ kj16 =>
                      have H := HA.out
                      clear HA
                      simp only [solve_Arden.j1] at H
                      by_cases c21 : x42_16 = true
                      · subst c21
                        have H1 : (if x10_1.length < 5864062014805 then (solve_Arden.l0 kj16 l1 (x10_1 ++ [(⟨((rd_T67 l2 x36_1).f0), wrap64 ((wrap64 (((rd_T67 l2 x36_1).f1) + (l1.length : Int))) + 1), wrap64 ((wrap64 (((rd_T67 l2 x36_1).f2) + (l1.length : Int))) + 1)⟩ : S67)]) l2 (l2.length : Int) (wrap64 (x36_1 + 1))) else (none)) = some (r1, r2) := by rw [if_pos rfl] at H; exact H
                        clear H
                        have H := H1
                        clear H1
                        by_cases c22 : x10_1.length < 5864062014805
                        · rw [if_pos c22] at H
                          have LMc22 := Aside0.mk c22
                          clear c22
                          obtain ⟨y153, hy153⟩ : ∃ y_ : List (S67), y_ = (x10_1 ++ [(⟨((rd_T67 l2 x36_1).f0), wrap64 ((wrap64 (((rd_T67 l2 x36_1).f1) + (l1.length : Int))) + 1), wrap64 ((wrap64 (((rd_T67 l2 x36_1).f2) + (l1.length : Int))) + 1)⟩ : S67)]) := ⟨_, rfl⟩
                          replace H : (solve_Arden.l0 kj16 l1 y153 l2 (l2.length : Int) (wrap64 (x36_1 + 1))) = some (r1, r2) := by first | (rw [hy153]; with_reducible exact H) | (have H2_ := (Option.bind_some _ _).symm.trans H; rw [hy153]; with_reducible exact H2_) | (have H2_ := (Option.bind_some _ _).symm.trans H; with_reducible exact H2_) | with_reducible exact H | (rw [hy153]; exact H) | exact H
                          have Ny153 := Aside0.mk hy153
                          clear hy153
                          have H' := Aside0.mk H
                          clear H
                          have hcz23_0 : wc.cell? ⟨gb152, 0, none⟩ = some (.int .i64 ((rd_T67 l2 x36_1).f0)) := (blk_cell BK152.out 0).trans rfl
                          have hcz23_1 : wc.cell? ⟨gb152, 1, none⟩ = some (.int .i64 ((rd_T67 l2 x36_1).f1)) := (blk_cell BK152.out 1).trans rfl
                          have hcz23_2 : wc.cell? ⟨gb152, 2, none⟩ = some (.int .i64 ((rd_T67 l2 x36_1).f2)) := (blk_cell BK152.out 2).trans rfl
                          have hfz23_0 := blk_frozen BK152.out 0
                          have hfz23_1 := blk_frozen BK152.out 1
                          have hfz23_2 := blk_frozen BK152.out 2
                          go_wp2_with (first | ((with_reducible refine gate_builtin (b := .append) (xs := #[.tmp 68, .tmp 70]) rfl ?_); at_builtin; refine Kd.R_append k67 (w0 := w) w.heap.size rfl (.tmp 68) (.tmp 70) 22 67 (.agg #[(.int .i64 0), (.int .i64 0), (.int .i64 0)]) 24 rfl Try.underlying22 info67 rfl (by decide) (by omega) u10 x10_1 (⟨((rd_T67 l2 x36_1).f0), wrap64 ((wrap64 (((rd_T67 l2 x36_1).f1) + (l1.length : Int))) + 1), wrap64 ((wrap64 (((rd_T67 l2 x36_1).f2) + (l1.length : Int))) + 1)⟩ : S67) [.int .i64 ((rd_T67 l2 x36_1).f0), .int .i64 (wrap64 ((wrap64 (((rd_T67 l2 x36_1).f1) + (l1.length : Int))) + 1)), .int .i64 (wrap64 ((wrap64 (((rd_T67 l2 x36_1).f2) + (l1.length : Int))) + 1))] (fun k_ => k_ ≠ gb152) (fun _ => False) rfl (by first | (go_simp; done) | (go_simp; rfl)) ?aP (fun _ hk => hk.elim) ?aF ?aO ?aB ?aS ?aL ?_; (case aP => exact k67_mkM _ _ _ (⟨((rd_T67 l2 x36_1).f0), wrap64 ((wrap64 (((rd_T67 l2 x36_1).f1) + (l1.length : Int))) + 1), wrap64 ((wrap64 (((rd_T67 l2 x36_1).f2) + (l1.length : Int))) + 1)⟩ : S67)); (case aB => exact (by repeat (first | (with_reducible first | exact HB.out | apply below_alloc | apply pw_below_drewN | apply below_drew1 | refine below_set ?_ GE152.out) | exact HB.out))); (case aF => exact (fun k_ hk => Kd.freshB (g := gb152) (o := .cells #[.int .i64 ((rd_T67 l2 x36_1).f0), .int .i64 (wrap64 ((wrap64 (((rd_T67 l2 x36_1).f1) + (l1.length : Int))) + 1)), .int .i64 (wrap64 ((wrap64 (((rd_T67 l2 x36_1).f2) + (l1.length : Int))) + 1))] 67 (0, 0)) (by (with_reducible repeat (first | refine blk_drewN ?_ _ | refine blk_drew ?_ | refine blk_alloc ?_ _)); refine blk_put (cs := #[.int .i64 ((rd_T67 l2 x36_1).f0), .int .i64 (wrap64 ((wrap64 (((rd_T67 l2 x36_1).f1) + (l1.length : Int))) + 1)), .int .i64 ((rd_T67 l2 x36_1).f2)]) ?_ 2 _ rfl; (with_reducible repeat (first | refine blk_drewN ?_ _ | refine blk_drew ?_ | refine blk_alloc ?_ _)); refine blk_put (cs := #[.int .i64 ((rd_T67 l2 x36_1).f0), .int .i64 ((rd_T67 l2 x36_1).f1), .int .i64 ((rd_T67 l2 x36_1).f2)]) ?_ 1 _ rfl; (with_reducible repeat (first | refine blk_drewN ?_ _ | refine blk_drew ?_ | refine blk_alloc ?_ _)); exact BK152.out) k_ hk)); (case aO => exact (by (with_reducible repeat (first | apply Kd.R_alloc | apply Kd.R_drewN | apply Kd.R_drew)); exact Kd.R_mono (Kd.R_far (p := ⟨gb152, 2, none⟩) (Kd.R_far (p := ⟨gb152, 1, none⟩) (Kd.R_mono HO_10.out (fun k_ hk => (⟨hk, hk⟩ : _ ∧ k_ ≠ gb152))) (fun _ hk => hk.2) (.int .i64 (wrap64 ((wrap64 (((rd_T67 l2 x36_1).f1) + (l1.length : Int))) + 1)))) (fun _ hk => hk.2) (.int .i64 (wrap64 ((wrap64 (((rd_T67 l2 x36_1).f2) + (l1.length : Int))) + 1)))) (fun _ hk => hk.1))); (case aS => exact (below_size (by repeat (first | (with_reducible first | exact HB.out | apply below_alloc | apply pw_below_drewN | apply below_drew1 | refine below_set ?_ GE152.out) | exact HB.out)))); (case aL => have := LMc22.out; omega); intro v154 w24 ho hb hg hat; rw [← Ny153.out] at ho; have n0_ := Aside0.mk (blk_grown (g := gb152) (o := .cells #[.int .i64 ((rd_T67 l2 x36_1).f0), .int .i64 (wrap64 ((wrap64 (((rd_T67 l2 x36_1).f1) + (l1.length : Int))) + 1)), .int .i64 (wrap64 ((wrap64 (((rd_T67 l2 x36_1).f2) + (l1.length : Int))) + 1))] 67 (0, 0)) (by (with_reducible repeat (first | refine blk_drewN ?_ _ | refine blk_drew ?_ | refine blk_alloc ?_ _)); refine blk_put (cs := #[.int .i64 ((rd_T67 l2 x36_1).f0), .int .i64 (wrap64 ((wrap64 (((rd_T67 l2 x36_1).f1) + (l1.length : Int))) + 1)), .int .i64 ((rd_T67 l2 x36_1).f2)]) ?_ 2 _ rfl; (with_reducible repeat (first | refine blk_drewN ?_ _ | refine blk_drew ?_ | refine blk_alloc ?_ _)); refine blk_put (cs := #[.int .i64 ((rd_T67 l2 x36_1).f0), .int .i64 ((rd_T67 l2 x36_1).f1), .int .i64 ((rd_T67 l2 x36_1).f2)]) ?_ 1 _ rfl; (with_reducible repeat (first | refine blk_drewN ?_ _ | refine blk_drew ?_ | refine blk_alloc ?_ _)); exact BK152.out) hg (Kd.R_away HO_10.out (fun _ hk => hk))); have n1_ := Aside0.mk (hb); have n2_ := Aside0.mk (ho); clear BK152; clear HB; clear HO_10; have BK152 := n0_; have HB := n1_; have HO155 := n2_; clear n0_ n1_ n2_; clear ho hb hg hat))
                          go_roundg kj16
                          case measure => have := HK1.out; have := HJ16.out; omega
                          case rel => exact ⟨(y153), (wrap64 (x36_1 + 1)), (by first | rfl | (simp; done) | (simp [*]; done)), H', ⟨by have := HK1.out; have := HJ16.out; omega⟩, ⟨by (with_reducible repeat (first | apply Kd.R_alloc | apply Kd.R_drewN | apply Kd.R_drew)); exact Kd.R_mono HO155.out (fun _ hk => trivial)⟩, ⟨by repeat (first | (with_reducible first | exact HB.out | apply below_alloc | apply pw_below_drewN | apply below_drew1 | refine below_set ?_ GE152.out) | exact HB.out)⟩⟩
                        · rw [if_neg c22] at H
                          exact absurd H (by simp)
                      · replace c21 := Bool.eq_false_iff.mpr c21
                        subst c21
                        have H1 : (if ((rd_T67 l2 x36_1).f0) = 6 then (if x10_1.length < 5864062014805 then (solve_Arden.l0 kj16 l1 (x10_1 ++ [(⟨((rd_T67 l2 x36_1).f0), wrap64 (((rd_T67 l2 x36_1).f1) + (wrap64 ((l1.length : Int) + 1))), ((rd_T67 l2 x36_1).f2)⟩ : S67)]) l2 (l2.length : Int) (wrap64 (x36_1 + 1))) else (none)) else (if x10_1.length < 5864062014805 then (solve_Arden.l0 kj16 l1 (x10_1 ++ [(⟨((rd_T67 l2 x36_1).f0), ((rd_T67 l2 x36_1).f1), ((rd_T67 l2 x36_1).f2)⟩ : S67)]) l2 (l2.length : Int) (wrap64 (x36_1 + 1))) else (none))) = some (r1, r2) := by rw [if_neg (show ¬ (false = true) by decide)] at H; exact H
                        clear H
                        have H := H1
                        clear H1
                        by_cases c25 : ((rd_T67 l2 x36_1).f0) = 6
                        · rw [if_pos c25] at H
                          have c25b0 : (((rd_T67 l2 x36_1).f0) == 6) = true := beq_iff_eq.mpr c25
                          have c25b1 : (((rd_T67 l2 x36_1).f0) != 6) = false := bne_eq_false_iff_eq.mpr c25
                          clear c25
                          by_cases c26 : x10_1.length < 5864062014805
                          · rw [if_pos c26] at H
                            have LMc26 := Aside0.mk c26
                            clear c26
                            obtain ⟨y156, hy156⟩ : ∃ y_ : List (S67), y_ = (x10_1 ++ [(⟨((rd_T67 l2 x36_1).f0), wrap64 (((rd_T67 l2 x36_1).f1) + (wrap64 ((l1.length : Int) + 1))), ((rd_T67 l2 x36_1).f2)⟩ : S67)]) := ⟨_, rfl⟩
                            replace H : (solve_Arden.l0 kj16 l1 y156 l2 (l2.length : Int) (wrap64 (x36_1 + 1))) = some (r1, r2) := by first | (rw [hy156]; with_reducible exact H) | (have H2_ := (Option.bind_some _ _).symm.trans H; rw [hy156]; with_reducible exact H2_) | (have H2_ := (Option.bind_some _ _).symm.trans H; with_reducible exact H2_) | with_reducible exact H | (rw [hy156]; exact H) | exact H
                            have Ny156 := Aside0.mk hy156
                            clear hy156
                            have H' := Aside0.mk H
                            clear H
                            have hcz27_0 : wc.cell? ⟨gb152, 0, none⟩ = some (.int .i64 ((rd_T67 l2 x36_1).f0)) := (blk_cell BK152.out 0).trans rfl
                            have hcz27_1 : wc.cell? ⟨gb152, 1, none⟩ = some (.int .i64 ((rd_T67 l2 x36_1).f1)) := (blk_cell BK152.out 1).trans rfl
                            have hcz27_2 : wc.cell? ⟨gb152, 2, none⟩ = some (.int .i64 ((rd_T67 l2 x36_1).f2)) := (blk_cell BK152.out 2).trans rfl
                            have hfz27_0 := blk_frozen BK152.out 0
                            have hfz27_1 := blk_frozen BK152.out 1
                            have hfz27_2 := blk_frozen BK152.out 2
                            go_wp2_with (first | ((with_reducible refine gate_builtin (b := .append) (xs := #[.tmp 68, .tmp 70]) rfl ?_); at_builtin; refine Kd.R_append k67 (w0 := w) w.heap.size rfl (.tmp 68) (.tmp 70) 22 67 (.agg #[(.int .i64 0), (.int .i64 0), (.int .i64 0)]) 24 rfl Try.underlying22 info67 rfl (by decide) (by omega) u10 x10_1 (⟨((rd_T67 l2 x36_1).f0), wrap64 (((rd_T67 l2 x36_1).f1) + (wrap64 ((l1.length : Int) + 1))), ((rd_T67 l2 x36_1).f2)⟩ : S67) [.int .i64 ((rd_T67 l2 x36_1).f0), .int .i64 (wrap64 (((rd_T67 l2 x36_1).f1) + (wrap64 ((l1.length : Int) + 1)))), .int .i64 ((rd_T67 l2 x36_1).f2)] (fun k_ => k_ ≠ gb152) (fun _ => False) rfl (by first | (go_simp; done) | (go_simp; rfl)) ?aP (fun _ hk => hk.elim) ?aF ?aO ?aB ?aS ?aL ?_; (case aP => exact k67_mkM _ _ _ (⟨((rd_T67 l2 x36_1).f0), wrap64 (((rd_T67 l2 x36_1).f1) + (wrap64 ((l1.length : Int) + 1))), ((rd_T67 l2 x36_1).f2)⟩ : S67)); (case aB => exact (by repeat (first | (with_reducible first | exact HB.out | apply below_alloc | apply pw_below_drewN | apply below_drew1 | refine below_set ?_ GE152.out) | exact HB.out))); (case aF => exact (fun k_ hk => Kd.freshB (g := gb152) (o := .cells #[.int .i64 ((rd_T67 l2 x36_1).f0), .int .i64 (wrap64 (((rd_T67 l2 x36_1).f1) + (wrap64 ((l1.length : Int) + 1)))), .int .i64 ((rd_T67 l2 x36_1).f2)] 67 (0, 0)) (by (with_reducible repeat (first | refine blk_drewN ?_ _ | refine blk_drew ?_ | refine blk_alloc ?_ _)); refine blk_put (cs := #[.int .i64 ((rd_T67 l2 x36_1).f0), .int .i64 ((rd_T67 l2 x36_1).f1), .int .i64 ((rd_T67 l2 x36_1).f2)]) ?_ 1 _ rfl; (with_reducible repeat (first | refine blk_drewN ?_ _ | refine blk_drew ?_ | refine blk_alloc ?_ _)); exact BK152.out) k_ hk)); (case aO => exact (by (with_reducible repeat (first | apply Kd.R_alloc | apply Kd.R_drewN | apply Kd.R_drew)); exact Kd.R_mono (Kd.R_far (p := ⟨gb152, 1, none⟩) (Kd.R_mono HO_10.out (fun k_ hk => (⟨hk, hk⟩ : _ ∧ k_ ≠ gb152))) (fun _ hk => hk.2) (.int .i64 (wrap64 (((rd_T67 l2 x36_1).f1) + (wrap64 ((l1.length : Int) + 1)))))) (fun _ hk => hk.1))); (case aS => exact (below_size (by repeat (first | (with_reducible first | exact HB.out | apply below_alloc | apply pw_below_drewN | apply below_drew1 | refine below_set ?_ GE152.out) | exact HB.out)))); (case aL => have := LMc26.out; omega); intro v157 w28 ho hb hg hat; rw [← Ny156.out] at ho; have n0_ := Aside0.mk (blk_grown (g := gb152) (o := .cells #[.int .i64 ((rd_T67 l2 x36_1).f0), .int .i64 (wrap64 (((rd_T67 l2 x36_1).f1) + (wrap64 ((l1.length : Int) + 1)))), .int .i64 ((rd_T67 l2 x36_1).f2)] 67 (0, 0)) (by (with_reducible repeat (first | refine blk_drewN ?_ _ | refine blk_drew ?_ | refine blk_alloc ?_ _)); refine blk_put (cs := #[.int .i64 ((rd_T67 l2 x36_1).f0), .int .i64 ((rd_T67 l2 x36_1).f1), .int .i64 ((rd_T67 l2 x36_1).f2)]) ?_ 1 _ rfl; (with_reducible repeat (first | refine blk_drewN ?_ _ | refine blk_drew ?_ | refine blk_alloc ?_ _)); exact BK152.out) hg (Kd.R_away HO_10.out (fun _ hk => hk))); have n1_ := Aside0.mk (hb); have n2_ := Aside0.mk (ho); clear BK152; clear HB; clear HO_10; have BK152 := n0_; have HB := n1_; have HO158 := n2_; clear n0_ n1_ n2_; clear ho hb hg hat))
                            go_roundg kj16
                            case measure => have := HK1.out; have := HJ16.out; omega
                            case rel => exact ⟨(y156), (wrap64 (x36_1 + 1)), (by first | rfl | (simp; done) | (simp [*]; done)), H', ⟨by have := HK1.out; have := HJ16.out; omega⟩, ⟨by (with_reducible repeat (first | apply Kd.R_alloc | apply Kd.R_drewN | apply Kd.R_drew)); exact Kd.R_mono HO158.out (fun _ hk => trivial)⟩, ⟨by repeat (first | (with_reducible first | exact HB.out | apply below_alloc | apply pw_below_drewN | apply below_drew1 | refine below_set ?_ GE152.out) | exact HB.out)⟩⟩
                          · rw [if_neg c26] at H
                            exact absurd H (by simp)
                        · rw [if_neg c25] at H
                          have c25b0 : (((rd_T67 l2 x36_1).f0) == 6) = false := beq_eq_false_iff_ne.mpr c25
                          have c25b1 : (((rd_T67 l2 x36_1).f0) != 6) = true := bne_iff_ne.mpr c25
                          by_cases c29 : x10_1.length < 5864062014805
                          · rw [if_pos c29] at H
                            have LMc29 := Aside0.mk c29
                            clear c29
                            obtain ⟨y159, hy159⟩ : ∃ y_ : List (S67), y_ = (x10_1 ++ [(⟨((rd_T67 l2 x36_1).f0), ((rd_T67 l2 x36_1).f1), ((rd_T67 l2 x36_1).f2)⟩ : S67)]) := ⟨_, rfl⟩
                            replace H : (solve_Arden.l0 kj16 l1 y159 l2 (l2.length : Int) (wrap64 (x36_1 + 1))) = some (r1, r2) := by first | (rw [hy159]; with_reducible exact H) | (have H2_ := (Option.bind_some _ _).symm.trans H; rw [hy159]; with_reducible exact H2_) | (have H2_ := (Option.bind_some _ _).symm.trans H; with_reducible exact H2_) | with_reducible exact H | (rw [hy159]; exact H) | exact H
                            have Ny159 := Aside0.mk hy159
                            clear hy159
                            have H' := Aside0.mk H
                            clear H
                            have hcz30_0 : wc.cell? ⟨gb152, 0, none⟩ = some (.int .i64 ((rd_T67 l2 x36_1).f0)) := (blk_cell BK152.out 0).trans rfl
                            have hcz30_1 : wc.cell? ⟨gb152, 1, none⟩ = some (.int .i64 ((rd_T67 l2 x36_1).f1)) := (blk_cell BK152.out 1).trans rfl
                            have hcz30_2 : wc.cell? ⟨gb152, 2, none⟩ = some (.int .i64 ((rd_T67 l2 x36_1).f2)) := (blk_cell BK152.out 2).trans rfl
                            have hfz30_0 := blk_frozen BK152.out 0
                            have hfz30_1 := blk_frozen BK152.out 1
                            have hfz30_2 := blk_frozen BK152.out 2
                            go_wp2_with (first | ((with_reducible refine gate_builtin (b := .append) (xs := #[.tmp 68, .tmp 70]) rfl ?_); at_builtin; refine Kd.R_append k67 (w0 := w) w.heap.size rfl (.tmp 68) (.tmp 70) 22 67 (.agg #[(.int .i64 0), (.int .i64 0), (.int .i64 0)]) 24 rfl Try.underlying22 info67 rfl (by decide) (by omega) u10 x10_1 (⟨((rd_T67 l2 x36_1).f0), ((rd_T67 l2 x36_1).f1), ((rd_T67 l2 x36_1).f2)⟩ : S67) [.int .i64 ((rd_T67 l2 x36_1).f0), .int .i64 ((rd_T67 l2 x36_1).f1), .int .i64 ((rd_T67 l2 x36_1).f2)] (fun k_ => k_ ≠ gb152) (fun _ => False) rfl rfl ?aP (fun _ hk => hk.elim) ?aF ?aO ?aB ?aS ?aL ?_; (case aP => exact k67_mkM _ _ _ (⟨((rd_T67 l2 x36_1).f0), ((rd_T67 l2 x36_1).f1), ((rd_T67 l2 x36_1).f2)⟩ : S67)); (case aB => exact (by repeat (first | (with_reducible first | exact HB.out | apply below_alloc | apply pw_below_drewN | apply below_drew1 | refine below_set ?_ GE152.out) | exact HB.out))); (case aF => exact (fun k_ hk => Kd.freshB (g := gb152) (o := .cells #[.int .i64 ((rd_T67 l2 x36_1).f0), .int .i64 ((rd_T67 l2 x36_1).f1), .int .i64 ((rd_T67 l2 x36_1).f2)] 67 (0, 0)) (by (with_reducible repeat (first | refine blk_drewN ?_ _ | refine blk_drew ?_ | refine blk_alloc ?_ _)); exact BK152.out) k_ hk)); (case aO => exact (by (with_reducible repeat (first | apply Kd.R_alloc | apply Kd.R_drewN | apply Kd.R_drew)); exact HO_10.out)); (case aS => exact (below_size (by repeat (first | (with_reducible first | exact HB.out | apply below_alloc | apply pw_below_drewN | apply below_drew1 | refine below_set ?_ GE152.out) | exact HB.out)))); (case aL => have := LMc29.out; omega); intro v160 w31 ho hb hg hat; rw [← Ny159.out] at ho; have n0_ := Aside0.mk (blk_grown (g := gb152) (o := .cells #[.int .i64 ((rd_T67 l2 x36_1).f0), .int .i64 ((rd_T67 l2 x36_1).f1), .int .i64 ((rd_T67 l2 x36_1).f2)] 67 (0, 0)) (by (with_reducible repeat (first | refine blk_drewN ?_ _ | refine blk_drew ?_ | refine blk_alloc ?_ _)); exact BK152.out) hg (Kd.R_away HO_10.out (fun _ hk => hk))); have n1_ := Aside0.mk (hb); have n2_ := Aside0.mk (ho); clear BK152; clear HB; clear HO_10; have BK152 := n0_; have HB := n1_; have HO161 := n2_; clear n0_ n1_ n2_; clear ho hb hg hat))
                            go_roundg kj16
                            case measure => have := HK1.out; have := HJ16.out; omega
                            case rel => exact ⟨(y159), (wrap64 (x36_1 + 1)), (by first | rfl | (simp; done) | (simp [*]; done)), H', ⟨by have := HK1.out; have := HJ16.out; omega⟩, ⟨by (with_reducible repeat (first | apply Kd.R_alloc | apply Kd.R_drewN | apply Kd.R_drew)); exact Kd.R_mono HO161.out (fun _ hk => trivial)⟩, ⟨by repeat (first | (with_reducible first | exact HB.out | apply below_alloc | apply pw_below_drewN | apply below_drew1 | refine below_set ?_ GE152.out) | exact HB.out)⟩⟩
                          · rw [if_neg c29] at H
                            exact absurd H (by simp)
                · rw [if_neg c16] at H
                  exact absurd H (by simp)
              · rw [if_neg c15] at H
                exact absurd H (by simp)
            · rw [if_neg c14] at H
              have c14b0 : decide (x36_1 < (l2.length : Int)) = false := decide_eq_false c14
              clear c14
              by_cases c32 : x10_1.length < 5864062014805
              · rw [if_pos c32] at H
                have LMc32 := Aside0.mk c32
                clear c32
                obtain ⟨y148, hy148⟩ : ∃ y_ : List (S67), y_ = (x10_1 ++ [(⟨4, (l1.length : Int), wrap64 ((x10_1.length : Int) - 1)⟩ : S67)]) := ⟨_, rfl⟩
                replace H : (some (y148, 0)) = some (r1, r2) := by first | (rw [hy148]; with_reducible exact H) | (have H2_ := (Option.bind_some _ _).symm.trans H; rw [hy148]; with_reducible exact H2_) | (have H2_ := (Option.bind_some _ _).symm.trans H; with_reducible exact H2_) | with_reducible exact H | (rw [hy148]; exact H) | exact H
                have Ny148 := Aside0.mk hy148
                clear hy148
                simp only [Option.some.injEq, Prod.mk.injEq] at H
                obtain ⟨rfl, rfl⟩ := H
                obtain ⟨Ao33, co33, eo33⟩ := Kd.R_slice HO_10.out
                subst eo33
                go_wp2_with (first | ((with_reducible refine gate_builtin (b := .append) (xs := #[.tmp 73, .tmp 80]) rfl ?_); at_builtin; refine Kd.R_append k67 (w0 := w) w.heap.size rfl (.tmp 73) (.tmp 80) 22 67 (.agg #[(.int .i64 0), (.int .i64 0), (.int .i64 0)]) 24 rfl Try.underlying22 info67 rfl (by decide) (by omega) (.slice Ao33 x10_1.length co33) x10_1 (⟨4, (l1.length : Int), wrap64 ((x10_1.length : Int) - 1)⟩ : S67) [.int .i64 4, .int .i64 (l1.length : Int), .int .i64 (wrap64 ((x10_1.length : Int) - 1))] (fun _ => True) (fun _ => False) rfl rfl ?aP (fun _ hk => hk.elim) ?aF ?aO ?aB ?aS ?aL ?_; (case aP => exact k67_mkM _ _ _ (⟨4, (l1.length : Int), wrap64 ((x10_1.length : Int) - 1)⟩ : S67)); (case aB => exact (by repeat (first | (with_reducible first | exact HB.out | apply below_alloc | apply pw_below_drewN | apply below_drew1) | exact HB.out))); (case aF => exact (fun _ _ => trivial)); (case aO => exact (by (with_reducible repeat (first | apply Kd.R_alloc | apply Kd.R_drewN | apply Kd.R_drew)); exact HO_10.out)); (case aS => exact (below_size (by repeat (first | (with_reducible first | exact HB.out | apply below_alloc | apply pw_below_drewN | apply below_drew1) | exact HB.out)))); (case aL => have := LMc32.out; omega); intro v149 w34 ho hb hg hat; rw [← Ny148.out] at ho; have n0_ := Aside0.mk (hb); have n1_ := Aside0.mk (ho); clear HB; clear HO_10; have HB := n0_; have HO150 := n1_; clear n0_ n1_; clear ho hb hg hat))
                go_ret2
                exact ⟨_, by first | rfl | (simp [errW_none, errW_some] <;> rfl) | (simp [*, errW_none, errW_some] <;> rfl), by (with_reducible repeat (first | apply Kd.R_alloc | apply Kd.R_drewN | apply Kd.R_drew)); exact HO150.out, by repeat (first | (with_reducible first | exact HB.out | apply below_alloc | apply pw_below_drewN | apply below_drew1) | exact HB.out)⟩
              · rw [if_neg c32] at H
                exact absurd H (by simp)
      · rw [if_neg c9] at H
        exact absurd H (by simp)
    · rw [if_neg c7] at H
      have c7b0 : (t141 == 0) = false := beq_eq_false_iff_ne.mpr c7
      have c7b1 : (t141 != 0) = true := bne_iff_ne.mpr c7
      simp only [Option.some.injEq, Prod.mk.injEq] at H
      obtain ⟨rfl, rfl⟩ := H
      go_enter Try.func20, Try.ntmps20
      go_wp2_with (first | ((with_reducible refine gate_callee (f := 35) rfl ?_); refine goesL_ (some 15) rfl rfl Try.func35 (by kernel_rfl) rfl #[.int .i64 a0, .slice A1 l1.length c1] rfl (by (try simp only [List.map_toArray, List.map_cons, List.map_nil]); first | done | rfl | (simp only [List.length_drop, List.length_take]; rfl)) ?_; (with_reducible refine (sentence_Check.calls k a0 _ _ l1 t140 _ ?side1 ?side2 A4.out).mono ?_); (case side1 => repeat (first | exact HR1.out | (with_reducible refine Kd.C_alloc ?_ _) | (with_reducible refine Kd.C_drewN ?_ _) | (with_reducible refine Kd.C_drew ?_))); (case side2 => exact HC1.out); rintro e w35 ⟨rfl, hb⟩; refine ⟨_, rfl, ?_⟩; have n0_ := Aside0.mk (below_step (by repeat (first | (with_reducible first | exact HB.out | apply below_alloc | apply pw_below_drewN | apply below_drew1) | exact HB.out)) hb); clear HB; have HB := n0_; clear n0_; (try clear hb); (try clear hb2); (try clear hk); (try clear hi)) | ((with_reducible refine gate_callee (f := 35) rfl ?_); refine goesL_ (some 21) rfl rfl Try.func35 (by kernel_rfl) rfl #[.int .i64 a0, .slice A2 l2.length c2] rfl (by (try simp only [List.map_toArray, List.map_cons, List.map_nil]); first | done | rfl | (simp only [List.length_drop, List.length_take]; rfl)) ?_; (with_reducible refine (sentence_Check.calls k a0 _ _ l2 t141 _ ?side1 ?side2 A6.out).mono ?_); (case side1 => repeat (first | exact (Kd.C_below HR2.out HB.out) | (with_reducible refine Kd.C_alloc ?_ _) | (with_reducible refine Kd.C_drewN ?_ _) | (with_reducible refine Kd.C_drew ?_))); (case side2 => exact HC2.out); rintro e w36 ⟨rfl, hb⟩; refine ⟨_, rfl, ?_⟩; have n0_ := Aside0.mk (below_step (by repeat (first | (with_reducible first | exact HB.out | apply below_alloc | apply pw_below_drewN | apply below_drew1) | exact HB.out)) hb); clear HB; have HB := n0_; clear n0_; (try clear hb); (try clear hb2); (try clear hk); (try clear hi)))
      go_ret2
      exact ⟨_, by first | rfl | (simp [errW_none, errW_some] <;> rfl) | (simp [*, errW_none, errW_some] <;> rfl), by first | exact Kd.R_nil _ _ _ _ _ | exact Kd.N_nil _ _ _ _ _ | exact Kd.V_nil _ _ _ _ _ | exact Kd.Q_nil _ _ _ _ _ | exact Kd.S_nil _ _ _ _ _ | (go_simp; exact Kd.R_nil _ _ _ _ _), by repeat (first | (with_reducible first | exact HB.out | apply below_alloc | apply pw_below_drewN | apply below_drew1) | exact HB.out)⟩
  · rw [if_neg c5] at H
    have c5b0 : (t140 == 0) = false := beq_eq_false_iff_ne.mpr c5
    have c5b1 : (t140 != 0) = true := bne_iff_ne.mpr c5
    simp only [Option.some.injEq, Prod.mk.injEq] at H
    obtain ⟨rfl, rfl⟩ := H
    go_enter Try.func20, Try.ntmps20
    go_wp2_with (first | ((with_reducible refine gate_callee (f := 35) rfl ?_); refine goesL_ (some 15) rfl rfl Try.func35 (by kernel_rfl) rfl #[.int .i64 a0, .slice A1 l1.length c1] rfl (by (try simp only [List.map_toArray, List.map_cons, List.map_nil]); first | done | rfl | (simp only [List.length_drop, List.length_take]; rfl)) ?_; (with_reducible refine (sentence_Check.calls k a0 _ _ l1 t140 _ ?side1 ?side2 A4.out).mono ?_); (case side1 => repeat (first | exact HR1.out | (with_reducible refine Kd.C_alloc ?_ _) | (with_reducible refine Kd.C_drewN ?_ _) | (with_reducible refine Kd.C_drew ?_))); (case side2 => exact HC1.out); rintro e w37 ⟨rfl, hb⟩; refine ⟨_, rfl, ?_⟩; have n0_ := Aside0.mk (below_step (by repeat (first | (with_reducible first | exact HB.out | apply below_alloc | apply pw_below_drewN | apply below_drew1) | exact HB.out)) hb); clear HB; have HB := n0_; clear n0_; (try clear hb); (try clear hb2); (try clear hk); (try clear hi)))
    go_ret2
    exact ⟨_, by first | rfl | (simp [errW_none, errW_some] <;> rfl) | (simp [*, errW_none, errW_some] <;> rfl), by first | exact Kd.R_nil _ _ _ _ _ | exact Kd.N_nil _ _ _ _ _ | exact Kd.V_nil _ _ _ _ _ | exact Kd.Q_nil _ _ _ _ _ | exact Kd.S_nil _ _ _ _ _ | (go_simp; exact Kd.R_nil _ _ _ _ _), by repeat (first | (with_reducible first | exact HB.out | apply below_alloc | apply pw_below_drewN | apply below_drew1) | exact HB.out)⟩

/-! ### coppicerlaw_SolveArdens: function 6 -/
mutual
def coppicerlaw_SolveArdens.j0 : Nat → Int → List (S67) → List (S67) → List Int → List (S67) → Int → Int → Option (Bool)
  | 0, _, _, _, _, _, _, _ => none
  | k + 1, x0, x1, x2, x3, x9, x10, x11 => if x11 = 0 then (if x10 = 0 then (if (x9.length : Int) = 0 then (coppicerlaw_SolveArdens.j1 k x1 x2 x3 x9 true) else ((coppicerref_Right.f k x0 x9).bind fun t168 => (coppicerlaw_SolveArdens.j1 k x1 x2 x3 x9 (t168 != 0)))) else (coppicerlaw_SolveArdens.j1 k x1 x2 x3 x9 true)) else (if x10 = x11 then (some ((x9.length : Int) == 0)) else (some false))
def coppicerlaw_SolveArdens.j1 : Nat → List (S67) → List (S67) → List Int → List (S67) → Bool → Option (Bool)
  | 0, _, _, _, _, _ => none
  | k + 1, x1, x2, x3, x9, x51 => if x51 = true then (some false) else (if (x3.length : Int) > 12 then (some true) else ((coppicerref_Means.f k x2 x3).bind fun t169 => (coppicerlaw_SolveArdens.l0 k x1 x3 x9 t169 1)))
def coppicerlaw_SolveArdens.l0 : Nat → List (S67) → List Int → List (S67) → Bool → Int → Option (Bool)
  | 0, _, _, _, _, _ => none
  | k + 1, x1, x3, x9, x12, x13 => if x13 ≤ (x3.length : Int) then (if x12 = true then (coppicerlaw_SolveArdens.l0 k x1 x3 x9 true (wrap64 (x13 + 1))) else (if 0 ≤ x13 then ((coppicerref_Means.f k x1 (x3.take (x13 : Int).toNat)).bind fun t174 => (if t174 = true then ((coppicerref_Means.f k x9 (x3.drop (x13 : Int).toNat)).bind fun t179 => (coppicerlaw_SolveArdens.l0 k x1 x3 x9 t179 (wrap64 (x13 + 1)))) else (coppicerlaw_SolveArdens.l0 k x1 x3 x9 false (wrap64 (x13 + 1))))) else (none))) else ((coppicerref_Means.f k x9 x3).bind fun t180 => (some (t180 == x12)))
end
def coppicerlaw_SolveArdens.f (k : Nat) (a0 : Int) (l1 : List (S67)) (l2 : List (S67)) (l3 : List Int) : Option (Bool) := (solve_Arden.f k a0 l1 l2).bind fun bt162 => ((coppicerref_SentenceCheck.f k a0 l1).bind fun t166 => (if t166 = 0 then ((coppicerref_SentenceCheck.f k a0 l2).bind fun t167 => (coppicerlaw_SolveArdens.j0 k a0 l1 l2 l3 bt162.1 bt162.2 t167)) else (coppicerlaw_SolveArdens.j0 k a0 l1 l2 l3 bt162.1 bt162.2 t166)))
theorem coppicerlaw_SolveArdens.mono_l : ∀ k, (∀ y0 y1 y2 y3 y4 y5 y6, LeO (coppicerlaw_SolveArdens.j0 k y0 y1 y2 y3 y4 y5 y6) (coppicerlaw_SolveArdens.j0 (k + 1) y0 y1 y2 y3 y4 y5 y6)) ∧ (∀ y0 y1 y2 y3 y4, LeO (coppicerlaw_SolveArdens.j1 k y0 y1 y2 y3 y4) (coppicerlaw_SolveArdens.j1 (k + 1) y0 y1 y2 y3 y4)) ∧ (∀ y0 y1 y2 y3 y4, LeO (coppicerlaw_SolveArdens.l0 k y0 y1 y2 y3 y4) (coppicerlaw_SolveArdens.l0 (k + 1) y0 y1 y2 y3 y4))
  | 0 => ⟨fun _ _ _ _ _ _ _ r h => by simp [coppicerlaw_SolveArdens.j0] at h, fun _ _ _ _ _ r h => by simp [coppicerlaw_SolveArdens.j1] at h, fun _ _ _ _ _ r h => by simp [coppicerlaw_SolveArdens.l0] at h⟩
  | k + 1 => by
    obtain ⟨ih0, ih1, ih2⟩ := coppicerlaw_SolveArdens.mono_l k
    refine ⟨?_, ?_, ?_⟩
    · intro y0 y1 y2 y3 y4 y5 y6
      unfold coppicerlaw_SolveArdens.j0
      repeat' first
      | (with_reducible exact ih0 _ _ _ _ _ _ _)
      | (with_reducible exact ih1 _ _ _ _ _)
      | (with_reducible exact ih2 _ _ _ _ _)
      | (with_reducible exact coppicerref_Means.mono _ _ _)
      | (with_reducible exact coppicerref_Right.mono _ _ _)
      | (with_reducible exact coppicerref_SentenceCheck.mono _ _ _)
      | (with_reducible exact solve_Arden.mono _ _ _ _)
      | (with_reducible exact LeO.refl _)
      | (with_reducible exact LeO.none _)
      | (with_reducible refine LeO.ite ?_ ?_)
      | (with_reducible refine LeO.bind ?_ (fun _ => ?_))
      | exact ih0 _ _ _ _ _ _ _
      | exact ih1 _ _ _ _ _
      | exact ih2 _ _ _ _ _
      | exact coppicerref_Means.mono _ _ _
      | exact coppicerref_Right.mono _ _ _
      | exact coppicerref_SentenceCheck.mono _ _ _
      | exact solve_Arden.mono _ _ _ _
      | exact LeO.none _
      | refine LeO.ite ?_ ?_
      | refine LeO.bind ?_ (fun _ => ?_)
    · intro y0 y1 y2 y3 y4
      unfold coppicerlaw_SolveArdens.j1
      repeat' first
      | (with_reducible exact ih0 _ _ _ _ _ _ _)
      | (with_reducible exact ih1 _ _ _ _ _)
      | (with_reducible exact ih2 _ _ _ _ _)
      | (with_reducible exact coppicerref_Means.mono _ _ _)
      | (with_reducible exact coppicerref_Right.mono _ _ _)
      | (with_reducible exact coppicerref_SentenceCheck.mono _ _ _)
      | (with_reducible exact solve_Arden.mono _ _ _ _)
      | (with_reducible exact LeO.refl _)
      | (with_reducible exact LeO.none _)
      | (with_reducible refine LeO.ite ?_ ?_)
      | (with_reducible refine LeO.bind ?_ (fun _ => ?_))
      | exact ih0 _ _ _ _ _ _ _
      | exact ih1 _ _ _ _ _
      | exact ih2 _ _ _ _ _
      | exact coppicerref_Means.mono _ _ _
      | exact coppicerref_Right.mono _ _ _
      | exact coppicerref_SentenceCheck.mono _ _ _
      | exact solve_Arden.mono _ _ _ _
      | exact LeO.none _
      | refine LeO.ite ?_ ?_
      | refine LeO.bind ?_ (fun _ => ?_)
    · intro y0 y1 y2 y3 y4
      unfold coppicerlaw_SolveArdens.l0
      repeat' first
      | (with_reducible exact ih0 _ _ _ _ _ _ _)
      | (with_reducible exact ih1 _ _ _ _ _)
      | (with_reducible exact ih2 _ _ _ _ _)
      | (with_reducible exact coppicerref_Means.mono _ _ _)
      | (with_reducible exact coppicerref_Right.mono _ _ _)
      | (with_reducible exact coppicerref_SentenceCheck.mono _ _ _)
      | (with_reducible exact solve_Arden.mono _ _ _ _)
      | (with_reducible exact LeO.refl _)
      | (with_reducible exact LeO.none _)
      | (with_reducible refine LeO.ite ?_ ?_)
      | (with_reducible refine LeO.bind ?_ (fun _ => ?_))
      | exact ih0 _ _ _ _ _ _ _
      | exact ih1 _ _ _ _ _
      | exact ih2 _ _ _ _ _
      | exact coppicerref_Means.mono _ _ _
      | exact coppicerref_Right.mono _ _ _
      | exact coppicerref_SentenceCheck.mono _ _ _
      | exact solve_Arden.mono _ _ _ _
      | exact LeO.none _
      | refine LeO.ite ?_ ?_
      | refine LeO.bind ?_ (fun _ => ?_)
theorem coppicerlaw_SolveArdens.mono : ∀ a0 a1 a2 a3 k, LeO (coppicerlaw_SolveArdens.f k a0 a1 a2 a3) (coppicerlaw_SolveArdens.f (k + 1) a0 a1 a2 a3) := by
  intro a0 a1 a2 a3 k
  obtain ⟨ih0, ih1, ih2⟩ := coppicerlaw_SolveArdens.mono_l k
  unfold coppicerlaw_SolveArdens.f
  repeat' first
      | (with_reducible exact ih0 _ _ _ _ _ _ _)
      | (with_reducible exact ih1 _ _ _ _ _)
      | (with_reducible exact ih2 _ _ _ _ _)
      | (with_reducible exact coppicerref_Means.mono _ _ _)
      | (with_reducible exact coppicerref_Right.mono _ _ _)
      | (with_reducible exact coppicerref_SentenceCheck.mono _ _ _)
      | (with_reducible exact solve_Arden.mono _ _ _ _)
      | (with_reducible exact LeO.refl _)
      | (with_reducible exact LeO.none _)
      | (with_reducible refine LeO.ite ?_ ?_)
      | (with_reducible refine LeO.bind ?_ (fun _ => ?_))
      | exact ih0 _ _ _ _ _ _ _
      | exact ih1 _ _ _ _ _
      | exact ih2 _ _ _ _ _
      | exact coppicerref_Means.mono _ _ _
      | exact coppicerref_Right.mono _ _ _
      | exact coppicerref_SentenceCheck.mono _ _ _
      | exact solve_Arden.mono _ _ _ _
      | exact LeO.none _
      | refine LeO.ite ?_ ?_
      | refine LeO.bind ?_ (fun _ => ?_)
set_option maxHeartbeats 8000000 in
set_option maxRecDepth 100000 in
theorem coppicerlaw_SolveArdens.calls (k : Nat) (a0 : Int) (A1 : Option Addr) (c1 : Nat) (l1 : List (S67)) (A2 : Option Addr) (c2 : Nat) (l2 : List (S67)) (A3 : Option Addr) (c3 : Nat) (l3 : List Int) (r : Bool) (w : World) (hr1 : Kd.C k67 w A1 l1.length l1) (hc1 : l1.length ≤ c1) (hr2 : Kd.C k67 w A2 l2.length l2) (hc2 : l2.length ≤ c2) (hr3 : Kd.C (Kd.int .i64) w A3 l3.length l3) (hc3 : l3.length ≤ c3) (h : coppicerlaw_SolveArdens.f k a0 l1 l2 l3 = some r) :
    Calls Try.prog 6 #[.int .i64 a0, .slice A1 l1.length c1, .slice A2 l2.length c2, .slice A3 l3.length c3] w fun e w' => e = .returned (.bool r) ∧ Below w.heap.size w w' := by
  have HR1 := Aside0.mk hr1
  have HC1 := Aside0.mk hc1
  clear hr1 hc1
  have HR2 := Aside0.mk hr2
  have HC2 := Aside0.mk hc2
  clear hr2 hc2
  have HR3 := Aside0.mk hr3
  have HC3 := Aside0.mk hc3
  clear hr3 hc3
  have HB := Aside0.mk (Below.refl w.heap.size w)
  have H : ((solve_Arden.f k a0 l1 l2).bind fun bt162 => ((coppicerref_SentenceCheck.f k a0 l1).bind fun t166 => (if t166 = 0 then ((coppicerref_SentenceCheck.f k a0 l2).bind fun t167 => (coppicerlaw_SolveArdens.j0 k a0 l1 l2 l3 bt162.1 bt162.2 t167)) else (coppicerlaw_SolveArdens.j0 k a0 l1 l2 l3 bt162.1 bt162.2 t166)))) = some r := h
  clear h
  replace H := Option.bind_eq_some_iff.mp H
  obtain ⟨⟨t162, t163⟩, A50, H⟩ := H
  replace H : ((coppicerref_SentenceCheck.f k a0 l1).bind fun t166 => (if t166 = 0 then ((coppicerref_SentenceCheck.f k a0 l2).bind fun t167 => (coppicerlaw_SolveArdens.j0 k a0 l1 l2 l3 t162 t163 t167)) else (coppicerlaw_SolveArdens.j0 k a0 l1 l2 l3 t162 t163 t166))) = some r := H
  have A5 := Aside0.mk A50
  clear A50
  replace H := Option.bind_eq_some_iff.mp H
  obtain ⟨t166, A60, H⟩ := H
  replace H : (if t166 = 0 then ((coppicerref_SentenceCheck.f k a0 l2).bind fun t167 => (coppicerlaw_SolveArdens.j0 k a0 l1 l2 l3 t162 t163 t167)) else (coppicerlaw_SolveArdens.j0 k a0 l1 l2 l3 t162 t163 t166)) = some r := H
  have A6 := Aside0.mk A60
  clear A60
  have HC7 := Aside0.mk H
  clear H
  go_enter Try.func6, Try.ntmps6
  go_upto_if 25 with (first | ((with_reducible refine gate_callee (f := 20) rfl ?_); refine goesL_ (some 18) rfl rfl Try.func20 (by kernel_rfl) rfl #[.int .i64 a0, .slice A1 l1.length c1, .slice A2 l2.length c2] rfl (by (try simp only [List.map_toArray, List.map_cons, List.map_nil]); first | done | rfl | (simp only [List.length_drop, List.length_take]; rfl)) ?_; (with_reducible refine (solve_Arden.calls k a0 _ _ l1 _ _ l2 t162 t163 _ ?side1 ?side2 ?side3 ?side4 A5.out).mono ?_); (case side1 => repeat (first | exact HR1.out | (with_reducible refine Kd.C_alloc ?_ _) | (with_reducible refine Kd.C_drewN ?_ _) | (with_reducible refine Kd.C_drew ?_))); (case side2 => exact HC1.out); (case side3 => repeat (first | exact HR2.out | (with_reducible refine Kd.C_alloc ?_ _) | (with_reducible refine Kd.C_drewN ?_ _) | (with_reducible refine Kd.C_drew ?_))); (case side4 => exact HC2.out); rintro e w8 ⟨v164, rfl, ho0, hb⟩; refine ⟨_, rfl, ?_⟩; have n0_ := Aside0.mk (Kd.R_lower ho0 (below_size (by repeat (first | (with_reducible first | exact HB.out | apply below_alloc | apply pw_below_drewN | apply below_drew1) | exact HB.out)))); have n1_ := Aside0.mk (below_step (by repeat (first | (with_reducible first | exact HB.out | apply below_alloc | apply pw_below_drewN | apply below_drew1) | exact HB.out)) hb); clear HB; have HO165 := n0_; have HB := n1_; clear n0_ n1_; (try clear hb); (try clear hb2); (try clear hk); (try clear hi); (try clear ho0)) | ((with_reducible refine gate_callee (f := 13) rfl ?_); refine goesL_ (some 23) rfl rfl Try.func13 (by kernel_rfl) rfl #[.int .i64 a0, .slice A1 l1.length c1] rfl (by (try simp only [List.map_toArray, List.map_cons, List.map_nil]); first | done | rfl | (simp only [List.length_drop, List.length_take]; rfl)) ?_; (with_reducible refine (coppicerref_SentenceCheck.calls k a0 _ _ l1 t166 _ ?side1 ?side2 A6.out).mono ?_); (case side1 => repeat (first | exact (Kd.C_below HR1.out HB.out) | (with_reducible refine Kd.C_alloc ?_ _) | (with_reducible refine Kd.C_drewN ?_ _) | (with_reducible refine Kd.C_drew ?_))); (case side2 => exact HC1.out); rintro e w9 ⟨rfl, hb⟩; refine ⟨_, rfl, ?_⟩; have n0_ := Aside0.mk (Kd.R_below (by (with_reducible repeat (first | apply Kd.R_alloc | apply Kd.R_drewN | apply Kd.R_drew)); exact HO165.out) hb); have n1_ := Aside0.mk (below_step (by repeat (first | (with_reducible first | exact HB.out | apply below_alloc | apply pw_below_drewN | apply below_drew1) | exact HB.out)) hb); clear HO165; clear HB; have HO165 := n0_; have HB := n1_; clear n0_ n1_; (try clear hb); (try clear hb2); (try clear hk); (try clear hi)))
  (try simp only [Act.put, List.setIfInBounds_toArray, List.set_cons_zero, List.set_cons_succ])
  go_cut [11] (fun v11 wc => ∃ (kq : Nat) (x11_6 : Int), v11 = .int .i64 x11_6 ∧ Aside0 (coppicerlaw_SolveArdens.j0 kq a0 l1 l2 l3 t162 t163 x11_6 = some r) ∧ Aside0 (kq ≤ k) ∧ Aside0 (Kd.R k67 67 wc w.heap.size (fun _ => True) v164 t162) ∧ Aside0 (Below w.heap.size w wc))
  case first =>
    have H := HC7.out
    clear HC7
    by_cases c10 : t166 = 0
    · rw [if_pos c10] at H
      have c10b0 : (t166 == 0) = true := beq_iff_eq.mpr c10
      have c10b1 : (t166 != 0) = false := bne_eq_false_iff_eq.mpr c10
      clear c10
      (first | rw [c10b0] | (simp only [i64_w, i32_w]; rw [c10b0]) | skip)
      replace H := Option.bind_eq_some_iff.mp H
      obtain ⟨t167, A110, H⟩ := H
      replace H : (coppicerlaw_SolveArdens.j0 k a0 l1 l2 l3 t162 t163 t167) = some r := H
      have A11 := Aside0.mk A110
      clear A110
      have H' := Aside0.mk H
      clear H
      go_wp2_with (first | ((with_reducible refine gate_callee (f := 13) rfl ?_); refine goesL_ (some 28) rfl rfl Try.func13 (by kernel_rfl) rfl #[.int .i64 a0, .slice A2 l2.length c2] rfl (by (try simp only [List.map_toArray, List.map_cons, List.map_nil]); first | done | rfl | (simp only [List.length_drop, List.length_take]; rfl)) ?_; (with_reducible refine (coppicerref_SentenceCheck.calls k a0 _ _ l2 t167 _ ?side1 ?side2 A11.out).mono ?_); (case side1 => repeat (first | exact (Kd.C_below HR2.out HB.out) | (with_reducible refine Kd.C_alloc ?_ _) | (with_reducible refine Kd.C_drewN ?_ _) | (with_reducible refine Kd.C_drew ?_))); (case side2 => exact HC2.out); rintro e w12 ⟨rfl, hb⟩; refine ⟨_, rfl, ?_⟩; have n0_ := Aside0.mk (Kd.R_below (by (with_reducible repeat (first | apply Kd.R_alloc | apply Kd.R_drewN | apply Kd.R_drew)); exact HO165.out) hb); have n1_ := Aside0.mk (below_step (by repeat (first | (with_reducible first | exact HB.out | apply below_alloc | apply pw_below_drewN | apply below_drew1) | exact HB.out)) hb); clear HO165; clear HB; have HO165 := n0_; have HB := n1_; clear n0_ n1_; (try clear hb); (try clear hb2); (try clear hk); (try clear hi)))
      go_meet
      case rel => exact ⟨_, (t167), (by first | rfl | (simp; done) | (simp [*]; done)), H', ⟨by first | omega | exact Nat.le_refl _⟩, ⟨by (with_reducible repeat (first | apply Kd.R_alloc | apply Kd.R_drewN | apply Kd.R_drew)); exact HO165.out⟩, ⟨by repeat (first | (with_reducible first | exact HB.out | apply below_alloc | apply pw_below_drewN | apply below_drew1) | exact HB.out)⟩⟩
    · rw [if_neg c10] at H
      have c10b0 : (t166 == 0) = false := beq_eq_false_iff_ne.mpr c10
      have c10b1 : (t166 != 0) = true := bne_iff_ne.mpr c10
      (first | rw [c10b0] | (simp only [i64_w, i32_w]; rw [c10b0]) | skip)
      have H' := Aside0.mk H
      clear H
      go_wp2
      go_meet
      case rel => exact ⟨_, (t166), (by first | rfl | (simp; done) | (simp [*]; done)), H', ⟨by first | omega | exact Nat.le_refl _⟩, ⟨by (with_reducible repeat (first | apply Kd.R_alloc | apply Kd.R_drewN | apply Kd.R_drew)); exact HO165.out⟩, ⟨by repeat (first | (with_reducible first | exact HB.out | apply below_alloc | apply pw_below_drewN | apply below_drew1) | exact HB.out)⟩⟩
  case rest =>
    clear HC7
    try clear c1
    try clear c2
    try clear p2
    try clear c3
    try clear c6
    try clear c10
    try clear c10b0
    try clear c10b1
    obtain ⟨kq, x11_6, rfl, HA, HJ6, HO_9, HB⟩ := hcut
    cases kq with
    | zero => exact absurd HA.out (by simp [coppicerlaw_SolveArdens.j0])
    | succ kj6 =>
      have H := HA.out
      clear HA
      simp only [coppicerlaw_SolveArdens.j0] at H
      by_cases c13 : x11_6 = 0
      · rw [if_pos c13] at H
        have c13b0 : (x11_6 == 0) = true := beq_iff_eq.mpr c13
        have c13b1 : (x11_6 != 0) = false := bne_eq_false_iff_eq.mpr c13
        clear c13
        have HC14 := Aside0.mk H
        clear H
        go_upto_region 7 with (fail)
        go_cut [51] (fun v51 wc => ∃ (kq : Nat) (x51_13 : Bool), v51 = .bool x51_13 ∧ Aside0 (coppicerlaw_SolveArdens.j1 kq l1 l2 l3 t162 x51_13 = some r) ∧ Aside0 (kq ≤ kj6) ∧ Aside0 (Kd.R k67 67 wc w.heap.size (fun _ => True) v164 t162) ∧ Aside0 (Below w.heap.size w wc))
        case first =>
          have H := HC14.out
          clear HC14
          by_cases c15 : t163 = 0
          · rw [if_pos c15] at H
            have c15b0 : (t163 == 0) = true := beq_iff_eq.mpr c15
            have c15b1 : (t163 != 0) = false := bne_eq_false_iff_eq.mpr c15
            clear c15
            (first | rw [c15b0] | (simp only [i64_w, i32_w]; rw [c15b0]) | skip)
            by_cases c16 : (t162.length : Int) = 0
            · rw [if_pos c16] at H
              have c16b0 : ((t162.length : Int) == 0) = true := beq_iff_eq.mpr c16
              have c16b1 : ((t162.length : Int) != 0) = false := bne_eq_false_iff_eq.mpr c16
              clear c16
              have H' := Aside0.mk H
              clear H
              obtain ⟨Ao17, co17, eo17⟩ := Kd.R_slice HO_9.out
              subst eo17
              go_wp2
              go_meet
              case rel => exact ⟨_, (true), (by first | rfl | (simp; done) | (simp [*]; done)), H', ⟨by have := HJ6.out; first | omega | exact Nat.le_refl _⟩, ⟨by (with_reducible repeat (first | apply Kd.R_alloc | apply Kd.R_drewN | apply Kd.R_drew)); exact HO_9.out⟩, ⟨by repeat (first | (with_reducible first | exact HB.out | apply below_alloc | apply pw_below_drewN | apply below_drew1) | exact HB.out)⟩⟩
            · rw [if_neg c16] at H
              have c16b0 : ((t162.length : Int) == 0) = false := beq_eq_false_iff_ne.mpr c16
              have c16b1 : ((t162.length : Int) != 0) = true := bne_iff_ne.mpr c16
              have c16b2 : ¬ (t162 = []) := fun h_ => c16 (by rw [h_]; rfl)
              replace H := Option.bind_eq_some_iff.mp H
              obtain ⟨t168, A180, H⟩ := H
              replace H : (coppicerlaw_SolveArdens.j1 kj6 l1 l2 l3 t162 (t168 != 0)) = some r := H
              have A18 := Aside0.mk A180
              clear A180
              have H' := Aside0.mk H
              clear H
              obtain ⟨Ao19, co19, eo19⟩ := Kd.R_slice HO_9.out
              subst eo19
              go_wp2_with (first | (go_at_call 14; (with_reducible refine (coppicerref_Right.calls kj6 a0 _ _ t162 t168 _ ?side1 ?side2 A18.out).mono ?_); (case side1 => repeat (first | exact (Kd.R_reads' HO_9.out).2.2 | (with_reducible refine Kd.C_alloc ?_ _) | (with_reducible refine Kd.C_drewN ?_ _) | (with_reducible refine Kd.C_drew ?_))); (case side2 => exact (Kd.R_reads' HO_9.out).2.1); rintro e w20 ⟨rfl, hb⟩; have n0_ := Aside0.mk (Kd.R_below (by (with_reducible repeat (first | apply Kd.R_alloc | apply Kd.R_drewN | apply Kd.R_drew)); exact HO_9.out) hb); have n1_ := Aside0.mk (below_step (by repeat (first | (with_reducible first | exact HB.out | apply below_alloc | apply pw_below_drewN | apply below_drew1) | exact HB.out)) hb); clear HO_9; clear HB; have HO_9 := n0_; have HB := n1_; clear n0_ n1_; (try clear hb); (try clear hb2); (try clear hk); (try clear hi)))
              go_meet
              case rel => exact ⟨_, ((t168 != 0)), (by first | rfl | (simp; done) | (simp [*]; done)), H', ⟨by have := HJ6.out; first | omega | exact Nat.le_refl _⟩, ⟨by (with_reducible repeat (first | apply Kd.R_alloc | apply Kd.R_drewN | apply Kd.R_drew)); exact HO_9.out⟩, ⟨by repeat (first | (with_reducible first | exact HB.out | apply below_alloc | apply pw_below_drewN | apply below_drew1) | exact HB.out)⟩⟩
          · rw [if_neg c15] at H
            have c15b0 : (t163 == 0) = false := beq_eq_false_iff_ne.mpr c15
            have c15b1 : (t163 != 0) = true := bne_iff_ne.mpr c15
            (first | rw [c15b0] | (simp only [i64_w, i32_w]; rw [c15b0]) | skip)
            have H' := Aside0.mk H
            clear H
            go_wp2
            go_meet
            case rel => exact ⟨_, (true), (by first | rfl | (simp; done) | (simp [*]; done)), H', ⟨by have := HJ6.out; first | omega | exact Nat.le_refl _⟩, ⟨by (with_reducible repeat (first | apply Kd.R_alloc | apply Kd.R_drewN | apply Kd.R_drew)); exact HO_9.out⟩, ⟨by repeat (first | (with_reducible first | exact HB.out | apply below_alloc | apply pw_below_drewN | apply below_drew1) | exact HB.out)⟩⟩
        case rest =>
          clear HC14
          try clear c1
          try clear c2
          try clear p2
          try clear c3
          try clear c6
          try clear c10
          try clear c10b0
          try clear c10b1
          try clear c13
          try clear c13b0
          try clear c13b1
          try clear c15
          try clear c15b0
          try clear c15b1
          try clear c16
          try clear c16b0
          try clear c16b1
          try clear c16b2
          try clear c20
          try clear p2
          obtain ⟨kq, x51_13, rfl, HA, HJ13, HO_9, HB⟩ := hcut
          cases kq with
          | zero => exact absurd HA.out (by simp [coppicerlaw_SolveArdens.j1])
          | succ kj13 =>
            have H := HA.out
            clear HA
            simp only [coppicerlaw_SolveArdens.j1] at H
            by_cases c21 : x51_13 = true
            · subst c21
              have H1 : (some false) = some r := by rw [if_pos rfl] at H; exact H
              clear H
              have H := H1
              clear H1
              obtain rfl := Option.some.inj H
              go_wp2
              go_ret
              exact ⟨by first | rfl | (simp [errW_none, errW_some] <;> rfl) | (simp [*, errW_none, errW_some] <;> rfl), by repeat (first | (with_reducible first | exact HB.out | apply below_alloc | apply pw_below_drewN | apply below_drew1) | exact HB.out)⟩
            · replace c21 := Bool.eq_false_iff.mpr c21
              subst c21
              have H1 : (if (l3.length : Int) > 12 then (some true) else ((coppicerref_Means.f kj13 l2 l3).bind fun t169 => (coppicerlaw_SolveArdens.l0 kj13 l1 l3 t162 t169 1))) = some r := by rw [if_neg (show ¬ (false = true) by decide)] at H; exact H
              clear H
              have H := H1
              clear H1
              by_cases c22 : (l3.length : Int) > 12
              · rw [if_pos c22] at H
                have c22b0 : decide (12 < (l3.length : Int)) = true := decide_eq_true c22
                have c22b1 : decide (12 < l3.length) = true := decide_eq_true (by omega)
                clear c22
                obtain rfl := Option.some.inj H
                go_wp2
                go_ret
                exact ⟨by first | rfl | (simp [errW_none, errW_some] <;> rfl) | (simp [*, errW_none, errW_some] <;> rfl), by repeat (first | (with_reducible first | exact HB.out | apply below_alloc | apply pw_below_drewN | apply below_drew1) | exact HB.out)⟩
              · rw [if_neg c22] at H
                have c22b0 : decide (12 < (l3.length : Int)) = false := decide_eq_false c22
                have c22b1 : decide (12 < l3.length) = false := decide_eq_false (by omega)
                clear c22
                replace H := Option.bind_eq_some_iff.mp H
                obtain ⟨t169, A230, H⟩ := H
                replace H : (coppicerlaw_SolveArdens.l0 kj13 l1 l3 t162 t169 1) = some r := H
                have A23 := Aside0.mk A230
                clear A230
                have H' := Aside0.mk H
                clear H
                go_wp2_with (first | ((with_reducible refine gate_callee (f := 15) rfl ?_); refine goesL_ (some 57) rfl rfl Try.func15 (by kernel_rfl) rfl #[.slice A2 l2.length c2, .slice A3 l3.length c3] rfl (by (try simp only [List.map_toArray, List.map_cons, List.map_nil]); first | done | rfl | (simp only [List.length_drop, List.length_take]; rfl)) ?_; (with_reducible refine (coppicerref_Means.calls kj13 _ _ l2 _ _ l3 t169 _ ?side1 ?side2 ?side3 ?side4 A23.out).mono ?_); (case side1 => repeat (first | exact (Kd.C_below HR2.out HB.out) | (with_reducible refine Kd.C_alloc ?_ _) | (with_reducible refine Kd.C_drewN ?_ _) | (with_reducible refine Kd.C_drew ?_))); (case side2 => exact HC2.out); (case side3 => repeat (first | exact (Kd.C_below HR3.out HB.out) | (with_reducible refine Kd.C_alloc ?_ _) | (with_reducible refine Kd.C_drewN ?_ _) | (with_reducible refine Kd.C_drew ?_))); (case side4 => exact HC3.out); rintro e w24 ⟨rfl, hb⟩; refine ⟨_, rfl, ?_⟩; have n0_ := Aside0.mk (Kd.R_below (by (with_reducible repeat (first | apply Kd.R_alloc | apply Kd.R_drewN | apply Kd.R_drew)); exact HO_9.out) hb); have n1_ := Aside0.mk (below_step (by repeat (first | (with_reducible first | exact HB.out | apply below_alloc | apply pw_below_drewN | apply below_drew1) | exact HB.out)) hb); clear HO_9; clear HB; have HO_9 := n0_; have HB := n1_; clear n0_ n1_; (try clear hb); (try clear hb2); (try clear hk); (try clear hi)))
                go_loopg [12, 13] kj13 (fun kq v12 v13 w' => ∃ (x12_3 : Bool) (x13_3 : Int), v12 = .bool x12_3 ∧ v13 = .int .i64 x13_3 ∧ Aside0 (coppicerlaw_SolveArdens.l0 kq l1 l3 t162 x12_3 x13_3 = some r) ∧ Aside0 (kq ≤ kj13) ∧ Aside0 (Kd.R k67 67 w' w.heap.size (fun _ => True) v164 t162) ∧ Aside0 (Below w.heap.size w w'))
                case atStart => exact ⟨(t169), (1), (by first | rfl | (simp; done) | (simp [*]; done)), (by first | rfl | (simp; done) | (simp [*]; done)), H', ⟨Nat.le_refl _⟩, ⟨by (with_reducible repeat (first | apply Kd.R_alloc | apply Kd.R_drewN | apply Kd.R_drew)); exact HO_9.out⟩, ⟨by repeat (first | (with_reducible first | exact HB.out | apply below_alloc | apply pw_below_drewN | apply below_drew1) | exact HB.out)⟩⟩
                case round =>
                  clear H'
                  try clear c1
                  try clear c2
                  try clear p2
                  try clear c3
                  try clear c6
                  try clear c10
                  try clear c10b0
                  try clear c10b1
                  try clear c13
                  try clear c13b0
                  try clear c13b1
                  try clear c15
                  try clear c15b0
                  try clear c15b1
                  try clear c16
                  try clear c16b0
                  try clear c16b1
                  try clear c16b2
                  try clear c20
                  try clear c21
                  try clear c22
                  try clear c22b0
                  try clear c22b1
                  try clear p2
                  obtain ⟨x12_3, x13_3, rfl, rfl, HA, HK3, HO_9, HB⟩ := hrel
                  cases gk with
                  | zero => exact absurd HA.out (by simp [coppicerlaw_SolveArdens.l0])
                  | succ k3 =>
                    have H := HA.out
                    clear HA
                    simp only [coppicerlaw_SolveArdens.l0] at H
                    by_cases c25 : x13_3 ≤ (l3.length : Int)
                    · rw [if_pos c25] at H
                      have c25b0 : decide (x13_3 ≤ (l3.length : Int)) = true := decide_eq_true c25
                      clear c25
                      by_cases c26 : x12_3 = true
                      · subst c26
                        have H1 : (coppicerlaw_SolveArdens.l0 k3 l1 l3 t162 true (wrap64 (x13_3 + 1))) = some r := by rw [if_pos rfl] at H; exact H
                        clear H
                        have H := H1
                        clear H1
                        have H' := Aside0.mk H
                        clear H
                        go_wp2
                        go_roundg k3
                        case measure => have := HJ6.out; have := HJ13.out; have := HK3.out; omega
                        case rel => exact ⟨(true), (wrap64 (x13_3 + 1)), (by first | rfl | (simp; done) | (simp [*]; done)), (by first | rfl | (simp; done) | (simp [*]; done)), H', ⟨by have := HJ6.out; have := HJ13.out; have := HK3.out; omega⟩, ⟨by (with_reducible repeat (first | apply Kd.R_alloc | apply Kd.R_drewN | apply Kd.R_drew)); exact HO_9.out⟩, ⟨by repeat (first | (with_reducible first | exact HB.out | apply below_alloc | apply pw_below_drewN | apply below_drew1) | exact HB.out)⟩⟩
                      · replace c26 := Bool.eq_false_iff.mpr c26
                        subst c26
                        have H1 : (if 0 ≤ x13_3 then ((coppicerref_Means.f k3 l1 (l3.take (x13_3 : Int).toNat)).bind fun t174 => (if t174 = true then ((coppicerref_Means.f k3 t162 (l3.drop (x13_3 : Int).toNat)).bind fun t179 => (coppicerlaw_SolveArdens.l0 k3 l1 l3 t162 t179 (wrap64 (x13_3 + 1)))) else (coppicerlaw_SolveArdens.l0 k3 l1 l3 t162 false (wrap64 (x13_3 + 1))))) else (none)) = some r := by rw [if_neg (show ¬ (false = true) by decide)] at H; exact H
                        clear H
                        have H := H1
                        clear H1
                        by_cases c27 : 0 ≤ x13_3
                        · rw [if_pos c27] at H
                          have c27b0 := eq_true c27
                          have c27b1 : decide (0 ≤ x13_3) = true := decide_eq_true c27
                          clear c27
                          have c28b0 := eq_true (of_decide_eq_true (by first | (with_reducible assumption) | assumption) : x13_3 ≤ (l3.length : Int))
                          obtain ⟨y170, hy170⟩ : ∃ y_ : List Int, y_ = (l3.take (x13_3 : Int).toNat) := ⟨_, rfl⟩
                          replace H : ((coppicerref_Means.f k3 l1 y170).bind fun t174 => (if t174 = true then ((coppicerref_Means.f k3 t162 (l3.drop (x13_3 : Int).toNat)).bind fun t179 => (coppicerlaw_SolveArdens.l0 k3 l1 l3 t162 t179 (wrap64 (x13_3 + 1)))) else (coppicerlaw_SolveArdens.l0 k3 l1 l3 t162 false (wrap64 (x13_3 + 1))))) = some r := by first | (rw [hy170]; with_reducible exact H) | (have H2_ := (Option.bind_some _ _).symm.trans H; rw [hy170]; with_reducible exact H2_) | (have H2_ := (Option.bind_some _ _).symm.trans H; with_reducible exact H2_) | with_reducible exact H | (rw [hy170]; exact H) | exact H
                          have Ny170 := Aside0.mk hy170
                          clear hy170
                          replace H := Option.bind_eq_some_iff.mp H
                          obtain ⟨t174, A290, H⟩ := H
                          replace H : (if t174 = true then ((coppicerref_Means.f k3 t162 (l3.drop (x13_3 : Int).toNat)).bind fun t179 => (coppicerlaw_SolveArdens.l0 k3 l1 l3 t162 t179 (wrap64 (x13_3 + 1)))) else (coppicerlaw_SolveArdens.l0 k3 l1 l3 t162 false (wrap64 (x13_3 + 1)))) = some r := H
                          have A29 := Aside0.mk A290
                          clear A290
                          by_cases c30 : t174 = true
                          · subst c30
                            have H1 : ((coppicerref_Means.f k3 t162 (l3.drop (x13_3 : Int).toNat)).bind fun t179 => (coppicerlaw_SolveArdens.l0 k3 l1 l3 t162 t179 (wrap64 (x13_3 + 1)))) = some r := by rw [if_pos rfl] at H; exact H
                            clear H
                            have H := H1
                            clear H1
                            have c31b0 := eq_true (of_decide_eq_true (by first | (with_reducible assumption) | assumption) : 0 ≤ x13_3)
                            have c32b0 := eq_true (of_decide_eq_true (by first | (with_reducible assumption) | assumption) : x13_3 ≤ (l3.length : Int))
                            obtain ⟨y175, hy175⟩ : ∃ y_ : List Int, y_ = (l3.drop (x13_3 : Int).toNat) := ⟨_, rfl⟩
                            replace H : ((coppicerref_Means.f k3 t162 y175).bind fun t179 => (coppicerlaw_SolveArdens.l0 k3 l1 l3 t162 t179 (wrap64 (x13_3 + 1)))) = some r := by first | (rw [hy175]; with_reducible exact H) | (have H2_ := (Option.bind_some _ _).symm.trans H; rw [hy175]; with_reducible exact H2_) | (have H2_ := (Option.bind_some _ _).symm.trans H; with_reducible exact H2_) | with_reducible exact H | (rw [hy175]; exact H) | exact H
                            have Ny175 := Aside0.mk hy175
                            clear hy175
                            replace H := Option.bind_eq_some_iff.mp H
                            obtain ⟨t179, A330, H⟩ := H
                            replace H : (coppicerlaw_SolveArdens.l0 k3 l1 l3 t162 t179 (wrap64 (x13_3 + 1))) = some r := H
                            have A33 := Aside0.mk A330
                            clear A330
                            have H' := Aside0.mk H
                            clear H
                            have q34 : (x13_3 : Int) ≤ ((l3.length : Int) : Int) := of_decide_eq_true (by first | (with_reducible assumption) | assumption)
                            obtain ⟨i034, hi034, _, hsz34, _⟩ := info_parts info3
                            have hroom34 : l3.length ≤ c3 := HC3.out
                            have hC34 : Kd.C (Kd.int .i64) _ A3 l3.length l3 := HR3.out
                            have hcut34 := cut_to (P := Try.prog) 23 3 .i64 Try.underlying23 hi034 A3 l3.length c3 x13_3 (of_decide_eq_true (by first | (with_reducible assumption) | assumption)) q34 hroom34
                            have hr34 := Kd.C_take (m := (x13_3 : Int).toNat) hC34 (by omega)
                            have hy34 : y170.length = (x13_3 : Int).toNat := (by rw [Ny170.out, List.length_take]; omega)
                            rw [← Ny170.out] at hr34
                            rw [← hy34] at hcut34
                            have HR173 := Aside0.mk hr34
                            have HC173 := Aside0.mk (show y170.length ≤ c3 from by omega)
                            clear hr34 hC34 hroom34 hi034 hsz34
                            have KY34 := Aside0.mk hy34
                            clear hy34
                            replace q34 := eq_true q34
                            go_wp2_with (first | (go_at_call 15; (with_reducible refine (coppicerref_Means.calls k3 _ _ l1 _ _ y170 true _ ?side1 ?side2 ?side3 ?side4 A29.out).mono ?_); (case side1 => repeat (first | exact (Kd.C_below HR1.out HB.out) | (with_reducible refine Kd.C_alloc ?_ _) | (with_reducible refine Kd.C_drewN ?_ _) | (with_reducible refine Kd.C_drew ?_))); (case side2 => exact HC1.out); (case side3 => repeat (first | exact (Kd.C_below HR173.out HB.out) | (with_reducible refine Kd.C_alloc ?_ _) | (with_reducible refine Kd.C_drewN ?_ _) | (with_reducible refine Kd.C_drew ?_))); (case side4 => exact HC173.out); rintro e w35 ⟨rfl, hb⟩; have n0_ := Aside0.mk (Kd.R_below (by (with_reducible repeat (first | apply Kd.R_alloc | apply Kd.R_drewN | apply Kd.R_drew)); exact HO_9.out) hb); have n1_ := Aside0.mk (below_step (by repeat (first | (with_reducible first | exact HB.out | apply below_alloc | apply pw_below_drewN | apply below_drew1) | exact HB.out)) hb); clear HO_9; clear HB; have HO_9 := n0_; have HB := n1_; clear n0_ n1_; (try clear hb); (try clear hb2); (try clear hk); (try clear hi); have q36 : (x13_3 : Int) ≤ ((l3.length : Int) : Int) := of_decide_eq_true (by first | (with_reducible assumption) | assumption); obtain ⟨i036, hi036, _, hsz36, _⟩ := info_parts info3; have hroom36 : l3.length ≤ c3 := HC3.out; have hC36 : Kd.C (Kd.int .i64) _ A3 l3.length l3 := HR3.out; have q036 : (0 : Int) ≤ (x13_3 : Int) := of_decide_eq_true (by first | (with_reducible assumption) | assumption); have hcut36 := cut_from (P := Try.prog) 23 3 .i64 Try.underlying23 hi036 1 hsz36 A3 l3.length c3 x13_3 q036 q36; have hr36 := Kd.C_drop (m := (x13_3 : Int).toNat) (c := c3) hC36 (by omega) hroom36; obtain ⟨A36, hA36⟩ : ∃ Aq_, Aq_ = (if c3 = (x13_3 : Int).toNat then A3 else (A3 : Option Addr).map (·.add ((x13_3 : Int).toNat * 1))) := ⟨_, rfl⟩; obtain ⟨c36, hc36⟩ : ∃ cq_, cq_ = c3 - (x13_3 : Int).toNat := ⟨_, rfl⟩; have hy36 : y175.length = l3.length - (x13_3 : Int).toNat := (by rw [Ny175.out, List.length_drop] <;> omega); rw [show (l3).drop (x13_3 : Int).toNat = y175 from Ny175.out.symm] at hr36; replace hr36 : Kd.C (Kd.int .i64) _ A36 y175.length y175 := (by rw [hA36]; exact hr36); rw [← hy36, ← hA36, ← hc36] at hcut36; have HR178 := Aside0.mk hr36; have HC178 := Aside0.mk (show y175.length ≤ c36 from by rw [hy36, hc36]; exact Nat.sub_le_sub_right hroom36 _); clear hr36 hC36 hroom36 hi036 hsz36 hc36; have KY36 := Aside0.mk hy36; have KA36 := Aside0.mk hA36; clear hy36 hA36; replace q36 := eq_true q36; obtain ⟨Ao37, co37, eo37⟩ := Kd.R_slice HO_9.out; subst eo37) | (go_at_call 15; (with_reducible refine (coppicerref_Means.calls k3 _ _ t162 _ _ y175 t179 _ ?side1 ?side2 ?side3 ?side4 A33.out).mono ?_); (case side1 => repeat (first | exact (Kd.R_reads' HO_9.out).2.2 | (with_reducible refine Kd.C_alloc ?_ _) | (with_reducible refine Kd.C_drewN ?_ _) | (with_reducible refine Kd.C_drew ?_))); (case side2 => exact (Kd.R_reads' HO_9.out).2.1); (case side3 => repeat (first | exact (Kd.C_below HR178.out HB.out) | (with_reducible refine Kd.C_alloc ?_ _) | (with_reducible refine Kd.C_drewN ?_ _) | (with_reducible refine Kd.C_drew ?_))); (case side4 => exact HC178.out); rintro e w38 ⟨rfl, hb⟩; have n0_ := Aside0.mk (Kd.R_below (by (with_reducible repeat (first | apply Kd.R_alloc | apply Kd.R_drewN | apply Kd.R_drew)); exact HO_9.out) hb); have n1_ := Aside0.mk (below_step (by repeat (first | (with_reducible first | exact HB.out | apply below_alloc | apply pw_below_drewN | apply below_drew1) | exact HB.out)) hb); clear HO_9; clear HB; have HO_9 := n0_; have HB := n1_; clear n0_ n1_; (try clear hb); (try clear hb2); (try clear hk); (try clear hi)))
                            go_roundg k3
                            case measure => have := HJ6.out; have := HJ13.out; have := HK3.out; omega
                            case rel => exact ⟨(t179), (wrap64 (x13_3 + 1)), (by first | rfl | (simp; done) | (simp [*]; done)), (by first | rfl | (simp; done) | (simp [*]; done)), H', ⟨by have := HJ6.out; have := HJ13.out; have := HK3.out; omega⟩, ⟨by (with_reducible repeat (first | apply Kd.R_alloc | apply Kd.R_drewN | apply Kd.R_drew)); exact HO_9.out⟩, ⟨by repeat (first | (with_reducible first | exact HB.out | apply below_alloc | apply pw_below_drewN | apply below_drew1) | exact HB.out)⟩⟩
                          · replace c30 := Bool.eq_false_iff.mpr c30
                            subst c30
                            have H1 : (coppicerlaw_SolveArdens.l0 k3 l1 l3 t162 false (wrap64 (x13_3 + 1))) = some r := by rw [if_neg (show ¬ (false = true) by decide)] at H; exact H
                            clear H
                            have H := H1
                            clear H1
                            have H' := Aside0.mk H
                            clear H
                            have q39 : (x13_3 : Int) ≤ ((l3.length : Int) : Int) := of_decide_eq_true (by first | (with_reducible assumption) | assumption)
                            obtain ⟨i039, hi039, _, hsz39, _⟩ := info_parts info3
                            have hroom39 : l3.length ≤ c3 := HC3.out
                            have hC39 : Kd.C (Kd.int .i64) _ A3 l3.length l3 := HR3.out
                            have hcut39 := cut_to (P := Try.prog) 23 3 .i64 Try.underlying23 hi039 A3 l3.length c3 x13_3 (of_decide_eq_true (by first | (with_reducible assumption) | assumption)) q39 hroom39
                            have hr39 := Kd.C_take (m := (x13_3 : Int).toNat) hC39 (by omega)
                            have hy39 : y170.length = (x13_3 : Int).toNat := (by rw [Ny170.out, List.length_take]; omega)
                            rw [← Ny170.out] at hr39
                            rw [← hy39] at hcut39
                            have HR173 := Aside0.mk hr39
                            have HC173 := Aside0.mk (show y170.length ≤ c3 from by omega)
                            clear hr39 hC39 hroom39 hi039 hsz39
                            have KY39 := Aside0.mk hy39
                            clear hy39
                            replace q39 := eq_true q39
                            go_wp2_with (first | (go_at_call 15; (with_reducible refine (coppicerref_Means.calls k3 _ _ l1 _ _ y170 false _ ?side1 ?side2 ?side3 ?side4 A29.out).mono ?_); (case side1 => repeat (first | exact (Kd.C_below HR1.out HB.out) | (with_reducible refine Kd.C_alloc ?_ _) | (with_reducible refine Kd.C_drewN ?_ _) | (with_reducible refine Kd.C_drew ?_))); (case side2 => exact HC1.out); (case side3 => repeat (first | exact (Kd.C_below HR173.out HB.out) | (with_reducible refine Kd.C_alloc ?_ _) | (with_reducible refine Kd.C_drewN ?_ _) | (with_reducible refine Kd.C_drew ?_))); (case side4 => exact HC173.out); rintro e w40 ⟨rfl, hb⟩; have n0_ := Aside0.mk (Kd.R_below (by (with_reducible repeat (first | apply Kd.R_alloc | apply Kd.R_drewN | apply Kd.R_drew)); exact HO_9.out) hb); have n1_ := Aside0.mk (below_step (by repeat (first | (with_reducible first | exact HB.out | apply below_alloc | apply pw_below_drewN | apply below_drew1) | exact HB.out)) hb); clear HO_9; clear HB; have HO_9 := n0_; have HB := n1_; clear n0_ n1_; (try clear hb); (try clear hb2); (try clear hk); (try clear hi)))
                            go_roundg k3
                            case measure => have := HJ6.out; have := HJ13.out; have := HK3.out; omega
                            case rel => exact ⟨(false), (wrap64 (x13_3 + 1)), (by first | rfl | (simp; done) | (simp [*]; done)), (by first | rfl | (simp; done) | (simp [*]; done)), H', ⟨by have := HJ6.out; have := HJ13.out; have := HK3.out; omega⟩, ⟨by (with_reducible repeat (first | apply Kd.R_alloc | apply Kd.R_drewN | apply Kd.R_drew)); exact HO_9.out⟩, ⟨by repeat (first | (with_reducible first | exact HB.out | apply below_alloc | apply pw_below_drewN | apply below_drew1) | exact HB.out)⟩⟩
                        · rw [if_neg c27] at H
                          exact absurd H (by simp)
                    · rw [if_neg c25] at H
                      have c25b0 : decide (x13_3 ≤ (l3.length : Int)) = false := decide_eq_false c25
                      clear c25
                      replace H := Option.bind_eq_some_iff.mp H
                      obtain ⟨t180, A410, H⟩ := H
                      replace H : (some (t180 == x12_3)) = some r := H
                      have A41 := Aside0.mk A410
                      clear A410
                      obtain rfl := Option.some.inj H
                      obtain ⟨Ao42, co42, eo42⟩ := Kd.R_slice HO_9.out
                      subst eo42
                      go_wp2_with (first | ((with_reducible refine gate_callee (f := 15) rfl ?_); refine goesL_ (some 81) rfl rfl Try.func15 (by kernel_rfl) rfl #[.slice Ao42 t162.length co42, .slice A3 l3.length c3] rfl (by (try simp only [List.map_toArray, List.map_cons, List.map_nil]); first | done | rfl | (simp only [List.length_drop, List.length_take]; rfl)) ?_; (with_reducible refine (coppicerref_Means.calls k3 _ _ t162 _ _ l3 t180 _ ?side1 ?side2 ?side3 ?side4 A41.out).mono ?_); (case side1 => repeat (first | exact (Kd.R_reads' HO_9.out).2.2 | (with_reducible refine Kd.C_alloc ?_ _) | (with_reducible refine Kd.C_drewN ?_ _) | (with_reducible refine Kd.C_drew ?_))); (case side2 => exact (Kd.R_reads' HO_9.out).2.1); (case side3 => repeat (first | exact (Kd.C_below HR3.out HB.out) | (with_reducible refine Kd.C_alloc ?_ _) | (with_reducible refine Kd.C_drewN ?_ _) | (with_reducible refine Kd.C_drew ?_))); (case side4 => exact HC3.out); rintro e w43 ⟨rfl, hb⟩; refine ⟨_, rfl, ?_⟩; have n0_ := Aside0.mk (Kd.R_below (by (with_reducible repeat (first | apply Kd.R_alloc | apply Kd.R_drewN | apply Kd.R_drew)); exact HO_9.out) hb); have n1_ := Aside0.mk (below_step (by repeat (first | (with_reducible first | exact HB.out | apply below_alloc | apply pw_below_drewN | apply below_drew1) | exact HB.out)) hb); clear HO_9; clear HB; have HO_9 := n0_; have HB := n1_; clear n0_ n1_; (try clear hb); (try clear hb2); (try clear hk); (try clear hi)))
                      go_ret
                      exact ⟨by first | rfl | (simp [errW_none, errW_some] <;> rfl) | (simp [*, errW_none, errW_some] <;> rfl), by repeat (first | (with_reducible first | exact HB.out | apply below_alloc | apply pw_below_drewN | apply below_drew1) | exact HB.out)⟩
      · rw [if_neg c13] at H
        have c13b0 : (x11_6 == 0) = false := beq_eq_false_iff_ne.mpr c13
        have c13b1 : (x11_6 != 0) = true := bne_iff_ne.mpr c13
        by_cases c44 : t163 = x11_6
        · rw [if_pos c44] at H
          have c44b0 : (t163 == x11_6) = true := beq_iff_eq.mpr c44
          have c44b1 : (t163 != x11_6) = false := bne_eq_false_iff_eq.mpr c44
          clear c44
          obtain rfl := Option.some.inj H
          obtain ⟨Ao45, co45, eo45⟩ := Kd.R_slice HO_9.out
          subst eo45
          go_wp2
          go_ret
          exact ⟨by first | rfl | (simp [errW_none, errW_some] <;> rfl) | (simp [*, errW_none, errW_some] <;> rfl), by repeat (first | (with_reducible first | exact HB.out | apply below_alloc | apply pw_below_drewN | apply below_drew1) | exact HB.out)⟩
        · rw [if_neg c44] at H
          have c44b0 : (t163 == x11_6) = false := beq_eq_false_iff_ne.mpr c44
          have c44b1 : (t163 != x11_6) = true := bne_iff_ne.mpr c44
          obtain rfl := Option.some.inj H
          go_wp2
          go_ret
          exact ⟨by first | rfl | (simp [errW_none, errW_some] <;> rfl) | (simp [*, errW_none, errW_some] <;> rfl), by repeat (first | (with_reducible first | exact HB.out | apply below_alloc | apply pw_below_drewN | apply below_drew1) | exact HB.out)⟩

end Go.Proofs.Ytmfdfffedkejjaa.PSolveArdens
