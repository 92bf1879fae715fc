import Derived.Test.YtnppgmbhdomelaaPTableTreesx2
import Derived.Test.YtnppgmbhdomelaaPTableTreesx3
import Derived.Test.YtnppgmbhdomelaaPTableTreesx9
import Derived.Test.YtnppgmbhdomelaaPTableTreesx13
namespace Go.Proofs.Ytnppgmbhdomelaa.PTableTrees
open Go.RowKit Go.Proofs.YtnppgmbhdomelaaW.PrintWords Go.Proofs.YtnppgmbhdomelaaW.PrintLast Go.Proofs.YtnppgmbhdomelaaW.PrintMore
attribute [local go_sem] max2_int min2_int max_two min_two max_three min_three max_four min_four
set_option linter.unusedVariables false
set_option linter.unusedSimpArgs false
/-! ### table.Trees and the law -/
def table_Trees.f (k : Nat) (a0_0 a0_1 a0_2 : Int) (l0_3 : List S45) (l1 : List Int) : Option (Int × Int) := (table_wrong.f k a0_0 a0_1 a0_2 l0_3 l1).bind fun e => if e = 0 then (table_Proper.f k a0_0 a0_1 a0_2 l0_3).bind fun b => (if b = true then (sgnF (cntF a0_0 l0_3 l1 k) a0_0 l0_3 l1 (wrap64 (a0_0 + a0_2)) 0 (l1.length : Int) []).bind fun p => some (if p.1 > 1099511627776 then (0, 1) else (p.1, 0)) else some (0, 3)) else some (0, e)
set_option maxHeartbeats 16000000 in
set_option maxRecDepth 100000 in
theorem table_Trees.calls (k : Nat) (a0_0 : Int) (a0_1 : Int) (a0_2 : Int) (A0_3 : Option Addr) (c0_3 : Nat) (l0_3 : List S45) (A1 : Option Addr) (c1 : Nat) (l1 : List Int) (r : Int × Int) (w : World) (hr0_3 : Kd.C k45 w A0_3 l0_3.length l0_3) (hc0_3 : l0_3.length ≤ c0_3) (hr1 : Kd.C (Kd.int .i64) w A1 l1.length l1) (hc1 : l1.length ≤ c1) (h : table_Trees.f k a0_0 a0_1 a0_2 l0_3 l1 = some r) :
    Calls Try.prog 4 #[.agg #[.int .i64 a0_0, .int .i64 a0_1, .int .i64 a0_2, .slice A0_3 l0_3.length c0_3], .slice A1 l1.length c1] w fun e w' => e = .returned (.tuple #[.int .i64 r.1, .int .i64 r.2]) ∧ Below w.heap.size w w' := by
  have huG := Try.underlying24
  have hu3 := Try.underlying3
  have HR0_3 := Aside0.mk hr0_3
  have HC0_3 := Aside0.mk hc0_3
  clear hr0_3 hc0_3
  have HR1 := Aside0.mk hr1
  have HC1 := Aside0.mk hc1
  clear hr1 hc1
  have HB := Aside0.mk (Below.refl w.heap.size w)
  unfold table_Trees.f at h
  obtain ⟨e0, he0, h⟩ := Option.bind_eq_some_iff.1 h
  have E0 := Aside0.mk he0
  clear he0
  by_cases c1_ : e0 = 0
  · rw [if_pos c1_] at h
    obtain ⟨b0, hb0, h⟩ := Option.bind_eq_some_iff.1 h
    have B0 := Aside0.mk hb0
    clear hb0
    have c1b : (e0 != 0) = false := by rw [c1_]; rfl
    clear c1_
    by_cases c2 : b0 = true
    case neg =>
      rw [if_neg c2] at h
      cases h
      have c2b : b0 = false := by cases b0 <;> simp_all
      subst c2b
      clear c2
      go_enter Try.func4, Try.ntmps4
      go_wp2_with (first | ((with_reducible refine gate_dst (N := 2) rfl ?_); refine box_event ?hg (N := 2) ?hd (cs := #[.int .i64 a0_0, .int .i64 a0_1, .int .i64 a0_2, .slice A0_3 l0_3.length c0_3]) (t := 24) ?hr ?_; (case hd => rfl); (case hg => rfl); (case hr => first | (go_simp; done) | (go_simp; rfl)); intro gg hg w1 hbox hb; have BK1 := Aside0.mk hbox; have HB1 := Aside0.mk hb; clear hg hb hbox; have hz0 := (blk_cell BK1.out 0).trans rfl; have hz1 := (blk_cell BK1.out 1).trans rfl; have hz2 := (blk_cell BK1.out 2).trans rfl; have hz3 := (blk_cell BK1.out 3).trans rfl) | ((with_reducible refine gate_callee (f := 8) rfl ?_); refine goesL_ (some 10) rfl rfl Try.func8 (by kernel_rfl) rfl #[.agg #[.int .i64 a0_0, .int .i64 a0_1, .int .i64 a0_2, .slice A0_3 l0_3.length c0_3], .slice A1 l1.length c1] rfl (by (try simp only [List.map_toArray, List.map_cons, List.map_nil]); first | done | rfl) ?_; (with_reducible refine (table_wrong.calls k a0_0 a0_1 a0_2 _ _ l0_3 _ _ l1 e0 _ ?side1 ?side2 ?side3 ?side4 E0.out).mono ?_); (case side1 => exact (by (with_reducible repeat (first | refine Kd.C_drewN ?_ _ | refine Kd.C_drew ?_)); exact Kd.C_below HR0_3.out HB1.out)); (case side2 => exact HC0_3.out); (case side3 => exact (by (with_reducible repeat (first | refine Kd.C_drewN ?_ _ | refine Kd.C_drew ?_)); exact Kd.C_below HR1.out HB1.out)); (case side4 => exact HC1.out); rintro e w2 ⟨rfl, hb⟩; refine ⟨_, rfl, ?_⟩; have BK2 := Aside0.mk (blk_below (g := gg) (o := .cells #[.int .i64 a0_0, .int .i64 a0_1, .int .i64 a0_2, .slice A0_3 l0_3.length c0_3] 24 (0, 0)) (by (with_reducible repeat (first | refine blk_drewN ?_ _ | refine blk_drew ?_)); exact BK1.out) hb); have HB2 := Aside0.mk (below_step (by repeat (first | (with_reducible first | exact HB1.out | apply pw_below_drewN | apply below_drew1) | exact HB1.out)) hb); clear hb; clear hz0 hz1 hz2 hz3; have hz0 := (blk_cell BK2.out 0).trans rfl; have hz1 := (blk_cell BK2.out 1).trans rfl; have hz2 := (blk_cell BK2.out 2).trans rfl; have hz3 := (blk_cell BK2.out 3).trans rfl))
      (refine (table_Proper.calls k a0_0 a0_1 a0_2 _ _ l0_3 false _ ?side1 ?side2 B0.out).mono ?_; (case side1 => exact (by (with_reducible repeat (first | refine Kd.C_drewN ?_ _ | refine Kd.C_drew ?_)); exact Kd.C_below HR0_3.out HB2.out)); (case side2 => exact HC0_3.out); rintro e w3 ⟨rfl, hb⟩; have BK3 := Aside0.mk (blk_below BK2.out hb); have HB3 := Aside0.mk (below_step HB2.out hb); clear hb hz0 hz1 hz2 hz3; have hz0 := (blk_cell BK3.out 0).trans rfl; have hz1 := (blk_cell BK3.out 1).trans rfl; have hz2 := (blk_cell BK3.out 2).trans rfl; have hz3 := (blk_cell BK3.out 3).trans rfl)
      go_wp2
      go_ret2
      exact ⟨by first | rfl | (simp; done) | (simp [*]; done), by repeat (first | (with_reducible first | exact HB3.out | apply pw_below_drewN | apply below_drew1) | exact HB3.out)⟩
    rw [if_pos c2] at h
    subst c2
    obtain ⟨st, hst⟩ : ∃ z_, wrap64 (a0_0 + a0_2) = z_ := ⟨_, rfl⟩
    have hst2 : IntKind.i64.wrap (a0_0 + a0_2) = st := (i64_w _).trans hst
    rw [hst] at h
    clear hst
    obtain ⟨p, hp, h⟩ := Option.bind_eq_some_iff.1 h
    have P0 := Aside0.mk hp
    clear hp
    have H := Aside0.mk (Option.some.inj h)
    clear h
    go_enter Try.func4, Try.ntmps4
    go_wp2_with (first | ((with_reducible refine gate_dst (N := 2) rfl ?_); refine box_event ?hg (N := 2) ?hd (cs := #[.int .i64 a0_0, .int .i64 a0_1, .int .i64 a0_2, .slice A0_3 l0_3.length c0_3]) (t := 24) ?hr ?_; (case hd => rfl); (case hg => rfl); (case hr => first | (go_simp; done) | (go_simp; rfl)); intro gg hg w1 hbox hb; have BK1 := Aside0.mk hbox; have HB1 := Aside0.mk hb; clear hg hb hbox; have hz0 := (blk_cell BK1.out 0).trans rfl; have hz1 := (blk_cell BK1.out 1).trans rfl; have hz2 := (blk_cell BK1.out 2).trans rfl; have hz3 := (blk_cell BK1.out 3).trans rfl) | ((with_reducible refine gate_callee (f := 8) rfl ?_); refine goesL_ (some 10) rfl rfl Try.func8 (by kernel_rfl) rfl #[.agg #[.int .i64 a0_0, .int .i64 a0_1, .int .i64 a0_2, .slice A0_3 l0_3.length c0_3], .slice A1 l1.length c1] rfl (by (try simp only [List.map_toArray, List.map_cons, List.map_nil]); first | done | rfl) ?_; (with_reducible refine (table_wrong.calls k a0_0 a0_1 a0_2 _ _ l0_3 _ _ l1 e0 _ ?side1 ?side2 ?side3 ?side4 E0.out).mono ?_); (case side1 => exact (by (with_reducible repeat (first | refine Kd.C_drewN ?_ _ | refine Kd.C_drew ?_)); exact Kd.C_below HR0_3.out HB1.out)); (case side2 => exact HC0_3.out); (case side3 => exact (by (with_reducible repeat (first | refine Kd.C_drewN ?_ _ | refine Kd.C_drew ?_)); exact Kd.C_below HR1.out HB1.out)); (case side4 => exact HC1.out); rintro e w2 ⟨rfl, hb⟩; refine ⟨_, rfl, ?_⟩; have BK2 := Aside0.mk (blk_below (g := gg) (o := .cells #[.int .i64 a0_0, .int .i64 a0_1, .int .i64 a0_2, .slice A0_3 l0_3.length c0_3] 24 (0, 0)) (by (with_reducible repeat (first | refine blk_drewN ?_ _ | refine blk_drew ?_)); exact BK1.out) hb); have HB2 := Aside0.mk (below_step (by repeat (first | (with_reducible first | exact HB1.out | apply pw_below_drewN | apply below_drew1) | exact HB1.out)) hb); clear hb; clear hz0 hz1 hz2 hz3; have hz0 := (blk_cell BK2.out 0).trans rfl; have hz1 := (blk_cell BK2.out 1).trans rfl; have hz2 := (blk_cell BK2.out 2).trans rfl; have hz3 := (blk_cell BK2.out 3).trans rfl))
    (refine (table_Proper.calls k a0_0 a0_1 a0_2 _ _ l0_3 true _ ?side1 ?side2 B0.out).mono ?_; (case side1 => exact (by (with_reducible repeat (first | refine Kd.C_drewN ?_ _ | refine Kd.C_drew ?_)); exact Kd.C_below HR0_3.out HB2.out)); (case side2 => exact HC0_3.out); rintro e w3 ⟨rfl, hb⟩; have BK3 := Aside0.mk (blk_below BK2.out hb); have HB3 := Aside0.mk (below_step HB2.out hb); clear hb hz0 hz1 hz2 hz3; have hz0 := (blk_cell BK3.out 0).trans rfl; have hz1 := (blk_cell BK3.out 1).trans rfl; have hz2 := (blk_cell BK3.out 2).trans rfl; have hz3 := (blk_cell BK3.out 3).trans rfl)
    go_wp2_with (fail)
    have BK3d := Aside0.mk (blk_drew BK3.out)
    have HB3d := Aside0.mk (below_drew1 HB3.out)
    clear hz0 hz1 hz2 hz3 BK3
    have hz0 := (blk_cell BK3d.out 0).trans rfl; have hz1 := (blk_cell BK3d.out 1).trans rfl; have hz2 := (blk_cell BK3d.out 2).trans rfl; have hz3 := (blk_cell BK3d.out 3).trans rfl
    refine start_ (n := 12) (S := fun w' => w'.cell? ⟨gg, 0, none⟩ = some (.int .i64 a0_0) ∧ w'.cell? ⟨gg, 1, none⟩ = some (.int .i64 a0_1) ∧ w'.cell? ⟨gg, 2, none⟩ = some (.int .i64 a0_2) ∧ w'.cell? ⟨gg, 3, none⟩ = some (.slice A0_3 l0_3.length c0_3)) (ds := []) #[false, false, false, false, false, false, false, false, false, false, false, false] (by kernel_rfl) rfl rfl ⟨hz0, hz1, hz2, hz3⟩ (fun hHeld => ?_)
    refine pure_ (i := 1) (N := some 18) (v := ?_) (a' := ?_) #[false, true, false, false, false, false, false, false, false, false, false, false] rfl rfl (by kernel_rfl) (fun _ _ _ h => h) (Or.inl ⟨by rfl, ?_⟩) ?_ ?_
    rotate_left
    · intro w'
      go_simp
      with_reducible rfl
    rotate_left
    · simp only [Act.put, List.setIfInBounds_toArray, List.set_cons_zero, List.set_cons_succ, i64_w, i32_w]
      rfl
    refine pure_ (i := 3) (N := some 20) (v := ?_) (a' := ?_) #[false, true, false, true, false, false, false, false, false, false, false, false] rfl rfl (by kernel_rfl) (fun _ _ _ h => h) (Or.inl ⟨by rfl, ?_⟩) ?_ ?_
    rotate_left
    · intro w'
      go_simp
      with_reducible rfl
    rotate_left
    · simp only [Act.put, List.setIfInBounds_toArray, List.set_cons_zero, List.set_cons_succ, i64_w, i32_w]
      rfl
    refine pure_ (i := 5) (N := some 22) (v := ?_) (a' := ?_) #[false, true, false, true, false, true, false, false, false, false, false, false] rfl rfl (by kernel_rfl) (fun _ _ _ h => h) (Or.inl ⟨by rfl, ?_⟩) ?_ ?_
    rotate_left
    · intro w'
      go_simp
      with_reducible rfl
    rotate_left
    · simp only [Act.put, List.setIfInBounds_toArray, List.set_cons_zero, List.set_cons_succ, i64_w, i32_w]
      rfl
    refine pure_ (i := 8) (N := some 25) (v := ?_) (a' := ?_) #[false, true, false, true, false, true, false, false, true, false, false, false] rfl rfl (by kernel_rfl) (fun _ _ _ h => h) (Or.inl ⟨by rfl, ?_⟩) ?_ ?_
    rotate_left
    · intro w'
      go_simp
      with_reducible rfl
    rotate_left
    · simp only [Act.put, List.setIfInBounds_toArray, List.set_cons_zero, List.set_cons_succ, i64_w, i32_w]
      rfl
    refine pure_ (i := 9) (N := some 26) (v := ?_) (a' := ?_) #[false, true, false, true, false, true, false, false, true, true, false, false] rfl rfl (by kernel_rfl) (fun _ _ _ h => h) (Or.inl ⟨by rfl, ?_⟩) ?_ ?_
    rotate_left
    · intro w'
      go_simp
      with_reducible rfl
    rotate_left
    · simp only [Act.put, List.setIfInBounds_toArray, List.set_cons_zero, List.set_cons_succ, i64_w, i32_w]
      rfl
    refine take_ (i := 0) (N := some 17) (v := ?_) (a' := ?_) #[true, true, false, true, false, true, false, false, true, true, false, false] rfl rfl (by kernel_rfl) (fun _ _ _ h => h) (Or.inl ⟨by rfl, ?_⟩) hHeld ?_ ?_
    rotate_left
    · rintro w' ⟨s0, s1, s2, s3⟩
      go_simp
      with_reducible rfl
    rotate_left
    · simp only [Act.put, List.setIfInBounds_toArray, List.set_cons_zero, List.set_cons_succ, i64_w, i32_w]
      rfl
    refine take_ (i := 4) (N := some 21) (v := ?_) (a' := ?_) #[true, true, false, true, true, true, false, false, true, true, false, false] rfl rfl (by kernel_rfl) (fun _ _ _ h => h) (Or.inl ⟨by rfl, ?_⟩) hHeld ?_ ?_
    rotate_left
    · rintro w' ⟨s0, s1, s2, s3⟩
      go_simp
      with_reducible rfl
    rotate_left
    · simp only [Act.put, List.setIfInBounds_toArray, List.set_cons_zero, List.set_cons_succ, i64_w, i32_w]
      rfl
    refine take_ (i := 6) (N := some 23) (v := ?_) (a' := ?_) #[true, true, false, true, true, true, true, false, true, true, false, false] rfl rfl (by kernel_rfl) (fun _ _ _ h => h) (Or.inl ⟨by rfl, ?_⟩) hHeld ?_ ?_
    rotate_left
    · rintro w' ⟨s0, s1, s2, s3⟩
      go_simp
      with_reducible rfl
    rotate_left
    · simp only [Act.put, List.setIfInBounds_toArray, List.set_cons_zero, List.set_cons_succ, i64_w, i32_w]
      rfl
    refine pure_ (i := 7) (N := some 24) (v := ?_) (a' := ?_) #[true, true, false, true, true, true, true, true, true, true, false, false] rfl rfl (by kernel_rfl) (fun _ _ _ h => h) (Or.inl ⟨by rfl, ?_⟩) ?_ ?_
    rotate_left
    · intro w'
      go_simp
      with_reducible rfl
    rotate_left
    · simp only [Act.put, List.setIfInBounds_toArray, List.set_cons_zero, List.set_cons_succ, i64_w, i32_w]
      rfl
    refine one_ (i := 2) (N := some 19) #[true, true, true, true, true, true, true, true, true, true, false, false] rfl rfl (by kernel_rfl) (by decide) (fun K hK => ?_)
    refine goes_ Try.func10 (by kernel_rfl) rfl #[.agg #[.int .i64 a0_0, .int .i64 a0_1, .int .i64 a0_2, .slice A0_3 l0_3.length c0_3], .slice A1 l1.length c1] (by rfl) rfl rfl (by simp only [List.map_toArray, List.map_cons, List.map_nil]; rfl) ?_
    with_reducible refine (new_calls a0_0 a0_1 a0_2 A0_3 l0_3.length c0_3 A1 l1.length c1 _).mono ?_
    rintro e w4 ⟨gc, gm, rfl, hs⟩
    refine ⟨_, rfl, ?_⟩
    have BK4 := Aside0.mk (blk_below BK3d.out hs.hb)
    have HS4 := Aside0.mk hs
    clear hs
    refine hK.out _ _ ⟨(blk_cell BK4.out 0).trans rfl, (blk_cell BK4.out 1).trans rfl, (blk_cell BK4.out 2).trans rfl, (blk_cell BK4.out 3).trans rfl⟩ (fun hHeld => ?_)
    clear hK K
    refine norm_ (a' := ?_) ?_ ?_
    rotate_left
    · show Act.put _ (some 19) _ = _
      simp only [Act.put, List.setIfInBounds_toArray, List.set_cons_zero, List.set_cons_succ, i64_w, i32_w]
      rfl
    refine one_ (i := 10) (N := some 27) #[true, true, true, true, true, true, true, true, true, true, true, false] rfl rfl (by kernel_rfl) (by decide) (fun K hK => ?_)
    refine goes_ Try.func11 (by kernel_rfl) rfl #[.pointer (some ⟨gc, 0, none⟩), .int .i64 st, .int .i64 0, .int .i64 (l1.length : Int)] (by rfl) rfl rfl (by simp only [List.map_toArray, List.map_cons, List.map_nil]; rfl) ?_
    have hrc : RestC w3.drew gc gm a0_0 a0_1 a0_2 A0_3 l0_3.length c0_3 A1 l1.length c1 (cntF a0_0 l0_3 l1 k) := rest_calls w3.drew gc gm a0_0 a0_1 a0_2 A0_3 c0_3 A1 c1 l0_3 l1 (Kd.C_below HR0_3.out HB3d.out) HC0_3.out (Kd.C_below HR1.out HB3d.out) HC1.out k
    with_reducible refine (sign_calls w3.drew gc gm a0_0 a0_1 a0_2 A0_3 c0_3 A1 c1 l0_3 l1 (Kd.C_below HR0_3.out HB3d.out) HC0_3.out (Kd.C_below HR1.out HB3d.out) HC1.out (cntF a0_0 l0_3 l1 k) hrc st 0 (l1.length : Int) [] _ p HS4.out P0.out).mono ?_
    rintro e w5 ⟨rfl, hs5, hk5⟩
    refine ⟨_, rfl, ?_⟩
    have BK5 := Aside0.mk (blk_below BK3d.out hs5.hb)
    have HB5 := Aside0.mk (below_step HB3d.out hs5.hb)
    clear hs5 hk5 hrc
    refine hK.out _ _ ⟨(blk_cell BK5.out 0).trans rfl, (blk_cell BK5.out 1).trans rfl, (blk_cell BK5.out 2).trans rfl, (blk_cell BK5.out 3).trans rfl⟩ (fun hHeld => ?_)
    clear hK K
    refine norm_ (a' := ?_) ?_ ?_
    rotate_left
    · show Act.put _ (some 27) _ = _
      simp only [Act.put, List.setIfInBounds_toArray, List.set_cons_zero, List.set_cons_succ, i64_w, i32_w]
      rfl
    refine pure_ (i := 11) (N := some 7) (v := ?_) (a' := ?_) #[true, true, true, true, true, true, true, true, true, true, true, true] rfl rfl (by kernel_rfl) (fun _ _ _ h => h) (Or.inl ⟨by rfl, ?_⟩) ?_ ?_
    rotate_left
    · intro w'
      go_simp
      with_reducible rfl
    rotate_left
    · simp only [Act.put, List.setIfInBounds_toArray, List.set_cons_zero, List.set_cons_succ, i64_w, i32_w]
      rfl
    refine done_ (by kernel_rfl) ?_

    have h := H.out
    clear H
    by_cases c3 : p.1 > 1099511627776
    · rw [if_pos c3] at h
      have c3b : decide (p.1 > 1099511627776) = true := decide_eq_true c3
      have c3c : decide ((1099511627776 : Int) < p.1) = true := decide_eq_true c3
      cases h
      clear c3
      go_wp2
      go_ret2
      exact ⟨by first | rfl | (simp; done) | (simp [*]; done), by repeat (first | (with_reducible first | exact HB5.out | apply pw_below_drewN | apply below_drew1) | exact HB5.out)⟩
    · rw [if_neg c3] at h
      have c3b : decide (p.1 > 1099511627776) = false := decide_eq_false c3
      have c3c : decide ((1099511627776 : Int) < p.1) = false := decide_eq_false c3
      cases h
      clear c3
      go_wp2
      go_ret2
      exact ⟨by first | rfl | (simp; done) | (simp [*]; done), by repeat (first | (with_reducible first | exact HB5.out | apply pw_below_drewN | apply below_drew1) | exact HB5.out)⟩
  · rw [if_neg c1_] at h
    have c1b : (e0 != 0) = true := bne_iff_ne.mpr c1_
    cases h
    clear c1_
    go_enter Try.func4, Try.ntmps4
    go_wp2_with (first | ((with_reducible refine gate_dst (N := 2) rfl ?_); refine box_event ?hg (N := 2) ?hd (cs := #[.int .i64 a0_0, .int .i64 a0_1, .int .i64 a0_2, .slice A0_3 l0_3.length c0_3]) (t := 24) ?hr ?_; (case hd => rfl); (case hg => rfl); (case hr => first | (go_simp; done) | (go_simp; rfl)); intro gg hg w1 hbox hb; have BK1 := Aside0.mk hbox; have HB1 := Aside0.mk hb; clear hg hb hbox; have hz0 := (blk_cell BK1.out 0).trans rfl; have hz1 := (blk_cell BK1.out 1).trans rfl; have hz2 := (blk_cell BK1.out 2).trans rfl; have hz3 := (blk_cell BK1.out 3).trans rfl) | ((with_reducible refine gate_callee (f := 8) rfl ?_); refine goesL_ (some 10) rfl rfl Try.func8 (by kernel_rfl) rfl #[.agg #[.int .i64 a0_0, .int .i64 a0_1, .int .i64 a0_2, .slice A0_3 l0_3.length c0_3], .slice A1 l1.length c1] rfl (by (try simp only [List.map_toArray, List.map_cons, List.map_nil]); first | done | rfl) ?_; (with_reducible refine (table_wrong.calls k a0_0 a0_1 a0_2 _ _ l0_3 _ _ l1 e0 _ ?side1 ?side2 ?side3 ?side4 E0.out).mono ?_); (case side1 => exact (by (with_reducible repeat (first | refine Kd.C_drewN ?_ _ | refine Kd.C_drew ?_)); exact Kd.C_below HR0_3.out HB1.out)); (case side2 => exact HC0_3.out); (case side3 => exact (by (with_reducible repeat (first | refine Kd.C_drewN ?_ _ | refine Kd.C_drew ?_)); exact Kd.C_below HR1.out HB1.out)); (case side4 => exact HC1.out); rintro e w2 ⟨rfl, hb⟩; refine ⟨_, rfl, ?_⟩; have BK2 := Aside0.mk (blk_below (g := gg) (o := .cells #[.int .i64 a0_0, .int .i64 a0_1, .int .i64 a0_2, .slice A0_3 l0_3.length c0_3] 24 (0, 0)) (by (with_reducible repeat (first | refine blk_drewN ?_ _ | refine blk_drew ?_)); exact BK1.out) hb); have HB2 := Aside0.mk (below_step (by repeat (first | (with_reducible first | exact HB1.out | apply pw_below_drewN | apply below_drew1) | exact HB1.out)) hb); clear hb; clear hz0 hz1 hz2 hz3; have hz0 := (blk_cell BK2.out 0).trans rfl; have hz1 := (blk_cell BK2.out 1).trans rfl; have hz2 := (blk_cell BK2.out 2).trans rfl; have hz3 := (blk_cell BK2.out 3).trans rfl))
    go_ret2
    exact ⟨by first | rfl | (simp; done) | (simp [*]; done), by repeat (first | (with_reducible first | exact HB2.out | apply pw_below_drewN | apply below_drew1) | exact HB2.out)⟩
end Go.Proofs.Ytnppgmbhdomelaa.PTableTrees
