-- Written by a program of this session: a turn of the print kit's own.
import Derived.Test.YtdbomblcijejcaaPStorePacksx0
import Derived.Test.YtdbomblcijejcaaPStorePacksx3
namespace Go.Proofs.Ytdbomblcijejcaa.PStorePacks
open Go.RowKit Go.Proofs.YtdbomblcijejcaaW.PrintWords Go.Proofs.YtdbomblcijejcaaW.PrintLast Go.Proofs.YtdbomblcijejcaaW.PrintMore
attribute [local go_sem] max2_int min2_int max_two min_two max_three min_three max_four min_four   -- for this text's walks alone
set_option linter.unusedVariables false
set_option linter.unusedSimpArgs false

/-! ### coppicerref_Sound: function 6 -/
mutual
def coppicerref_Sound.j0 : Nat → Bool → List (S40) → Int → Option (List Int × Bool)
  | 0, _, _, _ => none
  | k + 1, x30, x193000, x193001 => if x30 = true then (some (([] : List Int), false)) else (if 0 ≤ (x193000.length : Int) then (if ((x193000.length : Int) : Int).toNat ≤ 281474976710656 then (coppicerref_Sound.l0 k (List.replicate ((x193000.length : Int) : Int).toNat false) ([] : List Int) true x193000 x193001) else (none)) else (none))
def coppicerref_Sound.l0 : Nat → List Bool → List Int → Bool → List (S40) → Int → Option (List Int × Bool)
  | 0, _, _, _, _, _ => none
  | k + 1, x4, x5, x6, x193000, x193001 => if x6 = true then (coppicerref_Sound.l1 k x4 x5 false x193000 (x193000.length : Int) 0 x193000 x193001) else (some (x5, ((x5.length : Int) == (x193000.length : Int))))
def coppicerref_Sound.l1 : Nat → List Bool → List Int → Bool → List (S40) → Int → Int → List (S40) → Int → Option (List Int × Bool)
  | 0, _, _, _, _, _, _, _, _ => none
  | k + 1, x4, x5, x6, x37, x38, x39, x193000, x193001 => if x39 < x38 then (if 0 ≤ x39 then (if x39 < (x37.length : Int) then (if x39 < (x4.length : Int) then (coppicerref_Sound.l2 k x4 x5 x6 x39 (!(rdOf false x4 x39)) x37 x38 x39 ((rd_T40 x37 x39).f3) (((rd_T40 x37 x39).f3).length : Int) 0 x193000 x193001) else (none)) else (none)) else (none)) else (coppicerref_Sound.l0 k x4 x5 x6 x193000 x193001)
def coppicerref_Sound.l2 : Nat → List Bool → List Int → Bool → Int → Bool → List (S40) → Int → Int → List (List Int) → Int → Int → List (S40) → Int → Option (List Int × Bool)
  | 0, _, _, _, _, _, _, _, _, _, _, _, _, _ => none
  | k + 1, x4, x5, x6, x7, x9, x37, x38, x39, x50, x51, x52, x193000, x193001 => if x52 < x51 then (if 0 ≤ x52 then (if x52 < (x50.length : Int) then ((coppicerref_tail.f (rd_L1 x50 x52)).bind fun t204 => (coppicerref_Sound.l3 k x4 x5 x6 x7 x9 x37 x38 x39 x50 x51 x52 t204 (t204.length : Int) 0 x193000 x193001)) else (none)) else (none)) else (if x9 = true then (if 0 ≤ x7 then (if x7 < (x4.length : Int) then (if x5.length < 17592186044416 then (coppicerref_Sound.l1 k (x4.set (x7 : Int).toNat true) (x5 ++ [x7]) true x37 x38 (wrap64 (x39 + 1)) x193000 x193001) else (none)) else (none)) else (none)) else (coppicerref_Sound.l1 k x4 x5 x6 x37 x38 (wrap64 (x39 + 1)) x193000 x193001))
def coppicerref_Sound.l3 : Nat → List Bool → List Int → Bool → Int → Bool → List (S40) → Int → Int → List (List Int) → Int → Int → List Int → Int → Int → List (S40) → Int → Option (List Int × Bool)
  | 0, _, _, _, _, _, _, _, _, _, _, _, _, _, _, _, _ => none
  | k + 1, x4, x5, x6, x7, x9, x37, x38, x39, x50, x51, x52, x57, x58, x59, x193000, x193001 => if x59 < x58 then (if 0 ≤ x59 then (if x59 < (x57.length : Int) then (if x9 = true then (if (rd x57 x59) ≥ 0 then (if (rd x57 x59) < (x193000.length : Int) then (if 0 ≤ (rd x57 x59) then (if (rd x57 x59) < (x4.length : Int) then (coppicerref_Sound.l3 k x4 x5 x6 x7 (rdOf false x4 (rd x57 x59)) x37 x38 x39 x50 x51 x52 x57 x58 (wrap64 (x59 + 1)) x193000 x193001) else (none)) else (none)) else (coppicerref_Sound.l3 k x4 x5 x6 x7 false x37 x38 x39 x50 x51 x52 x57 x58 (wrap64 (x59 + 1)) x193000 x193001)) else (coppicerref_Sound.l3 k x4 x5 x6 x7 false x37 x38 x39 x50 x51 x52 x57 x58 (wrap64 (x59 + 1)) x193000 x193001)) else (coppicerref_Sound.l3 k x4 x5 x6 x7 false x37 x38 x39 x50 x51 x52 x57 x58 (wrap64 (x59 + 1)) x193000 x193001)) else (none)) else (none)) else (coppicerref_Sound.l2 k x4 x5 x6 x7 x9 x37 x38 x39 x50 x51 (wrap64 (x52 + 1)) x193000 x193001)
end
def coppicerref_Sound.f (k : Nat) (l0_0 : List (S40)) (a0_1 : Int) : Option (List Int × Bool) := if (l0_0.length : Int) > 200 then (coppicerref_Sound.j0 k true l0_0 a0_1) else (if a0_1 < 0 then (coppicerref_Sound.j0 k true l0_0 a0_1) else (coppicerref_Sound.j0 k (decide (a0_1 ≥ (l0_0.length : Int))) l0_0 a0_1))
theorem coppicerref_Sound.mono_l : ∀ k, (∀ y0 y1 y2, LeO (coppicerref_Sound.j0 k y0 y1 y2) (coppicerref_Sound.j0 (k + 1) y0 y1 y2)) ∧ (∀ y0 y1 y2 y3 y4, LeO (coppicerref_Sound.l0 k y0 y1 y2 y3 y4) (coppicerref_Sound.l0 (k + 1) y0 y1 y2 y3 y4)) ∧ (∀ y0 y1 y2 y3 y4 y5 y6 y7, LeO (coppicerref_Sound.l1 k y0 y1 y2 y3 y4 y5 y6 y7) (coppicerref_Sound.l1 (k + 1) y0 y1 y2 y3 y4 y5 y6 y7)) ∧ (∀ y0 y1 y2 y3 y4 y5 y6 y7 y8 y9 y10 y11 y12, LeO (coppicerref_Sound.l2 k y0 y1 y2 y3 y4 y5 y6 y7 y8 y9 y10 y11 y12) (coppicerref_Sound.l2 (k + 1) y0 y1 y2 y3 y4 y5 y6 y7 y8 y9 y10 y11 y12)) ∧ (∀ y0 y1 y2 y3 y4 y5 y6 y7 y8 y9 y10 y11 y12 y13 y14 y15, LeO (coppicerref_Sound.l3 k y0 y1 y2 y3 y4 y5 y6 y7 y8 y9 y10 y11 y12 y13 y14 y15) (coppicerref_Sound.l3 (k + 1) y0 y1 y2 y3 y4 y5 y6 y7 y8 y9 y10 y11 y12 y13 y14 y15))
  | 0 => ⟨fun _ _ _ r h => by simp [coppicerref_Sound.j0] at h, fun _ _ _ _ _ r h => by simp [coppicerref_Sound.l0] at h, fun _ _ _ _ _ _ _ _ r h => by simp [coppicerref_Sound.l1] at h, fun _ _ _ _ _ _ _ _ _ _ _ _ _ r h => by simp [coppicerref_Sound.l2] at h, fun _ _ _ _ _ _ _ _ _ _ _ _ _ _ _ _ r h => by simp [coppicerref_Sound.l3] at h⟩
  | k + 1 => by
    obtain ⟨ih0, ih1, ih2, ih3, ih4⟩ := coppicerref_Sound.mono_l k
    refine ⟨?_, ?_, ?_, ?_, ?_⟩
    · intro y0 y1 y2
      unfold coppicerref_Sound.j0
      repeat' first
      | (with_reducible exact ih0 _ _ _)
      | (with_reducible exact ih1 _ _ _ _ _)
      | (with_reducible exact ih2 _ _ _ _ _ _ _ _)
      | (with_reducible exact ih3 _ _ _ _ _ _ _ _ _ _ _ _ _)
      | (with_reducible exact ih4 _ _ _ _ _ _ _ _ _ _ _ _ _ _ _ _)
      | (with_reducible exact LeO.refl _)
      | (with_reducible exact LeO.none _)
      | (with_reducible refine LeO.ite ?_ ?_)
      | (with_reducible refine LeO.bind ?_ (fun _ => ?_))
      | exact ih0 _ _ _
      | exact ih1 _ _ _ _ _
      | exact ih2 _ _ _ _ _ _ _ _
      | exact ih3 _ _ _ _ _ _ _ _ _ _ _ _ _
      | exact ih4 _ _ _ _ _ _ _ _ _ _ _ _ _ _ _ _
      | exact LeO.none _
      | refine LeO.ite ?_ ?_
      | refine LeO.bind ?_ (fun _ => ?_)
    · intro y0 y1 y2 y3 y4
      unfold coppicerref_Sound.l0
      repeat' first
      | (with_reducible exact ih0 _ _ _)
      | (with_reducible exact ih1 _ _ _ _ _)
      | (with_reducible exact ih2 _ _ _ _ _ _ _ _)
      | (with_reducible exact ih3 _ _ _ _ _ _ _ _ _ _ _ _ _)
      | (with_reducible exact ih4 _ _ _ _ _ _ _ _ _ _ _ _ _ _ _ _)
      | (with_reducible exact LeO.refl _)
      | (with_reducible exact LeO.none _)
      | (with_reducible refine LeO.ite ?_ ?_)
      | (with_reducible refine LeO.bind ?_ (fun _ => ?_))
      | exact ih0 _ _ _
      | exact ih1 _ _ _ _ _
      | exact ih2 _ _ _ _ _ _ _ _
      | exact ih3 _ _ _ _ _ _ _ _ _ _ _ _ _
      | exact ih4 _ _ _ _ _ _ _ _ _ _ _ _ _ _ _ _
      | exact LeO.none _
      | refine LeO.ite ?_ ?_
      | refine LeO.bind ?_ (fun _ => ?_)
    · intro y0 y1 y2 y3 y4 y5 y6 y7
      unfold coppicerref_Sound.l1
      repeat' first
      | (with_reducible exact ih0 _ _ _)
      | (with_reducible exact ih1 _ _ _ _ _)
      | (with_reducible exact ih2 _ _ _ _ _ _ _ _)
      | (with_reducible exact ih3 _ _ _ _ _ _ _ _ _ _ _ _ _)
      | (with_reducible exact ih4 _ _ _ _ _ _ _ _ _ _ _ _ _ _ _ _)
      | (with_reducible exact LeO.refl _)
      | (with_reducible exact LeO.none _)
      | (with_reducible refine LeO.ite ?_ ?_)
      | (with_reducible refine LeO.bind ?_ (fun _ => ?_))
      | exact ih0 _ _ _
      | exact ih1 _ _ _ _ _
      | exact ih2 _ _ _ _ _ _ _ _
      | exact ih3 _ _ _ _ _ _ _ _ _ _ _ _ _
      | exact ih4 _ _ _ _ _ _ _ _ _ _ _ _ _ _ _ _
      | exact LeO.none _
      | refine LeO.ite ?_ ?_
      | refine LeO.bind ?_ (fun _ => ?_)
    · intro y0 y1 y2 y3 y4 y5 y6 y7 y8 y9 y10 y11 y12
      unfold coppicerref_Sound.l2
      repeat' first
      | (with_reducible exact ih0 _ _ _)
      | (with_reducible exact ih1 _ _ _ _ _)
      | (with_reducible exact ih2 _ _ _ _ _ _ _ _)
      | (with_reducible exact ih3 _ _ _ _ _ _ _ _ _ _ _ _ _)
      | (with_reducible exact ih4 _ _ _ _ _ _ _ _ _ _ _ _ _ _ _ _)
      | (with_reducible exact LeO.refl _)
      | (with_reducible exact LeO.none _)
      | (with_reducible refine LeO.ite ?_ ?_)
      | (with_reducible refine LeO.bind ?_ (fun _ => ?_))
      | exact ih0 _ _ _
      | exact ih1 _ _ _ _ _
      | exact ih2 _ _ _ _ _ _ _ _
      | exact ih3 _ _ _ _ _ _ _ _ _ _ _ _ _
      | exact ih4 _ _ _ _ _ _ _ _ _ _ _ _ _ _ _ _
      | exact LeO.none _
      | refine LeO.ite ?_ ?_
      | refine LeO.bind ?_ (fun _ => ?_)
    · intro y0 y1 y2 y3 y4 y5 y6 y7 y8 y9 y10 y11 y12 y13 y14 y15
      unfold coppicerref_Sound.l3
      repeat' first
      | (with_reducible exact ih0 _ _ _)
      | (with_reducible exact ih1 _ _ _ _ _)
      | (with_reducible exact ih2 _ _ _ _ _ _ _ _)
      | (with_reducible exact ih3 _ _ _ _ _ _ _ _ _ _ _ _ _)
      | (with_reducible exact ih4 _ _ _ _ _ _ _ _ _ _ _ _ _ _ _ _)
      | (with_reducible exact LeO.refl _)
      | (with_reducible exact LeO.none _)
      | (with_reducible refine LeO.ite ?_ ?_)
      | (with_reducible refine LeO.bind ?_ (fun _ => ?_))
      | exact ih0 _ _ _
      | exact ih1 _ _ _ _ _
      | exact ih2 _ _ _ _ _ _ _ _
      | exact ih3 _ _ _ _ _ _ _ _ _ _ _ _ _
      | exact ih4 _ _ _ _ _ _ _ _ _ _ _ _ _ _ _ _
      | exact LeO.none _
      | refine LeO.ite ?_ ?_
      | refine LeO.bind ?_ (fun _ => ?_)
theorem coppicerref_Sound.mono : ∀ a0 a1 k, LeO (coppicerref_Sound.f k a0 a1) (coppicerref_Sound.f (k + 1) a0 a1) := by
  intro a0 a1 k
  obtain ⟨ih0, ih1, ih2, ih3, ih4⟩ := coppicerref_Sound.mono_l k
  unfold coppicerref_Sound.f
  repeat' first
      | (with_reducible exact ih0 _ _ _)
      | (with_reducible exact ih1 _ _ _ _ _)
      | (with_reducible exact ih2 _ _ _ _ _ _ _ _)
      | (with_reducible exact ih3 _ _ _ _ _ _ _ _ _ _ _ _ _)
      | (with_reducible exact ih4 _ _ _ _ _ _ _ _ _ _ _ _ _ _ _ _)
      | (with_reducible exact LeO.refl _)
      | (with_reducible exact LeO.none _)
      | (with_reducible refine LeO.ite ?_ ?_)
      | (with_reducible refine LeO.bind ?_ (fun _ => ?_))
      | exact ih0 _ _ _
      | exact ih1 _ _ _ _ _
      | exact ih2 _ _ _ _ _ _ _ _
      | exact ih3 _ _ _ _ _ _ _ _ _ _ _ _ _
      | exact ih4 _ _ _ _ _ _ _ _ _ _ _ _ _ _ _ _
      | exact LeO.none _
      | refine LeO.ite ?_ ?_
      | refine LeO.bind ?_ (fun _ => ?_)
set_option maxHeartbeats 8000000 in
set_option maxRecDepth 100000 in
theorem coppicerref_Sound.calls (k : Nat) (A0_0 : Option Addr) (c0_0 : Nat) (l0_0 : List (S40)) (a0_1 : Int) (r1 : List Int) (r2 : Bool) (w : World) (hr0_0 : Kd.C k40 w A0_0 l0_0.length l0_0) (hc0_0 : l0_0.length ≤ c0_0) (h : coppicerref_Sound.f k l0_0 a0_1 = some (r1, r2)) :
    Calls Try.prog 6 #[.agg #[.slice A0_0 l0_0.length c0_0, .int .i64 a0_1]] w fun e w' => ∃ v0_ : Value, e = .returned (.tuple #[v0_, .bool r2]) ∧ Kd.R (Kd.int .i64) 3 w' w.heap.size (fun _ => True) v0_ r1 ∧ Below w.heap.size w w' := by
  have hu24 := Try.underlying24
  have hu40 := Try.underlying40
  have hu28 := Try.underlying28
  have HR0_0 := Aside0.mk hr0_0
  have HC0_0 := Aside0.mk hc0_0
  clear hr0_0 hc0_0
  have HB := Aside0.mk (Below.refl w.heap.size w)
  have H : (if (l0_0.length : Int) > 200 then (coppicerref_Sound.j0 k true l0_0 a0_1) else (if a0_1 < 0 then (coppicerref_Sound.j0 k true l0_0 a0_1) else (coppicerref_Sound.j0 k (decide (a0_1 ≥ (l0_0.length : Int))) l0_0 a0_1))) = some (r1, r2) := h
  clear h
  have HC2 := Aside0.mk H
  clear H
  go_enter Try.func6, Try.ntmps6
  go_upto_region 1 with (first | ((with_reducible refine gate_dst (N := 1) rfl ?_); (try (refine gate_guard (by rfl) ?_; dsimp only)); refine box_event ?hg (N := 1) ?hd (cs := #[.slice A0_0 l0_0.length c0_0, .int .i64 a0_1]) (t := 24) ?hr ?_; (case hd => rfl); (case hg => rfl); (case hr => first | (go_simp; done) | (go_simp; rfl)); intro gb192 hg w3 hbox hb; have n0_ := Aside0.mk (below_step (by repeat (first | (with_reducible first | exact HB.out | apply below_alloc | apply pw_below_drewN | apply below_drew1) | exact HB.out)) hb); have n1_ := Aside0.mk (hbox); have n2_ := Aside0.mk ((by rw [hg]; exact (below_size (by repeat (first | (with_reducible first | exact HB.out | apply below_alloc | apply pw_below_drewN | apply below_drew1) | exact HB.out))) : w.heap.size ≤ gb192)); have n3_ := Aside0.mk ((by rw [hg]; exact (below_size (by repeat (first | (with_reducible first | exact HB.out | apply below_alloc | apply pw_below_drewN | apply below_drew1) | exact HB.out))) : w.heap.size ≤ gb192)); clear HB; have HB := n0_; have BK192 := n1_; have GW192 := n2_; have GE192 := n3_; clear n0_ n1_ n2_ n3_; clear hb hbox hg))
  repeat (go_quiet (first | ((with_reducible refine gate_dst (N := 1) rfl ?_); (try (refine gate_guard (by rfl) ?_; dsimp only)); refine box_event ?hg (N := 1) ?hd (cs := #[.slice A0_0 l0_0.length c0_0, .int .i64 a0_1]) (t := 24) ?hr ?_; (case hd => rfl); (case hg => rfl); (case hr => first | (go_simp; done) | (go_simp; rfl)); intro gb192 hg w3 hbox hb; have n0_ := Aside0.mk (below_step (by repeat (first | (with_reducible first | exact HB.out | apply below_alloc | apply pw_below_drewN | apply below_drew1) | exact HB.out)) hb); have n1_ := Aside0.mk (hbox); have n2_ := Aside0.mk ((by rw [hg]; exact (below_size (by repeat (first | (with_reducible first | exact HB.out | apply below_alloc | apply pw_below_drewN | apply below_drew1) | exact HB.out))) : w.heap.size ≤ gb192)); have n3_ := Aside0.mk ((by rw [hg]; exact (below_size (by repeat (first | (with_reducible first | exact HB.out | apply below_alloc | apply pw_below_drewN | apply below_drew1) | exact HB.out))) : w.heap.size ≤ gb192)); clear HB; have HB := n0_; have BK192 := n1_; have GW192 := n2_; have GE192 := n3_; clear n0_ n1_ n2_ n3_; clear hb hbox hg)); go_upto_region 1 with (first | ((with_reducible refine gate_dst (N := 1) rfl ?_); (try (refine gate_guard (by rfl) ?_; dsimp only)); refine box_event ?hg (N := 1) ?hd (cs := #[.slice A0_0 l0_0.length c0_0, .int .i64 a0_1]) (t := 24) ?hr ?_; (case hd => rfl); (case hg => rfl); (case hr => first | (go_simp; done) | (go_simp; rfl)); intro gb192 hg w3 hbox hb; have n0_ := Aside0.mk (below_step (by repeat (first | (with_reducible first | exact HB.out | apply below_alloc | apply pw_below_drewN | apply below_drew1) | exact HB.out)) hb); have n1_ := Aside0.mk (hbox); have n2_ := Aside0.mk ((by rw [hg]; exact (below_size (by repeat (first | (with_reducible first | exact HB.out | apply below_alloc | apply pw_below_drewN | apply below_drew1) | exact HB.out))) : w.heap.size ≤ gb192)); have n3_ := Aside0.mk ((by rw [hg]; exact (below_size (by repeat (first | (with_reducible first | exact HB.out | apply below_alloc | apply pw_below_drewN | apply below_drew1) | exact HB.out))) : w.heap.size ≤ gb192)); clear HB; have HB := n0_; have BK192 := n1_; have GW192 := n2_; have GE192 := n3_; clear n0_ n1_ n2_ n3_; clear hb hbox hg)))
  (try simp only [Act.put, List.setIfInBounds_toArray, List.set_cons_zero, List.set_cons_succ])
  go_cut [30] (fun v30 wc => ∃ (kq : Nat) (x30_1 : Bool), v30 = .bool x30_1 ∧ Aside0 (coppicerref_Sound.j0 kq x30_1 l0_0 a0_1 = some (r1, r2)) ∧ Aside0 (kq ≤ k) ∧ Aside0 (wc.heap[gb192]? = some (.cells #[(.slice A0_0 l0_0.length c0_0), .int .i64 a0_1] 24 (0, 0))) ∧ Aside0 (Below w.heap.size w wc))
  case first =>
    have H := HC2.out
    clear HC2
    by_cases c4 : (l0_0.length : Int) > 200
    · rw [if_pos c4] at H
      have c4b0 : decide (200 < (l0_0.length : Int)) = true := decide_eq_true c4
      have c4b1 : decide (200 < l0_0.length) = true := decide_eq_true (by omega)
      clear c4
      (first | rw [c4b0] | (simp only [i64_w, i32_w]; rw [c4b0]) | skip)
      have H' := Aside0.mk H
      clear H
      have hcz5_0 : w3.cell? ⟨gb192, 0, none⟩ = some (.slice A0_0 l0_0.length c0_0) := (blk_cell BK192.out 0).trans rfl
      have hcz5_1 : w3.cell? ⟨gb192, 1, none⟩ = some (.int .i64 a0_1) := (blk_cell BK192.out 1).trans rfl
      have hfz5_0 := blk_frozen BK192.out 0
      have hfz5_1 := blk_frozen BK192.out 1
      go_wp2
      repeat (go_quiet (fail); try go_wp2)
      go_meet
      case rel => exact ⟨_, (true), (by first | rfl | (simp; done) | (simp [*]; done)), H', ⟨by first | omega | exact Nat.le_refl _⟩, ⟨by (with_reducible repeat (first | refine blk_drewN ?_ _ | refine blk_drew ?_ | refine blk_alloc ?_ _)); exact BK192.out⟩, ⟨by repeat (first | (with_reducible first | exact HB.out | apply below_alloc | apply pw_below_drewN | apply below_drew1 | refine below_set ?_ GE192.out) | exact HB.out)⟩⟩
    · rw [if_neg c4] at H
      have c4b0 : decide (200 < (l0_0.length : Int)) = false := decide_eq_false c4
      have c4b1 : decide (200 < l0_0.length) = false := decide_eq_false (by omega)
      clear c4
      (first | rw [c4b0] | (simp only [i64_w, i32_w]; rw [c4b0]) | skip)
      by_cases c6 : a0_1 < 0
      · rw [if_pos c6] at H
        have c6b0 : decide (a0_1 < 0) = true := decide_eq_true c6
        clear c6
        have H' := Aside0.mk H
        clear H
        have hcz7_0 : w3.cell? ⟨gb192, 0, none⟩ = some (.slice A0_0 l0_0.length c0_0) := (blk_cell BK192.out 0).trans rfl
        have hcz7_1 : w3.cell? ⟨gb192, 1, none⟩ = some (.int .i64 a0_1) := (blk_cell BK192.out 1).trans rfl
        have hfz7_0 := blk_frozen BK192.out 0
        have hfz7_1 := blk_frozen BK192.out 1
        go_wp2
        repeat (go_quiet (fail); try go_wp2)
        go_meet
        case rel => exact ⟨_, (true), (by first | rfl | (simp; done) | (simp [*]; done)), H', ⟨by first | omega | exact Nat.le_refl _⟩, ⟨by (with_reducible repeat (first | refine blk_drewN ?_ _ | refine blk_drew ?_ | refine blk_alloc ?_ _)); exact BK192.out⟩, ⟨by repeat (first | (with_reducible first | exact HB.out | apply below_alloc | apply pw_below_drewN | apply below_drew1 | refine below_set ?_ GE192.out) | exact HB.out)⟩⟩
      · rw [if_neg c6] at H
        have c6b0 : decide (a0_1 < 0) = false := decide_eq_false c6
        clear c6
        have H' := Aside0.mk H
        clear H
        have hcz8_0 : w3.cell? ⟨gb192, 0, none⟩ = some (.slice A0_0 l0_0.length c0_0) := (blk_cell BK192.out 0).trans rfl
        have hcz8_1 : w3.cell? ⟨gb192, 1, none⟩ = some (.int .i64 a0_1) := (blk_cell BK192.out 1).trans rfl
        have hfz8_0 := blk_frozen BK192.out 0
        have hfz8_1 := blk_frozen BK192.out 1
        go_wp2
        repeat (go_quiet (fail); try go_wp2)
        go_meet
        case rel => exact ⟨_, (decide (a0_1 ≥ (l0_0.length : Int))), (by first | rfl | (simp; done) | (simp [*]; done)), H', ⟨by first | omega | exact Nat.le_refl _⟩, ⟨by (with_reducible repeat (first | refine blk_drewN ?_ _ | refine blk_drew ?_ | refine blk_alloc ?_ _)); exact BK192.out⟩, ⟨by repeat (first | (with_reducible first | exact HB.out | apply below_alloc | apply pw_below_drewN | apply below_drew1 | refine below_set ?_ GE192.out) | exact HB.out)⟩⟩
  case rest =>
    clear HC2
    try clear p2
    try clear c4
    try clear c4b0
    try clear c4b1
    try clear c6
    try clear c6b0
    try clear hcz5_0
    try clear hcz5_1
    try clear hcz7_0
    try clear hcz7_1
    try clear hcz8_0
    try clear hcz8_1
    try clear hfz5_0
    try clear hfz5_1
    try clear hfz7_0
    try clear hfz7_1
    try clear hfz8_0
    try clear hfz8_1
    obtain ⟨kq, x30_1, rfl, HA, HJ1, BK192, HB⟩ := hcut
    cases kq with
    | zero => exact absurd HA.out (by simp [coppicerref_Sound.j0])
    | succ kj1 =>
      have H := HA.out
      clear HA
      simp only [coppicerref_Sound.j0] at H
      by_cases c9 : x30_1 = true
      · subst c9
        have H1 : (some (([] : List Int), false)) = some (r1, r2) := by rw [if_pos rfl] at H; exact H
        clear H
        have H := H1
        clear H1
        simp only [Option.some.injEq, Prod.mk.injEq] at H
        obtain ⟨rfl, rfl⟩ := H
        go_wp2
        repeat (go_quiet (fail); try go_wp2)
        go_ret2
        exact ⟨_, by first | rfl | (simp [errW_none, errW_some] <;> rfl) | (simp [*, errW_none, errW_some] <;> rfl), by first | exact Kd.R_nil _ _ _ _ _ | exact Kd.N_nil _ _ _ _ _ | exact Kd.V_nil _ _ _ _ _ | exact Kd.Q_nil _ _ _ _ _ | exact Kd.S_nil _ _ _ _ _ | (go_simp; exact Kd.R_nil _ _ _ _ _), by repeat (first | (with_reducible first | exact HB.out | apply below_alloc | apply pw_below_drewN | apply below_drew1 | refine below_set ?_ GE192.out) | exact HB.out)⟩
      · replace c9 := Bool.eq_false_iff.mpr c9
        subst c9
        have H1 : (if 0 ≤ (l0_0.length : Int) then (if ((l0_0.length : Int) : Int).toNat ≤ 281474976710656 then (coppicerref_Sound.l0 kj1 (List.replicate ((l0_0.length : Int) : Int).toNat false) ([] : List Int) true l0_0 a0_1) else (none)) else (none)) = some (r1, r2) := by rw [if_neg (show ¬ (false = true) by decide)] at H; exact H
        clear H
        have H := H1
        clear H1
        by_cases c10 : 0 ≤ (l0_0.length : Int)
        · rw [if_pos c10] at H
          have c10b0 := eq_true c10
          have c10b1 : decide (0 ≤ (l0_0.length : Int)) = true := decide_eq_true c10
          clear c10
          by_cases c11 : ((l0_0.length : Int) : Int).toNat ≤ 281474976710656
          · rw [if_pos c11] at H
            have c11b0 := eq_true c11
            have c11b1 : decide (((l0_0.length : Int) : Int).toNat ≤ 281474976710656) = true := decide_eq_true c11
            clear c11
            obtain ⟨y193, hy193⟩ : ∃ y_ : List Bool, y_ = (List.replicate ((l0_0.length : Int) : Int).toNat false) := ⟨_, rfl⟩
            replace H : (coppicerref_Sound.l0 kj1 y193 ([] : List Int) true l0_0 a0_1) = some (r1, r2) := by first | (rw [hy193]; with_reducible exact H) | (have H2_ := (Option.bind_some _ _).symm.trans H; rw [hy193]; with_reducible exact H2_) | (have H2_ := (Option.bind_some _ _).symm.trans H; with_reducible exact H2_) | with_reducible exact H | (rw [hy193]; exact H) | exact H
            have Ny193 := Aside0.mk hy193
            clear hy193
            have H' := Aside0.mk H
            clear H
            have hcz12_0 : wc.cell? ⟨gb192, 0, none⟩ = some (.slice A0_0 l0_0.length c0_0) := (blk_cell BK192.out 0).trans rfl
            have hcz12_1 : wc.cell? ⟨gb192, 1, none⟩ = some (.int .i64 a0_1) := (blk_cell BK192.out 1).trans rfl
            have hfz12_0 := blk_frozen BK192.out 0
            have hfz12_1 := blk_frozen BK192.out 1
            go_wp2_with (first | ((with_reducible refine gate_dst (N := 34) rfl ?_); (try (refine gate_guard (by rfl) ?_; dsimp only)); refine Kd.R_make Kd.bool _ 4 rfl (N := 34) rfl 41 _ _ rfl (l0_0.length : Int) rfl rfl Try.underlying41 (.bool false) 1 info4 rfl (by decide) (by omega) false (ok := fun _ => True) (okp := fun _ => True) rfl (fun _ hk => hk) trivial (of_decide_eq_true (by first | (with_reducible assumption) | assumption)) (Nat.le_trans (Nat.mul_le_mul_right _ (of_decide_eq_true (by first | (with_reducible assumption) | assumption) : (l0_0.length : Int).toNat ≤ 281474976710656)) (by omega)) (Below.refl _ _) (Nat.le_refl _) ?_; intro v194 w13 ho14 hb hg_ hnew_; clear hg_ hnew_; (first | rw [← Ny193.out] at ho14 | (simp only [Int.reduceToNat] at ho14; rw [← Ny193.out] at ho14)); have n0_ := Aside0.mk (Kd.R_lower ho14 (below_size (by repeat (first | (with_reducible first | exact HB.out | apply below_alloc | apply pw_below_drewN | apply below_drew1 | refine below_set ?_ GE192.out) | exact HB.out)))); have n1_ := Aside0.mk (blk_below (g := gb192) (o := .cells #[.slice A0_0 l0_0.length c0_0, .int .i64 a0_1] 24 (0, 0)) (by (with_reducible repeat (first | refine blk_drewN ?_ _ | refine blk_drew ?_ | refine blk_alloc ?_ _)); exact BK192.out) hb); have n2_ := Aside0.mk (below_step (by repeat (first | (with_reducible first | exact HB.out | apply below_alloc | apply pw_below_drewN | apply below_drew1 | refine below_set ?_ GE192.out) | exact HB.out)) hb); clear BK192; clear HB; have HO195 := n0_; have BK192 := n1_; have HB := n2_; clear n0_ n1_ n2_; clear hb ho14))
            repeat (go_quiet (first | ((with_reducible refine gate_dst (N := 34) rfl ?_); (try (refine gate_guard (by rfl) ?_; dsimp only)); refine Kd.R_make Kd.bool _ 4 rfl (N := 34) rfl 41 _ _ rfl (l0_0.length : Int) rfl rfl Try.underlying41 (.bool false) 1 info4 rfl (by decide) (by omega) false (ok := fun _ => True) (okp := fun _ => True) rfl (fun _ hk => hk) trivial (of_decide_eq_true (by first | (with_reducible assumption) | assumption)) (Nat.le_trans (Nat.mul_le_mul_right _ (of_decide_eq_true (by first | (with_reducible assumption) | assumption) : (l0_0.length : Int).toNat ≤ 281474976710656)) (by omega)) (Below.refl _ _) (Nat.le_refl _) ?_; intro v194 w13 ho14 hb hg_ hnew_; clear hg_ hnew_; (first | rw [← Ny193.out] at ho14 | (simp only [Int.reduceToNat] at ho14; rw [← Ny193.out] at ho14)); have n0_ := Aside0.mk (Kd.R_lower ho14 (below_size (by repeat (first | (with_reducible first | exact HB.out | apply below_alloc | apply pw_below_drewN | apply below_drew1 | refine below_set ?_ GE192.out) | exact HB.out)))); have n1_ := Aside0.mk (blk_below (g := gb192) (o := .cells #[.slice A0_0 l0_0.length c0_0, .int .i64 a0_1] 24 (0, 0)) (by (with_reducible repeat (first | refine blk_drewN ?_ _ | refine blk_drew ?_ | refine blk_alloc ?_ _)); exact BK192.out) hb); have n2_ := Aside0.mk (below_step (by repeat (first | (with_reducible first | exact HB.out | apply below_alloc | apply pw_below_drewN | apply below_drew1 | refine below_set ?_ GE192.out) | exact HB.out)) hb); clear BK192; clear HB; have HO195 := n0_; have BK192 := n1_; have HB := n2_; clear n0_ n1_ n2_; clear hb ho14)); try go_wp2_with (first | ((with_reducible refine gate_dst (N := 34) rfl ?_); (try (refine gate_guard (by rfl) ?_; dsimp only)); refine Kd.R_make Kd.bool _ 4 rfl (N := 34) rfl 41 _ _ rfl (l0_0.length : Int) rfl rfl Try.underlying41 (.bool false) 1 info4 rfl (by decide) (by omega) false (ok := fun _ => True) (okp := fun _ => True) rfl (fun _ hk => hk) trivial (of_decide_eq_true (by first | (with_reducible assumption) | assumption)) (Nat.le_trans (Nat.mul_le_mul_right _ (of_decide_eq_true (by first | (with_reducible assumption) | assumption) : (l0_0.length : Int).toNat ≤ 281474976710656)) (by omega)) (Below.refl _ _) (Nat.le_refl _) ?_; intro v194 w13 ho14 hb hg_ hnew_; clear hg_ hnew_; (first | rw [← Ny193.out] at ho14 | (simp only [Int.reduceToNat] at ho14; rw [← Ny193.out] at ho14)); have n0_ := Aside0.mk (Kd.R_lower ho14 (below_size (by repeat (first | (with_reducible first | exact HB.out | apply below_alloc | apply pw_below_drewN | apply below_drew1 | refine below_set ?_ GE192.out) | exact HB.out)))); have n1_ := Aside0.mk (blk_below (g := gb192) (o := .cells #[.slice A0_0 l0_0.length c0_0, .int .i64 a0_1] 24 (0, 0)) (by (with_reducible repeat (first | refine blk_drewN ?_ _ | refine blk_drew ?_ | refine blk_alloc ?_ _)); exact BK192.out) hb); have n2_ := Aside0.mk (below_step (by repeat (first | (with_reducible first | exact HB.out | apply below_alloc | apply pw_below_drewN | apply below_drew1 | refine below_set ?_ GE192.out) | exact HB.out)) hb); clear BK192; clear HB; have HO195 := n0_; have BK192 := n1_; have HB := n2_; clear n0_ n1_ n2_; clear hb ho14)))
            go_loopg [5, 6] kj1 (fun kq v5 v6 w' => ∃ (x4_2 : List Bool) (x5_2 : List Int) (x6_2 : Bool), v6 = .bool x6_2 ∧ Aside0 (coppicerref_Sound.l0 kq x4_2 x5_2 x6_2 l0_0 a0_1 = some (r1, r2)) ∧ Aside0 (kq ≤ kj1) ∧ Aside0 (Kd.R Kd.bool 4 w' w.heap.size (fun _ => True) v194 x4_2) ∧ Aside0 (Kd.R (Kd.int .i64) 3 w' w.heap.size (fun _ => True) v5 x5_2) ∧ Aside0 (w'.heap[gb192]? = some (.cells #[(.slice A0_0 l0_0.length c0_0), .int .i64 a0_1] 24 (0, 0))) ∧ Aside0 (Below w.heap.size w w'))
            case atStart => exact ⟨(y193), (([] : List Int)), (true), (by first | rfl | (simp; done) | (simp [*]; done)), H', ⟨Nat.le_refl _⟩, ⟨by (with_reducible repeat (first | apply Kd.R_alloc | apply Kd.R_drewN | apply Kd.R_drew)); exact HO195.out⟩, ⟨by first | exact Kd.R_nil _ _ _ _ _ | exact Kd.N_nil _ _ _ _ _ | exact Kd.V_nil _ _ _ _ _ | exact Kd.Q_nil _ _ _ _ _ | exact Kd.S_nil _ _ _ _ _ | (go_simp; exact Kd.R_nil _ _ _ _ _)⟩, ⟨by (with_reducible repeat (first | refine blk_drewN ?_ _ | refine blk_drew ?_ | refine blk_alloc ?_ _)); exact BK192.out⟩, ⟨by repeat (first | (with_reducible first | exact HB.out | apply below_alloc | apply pw_below_drewN | apply below_drew1 | refine below_set ?_ GE192.out) | exact HB.out)⟩⟩
            case round =>
              clear H'
              try clear c1
              try clear p2
              try clear c4
              try clear c4b0
              try clear c4b1
              try clear c6
              try clear c6b0
              try clear c9
              try clear c10
              try clear c10b0
              try clear c10b1
              try clear c11
              try clear c11b0
              try clear c11b1
              try clear hcz12_0
              try clear hcz12_1
              try clear hcz5_0
              try clear hcz5_1
              try clear hcz7_0
              try clear hcz7_1
              try clear hcz8_0
              try clear hcz8_1
              try clear hfz12_0
              try clear hfz12_1
              try clear hfz5_0
              try clear hfz5_1
              try clear hfz7_0
              try clear hfz7_1
              try clear hfz8_0
              try clear hfz8_1
              try clear p2
              obtain ⟨x4_2, x5_2, x6_2, rfl, HA, HK2, HO_4, HO_5, BK192, HB⟩ := hrel
              cases gk with
              | zero => exact absurd HA.out (by simp [coppicerref_Sound.l0])
              | succ k2 =>
                have H := HA.out
                clear HA
                simp only [coppicerref_Sound.l0] at H
                by_cases c15 : x6_2 = true
                · subst c15
                  have H1 : (coppicerref_Sound.l1 k2 x4_2 x5_2 false l0_0 (l0_0.length : Int) 0 l0_0 a0_1) = some (r1, r2) := by rw [if_pos rfl] at H; exact H
                  clear H
                  have H := H1
                  clear H1
                  have H' := Aside0.mk H
                  clear H
                  have hcz16_0 : wr.cell? ⟨gb192, 0, none⟩ = some (.slice A0_0 l0_0.length c0_0) := (blk_cell BK192.out 0).trans rfl
                  have hcz16_1 : wr.cell? ⟨gb192, 1, none⟩ = some (.int .i64 a0_1) := (blk_cell BK192.out 1).trans rfl
                  have hfz16_0 := blk_frozen BK192.out 0
                  have hfz16_1 := blk_frozen BK192.out 1
                  go_wp2
                  repeat (go_quiet (fail); try go_wp2)
                  go_loopg [5, 6, 39] k2 (fun kq v5 v6 v39 w' => ∃ (x4_3 : List Bool) (x5_3 : List Int) (x6_3 : Bool) (x39_3 : Int), v6 = .bool x6_3 ∧ v39 = .int .i64 x39_3 ∧ Aside0 (coppicerref_Sound.l1 kq x4_3 x5_3 x6_3 l0_0 (l0_0.length : Int) x39_3 l0_0 a0_1 = some (r1, r2)) ∧ Aside0 (kq ≤ k2) ∧ Aside0 (Kd.R Kd.bool 4 w' w.heap.size (fun _ => True) v194 x4_3) ∧ Aside0 (Kd.R (Kd.int .i64) 3 w' w.heap.size (fun _ => True) v5 x5_3) ∧ Aside0 (w'.heap[gb192]? = some (.cells #[(.slice A0_0 l0_0.length c0_0), .int .i64 a0_1] 24 (0, 0))) ∧ Aside0 (Below w.heap.size w w'))
                  case atStart => exact ⟨(x4_2), (x5_2), (false), (0), (by first | rfl | (simp; done) | (simp [*]; done)), (by first | rfl | (simp; done) | (simp [*]; done)), H', ⟨Nat.le_refl _⟩, ⟨by (with_reducible repeat (first | apply Kd.R_alloc | apply Kd.R_drewN | apply Kd.R_drew)); exact HO_4.out⟩, ⟨by (with_reducible repeat (first | apply Kd.R_alloc | apply Kd.R_drewN | apply Kd.R_drew)); exact HO_5.out⟩, ⟨by (with_reducible repeat (first | refine blk_drewN ?_ _ | refine blk_drew ?_ | refine blk_alloc ?_ _)); exact BK192.out⟩, ⟨by repeat (first | (with_reducible first | exact HB.out | apply below_alloc | apply pw_below_drewN | apply below_drew1 | refine below_set ?_ GE192.out) | exact HB.out)⟩⟩
                  case round =>
                    clear H'
                    try clear c1
                    try clear p2
                    try clear c4
                    try clear c4b0
                    try clear c4b1
                    try clear c6
                    try clear c6b0
                    try clear c9
                    try clear c10
                    try clear c10b0
                    try clear c10b1
                    try clear c11
                    try clear c11b0
                    try clear c11b1
                    try clear c15
                    try clear hcz12_0
                    try clear hcz12_1
                    try clear hcz16_0
                    try clear hcz16_1
                    try clear hcz5_0
                    try clear hcz5_1
                    try clear hcz7_0
                    try clear hcz7_1
                    try clear hcz8_0
                    try clear hcz8_1
                    try clear hfz12_0
                    try clear hfz12_1
                    try clear hfz16_0
                    try clear hfz16_1
                    try clear hfz5_0
                    try clear hfz5_1
                    try clear hfz7_0
                    try clear hfz7_1
                    try clear hfz8_0
                    try clear hfz8_1
                    try clear p2
                    obtain ⟨x4_3, x5_3, x6_3, x39_3, rfl, rfl, HA, HK3, HO_4, HO_5, BK192, HB⟩ := hrel
                    cases gk with
                    | zero => exact absurd HA.out (by simp [coppicerref_Sound.l1])
                    | succ k3 =>
                      have H := HA.out
                      clear HA
                      simp only [coppicerref_Sound.l1] at H
                      by_cases c17 : x39_3 < (l0_0.length : Int)
                      · rw [if_pos c17] at H
                        have c17b0 : decide (x39_3 < (l0_0.length : Int)) = true := decide_eq_true c17
                        clear c17
                        by_cases c18 : 0 ≤ x39_3
                        · rw [if_pos c18] at H
                          have c18b0 : decide (0 ≤ x39_3) = true := decide_eq_true c18
                          clear c18
                          by_cases c19 : x39_3 < (l0_0.length : Int)
                          · rw [if_pos c19] at H
                            have c19b0 : decide (x39_3 < (l0_0.length : Int)) = true := decide_eq_true c19
                            clear c19
                            by_cases c20 : x39_3 < (x4_3.length : Int)
                            · rw [if_pos c20] at H
                              have c20b0 : decide (x39_3 < (x4_3.length : Int)) = true := decide_eq_true c20
                              clear c20
                              have H' := Aside0.mk H
                              clear H
                              have p196 : 0 ≤ (x39_3 : Int) := of_decide_eq_true (by first | (with_reducible assumption) | assumption)
                              have q196 : x39_3 < (l0_0.length : Int) := of_decide_eq_true (by first | (with_reducible assumption) | assumption)
                              obtain ⟨ad196, A196_3, c196_3, e196, hx196_0, hx196_1, hx196_2, hx196_3, hl196_3, hi196_3⟩ := at_T40 HR0_0.out x39_3 p196 q196
                              cases e196
                              replace hx196_0 := (HB.out.cell (World.block_lt_of_cell? w _ hx196_0)).trans hx196_0
                              replace hx196_1 := (HB.out.cell (World.block_lt_of_cell? w _ hx196_1)).trans hx196_1
                              replace hx196_2 := (HB.out.cell (World.block_lt_of_cell? w _ hx196_2)).trans hx196_2
                              replace hx196_3 := (HB.out.cell (World.block_lt_of_cell? w _ hx196_3)).trans hx196_3
                              have HR196_3 := Aside0.mk hi196_3
                              have HC196_3 := Aside0.mk hl196_3
                              clear hi196_3 hl196_3
                              replace p196 := eq_true p196
                              replace q196 := eq_true q196
                              go_wp2_with (first | ((with_reducible refine gate_dst (N := 8) rfl ?_); (try (refine gate_guard (by rfl) ?_; dsimp only)); refine box_event ?hg (N := 8) ?hd (cs := #[.int .i64 0, .int .i64 0, .int .i64 0, .slice none 0 0]) (t := 40) ?hr ?_; (case hd => rfl); (case hg => rfl); (case hr => first | (go_simp; done) | (go_simp; rfl)); intro gb197 hg w21 hbox hb; have n0_ := Aside0.mk (Kd.R_below (by (with_reducible repeat (first | apply Kd.R_alloc | apply Kd.R_drewN | apply Kd.R_drew)); exact HO_4.out) hb); have n1_ := Aside0.mk (Kd.R_below (by (with_reducible repeat (first | apply Kd.R_alloc | apply Kd.R_drewN | apply Kd.R_drew)); exact HO_5.out) hb); have n2_ := Aside0.mk (blk_below (g := gb192) (o := .cells #[.slice (some ad196) l0_0.length c0_0, .int .i64 a0_1] 24 (0, 0)) (by (with_reducible repeat (first | refine blk_drewN ?_ _ | refine blk_drew ?_ | refine blk_alloc ?_ _)); exact BK192.out) hb); have n3_ := Aside0.mk (below_step (by repeat (first | (with_reducible first | exact HB.out | apply below_alloc | apply pw_below_drewN | apply below_drew1 | refine below_set ?_ GE192.out) | exact HB.out)) hb); have n4_ := Aside0.mk (hbox); have n5_ := Aside0.mk ((by rw [hg]; exact (below_size (by repeat (first | (with_reducible first | exact HB.out | apply below_alloc | apply pw_below_drewN | apply below_drew1 | refine below_set ?_ GE192.out) | exact HB.out))) : w.heap.size ≤ gb197)); have n6_ := Aside0.mk ((by rw [hg]; exact (below_size (by repeat (first | (with_reducible first | exact HB.out | apply below_alloc | apply pw_below_drewN | apply below_drew1 | refine below_set ?_ GE192.out) | exact HB.out))) : w.heap.size ≤ gb197)); have n7_ := Aside0.mk ((by rw [hg]; exact Nat.ne_of_lt (blk_lt (g := gb192) (o := .cells #[.slice (some ad196) l0_0.length c0_0, .int .i64 a0_1] 24 (0, 0)) (by (with_reducible repeat (first | refine blk_drewN ?_ _ | refine blk_drew ?_ | refine blk_alloc ?_ _)); exact BK192.out)) : gb192 ≠ gb197)); have n8_ := Aside0.mk ((by rw [hg]; exact Nat.ne_of_gt (blk_lt (g := gb192) (o := .cells #[.slice (some ad196) l0_0.length c0_0, .int .i64 a0_1] 24 (0, 0)) (by (with_reducible repeat (first | refine blk_drewN ?_ _ | refine blk_drew ?_ | refine blk_alloc ?_ _)); exact BK192.out)) : gb197 ≠ gb192)); clear HO_4; clear HO_5; clear BK192; clear HB; have HO_4 := n0_; have HO_5 := n1_; have BK192 := n2_; have HB := n3_; have BK197 := n4_; have GW197 := n5_; have GE197 := n6_; have NB192_197 := n7_; have NB197_192 := n8_; clear n0_ n1_ n2_ n3_ n4_ n5_ n6_ n7_ n8_; clear hb hbox hg; have hnb22 := NB197_192.out; have hnc22 := NB192_197.out; have hcz23_0 : w21.cell? ⟨gb197, 0, none⟩ = some (.int .i64 0) := (blk_cell BK197.out 0).trans rfl; have hcz23_1 : w21.cell? ⟨gb197, 1, none⟩ = some (.int .i64 0) := (blk_cell BK197.out 1).trans rfl; have hcz23_2 : w21.cell? ⟨gb197, 2, none⟩ = some (.int .i64 0) := (blk_cell BK197.out 2).trans rfl; have hcz23_3 : w21.cell? ⟨gb197, 3, none⟩ = some (.slice none 0 0) := (blk_cell BK197.out 3).trans rfl; have hfz23_0 := blk_frozen BK197.out 0; have hfz23_1 := blk_frozen BK197.out 1; have hfz23_2 := blk_frozen BK197.out 2; have hfz23_3 := blk_frozen BK197.out 3; obtain ⟨Ao24, co24, eo24⟩ := Kd.R_slice HO_4.out; subst eo24; have p198 : 0 ≤ (x39_3 : Int) := of_decide_eq_true (by first | (with_reducible assumption) | assumption); have q198 : x39_3 < (x4_3.length : Int) := of_decide_eq_true (by first | (with_reducible assumption) | assumption); obtain ⟨ad198, e198, hx198_0⟩ := Kd.at_bool (Kd.R_reads' HO_4.out).2.2 x39_3 p198 q198; cases e198; have hn198_0 : ad198.block ≠ gb197 := Kd.own_blk (Kd.R_ne HO_4.out BK197.out (by decide)); have hn198_1 : ad198.block ≠ gb197 := Kd.own_blk (Kd.R_ne HO_4.out BK197.out (by decide)); have hn198_2 : ad198.block ≠ gb197 := Kd.own_blk (Kd.R_ne HO_4.out BK197.out (by decide)); have hn198_3 : ad198.block ≠ gb197 := Kd.own_blk (Kd.R_ne HO_4.out BK197.out (by decide)); replace hx198_0 := (cell_far (p := ⟨gb197, 0, none⟩) (by first | (rw [add_block]; exact hn198_0) | (show (Addr.add _ _).block ≠ _; rw [add_block]; exact hn198_0) | exact hn198_0) (.int .i64 ((rd_T40 l0_0 x39_3).f0))).trans hx198_0; replace hx198_0 := (cell_far (p := ⟨gb197, 1, none⟩) (by first | (rw [add_block]; exact hn198_1) | (show (Addr.add _ _).block ≠ _; rw [add_block]; exact hn198_1) | exact hn198_1) (.int .i64 ((rd_T40 l0_0 x39_3).f1))).trans hx198_0; replace hx198_0 := (cell_far (p := ⟨gb197, 2, none⟩) (by first | (rw [add_block]; exact hn198_2) | (show (Addr.add _ _).block ≠ _; rw [add_block]; exact hn198_2) | exact hn198_2) (.int .i64 ((rd_T40 l0_0 x39_3).f2))).trans hx198_0; replace hx198_0 := (cell_far (p := ⟨gb197, 3, none⟩) (by first | (rw [add_block]; exact hn198_3) | (show (Addr.add _ _).block ≠ _; rw [add_block]; exact hn198_3) | exact hn198_3) (.slice A196_3 ((rd_T40 l0_0 x39_3).f3).length c196_3)).trans hx198_0; (try have hy198_0 := fun (n_ : Nat) => (show ((((((w21.drewN n_).setCell ⟨gb197, 0, none⟩ (.int .i64 ((rd_T40 l0_0 x39_3).f0))).setCell ⟨gb197, 1, none⟩ (.int .i64 ((rd_T40 l0_0 x39_3).f1))).setCell ⟨gb197, 2, none⟩ (.int .i64 ((rd_T40 l0_0 x39_3).f2))).setCell ⟨gb197, 3, none⟩ (.slice A196_3 ((rd_T40 l0_0 x39_3).f3).length c196_3))).cell? _ = some _ from hx198_0)); clear hn198_0; clear hn198_1; clear hn198_2; clear hn198_3; replace p198 := eq_true p198; replace q198 := eq_true q198))
                              repeat (go_quiet (first | ((with_reducible refine gate_dst (N := 8) rfl ?_); (try (refine gate_guard (by rfl) ?_; dsimp only)); refine box_event ?hg (N := 8) ?hd (cs := #[.int .i64 0, .int .i64 0, .int .i64 0, .slice none 0 0]) (t := 40) ?hr ?_; (case hd => rfl); (case hg => rfl); (case hr => first | (go_simp; done) | (go_simp; rfl)); intro gb197 hg w21 hbox hb; have n0_ := Aside0.mk (Kd.R_below (by (with_reducible repeat (first | apply Kd.R_alloc | apply Kd.R_drewN | apply Kd.R_drew)); exact HO_4.out) hb); have n1_ := Aside0.mk (Kd.R_below (by (with_reducible repeat (first | apply Kd.R_alloc | apply Kd.R_drewN | apply Kd.R_drew)); exact HO_5.out) hb); have n2_ := Aside0.mk (blk_below (g := gb192) (o := .cells #[.slice (some ad196) l0_0.length c0_0, .int .i64 a0_1] 24 (0, 0)) (by (with_reducible repeat (first | refine blk_drewN ?_ _ | refine blk_drew ?_ | refine blk_alloc ?_ _)); exact BK192.out) hb); have n3_ := Aside0.mk (below_step (by repeat (first | (with_reducible first | exact HB.out | apply below_alloc | apply pw_below_drewN | apply below_drew1 | refine below_set ?_ GE192.out) | exact HB.out)) hb); have n4_ := Aside0.mk (hbox); have n5_ := Aside0.mk ((by rw [hg]; exact (below_size (by repeat (first | (with_reducible first | exact HB.out | apply below_alloc | apply pw_below_drewN | apply below_drew1 | refine below_set ?_ GE192.out) | exact HB.out))) : w.heap.size ≤ gb197)); have n6_ := Aside0.mk ((by rw [hg]; exact (below_size (by repeat (first | (with_reducible first | exact HB.out | apply below_alloc | apply pw_below_drewN | apply below_drew1 | refine below_set ?_ GE192.out) | exact HB.out))) : w.heap.size ≤ gb197)); have n7_ := Aside0.mk ((by rw [hg]; exact Nat.ne_of_lt (blk_lt (g := gb192) (o := .cells #[.slice (some ad196) l0_0.length c0_0, .int .i64 a0_1] 24 (0, 0)) (by (with_reducible repeat (first | refine blk_drewN ?_ _ | refine blk_drew ?_ | refine blk_alloc ?_ _)); exact BK192.out)) : gb192 ≠ gb197)); have n8_ := Aside0.mk ((by rw [hg]; exact Nat.ne_of_gt (blk_lt (g := gb192) (o := .cells #[.slice (some ad196) l0_0.length c0_0, .int .i64 a0_1] 24 (0, 0)) (by (with_reducible repeat (first | refine blk_drewN ?_ _ | refine blk_drew ?_ | refine blk_alloc ?_ _)); exact BK192.out)) : gb197 ≠ gb192)); clear HO_4; clear HO_5; clear BK192; clear HB; have HO_4 := n0_; have HO_5 := n1_; have BK192 := n2_; have HB := n3_; have BK197 := n4_; have GW197 := n5_; have GE197 := n6_; have NB192_197 := n7_; have NB197_192 := n8_; clear n0_ n1_ n2_ n3_ n4_ n5_ n6_ n7_ n8_; clear hb hbox hg; have hnb22 := NB197_192.out; have hnc22 := NB192_197.out; have hcz23_0 : w21.cell? ⟨gb197, 0, none⟩ = some (.int .i64 0) := (blk_cell BK197.out 0).trans rfl; have hcz23_1 : w21.cell? ⟨gb197, 1, none⟩ = some (.int .i64 0) := (blk_cell BK197.out 1).trans rfl; have hcz23_2 : w21.cell? ⟨gb197, 2, none⟩ = some (.int .i64 0) := (blk_cell BK197.out 2).trans rfl; have hcz23_3 : w21.cell? ⟨gb197, 3, none⟩ = some (.slice none 0 0) := (blk_cell BK197.out 3).trans rfl; have hfz23_0 := blk_frozen BK197.out 0; have hfz23_1 := blk_frozen BK197.out 1; have hfz23_2 := blk_frozen BK197.out 2; have hfz23_3 := blk_frozen BK197.out 3; obtain ⟨Ao24, co24, eo24⟩ := Kd.R_slice HO_4.out; subst eo24; have p198 : 0 ≤ (x39_3 : Int) := of_decide_eq_true (by first | (with_reducible assumption) | assumption); have q198 : x39_3 < (x4_3.length : Int) := of_decide_eq_true (by first | (with_reducible assumption) | assumption); obtain ⟨ad198, e198, hx198_0⟩ := Kd.at_bool (Kd.R_reads' HO_4.out).2.2 x39_3 p198 q198; cases e198; have hn198_0 : ad198.block ≠ gb197 := Kd.own_blk (Kd.R_ne HO_4.out BK197.out (by decide)); have hn198_1 : ad198.block ≠ gb197 := Kd.own_blk (Kd.R_ne HO_4.out BK197.out (by decide)); have hn198_2 : ad198.block ≠ gb197 := Kd.own_blk (Kd.R_ne HO_4.out BK197.out (by decide)); have hn198_3 : ad198.block ≠ gb197 := Kd.own_blk (Kd.R_ne HO_4.out BK197.out (by decide)); replace hx198_0 := (cell_far (p := ⟨gb197, 0, none⟩) (by first | (rw [add_block]; exact hn198_0) | (show (Addr.add _ _).block ≠ _; rw [add_block]; exact hn198_0) | exact hn198_0) (.int .i64 ((rd_T40 l0_0 x39_3).f0))).trans hx198_0; replace hx198_0 := (cell_far (p := ⟨gb197, 1, none⟩) (by first | (rw [add_block]; exact hn198_1) | (show (Addr.add _ _).block ≠ _; rw [add_block]; exact hn198_1) | exact hn198_1) (.int .i64 ((rd_T40 l0_0 x39_3).f1))).trans hx198_0; replace hx198_0 := (cell_far (p := ⟨gb197, 2, none⟩) (by first | (rw [add_block]; exact hn198_2) | (show (Addr.add _ _).block ≠ _; rw [add_block]; exact hn198_2) | exact hn198_2) (.int .i64 ((rd_T40 l0_0 x39_3).f2))).trans hx198_0; replace hx198_0 := (cell_far (p := ⟨gb197, 3, none⟩) (by first | (rw [add_block]; exact hn198_3) | (show (Addr.add _ _).block ≠ _; rw [add_block]; exact hn198_3) | exact hn198_3) (.slice A196_3 ((rd_T40 l0_0 x39_3).f3).length c196_3)).trans hx198_0; (try have hy198_0 := fun (n_ : Nat) => (show ((((((w21.drewN n_).setCell ⟨gb197, 0, none⟩ (.int .i64 ((rd_T40 l0_0 x39_3).f0))).setCell ⟨gb197, 1, none⟩ (.int .i64 ((rd_T40 l0_0 x39_3).f1))).setCell ⟨gb197, 2, none⟩ (.int .i64 ((rd_T40 l0_0 x39_3).f2))).setCell ⟨gb197, 3, none⟩ (.slice A196_3 ((rd_T40 l0_0 x39_3).f3).length c196_3))).cell? _ = some _ from hx198_0)); clear hn198_0; clear hn198_1; clear hn198_2; clear hn198_3; replace p198 := eq_true p198; replace q198 := eq_true q198)); try go_wp2_with (first | ((with_reducible refine gate_dst (N := 8) rfl ?_); (try (refine gate_guard (by rfl) ?_; dsimp only)); refine box_event ?hg (N := 8) ?hd (cs := #[.int .i64 0, .int .i64 0, .int .i64 0, .slice none 0 0]) (t := 40) ?hr ?_; (case hd => rfl); (case hg => rfl); (case hr => first | (go_simp; done) | (go_simp; rfl)); intro gb197 hg w21 hbox hb; have n0_ := Aside0.mk (Kd.R_below (by (with_reducible repeat (first | apply Kd.R_alloc | apply Kd.R_drewN | apply Kd.R_drew)); exact HO_4.out) hb); have n1_ := Aside0.mk (Kd.R_below (by (with_reducible repeat (first | apply Kd.R_alloc | apply Kd.R_drewN | apply Kd.R_drew)); exact HO_5.out) hb); have n2_ := Aside0.mk (blk_below (g := gb192) (o := .cells #[.slice (some ad196) l0_0.length c0_0, .int .i64 a0_1] 24 (0, 0)) (by (with_reducible repeat (first | refine blk_drewN ?_ _ | refine blk_drew ?_ | refine blk_alloc ?_ _)); exact BK192.out) hb); have n3_ := Aside0.mk (below_step (by repeat (first | (with_reducible first | exact HB.out | apply below_alloc | apply pw_below_drewN | apply below_drew1 | refine below_set ?_ GE192.out) | exact HB.out)) hb); have n4_ := Aside0.mk (hbox); have n5_ := Aside0.mk ((by rw [hg]; exact (below_size (by repeat (first | (with_reducible first | exact HB.out | apply below_alloc | apply pw_below_drewN | apply below_drew1 | refine below_set ?_ GE192.out) | exact HB.out))) : w.heap.size ≤ gb197)); have n6_ := Aside0.mk ((by rw [hg]; exact (below_size (by repeat (first | (with_reducible first | exact HB.out | apply below_alloc | apply pw_below_drewN | apply below_drew1 | refine below_set ?_ GE192.out) | exact HB.out))) : w.heap.size ≤ gb197)); have n7_ := Aside0.mk ((by rw [hg]; exact Nat.ne_of_lt (blk_lt (g := gb192) (o := .cells #[.slice (some ad196) l0_0.length c0_0, .int .i64 a0_1] 24 (0, 0)) (by (with_reducible repeat (first | refine blk_drewN ?_ _ | refine blk_drew ?_ | refine blk_alloc ?_ _)); exact BK192.out)) : gb192 ≠ gb197)); have n8_ := Aside0.mk ((by rw [hg]; exact Nat.ne_of_gt (blk_lt (g := gb192) (o := .cells #[.slice (some ad196) l0_0.length c0_0, .int .i64 a0_1] 24 (0, 0)) (by (with_reducible repeat (first | refine blk_drewN ?_ _ | refine blk_drew ?_ | refine blk_alloc ?_ _)); exact BK192.out)) : gb197 ≠ gb192)); clear HO_4; clear HO_5; clear BK192; clear HB; have HO_4 := n0_; have HO_5 := n1_; have BK192 := n2_; have HB := n3_; have BK197 := n4_; have GW197 := n5_; have GE197 := n6_; have NB192_197 := n7_; have NB197_192 := n8_; clear n0_ n1_ n2_ n3_ n4_ n5_ n6_ n7_ n8_; clear hb hbox hg; have hnb22 := NB197_192.out; have hnc22 := NB192_197.out; have hcz23_0 : w21.cell? ⟨gb197, 0, none⟩ = some (.int .i64 0) := (blk_cell BK197.out 0).trans rfl; have hcz23_1 : w21.cell? ⟨gb197, 1, none⟩ = some (.int .i64 0) := (blk_cell BK197.out 1).trans rfl; have hcz23_2 : w21.cell? ⟨gb197, 2, none⟩ = some (.int .i64 0) := (blk_cell BK197.out 2).trans rfl; have hcz23_3 : w21.cell? ⟨gb197, 3, none⟩ = some (.slice none 0 0) := (blk_cell BK197.out 3).trans rfl; have hfz23_0 := blk_frozen BK197.out 0; have hfz23_1 := blk_frozen BK197.out 1; have hfz23_2 := blk_frozen BK197.out 2; have hfz23_3 := blk_frozen BK197.out 3; obtain ⟨Ao24, co24, eo24⟩ := Kd.R_slice HO_4.out; subst eo24; have p198 : 0 ≤ (x39_3 : Int) := of_decide_eq_true (by first | (with_reducible assumption) | assumption); have q198 : x39_3 < (x4_3.length : Int) := of_decide_eq_true (by first | (with_reducible assumption) | assumption); obtain ⟨ad198, e198, hx198_0⟩ := Kd.at_bool (Kd.R_reads' HO_4.out).2.2 x39_3 p198 q198; cases e198; have hn198_0 : ad198.block ≠ gb197 := Kd.own_blk (Kd.R_ne HO_4.out BK197.out (by decide)); have hn198_1 : ad198.block ≠ gb197 := Kd.own_blk (Kd.R_ne HO_4.out BK197.out (by decide)); have hn198_2 : ad198.block ≠ gb197 := Kd.own_blk (Kd.R_ne HO_4.out BK197.out (by decide)); have hn198_3 : ad198.block ≠ gb197 := Kd.own_blk (Kd.R_ne HO_4.out BK197.out (by decide)); replace hx198_0 := (cell_far (p := ⟨gb197, 0, none⟩) (by first | (rw [add_block]; exact hn198_0) | (show (Addr.add _ _).block ≠ _; rw [add_block]; exact hn198_0) | exact hn198_0) (.int .i64 ((rd_T40 l0_0 x39_3).f0))).trans hx198_0; replace hx198_0 := (cell_far (p := ⟨gb197, 1, none⟩) (by first | (rw [add_block]; exact hn198_1) | (show (Addr.add _ _).block ≠ _; rw [add_block]; exact hn198_1) | exact hn198_1) (.int .i64 ((rd_T40 l0_0 x39_3).f1))).trans hx198_0; replace hx198_0 := (cell_far (p := ⟨gb197, 2, none⟩) (by first | (rw [add_block]; exact hn198_2) | (show (Addr.add _ _).block ≠ _; rw [add_block]; exact hn198_2) | exact hn198_2) (.int .i64 ((rd_T40 l0_0 x39_3).f2))).trans hx198_0; replace hx198_0 := (cell_far (p := ⟨gb197, 3, none⟩) (by first | (rw [add_block]; exact hn198_3) | (show (Addr.add _ _).block ≠ _; rw [add_block]; exact hn198_3) | exact hn198_3) (.slice A196_3 ((rd_T40 l0_0 x39_3).f3).length c196_3)).trans hx198_0; (try have hy198_0 := fun (n_ : Nat) => (show ((((((w21.drewN n_).setCell ⟨gb197, 0, none⟩ (.int .i64 ((rd_T40 l0_0 x39_3).f0))).setCell ⟨gb197, 1, none⟩ (.int .i64 ((rd_T40 l0_0 x39_3).f1))).setCell ⟨gb197, 2, none⟩ (.int .i64 ((rd_T40 l0_0 x39_3).f2))).setCell ⟨gb197, 3, none⟩ (.slice A196_3 ((rd_T40 l0_0 x39_3).f3).length c196_3))).cell? _ = some _ from hx198_0)); clear hn198_0; clear hn198_1; clear hn198_2; clear hn198_3; replace p198 := eq_true p198; replace q198 := eq_true q198)))
                              go_loopg [9, 52] k3 (fun kq v9 v52 w' => ∃ (x9_4 : Bool) (x52_4 : Int), v9 = .bool x9_4 ∧ v52 = .int .i64 x52_4 ∧ Aside0 (coppicerref_Sound.l2 kq x4_3 x5_3 x6_3 x39_3 x9_4 l0_0 (l0_0.length : Int) x39_3 ((rd_T40 l0_0 x39_3).f3) (((rd_T40 l0_0 x39_3).f3).length : Int) x52_4 l0_0 a0_1 = some (r1, r2)) ∧ Aside0 (kq ≤ k3) ∧ Aside0 (Kd.R Kd.bool 4 w' w.heap.size (fun _ => True) (.slice (some ad198) x4_3.length co24) x4_3) ∧ Aside0 (Kd.R (Kd.int .i64) 3 w' w.heap.size (fun _ => True) u5 x5_3) ∧ Aside0 (w'.heap[gb192]? = some (.cells #[(.slice (some ad196) l0_0.length c0_0), .int .i64 a0_1] 24 (0, 0))) ∧ Aside0 (w'.heap[gb197]? = some (.cells #[.int .i64 ((rd_T40 l0_0 x39_3).f0), .int .i64 ((rd_T40 l0_0 x39_3).f1), .int .i64 ((rd_T40 l0_0 x39_3).f2), (.slice A196_3 ((rd_T40 l0_0 x39_3).f3).length c196_3)] 40 (0, 0))) ∧ Aside0 (Below w.heap.size w w'))
                              case atStart => exact ⟨(!(rdOf false x4_3 x39_3)), (0), (by first | rfl | (simp; done) | (simp [*]; done)), (by first | rfl | (simp; done) | (simp [*]; done)), H', ⟨Nat.le_refl _⟩, ⟨by (with_reducible repeat (first | apply Kd.R_alloc | apply Kd.R_drewN | apply Kd.R_drew)); exact Kd.R_mono (Kd.R_far (p := ⟨gb197, 3, none⟩) (Kd.R_far (p := ⟨gb197, 2, none⟩) (Kd.R_far (p := ⟨gb197, 1, none⟩) (Kd.R_far (p := ⟨gb197, 0, none⟩) (Kd.R_types HO_4.out BK197.out (by decide)) (fun _ hk => hk.2) (.int .i64 ((rd_T40 l0_0 x39_3).f0))) (fun _ hk => hk.2) (.int .i64 ((rd_T40 l0_0 x39_3).f1))) (fun _ hk => hk.2) (.int .i64 ((rd_T40 l0_0 x39_3).f2))) (fun _ hk => hk.2) (.slice A196_3 ((rd_T40 l0_0 x39_3).f3).length c196_3)) (fun _ hk => trivial)⟩, ⟨by (with_reducible repeat (first | apply Kd.R_alloc | apply Kd.R_drewN | apply Kd.R_drew)); exact Kd.R_mono (Kd.R_far (p := ⟨gb197, 3, none⟩) (Kd.R_far (p := ⟨gb197, 2, none⟩) (Kd.R_far (p := ⟨gb197, 1, none⟩) (Kd.R_far (p := ⟨gb197, 0, none⟩) (Kd.R_types HO_5.out BK197.out (by decide)) (fun _ hk => hk.2) (.int .i64 ((rd_T40 l0_0 x39_3).f0))) (fun _ hk => hk.2) (.int .i64 ((rd_T40 l0_0 x39_3).f1))) (fun _ hk => hk.2) (.int .i64 ((rd_T40 l0_0 x39_3).f2))) (fun _ hk => hk.2) (.slice A196_3 ((rd_T40 l0_0 x39_3).f3).length c196_3)) (fun _ hk => trivial)⟩, ⟨by (with_reducible repeat (first | refine blk_drewN ?_ _ | refine blk_drew ?_ | refine blk_alloc ?_ _)); refine blk_far ?_ NB192_197.out _; (with_reducible repeat (first | refine blk_drewN ?_ _ | refine blk_drew ?_ | refine blk_alloc ?_ _)); refine blk_far ?_ NB192_197.out _; (with_reducible repeat (first | refine blk_drewN ?_ _ | refine blk_drew ?_ | refine blk_alloc ?_ _)); refine blk_far ?_ NB192_197.out _; (with_reducible repeat (first | refine blk_drewN ?_ _ | refine blk_drew ?_ | refine blk_alloc ?_ _)); refine blk_far ?_ NB192_197.out _; (with_reducible repeat (first | refine blk_drewN ?_ _ | refine blk_drew ?_ | refine blk_alloc ?_ _)); exact BK192.out⟩, ⟨by (with_reducible repeat (first | refine blk_drewN ?_ _ | refine blk_drew ?_ | refine blk_alloc ?_ _)); refine blk_put (cs := #[.int .i64 ((rd_T40 l0_0 x39_3).f0), .int .i64 ((rd_T40 l0_0 x39_3).f1), .int .i64 ((rd_T40 l0_0 x39_3).f2), .slice none 0 0]) ?_ 3 _ rfl; (with_reducible repeat (first | refine blk_drewN ?_ _ | refine blk_drew ?_ | refine blk_alloc ?_ _)); refine blk_put (cs := #[.int .i64 ((rd_T40 l0_0 x39_3).f0), .int .i64 ((rd_T40 l0_0 x39_3).f1), .int .i64 0, .slice none 0 0]) ?_ 2 _ rfl; (with_reducible repeat (first | refine blk_drewN ?_ _ | refine blk_drew ?_ | refine blk_alloc ?_ _)); refine blk_put (cs := #[.int .i64 ((rd_T40 l0_0 x39_3).f0), .int .i64 0, .int .i64 0, .slice none 0 0]) ?_ 1 _ rfl; (with_reducible repeat (first | refine blk_drewN ?_ _ | refine blk_drew ?_ | refine blk_alloc ?_ _)); refine blk_put (cs := #[.int .i64 0, .int .i64 0, .int .i64 0, .slice none 0 0]) ?_ 0 _ rfl; (with_reducible repeat (first | refine blk_drewN ?_ _ | refine blk_drew ?_ | refine blk_alloc ?_ _)); exact BK197.out⟩, ⟨by repeat (first | (with_reducible first | exact HB.out | apply below_alloc | apply pw_below_drewN | apply below_drew1 | refine below_set ?_ GE192.out | refine below_set ?_ GE197.out) | exact HB.out)⟩⟩
                              case round =>
                                clear H'
                                try clear c1
                                try clear p1
                                try clear q1
                                try clear hx1
                                try clear c2
                                try clear p2
                                try clear c4
                                try clear c4b0
                                try clear c4b1
                                try clear c6
                                try clear c6b0
                                try clear c9
                                try clear c10
                                try clear c10b0
                                try clear c10b1
                                try clear c11
                                try clear c11b0
                                try clear c11b1
                                try clear c15
                                try clear c17
                                try clear c17b0
                                try clear c18
                                try clear c18b0
                                try clear c19
                                try clear c19b0
                                try clear p19
                                try clear q19
                                try clear hx19
                                try clear c20
                                try clear c20b0
                                try clear c22
                                try clear hcz12_0
                                try clear hcz12_1
                                try clear hcz16_0
                                try clear hcz16_1
                                try clear hcz23_0
                                try clear hcz23_1
                                try clear hcz23_2
                                try clear hcz23_3
                                try clear hcz5_0
                                try clear hcz5_1
                                try clear hcz7_0
                                try clear hcz7_1
                                try clear hcz8_0
                                try clear hcz8_1
                                try clear hfz12_0
                                try clear hfz12_1
                                try clear hfz16_0
                                try clear hfz16_1
                                try clear hfz23_0
                                try clear hfz23_1
                                try clear hfz23_2
                                try clear hfz23_3
                                try clear hfz5_0
                                try clear hfz5_1
                                try clear hfz7_0
                                try clear hfz7_1
                                try clear hfz8_0
                                try clear hfz8_1
                                try clear hx196_0
                                try clear hx196_1
                                try clear hx196_2
                                try clear hx196_3
                                try clear hx198_0
                                try clear p196
                                try clear p198
                                try clear p2
                                try clear q196
                                try clear q198
                                obtain ⟨x9_4, x52_4, rfl, rfl, HA, HK4, HO_4, HO_5, BK192, BK197, HB⟩ := hrel
                                cases gk with
                                | zero => exact absurd HA.out (by simp [coppicerref_Sound.l2])
                                | succ k4 =>
                                  have H := HA.out
                                  clear HA
                                  simp only [coppicerref_Sound.l2] at H
                                  by_cases c25 : x52_4 < (((rd_T40 l0_0 x39_3).f3).length : Int)
                                  · rw [if_pos c25] at H
                                    have c25b0 : decide (x52_4 < (((rd_T40 l0_0 x39_3).f3).length : Int)) = true := decide_eq_true c25
                                    clear c25
                                    by_cases c26 : 0 ≤ x52_4
                                    · rw [if_pos c26] at H
                                      have c26b0 : decide (0 ≤ x52_4) = true := decide_eq_true c26
                                      clear c26
                                      by_cases c27 : x52_4 < (((rd_T40 l0_0 x39_3).f3).length : Int)
                                      · rw [if_pos c27] at H
                                        have c27b0 : decide (x52_4 < (((rd_T40 l0_0 x39_3).f3).length : Int)) = true := decide_eq_true c27
                                        clear c27
                                        replace H := Option.bind_eq_some_iff.mp H
                                        obtain ⟨t204, A280, H⟩ := H
                                        replace H : (coppicerref_Sound.l3 k4 x4_3 x5_3 x6_3 x39_3 x9_4 l0_0 (l0_0.length : Int) x39_3 ((rd_T40 l0_0 x39_3).f3) (((rd_T40 l0_0 x39_3).f3).length : Int) x52_4 t204 (t204.length : Int) 0 l0_0 a0_1) = some (r1, r2) := H
                                        have A28 := Aside0.mk A280
                                        clear A280
                                        have H' := Aside0.mk H
                                        clear H
                                        have p203 : 0 ≤ (x52_4 : Int) := of_decide_eq_true (by first | (with_reducible assumption) | assumption)
                                        have q203 : x52_4 < (((rd_T40 l0_0 x39_3).f3).length : Int) := of_decide_eq_true (by first | (with_reducible assumption) | assumption)
                                        obtain ⟨ad203, A203_0, c203_0, e203, hx203_0, hl203_0, hi203_0⟩ := at_L1 HR196_3.out x52_4 p203 q203
                                        cases e203
                                        replace hx203_0 := (HB.out.cell (World.block_lt_of_cell? w _ hx203_0)).trans hx203_0
                                        have HR203_0 := Aside0.mk hi203_0
                                        have HC203_0 := Aside0.mk hl203_0
                                        clear hi203_0 hl203_0
                                        replace p203 := eq_true p203
                                        replace q203 := eq_true q203
                                        go_wp2_with (first | (go_at_call 12; (with_reducible refine (coppicerref_tail.calls (fun k_ => k_ < w.heap.size) _ _ (rd_L1 ((rd_T40 l0_0 x39_3).f3) x52_4) t204 _ ?side1 A28.out).mono ?_); (case side1 => exact Kd.V_mk HC203_0.out (Kd.F_below (Kd.C_F (Kd.heap_int .i64) HR203_0.out) (by repeat (first | (with_reducible first | exact HB.out | apply below_alloc | apply pw_below_drewN | apply below_drew1 | refine below_set ?_ GE192.out | refine below_set ?_ GE197.out) | exact HB.out)))); rintro e w29 ⟨v205, rfl, ho0, hb⟩; have n0_ := Aside0.mk (Kd.R_below (by (with_reducible repeat (first | apply Kd.R_alloc | apply Kd.R_drewN | apply Kd.R_drew)); exact HO_4.out) hb); have n1_ := Aside0.mk (Kd.R_below (by (with_reducible repeat (first | apply Kd.R_alloc | apply Kd.R_drewN | apply Kd.R_drew)); exact HO_5.out) hb); have n2_ := Aside0.mk (Kd.V_lower (Kd.V_mono (ok' := fun k_ => some k_ ≠ (.slice (some ad198) x4_3.length co24 : Value).ownBlock ∧ some k_ ≠ (u5 : Value).ownBlock ∧ k_ ≠ gb192 ∧ k_ ≠ gb197) ho0 (fun k_ hk_ => ⟨Or.elim hk_ (fun hs_ => fun e_ => Nat.not_le.2 hs_ (Kd.R_base HO_4.out k_ e_.symm)) (fun hn_ => (Kd.fresh' (Kd.R_lt (by (with_reducible repeat (first | apply Kd.R_alloc | apply Kd.R_drewN | apply Kd.R_drew)); exact HO_4.out)) k_ hn_)), Or.elim hk_ (fun hs_ => fun e_ => Nat.not_le.2 hs_ (Kd.R_base HO_5.out k_ e_.symm)) (fun hn_ => (Kd.fresh' (Kd.R_lt (by (with_reducible repeat (first | apply Kd.R_alloc | apply Kd.R_drewN | apply Kd.R_drew)); exact HO_5.out)) k_ hn_)), Or.elim hk_ (fun hs_ => fun e_ => Nat.not_le.2 hs_ (by rw [e_]; exact GW192.out)) (fun hn_ => (Kd.freshB (g := gb192) (o := .cells #[.slice (some ad196) l0_0.length c0_0, .int .i64 a0_1] 24 (0, 0)) (by (with_reducible repeat (first | refine blk_drewN ?_ _ | refine blk_drew ?_ | refine blk_alloc ?_ _)); exact BK192.out) k_ hn_)), Or.elim hk_ (fun hs_ => fun e_ => Nat.not_le.2 hs_ (by rw [e_]; exact GW197.out)) (fun hn_ => (Kd.freshB (g := gb197) (o := .cells #[.int .i64 ((rd_T40 l0_0 x39_3).f0), .int .i64 ((rd_T40 l0_0 x39_3).f1), .int .i64 ((rd_T40 l0_0 x39_3).f2), .slice (some ad203) ((rd_T40 l0_0 x39_3).f3).length c196_3] 40 (0, 0)) (by (with_reducible repeat (first | refine blk_drewN ?_ _ | refine blk_drew ?_ | refine blk_alloc ?_ _)); exact BK197.out) k_ hn_))⟩)) (below_size (by repeat (first | (with_reducible first | exact HB.out | apply below_alloc | apply pw_below_drewN | apply below_drew1 | refine below_set ?_ GE192.out | refine below_set ?_ GE197.out) | exact HB.out)))); have n3_ := Aside0.mk (blk_below (g := gb192) (o := .cells #[.slice (some ad196) l0_0.length c0_0, .int .i64 a0_1] 24 (0, 0)) (by (with_reducible repeat (first | refine blk_drewN ?_ _ | refine blk_drew ?_ | refine blk_alloc ?_ _)); exact BK192.out) hb); have n4_ := Aside0.mk (blk_below (g := gb197) (o := .cells #[.int .i64 ((rd_T40 l0_0 x39_3).f0), .int .i64 ((rd_T40 l0_0 x39_3).f1), .int .i64 ((rd_T40 l0_0 x39_3).f2), .slice (some ad203) ((rd_T40 l0_0 x39_3).f3).length c196_3] 40 (0, 0)) (by (with_reducible repeat (first | refine blk_drewN ?_ _ | refine blk_drew ?_ | refine blk_alloc ?_ _)); exact BK197.out) hb); have n5_ := Aside0.mk (below_step (by repeat (first | (with_reducible first | exact HB.out | apply below_alloc | apply pw_below_drewN | apply below_drew1 | refine below_set ?_ GE192.out | refine below_set ?_ GE197.out) | exact HB.out)) hb); clear HO_4; clear HO_5; clear BK192; clear BK197; clear HB; have HO_4 := n0_; have HO_5 := n1_; have HO206 := n2_; have BK192 := n3_; have BK197 := n4_; have HB := n5_; clear n0_ n1_ n2_ n3_ n4_ n5_; (try clear hb); (try clear hb2); (try clear hk); (try clear hi); (try clear ho0); obtain ⟨Ao30, co30, eo30⟩ := Kd.V_slice HO206.out; subst eo30))
                                        repeat (go_quiet (first | (go_at_call 12; (with_reducible refine (coppicerref_tail.calls (fun k_ => k_ < w.heap.size) _ _ (rd_L1 ((rd_T40 l0_0 x39_3).f3) x52_4) t204 _ ?side1 A28.out).mono ?_); (case side1 => exact Kd.V_mk HC203_0.out (Kd.F_below (Kd.C_F (Kd.heap_int .i64) HR203_0.out) (by repeat (first | (with_reducible first | exact HB.out | apply below_alloc | apply pw_below_drewN | apply below_drew1 | refine below_set ?_ GE192.out | refine below_set ?_ GE197.out) | exact HB.out)))); rintro e w29 ⟨v205, rfl, ho0, hb⟩; have n0_ := Aside0.mk (Kd.R_below (by (with_reducible repeat (first | apply Kd.R_alloc | apply Kd.R_drewN | apply Kd.R_drew)); exact HO_4.out) hb); have n1_ := Aside0.mk (Kd.R_below (by (with_reducible repeat (first | apply Kd.R_alloc | apply Kd.R_drewN | apply Kd.R_drew)); exact HO_5.out) hb); have n2_ := Aside0.mk (Kd.V_lower (Kd.V_mono (ok' := fun k_ => some k_ ≠ (.slice (some ad198) x4_3.length co24 : Value).ownBlock ∧ some k_ ≠ (u5 : Value).ownBlock ∧ k_ ≠ gb192 ∧ k_ ≠ gb197) ho0 (fun k_ hk_ => ⟨Or.elim hk_ (fun hs_ => fun e_ => Nat.not_le.2 hs_ (Kd.R_base HO_4.out k_ e_.symm)) (fun hn_ => (Kd.fresh' (Kd.R_lt (by (with_reducible repeat (first | apply Kd.R_alloc | apply Kd.R_drewN | apply Kd.R_drew)); exact HO_4.out)) k_ hn_)), Or.elim hk_ (fun hs_ => fun e_ => Nat.not_le.2 hs_ (Kd.R_base HO_5.out k_ e_.symm)) (fun hn_ => (Kd.fresh' (Kd.R_lt (by (with_reducible repeat (first | apply Kd.R_alloc | apply Kd.R_drewN | apply Kd.R_drew)); exact HO_5.out)) k_ hn_)), Or.elim hk_ (fun hs_ => fun e_ => Nat.not_le.2 hs_ (by rw [e_]; exact GW192.out)) (fun hn_ => (Kd.freshB (g := gb192) (o := .cells #[.slice (some ad196) l0_0.length c0_0, .int .i64 a0_1] 24 (0, 0)) (by (with_reducible repeat (first | refine blk_drewN ?_ _ | refine blk_drew ?_ | refine blk_alloc ?_ _)); exact BK192.out) k_ hn_)), Or.elim hk_ (fun hs_ => fun e_ => Nat.not_le.2 hs_ (by rw [e_]; exact GW197.out)) (fun hn_ => (Kd.freshB (g := gb197) (o := .cells #[.int .i64 ((rd_T40 l0_0 x39_3).f0), .int .i64 ((rd_T40 l0_0 x39_3).f1), .int .i64 ((rd_T40 l0_0 x39_3).f2), .slice (some ad203) ((rd_T40 l0_0 x39_3).f3).length c196_3] 40 (0, 0)) (by (with_reducible repeat (first | refine blk_drewN ?_ _ | refine blk_drew ?_ | refine blk_alloc ?_ _)); exact BK197.out) k_ hn_))⟩)) (below_size (by repeat (first | (with_reducible first | exact HB.out | apply below_alloc | apply pw_below_drewN | apply below_drew1 | refine below_set ?_ GE192.out | refine below_set ?_ GE197.out) | exact HB.out)))); have n3_ := Aside0.mk (blk_below (g := gb192) (o := .cells #[.slice (some ad196) l0_0.length c0_0, .int .i64 a0_1] 24 (0, 0)) (by (with_reducible repeat (first | refine blk_drewN ?_ _ | refine blk_drew ?_ | refine blk_alloc ?_ _)); exact BK192.out) hb); have n4_ := Aside0.mk (blk_below (g := gb197) (o := .cells #[.int .i64 ((rd_T40 l0_0 x39_3).f0), .int .i64 ((rd_T40 l0_0 x39_3).f1), .int .i64 ((rd_T40 l0_0 x39_3).f2), .slice (some ad203) ((rd_T40 l0_0 x39_3).f3).length c196_3] 40 (0, 0)) (by (with_reducible repeat (first | refine blk_drewN ?_ _ | refine blk_drew ?_ | refine blk_alloc ?_ _)); exact BK197.out) hb); have n5_ := Aside0.mk (below_step (by repeat (first | (with_reducible first | exact HB.out | apply below_alloc | apply pw_below_drewN | apply below_drew1 | refine below_set ?_ GE192.out | refine below_set ?_ GE197.out) | exact HB.out)) hb); clear HO_4; clear HO_5; clear BK192; clear BK197; clear HB; have HO_4 := n0_; have HO_5 := n1_; have HO206 := n2_; have BK192 := n3_; have BK197 := n4_; have HB := n5_; clear n0_ n1_ n2_ n3_ n4_ n5_; (try clear hb); (try clear hb2); (try clear hk); (try clear hi); (try clear ho0); obtain ⟨Ao30, co30, eo30⟩ := Kd.V_slice HO206.out; subst eo30)); try go_wp2_with (first | (go_at_call 12; (with_reducible refine (coppicerref_tail.calls (fun k_ => k_ < w.heap.size) _ _ (rd_L1 ((rd_T40 l0_0 x39_3).f3) x52_4) t204 _ ?side1 A28.out).mono ?_); (case side1 => exact Kd.V_mk HC203_0.out (Kd.F_below (Kd.C_F (Kd.heap_int .i64) HR203_0.out) (by repeat (first | (with_reducible first | exact HB.out | apply below_alloc | apply pw_below_drewN | apply below_drew1 | refine below_set ?_ GE192.out | refine below_set ?_ GE197.out) | exact HB.out)))); rintro e w29 ⟨v205, rfl, ho0, hb⟩; have n0_ := Aside0.mk (Kd.R_below (by (with_reducible repeat (first | apply Kd.R_alloc | apply Kd.R_drewN | apply Kd.R_drew)); exact HO_4.out) hb); have n1_ := Aside0.mk (Kd.R_below (by (with_reducible repeat (first | apply Kd.R_alloc | apply Kd.R_drewN | apply Kd.R_drew)); exact HO_5.out) hb); have n2_ := Aside0.mk (Kd.V_lower (Kd.V_mono (ok' := fun k_ => some k_ ≠ (.slice (some ad198) x4_3.length co24 : Value).ownBlock ∧ some k_ ≠ (u5 : Value).ownBlock ∧ k_ ≠ gb192 ∧ k_ ≠ gb197) ho0 (fun k_ hk_ => ⟨Or.elim hk_ (fun hs_ => fun e_ => Nat.not_le.2 hs_ (Kd.R_base HO_4.out k_ e_.symm)) (fun hn_ => (Kd.fresh' (Kd.R_lt (by (with_reducible repeat (first | apply Kd.R_alloc | apply Kd.R_drewN | apply Kd.R_drew)); exact HO_4.out)) k_ hn_)), Or.elim hk_ (fun hs_ => fun e_ => Nat.not_le.2 hs_ (Kd.R_base HO_5.out k_ e_.symm)) (fun hn_ => (Kd.fresh' (Kd.R_lt (by (with_reducible repeat (first | apply Kd.R_alloc | apply Kd.R_drewN | apply Kd.R_drew)); exact HO_5.out)) k_ hn_)), Or.elim hk_ (fun hs_ => fun e_ => Nat.not_le.2 hs_ (by rw [e_]; exact GW192.out)) (fun hn_ => (Kd.freshB (g := gb192) (o := .cells #[.slice (some ad196) l0_0.length c0_0, .int .i64 a0_1] 24 (0, 0)) (by (with_reducible repeat (first | refine blk_drewN ?_ _ | refine blk_drew ?_ | refine blk_alloc ?_ _)); exact BK192.out) k_ hn_)), Or.elim hk_ (fun hs_ => fun e_ => Nat.not_le.2 hs_ (by rw [e_]; exact GW197.out)) (fun hn_ => (Kd.freshB (g := gb197) (o := .cells #[.int .i64 ((rd_T40 l0_0 x39_3).f0), .int .i64 ((rd_T40 l0_0 x39_3).f1), .int .i64 ((rd_T40 l0_0 x39_3).f2), .slice (some ad203) ((rd_T40 l0_0 x39_3).f3).length c196_3] 40 (0, 0)) (by (with_reducible repeat (first | refine blk_drewN ?_ _ | refine blk_drew ?_ | refine blk_alloc ?_ _)); exact BK197.out) k_ hn_))⟩)) (below_size (by repeat (first | (with_reducible first | exact HB.out | apply below_alloc | apply pw_below_drewN | apply below_drew1 | refine below_set ?_ GE192.out | refine below_set ?_ GE197.out) | exact HB.out)))); have n3_ := Aside0.mk (blk_below (g := gb192) (o := .cells #[.slice (some ad196) l0_0.length c0_0, .int .i64 a0_1] 24 (0, 0)) (by (with_reducible repeat (first | refine blk_drewN ?_ _ | refine blk_drew ?_ | refine blk_alloc ?_ _)); exact BK192.out) hb); have n4_ := Aside0.mk (blk_below (g := gb197) (o := .cells #[.int .i64 ((rd_T40 l0_0 x39_3).f0), .int .i64 ((rd_T40 l0_0 x39_3).f1), .int .i64 ((rd_T40 l0_0 x39_3).f2), .slice (some ad203) ((rd_T40 l0_0 x39_3).f3).length c196_3] 40 (0, 0)) (by (with_reducible repeat (first | refine blk_drewN ?_ _ | refine blk_drew ?_ | refine blk_alloc ?_ _)); exact BK197.out) hb); have n5_ := Aside0.mk (below_step (by repeat (first | (with_reducible first | exact HB.out | apply below_alloc | apply pw_below_drewN | apply below_drew1 | refine below_set ?_ GE192.out | refine below_set ?_ GE197.out) | exact HB.out)) hb); clear HO_4; clear HO_5; clear BK192; clear BK197; clear HB; have HO_4 := n0_; have HO_5 := n1_; have HO206 := n2_; have BK192 := n3_; have BK197 := n4_; have HB := n5_; clear n0_ n1_ n2_ n3_ n4_ n5_; (try clear hb); (try clear hb2); (try clear hk); (try clear hi); (try clear ho0); obtain ⟨Ao30, co30, eo30⟩ := Kd.V_slice HO206.out; subst eo30)))
                                        go_loopg [9, 59] k4 (fun kq v9 v59 w' => ∃ (x9_5 : Bool) (x59_5 : Int), v9 = .bool x9_5 ∧ v59 = .int .i64 x59_5 ∧ Aside0 (coppicerref_Sound.l3 kq x4_3 x5_3 x6_3 x39_3 x9_5 l0_0 (l0_0.length : Int) x39_3 ((rd_T40 l0_0 x39_3).f3) (((rd_T40 l0_0 x39_3).f3).length : Int) x52_4 t204 (t204.length : Int) x59_5 l0_0 a0_1 = some (r1, r2)) ∧ Aside0 (kq ≤ k4) ∧ Aside0 (Kd.R Kd.bool 4 w' w.heap.size (fun _ => True) (.slice (some ad198) x4_3.length co24) x4_3) ∧ Aside0 (Kd.R (Kd.int .i64) 3 w' w.heap.size (fun _ => True) u5 x5_3) ∧ Aside0 (Kd.V (Kd.int .i64) 3 w' w.heap.size (fun k_ => some k_ ≠ ((.slice (some ad198) x4_3.length co24) : Value).ownBlock ∧ some k_ ≠ (u5 : Value).ownBlock ∧ k_ ≠ gb192 ∧ k_ ≠ gb197) (.slice Ao30 t204.length co30) t204) ∧ Aside0 (w'.heap[gb192]? = some (.cells #[(.slice (some ad196) l0_0.length c0_0), .int .i64 a0_1] 24 (0, 0))) ∧ Aside0 (w'.heap[gb197]? = some (.cells #[.int .i64 ((rd_T40 l0_0 x39_3).f0), .int .i64 ((rd_T40 l0_0 x39_3).f1), .int .i64 ((rd_T40 l0_0 x39_3).f2), (.slice (some ad203) ((rd_T40 l0_0 x39_3).f3).length c196_3)] 40 (0, 0))) ∧ Aside0 (Below w.heap.size w w'))
                                        case atStart => exact ⟨(x9_4), (0), (by first | rfl | (simp; done) | (simp [*]; done)), (by first | rfl | (simp; done) | (simp [*]; done)), H', ⟨Nat.le_refl _⟩, ⟨by (with_reducible repeat (first | apply Kd.R_alloc | apply Kd.R_drewN | apply Kd.R_drew)); exact HO_4.out⟩, ⟨by (with_reducible repeat (first | apply Kd.R_alloc | apply Kd.R_drewN | apply Kd.R_drew)); exact HO_5.out⟩, ⟨by (with_reducible repeat (first | apply Kd.V_alloc | apply Kd.V_drewN | apply Kd.V_drew)); exact HO206.out⟩, ⟨by (with_reducible repeat (first | refine blk_drewN ?_ _ | refine blk_drew ?_ | refine blk_alloc ?_ _)); exact BK192.out⟩, ⟨by (with_reducible repeat (first | refine blk_drewN ?_ _ | refine blk_drew ?_ | refine blk_alloc ?_ _)); exact BK197.out⟩, ⟨by repeat (first | (with_reducible first | exact HB.out | apply below_alloc | apply pw_below_drewN | apply below_drew1 | refine below_set ?_ GE192.out | refine below_set ?_ GE197.out) | exact HB.out)⟩⟩
                                        case round =>
                                          clear H'
                                          try clear c1
                                          try clear p1
                                          try clear q1
                                          try clear hx1
                                          try clear c2
                                          try clear p2
                                          try clear q2
                                          try clear hx2
                                          try clear c4
                                          try clear c4b0
                                          try clear c4b1
                                          try clear c6
                                          try clear c6b0
                                          try clear c9
                                          try clear c10
                                          try clear c10b0
                                          try clear c10b1
                                          try clear c11
                                          try clear c11b0
                                          try clear c11b1
                                          try clear c15
                                          try clear c17
                                          try clear c17b0
                                          try clear c18
                                          try clear c18b0
                                          try clear c19
                                          try clear c19b0
                                          try clear p19
                                          try clear q19
                                          try clear hx19
                                          try clear c20
                                          try clear c20b0
                                          try clear p20
                                          try clear q20
                                          try clear hx20
                                          try clear c22
                                          try clear c25
                                          try clear c25b0
                                          try clear c26
                                          try clear c26b0
                                          try clear c27
                                          try clear c27b0
                                          try clear hcz12_0
                                          try clear hcz12_1
                                          try clear hcz16_0
                                          try clear hcz16_1
                                          try clear hcz23_0
                                          try clear hcz23_1
                                          try clear hcz23_2
                                          try clear hcz23_3
                                          try clear hcz5_0
                                          try clear hcz5_1
                                          try clear hcz7_0
                                          try clear hcz7_1
                                          try clear hcz8_0
                                          try clear hcz8_1
                                          try clear hfz12_0
                                          try clear hfz12_1
                                          try clear hfz16_0
                                          try clear hfz16_1
                                          try clear hfz23_0
                                          try clear hfz23_1
                                          try clear hfz23_2
                                          try clear hfz23_3
                                          try clear hfz5_0
                                          try clear hfz5_1
                                          try clear hfz7_0
                                          try clear hfz7_1
                                          try clear hfz8_0
                                          try clear hfz8_1
                                          try clear hx196_0
                                          try clear hx196_1
                                          try clear hx196_2
                                          try clear hx196_3
                                          try clear hx198_0
                                          try clear hx203_0
                                          try clear p1
                                          try clear p19
                                          try clear p196
                                          try clear p198
                                          try clear p2
                                          try clear p203
                                          try clear q1
                                          try clear q19
                                          try clear q196
                                          try clear q198
                                          try clear q203
                                          obtain ⟨x9_5, x59_5, rfl, rfl, HA, HK5, HO_4, HO_5, HO_57, BK192, BK197, HB⟩ := hrel
                                          cases gk with
                                          | zero => exact absurd HA.out (by simp [coppicerref_Sound.l3])
                                          | succ k5 =>
                                            have H := HA.out
                                            clear HA
                                            simp only [coppicerref_Sound.l3] at H
                                            by_cases c31 : x59_5 < (t204.length : Int)
                                            · rw [if_pos c31] at H
                                              have c31b0 : decide (x59_5 < (t204.length : Int)) = true := decide_eq_true c31
                                              clear c31
                                              by_cases c32 : 0 ≤ x59_5
                                              · rw [if_pos c32] at H
                                                have c32b0 : decide (0 ≤ x59_5) = true := decide_eq_true c32
                                                clear c32
                                                by_cases c33 : x59_5 < (t204.length : Int)
                                                · rw [if_pos c33] at H
                                                  have c33b0 : decide (x59_5 < (t204.length : Int)) = true := decide_eq_true c33
                                                  clear c33
                                                  by_cases c34 : x9_5 = true
                                                  · subst c34
                                                    have H1 : (if (rd t204 x59_5) ≥ 0 then (if (rd t204 x59_5) < (l0_0.length : Int) then (if 0 ≤ (rd t204 x59_5) then (if (rd t204 x59_5) < (x4_3.length : Int) then (coppicerref_Sound.l3 k5 x4_3 x5_3 x6_3 x39_3 (rdOf false x4_3 (rd t204 x59_5)) l0_0 (l0_0.length : Int) x39_3 ((rd_T40 l0_0 x39_3).f3) (((rd_T40 l0_0 x39_3).f3).length : Int) x52_4 t204 (t204.length : Int) (wrap64 (x59_5 + 1)) l0_0 a0_1) else (none)) else (none)) else (coppicerref_Sound.l3 k5 x4_3 x5_3 x6_3 x39_3 false l0_0 (l0_0.length : Int) x39_3 ((rd_T40 l0_0 x39_3).f3) (((rd_T40 l0_0 x39_3).f3).length : Int) x52_4 t204 (t204.length : Int) (wrap64 (x59_5 + 1)) l0_0 a0_1)) else (coppicerref_Sound.l3 k5 x4_3 x5_3 x6_3 x39_3 false l0_0 (l0_0.length : Int) x39_3 ((rd_T40 l0_0 x39_3).f3) (((rd_T40 l0_0 x39_3).f3).length : Int) x52_4 t204 (t204.length : Int) (wrap64 (x59_5 + 1)) l0_0 a0_1)) = some (r1, r2) := by rw [if_pos rfl] at H; exact H
                                                    clear H
                                                    have H := H1
                                                    clear H1
                                                    by_cases c35 : (rd t204 x59_5) ≥ 0
                                                    · rw [if_pos c35] at H
                                                      have c35b0 : decide (0 ≤ (rd t204 x59_5)) = true := decide_eq_true c35
                                                      clear c35
                                                      by_cases c36 : (rd t204 x59_5) < (l0_0.length : Int)
                                                      · rw [if_pos c36] at H
                                                        have c36b0 : decide ((rd t204 x59_5) < (l0_0.length : Int)) = true := decide_eq_true c36
                                                        clear c36
                                                        by_cases c37 : 0 ≤ (rd t204 x59_5)
                                                        · rw [if_pos c37] at H
                                                          have c37b0 : decide (0 ≤ (rd t204 x59_5)) = true := decide_eq_true c37
                                                          clear c37
                                                          by_cases c38 : (rd t204 x59_5) < (x4_3.length : Int)
                                                          · rw [if_pos c38] at H
                                                            have c38b0 : decide ((rd t204 x59_5) < (x4_3.length : Int)) = true := decide_eq_true c38
                                                            clear c38
                                                            have H' := Aside0.mk H
                                                            clear H
                                                            have p207 : 0 ≤ (x59_5 : Int) := of_decide_eq_true (by first | (with_reducible assumption) | assumption)
                                                            have q207 : x59_5 < (t204.length : Int) := of_decide_eq_true (by first | (with_reducible assumption) | assumption)
                                                            obtain ⟨ad207, e207, hx207_0⟩ := Kd.at_int (Kd.V_reads' HO_57.out).2.2 x59_5 p207 q207
                                                            cases e207
                                                            replace p207 := eq_true p207
                                                            replace q207 := eq_true q207
                                                            have hnb39 := NB192_197.out
                                                            have hnc39 := NB197_192.out
                                                            have hcz40_0 : wr.cell? ⟨gb192, 0, none⟩ = some (.slice (some ad196) l0_0.length c0_0) := (blk_cell BK192.out 0).trans rfl
                                                            have hcz40_1 : wr.cell? ⟨gb192, 1, none⟩ = some (.int .i64 a0_1) := (blk_cell BK192.out 1).trans rfl
                                                            have hfz40_0 := blk_frozen BK192.out 0
                                                            have hfz40_1 := blk_frozen BK192.out 1
                                                            have p208 : 0 ≤ ((rd t204 x59_5) : Int) := of_decide_eq_true (by first | (with_reducible assumption) | assumption)
                                                            have q208 : (rd t204 x59_5) < (x4_3.length : Int) := of_decide_eq_true (by first | (with_reducible assumption) | assumption)
                                                            obtain ⟨ad208, e208, hx208_0⟩ := Kd.at_bool (Kd.R_reads' HO_4.out).2.2 (rd t204 x59_5) p208 q208
                                                            obtain rfl : ad198 = ad208 := (by injection e208)
                                                            replace p208 := eq_true p208
                                                            replace q208 := eq_true q208
                                                            go_wp2
                                                            repeat (go_quiet (fail); try go_wp2)
                                                            go_roundg k5
                                                            case measure => have := HJ1.out; have := HK2.out; have := HK3.out; have := HK4.out; have := HK5.out; omega
                                                            case rel => exact ⟨(rdOf false x4_3 (rd t204 x59_5)), (wrap64 (x59_5 + 1)), (by first | rfl | (simp; done) | (simp [*]; done)), (by first | rfl | (simp; done) | (simp [*]; done)), H', ⟨by have := HJ1.out; have := HK2.out; have := HK3.out; have := HK4.out; have := HK5.out; omega⟩, ⟨by (with_reducible repeat (first | apply Kd.R_alloc | apply Kd.R_drewN | apply Kd.R_drew)); exact HO_4.out⟩, ⟨by (with_reducible repeat (first | apply Kd.R_alloc | apply Kd.R_drewN | apply Kd.R_drew)); exact HO_5.out⟩, ⟨by (with_reducible repeat (first | apply Kd.V_alloc | apply Kd.V_drewN | apply Kd.V_drew)); exact HO_57.out⟩, ⟨by (with_reducible repeat (first | refine blk_drewN ?_ _ | refine blk_drew ?_ | refine blk_alloc ?_ _)); exact BK192.out⟩, ⟨by (with_reducible repeat (first | refine blk_drewN ?_ _ | refine blk_drew ?_ | refine blk_alloc ?_ _)); exact BK197.out⟩, ⟨by repeat (first | (with_reducible first | exact HB.out | apply below_alloc | apply pw_below_drewN | apply below_drew1 | refine below_set ?_ GE192.out | refine below_set ?_ GE197.out) | exact HB.out)⟩⟩
                                                          · rw [if_neg c38] at H
                                                            exact absurd H (by simp)
                                                        · rw [if_neg c37] at H
                                                          exact absurd H (by simp)
                                                      · rw [if_neg c36] at H
                                                        have c36b0 : decide ((rd t204 x59_5) < (l0_0.length : Int)) = false := decide_eq_false c36
                                                        clear c36
                                                        have H' := Aside0.mk H
                                                        clear H
                                                        have p207 : 0 ≤ (x59_5 : Int) := of_decide_eq_true (by first | (with_reducible assumption) | assumption)
                                                        have q207 : x59_5 < (t204.length : Int) := of_decide_eq_true (by first | (with_reducible assumption) | assumption)
                                                        obtain ⟨ad207, e207, hx207_0⟩ := Kd.at_int (Kd.V_reads' HO_57.out).2.2 x59_5 p207 q207
                                                        cases e207
                                                        replace p207 := eq_true p207
                                                        replace q207 := eq_true q207
                                                        have hnb41 := NB192_197.out
                                                        have hnc41 := NB197_192.out
                                                        have hcz42_0 : wr.cell? ⟨gb192, 0, none⟩ = some (.slice (some ad196) l0_0.length c0_0) := (blk_cell BK192.out 0).trans rfl
                                                        have hcz42_1 : wr.cell? ⟨gb192, 1, none⟩ = some (.int .i64 a0_1) := (blk_cell BK192.out 1).trans rfl
                                                        have hfz42_0 := blk_frozen BK192.out 0
                                                        have hfz42_1 := blk_frozen BK192.out 1
                                                        go_wp2
                                                        repeat (go_quiet (fail); try go_wp2)
                                                        go_roundg k5
                                                        case measure => have := HJ1.out; have := HK2.out; have := HK3.out; have := HK4.out; have := HK5.out; omega
                                                        case rel => exact ⟨(false), (wrap64 (x59_5 + 1)), (by first | rfl | (simp; done) | (simp [*]; done)), (by first | rfl | (simp; done) | (simp [*]; done)), H', ⟨by have := HJ1.out; have := HK2.out; have := HK3.out; have := HK4.out; have := HK5.out; omega⟩, ⟨by (with_reducible repeat (first | apply Kd.R_alloc | apply Kd.R_drewN | apply Kd.R_drew)); exact HO_4.out⟩, ⟨by (with_reducible repeat (first | apply Kd.R_alloc | apply Kd.R_drewN | apply Kd.R_drew)); exact HO_5.out⟩, ⟨by (with_reducible repeat (first | apply Kd.V_alloc | apply Kd.V_drewN | apply Kd.V_drew)); exact HO_57.out⟩, ⟨by (with_reducible repeat (first | refine blk_drewN ?_ _ | refine blk_drew ?_ | refine blk_alloc ?_ _)); exact BK192.out⟩, ⟨by (with_reducible repeat (first | refine blk_drewN ?_ _ | refine blk_drew ?_ | refine blk_alloc ?_ _)); exact BK197.out⟩, ⟨by repeat (first | (with_reducible first | exact HB.out | apply below_alloc | apply pw_below_drewN | apply below_drew1 | refine below_set ?_ GE192.out | refine below_set ?_ GE197.out) | exact HB.out)⟩⟩
                                                    · rw [if_neg c35] at H
                                                      have c35b0 : decide (0 ≤ (rd t204 x59_5)) = false := decide_eq_false c35
                                                      clear c35
                                                      have H' := Aside0.mk H
                                                      clear H
                                                      have p207 : 0 ≤ (x59_5 : Int) := of_decide_eq_true (by first | (with_reducible assumption) | assumption)
                                                      have q207 : x59_5 < (t204.length : Int) := of_decide_eq_true (by first | (with_reducible assumption) | assumption)
                                                      obtain ⟨ad207, e207, hx207_0⟩ := Kd.at_int (Kd.V_reads' HO_57.out).2.2 x59_5 p207 q207
                                                      cases e207
                                                      replace p207 := eq_true p207
                                                      replace q207 := eq_true q207
                                                      go_wp2
                                                      repeat (go_quiet (fail); try go_wp2)
                                                      go_roundg k5
                                                      case measure => have := HJ1.out; have := HK2.out; have := HK3.out; have := HK4.out; have := HK5.out; omega
                                                      case rel => exact ⟨(false), (wrap64 (x59_5 + 1)), (by first | rfl | (simp; done) | (simp [*]; done)), (by first | rfl | (simp; done) | (simp [*]; done)), H', ⟨by have := HJ1.out; have := HK2.out; have := HK3.out; have := HK4.out; have := HK5.out; omega⟩, ⟨by (with_reducible repeat (first | apply Kd.R_alloc | apply Kd.R_drewN | apply Kd.R_drew)); exact HO_4.out⟩, ⟨by (with_reducible repeat (first | apply Kd.R_alloc | apply Kd.R_drewN | apply Kd.R_drew)); exact HO_5.out⟩, ⟨by (with_reducible repeat (first | apply Kd.V_alloc | apply Kd.V_drewN | apply Kd.V_drew)); exact HO_57.out⟩, ⟨by (with_reducible repeat (first | refine blk_drewN ?_ _ | refine blk_drew ?_ | refine blk_alloc ?_ _)); exact BK192.out⟩, ⟨by (with_reducible repeat (first | refine blk_drewN ?_ _ | refine blk_drew ?_ | refine blk_alloc ?_ _)); exact BK197.out⟩, ⟨by repeat (first | (with_reducible first | exact HB.out | apply below_alloc | apply pw_below_drewN | apply below_drew1 | refine below_set ?_ GE192.out | refine below_set ?_ GE197.out) | exact HB.out)⟩⟩
                                                  · replace c34 := Bool.eq_false_iff.mpr c34
                                                    subst c34
                                                    have H1 : (coppicerref_Sound.l3 k5 x4_3 x5_3 x6_3 x39_3 false l0_0 (l0_0.length : Int) x39_3 ((rd_T40 l0_0 x39_3).f3) (((rd_T40 l0_0 x39_3).f3).length : Int) x52_4 t204 (t204.length : Int) (wrap64 (x59_5 + 1)) l0_0 a0_1) = some (r1, r2) := by rw [if_neg (show ¬ (false = true) by decide)] at H; exact H
                                                    clear H
                                                    have H := H1
                                                    clear H1
                                                    have H' := Aside0.mk H
                                                    clear H
                                                    have p207 : 0 ≤ (x59_5 : Int) := of_decide_eq_true (by first | (with_reducible assumption) | assumption)
                                                    have q207 : x59_5 < (t204.length : Int) := of_decide_eq_true (by first | (with_reducible assumption) | assumption)
                                                    obtain ⟨ad207, e207, hx207_0⟩ := Kd.at_int (Kd.V_reads' HO_57.out).2.2 x59_5 p207 q207
                                                    cases e207
                                                    replace p207 := eq_true p207
                                                    replace q207 := eq_true q207
                                                    go_wp2
                                                    repeat (go_quiet (fail); try go_wp2)
                                                    go_roundg k5
                                                    case measure => have := HJ1.out; have := HK2.out; have := HK3.out; have := HK4.out; have := HK5.out; omega
                                                    case rel => exact ⟨(false), (wrap64 (x59_5 + 1)), (by first | rfl | (simp; done) | (simp [*]; done)), (by first | rfl | (simp; done) | (simp [*]; done)), H', ⟨by have := HJ1.out; have := HK2.out; have := HK3.out; have := HK4.out; have := HK5.out; omega⟩, ⟨by (with_reducible repeat (first | apply Kd.R_alloc | apply Kd.R_drewN | apply Kd.R_drew)); exact HO_4.out⟩, ⟨by (with_reducible repeat (first | apply Kd.R_alloc | apply Kd.R_drewN | apply Kd.R_drew)); exact HO_5.out⟩, ⟨by (with_reducible repeat (first | apply Kd.V_alloc | apply Kd.V_drewN | apply Kd.V_drew)); exact HO_57.out⟩, ⟨by (with_reducible repeat (first | refine blk_drewN ?_ _ | refine blk_drew ?_ | refine blk_alloc ?_ _)); exact BK192.out⟩, ⟨by (with_reducible repeat (first | refine blk_drewN ?_ _ | refine blk_drew ?_ | refine blk_alloc ?_ _)); exact BK197.out⟩, ⟨by repeat (first | (with_reducible first | exact HB.out | apply below_alloc | apply pw_below_drewN | apply below_drew1 | refine below_set ?_ GE192.out | refine below_set ?_ GE197.out) | exact HB.out)⟩⟩
                                                · rw [if_neg c33] at H
                                                  exact absurd H (by simp)
                                              · rw [if_neg c32] at H
                                                exact absurd H (by simp)
                                            · rw [if_neg c31] at H
                                              have c31b0 : decide (x59_5 < (t204.length : Int)) = false := decide_eq_false c31
                                              clear c31
                                              have H' := Aside0.mk H
                                              clear H
                                              go_wp2
                                              repeat (go_quiet (fail); try go_wp2)
                                              go_roundg k5
                                              case measure => have := HJ1.out; have := HK2.out; have := HK3.out; have := HK4.out; have := HK5.out; omega
                                              case rel => exact ⟨(x9_5), (wrap64 (x52_4 + 1)), (by first | rfl | (simp; done) | (simp [*]; done)), (by first | rfl | (simp; done) | (simp [*]; done)), H', ⟨by have := HJ1.out; have := HK2.out; have := HK3.out; have := HK4.out; have := HK5.out; omega⟩, ⟨by (with_reducible repeat (first | apply Kd.R_alloc | apply Kd.R_drewN | apply Kd.R_drew)); exact HO_4.out⟩, ⟨by (with_reducible repeat (first | apply Kd.R_alloc | apply Kd.R_drewN | apply Kd.R_drew)); exact HO_5.out⟩, ⟨by (with_reducible repeat (first | refine blk_drewN ?_ _ | refine blk_drew ?_ | refine blk_alloc ?_ _)); exact BK192.out⟩, ⟨by (with_reducible repeat (first | refine blk_drewN ?_ _ | refine blk_drew ?_ | refine blk_alloc ?_ _)); exact BK197.out⟩, ⟨by repeat (first | (with_reducible first | exact HB.out | apply below_alloc | apply pw_below_drewN | apply below_drew1 | refine below_set ?_ GE192.out | refine below_set ?_ GE197.out) | exact HB.out)⟩⟩
                                      · rw [if_neg c27] at H
                                        exact absurd H (by simp)
                                    · rw [if_neg c26] at H
                                      exact absurd H (by simp)
                                  · rw [if_neg c25] at H
                                    have c25b0 : decide (x52_4 < (((rd_T40 l0_0 x39_3).f3).length : Int)) = false := decide_eq_false c25
                                    clear c25
                                    by_cases c43 : x9_4 = true
                                    · subst c43
                                      have H1 : (if 0 ≤ x39_3 then (if x39_3 < (x4_3.length : Int) then (if x5_3.length < 17592186044416 then (coppicerref_Sound.l1 k4 (x4_3.set (x39_3 : Int).toNat true) (x5_3 ++ [x39_3]) true l0_0 (l0_0.length : Int) (wrap64 (x39_3 + 1)) l0_0 a0_1) else (none)) else (none)) else (none)) = some (r1, r2) := by rw [if_pos rfl] at H; exact H
                                      clear H
                                      have H := H1
                                      clear H1
                                      by_cases c44 : 0 ≤ x39_3
                                      · rw [if_pos c44] at H
                                        have c44b0 : decide (0 ≤ x39_3) = true := decide_eq_true c44
                                        clear c44
                                        by_cases c45 : x39_3 < (x4_3.length : Int)
                                        · rw [if_pos c45] at H
                                          have c45b0 : decide (x39_3 < (x4_3.length : Int)) = true := decide_eq_true c45
                                          clear c45
                                          obtain ⟨y199, hy199⟩ : ∃ y_ : List Bool, y_ = (x4_3.set (x39_3 : Int).toNat true) := ⟨_, rfl⟩
                                          replace H : (if x5_3.length < 17592186044416 then (coppicerref_Sound.l1 k4 y199 (x5_3 ++ [x39_3]) true l0_0 (l0_0.length : Int) (wrap64 (x39_3 + 1)) l0_0 a0_1) else (none)) = some (r1, r2) := by first | (rw [hy199]; with_reducible exact H) | (have H2_ := (Option.bind_some _ _).symm.trans H; rw [hy199]; with_reducible exact H2_) | (have H2_ := (Option.bind_some _ _).symm.trans H; with_reducible exact H2_) | with_reducible exact H | (rw [hy199]; exact H) | exact H
                                          have Ny199 := Aside0.mk hy199
                                          clear hy199
                                          by_cases c47 : x5_3.length < 17592186044416
                                          · rw [if_pos c47] at H
                                            have LMc47 := Aside0.mk c47
                                            clear c47
                                            obtain ⟨y200, hy200⟩ : ∃ y_ : List Int, y_ = (x5_3 ++ [x39_3]) := ⟨_, rfl⟩
                                            replace H : (coppicerref_Sound.l1 k4 y199 y200 true l0_0 (l0_0.length : Int) (wrap64 (x39_3 + 1)) l0_0 a0_1) = some (r1, r2) := by first | (rw [hy200]; with_reducible exact H) | (have H2_ := (Option.bind_some _ _).symm.trans H; rw [hy200]; with_reducible exact H2_) | (have H2_ := (Option.bind_some _ _).symm.trans H; with_reducible exact H2_) | with_reducible exact H | (rw [hy200]; exact H) | exact H
                                            have Ny200 := Aside0.mk hy200
                                            clear hy200
                                            have H' := Aside0.mk H
                                            clear H
                                            have p46 : 0 ≤ (x39_3 : Int) := of_decide_eq_true (by first | (with_reducible assumption) | assumption)
                                            have q46 : (x39_3 : Int) < ((x4_3.length : Int) : Int) := of_decide_eq_true (by first | (with_reducible assumption) | assumption)
                                            obtain ⟨go46, co46, eo46, gb46, gl46, cl46, HG46⟩ := Kd.R_form HO_4.out (by omega)
                                            (first | cases eo46 | (injection eo46 with ea_ en_ ec_; (first | subst ea_ | (injection ea_ with ea_; subst ea_)); subst ec_; clear en_))
                                            have GB46 := Aside0.mk gb46
                                            have GG46 := Aside0.mk HG46
                                            clear gb46 gl46 HG46
                                            (first | simp only [add_plain] at hx198_0 | skip)
                                            (first | simp only [add_plain] at hx208_0 | skip)
                                            obtain ⟨hx46_0, hf46_0⟩ := Kd.R_celln false HO_4.out (x39_3 : Int) p46 q46
                                            replace p46 := eq_true p46
                                            replace q46 := eq_true q46
                                            obtain ⟨hy48_, hz48_⟩ := Kd.R_celln false HO_4.out (x39_3 : Int) (of_decide_eq_true (by first | (with_reducible assumption) | assumption)) (of_decide_eq_true (by first | (with_reducible assumption) | assumption))
                                            have HP48 := Kd.R_putg HO_4.out (x39_3 : Int) true
                                            go_wp2_with (first | ((with_reducible refine gate_store (t := 4) (p := 86) rfl ?_); (try (rw [drewN_self wr]; generalize hq_ : World.drewN wr _ = wr; (try (have nx_ := Aside0.mk (Kd.R_at hq_ HO_4.out); clear HO_4; have HO_4 := nx_; clear nx_)); (try (have nx_ := Aside0.mk (Kd.R_at hq_ HO_5.out); clear HO_5; have HO_5 := nx_; clear nx_)); (try (have nx_ := Aside0.mk (blk_at hq_ BK192.out); clear BK192; have BK192 := nx_; clear nx_)); (try (have nx_ := Aside0.mk (blk_at hq_ BK197.out); clear BK197; have BK197 := nx_; clear nx_)); (try (have nx_ := Aside0.mk (below_at hq_ HB.out); clear HB; have HB := nx_; clear nx_)); (try clear hq_); (try (obtain ⟨hy48_, hz48_⟩ := Kd.R_celln false HO_4.out (x39_3 : Int) (of_decide_eq_true (by first | (with_reducible assumption) | assumption)) (of_decide_eq_true (by first | (with_reducible assumption) | assumption)))); (try (have HP48 := Kd.R_putg HO_4.out (x39_3 : Int) true)))); refine store_event (t := 4) (p := 86) (v := ?vo_w49) (w1 := (wr.setCell ⟨go46, (x39_3 : Int).toNat, none⟩ (.bool true))) ?hg ?ho ?hn ?hr ?_; (case ho => rfl); (case hg => rfl); (case hn => rfl); (case hr => first | (go_simp; done) | (go_simp; rfl)); intro w49 hw; have hg : wr.grownBy w49 (some go46) := (by rw [hw]; exact HP48.2); have hp_ : Kd.R Kd.bool 4 w49 w.heap.size (fun _ => True) (.slice (some ⟨go46, 0, none⟩) x4_3.length co24) y199 := (by rw [hw, Ny199.out]; exact HP48.1); clear HP48; have n0_ := Aside0.mk (hp_); have n1_ := Aside0.mk (Kd.R_over' (v := (.slice (some ⟨go46, 0, none⟩) x4_3.length co24)) (by (with_reducible repeat (first | apply Kd.R_alloc | apply Kd.R_drewN | apply Kd.R_drew)); exact HO_5.out) (Kd.R_typed HO_4.out) (by decide) hg); have n2_ := Aside0.mk (blk_grown (g := gb192) (o := .cells #[.slice (some ad196) l0_0.length c0_0, .int .i64 a0_1] 24 (0, 0)) (by (with_reducible repeat (first | refine blk_drewN ?_ _ | refine blk_drew ?_ | refine blk_alloc ?_ _)); exact BK192.out) hg (Kd.R_ne HO_4.out BK192.out (by decide))); have n3_ := Aside0.mk (blk_grown (g := gb197) (o := .cells #[.int .i64 ((rd_T40 l0_0 x39_3).f0), .int .i64 ((rd_T40 l0_0 x39_3).f1), .int .i64 ((rd_T40 l0_0 x39_3).f2), .slice A196_3 ((rd_T40 l0_0 x39_3).f3).length c196_3] 40 (0, 0)) (by (with_reducible repeat (first | refine blk_drewN ?_ _ | refine blk_drew ?_ | refine blk_alloc ?_ _)); exact BK197.out) hg (Kd.R_ne HO_4.out BK197.out (by decide))); have n4_ := Aside0.mk ((by rw [hw]; exact below_set (HB.out) GB46.out : Below w.heap.size w w49)); clear HO_4; clear HO_5; clear BK192; clear BK197; clear HB; have HO_4 := n0_; have HO_5 := n1_; have BK192 := n2_; have BK197 := n3_; have HB := n4_; clear n0_ n1_ n2_ n3_ n4_; clear hg hw hp_) | ((with_reducible refine gate_builtin (b := .append) (xs := #[.tmp 87, .tmp 89]) rfl ?_); (try (refine gate_guard (by rfl) ?_; dsimp only)); at_builtin; refine Kd.R_append (Kd.int .i64) (w0 := w) w.heap.size rfl (.tmp 87) (.tmp 89) 28 3 (.int .i64 0) 8 rfl Try.underlying28 info3 rfl (by decide) (by omega) u5 x5_3 x39_3 [.int .i64 x39_3] (fun _ => True) (fun _ => False) rfl rfl ?aP (fun _ hk => hk.elim) ?aF ?aO ?aB ?aS ?aL ?_; (case aP => exact rfl); (case aB => exact (by repeat (first | (with_reducible first | exact HB.out | apply below_alloc | apply pw_below_drewN | apply below_drew1 | refine below_set ?_ GE192.out | refine below_set ?_ GE197.out) | exact HB.out))); (case aF => exact (fun _ _ => trivial)); (case aO => exact (by (with_reducible repeat (first | apply Kd.R_alloc | apply Kd.R_drewN | apply Kd.R_drew)); exact HO_5.out)); (case aS => exact (below_size (by repeat (first | (with_reducible first | exact HB.out | apply below_alloc | apply pw_below_drewN | apply below_drew1 | refine below_set ?_ GE192.out | refine below_set ?_ GE197.out) | exact HB.out)))); (case aL => have := LMc47.out; omega); intro v201 w50 ho hb hg hat; rw [← Ny200.out] at ho; have n0_ := Aside0.mk (Kd.R_over' (by (with_reducible repeat (first | apply Kd.R_alloc | apply Kd.R_drewN | apply Kd.R_drew)); exact HO_4.out) (Kd.R_typed (by (with_reducible repeat (first | apply Kd.R_alloc | apply Kd.R_drewN | apply Kd.R_drew)); exact HO_5.out)) (by decide) hg); have n1_ := Aside0.mk (blk_grown (g := gb192) (o := .cells #[.slice (some ad196) l0_0.length c0_0, .int .i64 a0_1] 24 (0, 0)) (by (with_reducible repeat (first | refine blk_drewN ?_ _ | refine blk_drew ?_ | refine blk_alloc ?_ _)); exact BK192.out) hg (Kd.R_ne HO_5.out BK192.out (by decide))); have n2_ := Aside0.mk (blk_grown (g := gb197) (o := .cells #[.int .i64 ((rd_T40 l0_0 x39_3).f0), .int .i64 ((rd_T40 l0_0 x39_3).f1), .int .i64 ((rd_T40 l0_0 x39_3).f2), .slice A196_3 ((rd_T40 l0_0 x39_3).f3).length c196_3] 40 (0, 0)) (by (with_reducible repeat (first | refine blk_drewN ?_ _ | refine blk_drew ?_ | refine blk_alloc ?_ _)); exact BK197.out) hg (Kd.R_ne HO_5.out BK197.out (by decide))); have n3_ := Aside0.mk (hb); have n4_ := Aside0.mk (ho); clear HO_4; clear BK192; clear BK197; clear HB; clear HO_5; have HO_4 := n0_; have BK192 := n1_; have BK197 := n2_; have HB := n3_; have HO202 := n4_; clear n0_ n1_ n2_ n3_ n4_; clear ho hb hg hat))
                                            repeat (go_quiet (first | ((with_reducible refine gate_store (t := 4) (p := 86) rfl ?_); (try (rw [drewN_self wr]; generalize hq_ : World.drewN wr _ = wr; (try (have nx_ := Aside0.mk (Kd.R_at hq_ HO_4.out); clear HO_4; have HO_4 := nx_; clear nx_)); (try (have nx_ := Aside0.mk (Kd.R_at hq_ HO_5.out); clear HO_5; have HO_5 := nx_; clear nx_)); (try (have nx_ := Aside0.mk (blk_at hq_ BK192.out); clear BK192; have BK192 := nx_; clear nx_)); (try (have nx_ := Aside0.mk (blk_at hq_ BK197.out); clear BK197; have BK197 := nx_; clear nx_)); (try (have nx_ := Aside0.mk (below_at hq_ HB.out); clear HB; have HB := nx_; clear nx_)); (try clear hq_); (try (obtain ⟨hy48_, hz48_⟩ := Kd.R_celln false HO_4.out (x39_3 : Int) (of_decide_eq_true (by first | (with_reducible assumption) | assumption)) (of_decide_eq_true (by first | (with_reducible assumption) | assumption)))); (try (have HP48 := Kd.R_putg HO_4.out (x39_3 : Int) true)))); refine store_event (t := 4) (p := 86) (v := ?vo_w49) (w1 := (wr.setCell ⟨go46, (x39_3 : Int).toNat, none⟩ (.bool true))) ?hg ?ho ?hn ?hr ?_; (case ho => rfl); (case hg => rfl); (case hn => rfl); (case hr => first | (go_simp; done) | (go_simp; rfl)); intro w49 hw; have hg : wr.grownBy w49 (some go46) := (by rw [hw]; exact HP48.2); have hp_ : Kd.R Kd.bool 4 w49 w.heap.size (fun _ => True) (.slice (some ⟨go46, 0, none⟩) x4_3.length co24) y199 := (by rw [hw, Ny199.out]; exact HP48.1); clear HP48; have n0_ := Aside0.mk (hp_); have n1_ := Aside0.mk (Kd.R_over' (v := (.slice (some ⟨go46, 0, none⟩) x4_3.length co24)) (by (with_reducible repeat (first | apply Kd.R_alloc | apply Kd.R_drewN | apply Kd.R_drew)); exact HO_5.out) (Kd.R_typed HO_4.out) (by decide) hg); have n2_ := Aside0.mk (blk_grown (g := gb192) (o := .cells #[.slice (some ad196) l0_0.length c0_0, .int .i64 a0_1] 24 (0, 0)) (by (with_reducible repeat (first | refine blk_drewN ?_ _ | refine blk_drew ?_ | refine blk_alloc ?_ _)); exact BK192.out) hg (Kd.R_ne HO_4.out BK192.out (by decide))); have n3_ := Aside0.mk (blk_grown (g := gb197) (o := .cells #[.int .i64 ((rd_T40 l0_0 x39_3).f0), .int .i64 ((rd_T40 l0_0 x39_3).f1), .int .i64 ((rd_T40 l0_0 x39_3).f2), .slice A196_3 ((rd_T40 l0_0 x39_3).f3).length c196_3] 40 (0, 0)) (by (with_reducible repeat (first | refine blk_drewN ?_ _ | refine blk_drew ?_ | refine blk_alloc ?_ _)); exact BK197.out) hg (Kd.R_ne HO_4.out BK197.out (by decide))); have n4_ := Aside0.mk ((by rw [hw]; exact below_set (HB.out) GB46.out : Below w.heap.size w w49)); clear HO_4; clear HO_5; clear BK192; clear BK197; clear HB; have HO_4 := n0_; have HO_5 := n1_; have BK192 := n2_; have BK197 := n3_; have HB := n4_; clear n0_ n1_ n2_ n3_ n4_; clear hg hw hp_) | ((with_reducible refine gate_builtin (b := .append) (xs := #[.tmp 87, .tmp 89]) rfl ?_); (try (refine gate_guard (by rfl) ?_; dsimp only)); at_builtin; refine Kd.R_append (Kd.int .i64) (w0 := w) w.heap.size rfl (.tmp 87) (.tmp 89) 28 3 (.int .i64 0) 8 rfl Try.underlying28 info3 rfl (by decide) (by omega) u5 x5_3 x39_3 [.int .i64 x39_3] (fun _ => True) (fun _ => False) rfl rfl ?aP (fun _ hk => hk.elim) ?aF ?aO ?aB ?aS ?aL ?_; (case aP => exact rfl); (case aB => exact (by repeat (first | (with_reducible first | exact HB.out | apply below_alloc | apply pw_below_drewN | apply below_drew1 | refine below_set ?_ GE192.out | refine below_set ?_ GE197.out) | exact HB.out))); (case aF => exact (fun _ _ => trivial)); (case aO => exact (by (with_reducible repeat (first | apply Kd.R_alloc | apply Kd.R_drewN | apply Kd.R_drew)); exact HO_5.out)); (case aS => exact (below_size (by repeat (first | (with_reducible first | exact HB.out | apply below_alloc | apply pw_below_drewN | apply below_drew1 | refine below_set ?_ GE192.out | refine below_set ?_ GE197.out) | exact HB.out)))); (case aL => have := LMc47.out; omega); intro v201 w50 ho hb hg hat; rw [← Ny200.out] at ho; have n0_ := Aside0.mk (Kd.R_over' (by (with_reducible repeat (first | apply Kd.R_alloc | apply Kd.R_drewN | apply Kd.R_drew)); exact HO_4.out) (Kd.R_typed (by (with_reducible repeat (first | apply Kd.R_alloc | apply Kd.R_drewN | apply Kd.R_drew)); exact HO_5.out)) (by decide) hg); have n1_ := Aside0.mk (blk_grown (g := gb192) (o := .cells #[.slice (some ad196) l0_0.length c0_0, .int .i64 a0_1] 24 (0, 0)) (by (with_reducible repeat (first | refine blk_drewN ?_ _ | refine blk_drew ?_ | refine blk_alloc ?_ _)); exact BK192.out) hg (Kd.R_ne HO_5.out BK192.out (by decide))); have n2_ := Aside0.mk (blk_grown (g := gb197) (o := .cells #[.int .i64 ((rd_T40 l0_0 x39_3).f0), .int .i64 ((rd_T40 l0_0 x39_3).f1), .int .i64 ((rd_T40 l0_0 x39_3).f2), .slice A196_3 ((rd_T40 l0_0 x39_3).f3).length c196_3] 40 (0, 0)) (by (with_reducible repeat (first | refine blk_drewN ?_ _ | refine blk_drew ?_ | refine blk_alloc ?_ _)); exact BK197.out) hg (Kd.R_ne HO_5.out BK197.out (by decide))); have n3_ := Aside0.mk (hb); have n4_ := Aside0.mk (ho); clear HO_4; clear BK192; clear BK197; clear HB; clear HO_5; have HO_4 := n0_; have BK192 := n1_; have BK197 := n2_; have HB := n3_; have HO202 := n4_; clear n0_ n1_ n2_ n3_ n4_; clear ho hb hg hat)); try go_wp2_with (first | ((with_reducible refine gate_store (t := 4) (p := 86) rfl ?_); (try (rw [drewN_self wr]; generalize hq_ : World.drewN wr _ = wr; (try (have nx_ := Aside0.mk (Kd.R_at hq_ HO_4.out); clear HO_4; have HO_4 := nx_; clear nx_)); (try (have nx_ := Aside0.mk (Kd.R_at hq_ HO_5.out); clear HO_5; have HO_5 := nx_; clear nx_)); (try (have nx_ := Aside0.mk (blk_at hq_ BK192.out); clear BK192; have BK192 := nx_; clear nx_)); (try (have nx_ := Aside0.mk (blk_at hq_ BK197.out); clear BK197; have BK197 := nx_; clear nx_)); (try (have nx_ := Aside0.mk (below_at hq_ HB.out); clear HB; have HB := nx_; clear nx_)); (try clear hq_); (try (obtain ⟨hy48_, hz48_⟩ := Kd.R_celln false HO_4.out (x39_3 : Int) (of_decide_eq_true (by first | (with_reducible assumption) | assumption)) (of_decide_eq_true (by first | (with_reducible assumption) | assumption)))); (try (have HP48 := Kd.R_putg HO_4.out (x39_3 : Int) true)))); refine store_event (t := 4) (p := 86) (v := ?vo_w49) (w1 := (wr.setCell ⟨go46, (x39_3 : Int).toNat, none⟩ (.bool true))) ?hg ?ho ?hn ?hr ?_; (case ho => rfl); (case hg => rfl); (case hn => rfl); (case hr => first | (go_simp; done) | (go_simp; rfl)); intro w49 hw; have hg : wr.grownBy w49 (some go46) := (by rw [hw]; exact HP48.2); have hp_ : Kd.R Kd.bool 4 w49 w.heap.size (fun _ => True) (.slice (some ⟨go46, 0, none⟩) x4_3.length co24) y199 := (by rw [hw, Ny199.out]; exact HP48.1); clear HP48; have n0_ := Aside0.mk (hp_); have n1_ := Aside0.mk (Kd.R_over' (v := (.slice (some ⟨go46, 0, none⟩) x4_3.length co24)) (by (with_reducible repeat (first | apply Kd.R_alloc | apply Kd.R_drewN | apply Kd.R_drew)); exact HO_5.out) (Kd.R_typed HO_4.out) (by decide) hg); have n2_ := Aside0.mk (blk_grown (g := gb192) (o := .cells #[.slice (some ad196) l0_0.length c0_0, .int .i64 a0_1] 24 (0, 0)) (by (with_reducible repeat (first | refine blk_drewN ?_ _ | refine blk_drew ?_ | refine blk_alloc ?_ _)); exact BK192.out) hg (Kd.R_ne HO_4.out BK192.out (by decide))); have n3_ := Aside0.mk (blk_grown (g := gb197) (o := .cells #[.int .i64 ((rd_T40 l0_0 x39_3).f0), .int .i64 ((rd_T40 l0_0 x39_3).f1), .int .i64 ((rd_T40 l0_0 x39_3).f2), .slice A196_3 ((rd_T40 l0_0 x39_3).f3).length c196_3] 40 (0, 0)) (by (with_reducible repeat (first | refine blk_drewN ?_ _ | refine blk_drew ?_ | refine blk_alloc ?_ _)); exact BK197.out) hg (Kd.R_ne HO_4.out BK197.out (by decide))); have n4_ := Aside0.mk ((by rw [hw]; exact below_set (HB.out) GB46.out : Below w.heap.size w w49)); clear HO_4; clear HO_5; clear BK192; clear BK197; clear HB; have HO_4 := n0_; have HO_5 := n1_; have BK192 := n2_; have BK197 := n3_; have HB := n4_; clear n0_ n1_ n2_ n3_ n4_; clear hg hw hp_) | ((with_reducible refine gate_builtin (b := .append) (xs := #[.tmp 87, .tmp 89]) rfl ?_); (try (refine gate_guard (by rfl) ?_; dsimp only)); at_builtin; refine Kd.R_append (Kd.int .i64) (w0 := w) w.heap.size rfl (.tmp 87) (.tmp 89) 28 3 (.int .i64 0) 8 rfl Try.underlying28 info3 rfl (by decide) (by omega) u5 x5_3 x39_3 [.int .i64 x39_3] (fun _ => True) (fun _ => False) rfl rfl ?aP (fun _ hk => hk.elim) ?aF ?aO ?aB ?aS ?aL ?_; (case aP => exact rfl); (case aB => exact (by repeat (first | (with_reducible first | exact HB.out | apply below_alloc | apply pw_below_drewN | apply below_drew1 | refine below_set ?_ GE192.out | refine below_set ?_ GE197.out) | exact HB.out))); (case aF => exact (fun _ _ => trivial)); (case aO => exact (by (with_reducible repeat (first | apply Kd.R_alloc | apply Kd.R_drewN | apply Kd.R_drew)); exact HO_5.out)); (case aS => exact (below_size (by repeat (first | (with_reducible first | exact HB.out | apply below_alloc | apply pw_below_drewN | apply below_drew1 | refine below_set ?_ GE192.out | refine below_set ?_ GE197.out) | exact HB.out)))); (case aL => have := LMc47.out; omega); intro v201 w50 ho hb hg hat; rw [← Ny200.out] at ho; have n0_ := Aside0.mk (Kd.R_over' (by (with_reducible repeat (first | apply Kd.R_alloc | apply Kd.R_drewN | apply Kd.R_drew)); exact HO_4.out) (Kd.R_typed (by (with_reducible repeat (first | apply Kd.R_alloc | apply Kd.R_drewN | apply Kd.R_drew)); exact HO_5.out)) (by decide) hg); have n1_ := Aside0.mk (blk_grown (g := gb192) (o := .cells #[.slice (some ad196) l0_0.length c0_0, .int .i64 a0_1] 24 (0, 0)) (by (with_reducible repeat (first | refine blk_drewN ?_ _ | refine blk_drew ?_ | refine blk_alloc ?_ _)); exact BK192.out) hg (Kd.R_ne HO_5.out BK192.out (by decide))); have n2_ := Aside0.mk (blk_grown (g := gb197) (o := .cells #[.int .i64 ((rd_T40 l0_0 x39_3).f0), .int .i64 ((rd_T40 l0_0 x39_3).f1), .int .i64 ((rd_T40 l0_0 x39_3).f2), .slice A196_3 ((rd_T40 l0_0 x39_3).f3).length c196_3] 40 (0, 0)) (by (with_reducible repeat (first | refine blk_drewN ?_ _ | refine blk_drew ?_ | refine blk_alloc ?_ _)); exact BK197.out) hg (Kd.R_ne HO_5.out BK197.out (by decide))); have n3_ := Aside0.mk (hb); have n4_ := Aside0.mk (ho); clear HO_4; clear BK192; clear BK197; clear HB; clear HO_5; have HO_4 := n0_; have BK192 := n1_; have BK197 := n2_; have HB := n3_; have HO202 := n4_; clear n0_ n1_ n2_ n3_ n4_; clear ho hb hg hat)))
                                            go_roundg k4
                                            case measure => have := HJ1.out; have := HK2.out; have := HK3.out; have := HK4.out; omega
                                            case rel => exact ⟨(y199), (y200), (true), (wrap64 (x39_3 + 1)), (by first | rfl | (simp; done) | (simp [*]; done)), (by first | rfl | (simp; done) | (simp [*]; done)), H', ⟨by have := HJ1.out; have := HK2.out; have := HK3.out; have := HK4.out; omega⟩, ⟨by (with_reducible repeat (first | apply Kd.R_alloc | apply Kd.R_drewN | apply Kd.R_drew)); exact HO_4.out⟩, ⟨by (with_reducible repeat (first | apply Kd.R_alloc | apply Kd.R_drewN | apply Kd.R_drew)); exact HO202.out⟩, ⟨by (with_reducible repeat (first | refine blk_drewN ?_ _ | refine blk_drew ?_ | refine blk_alloc ?_ _)); exact BK192.out⟩, ⟨by repeat (first | (with_reducible first | exact HB.out | apply below_alloc | apply pw_below_drewN | apply below_drew1 | refine below_set ?_ GE192.out | refine below_set ?_ GE197.out) | exact HB.out)⟩⟩
                                          · rw [if_neg c47] at H
                                            exact absurd H (by simp)
                                        · rw [if_neg c45] at H
                                          exact absurd H (by simp)
                                      · rw [if_neg c44] at H
                                        exact absurd H (by simp)
                                    · replace c43 := Bool.eq_false_iff.mpr c43
                                      subst c43
                                      have H1 : (coppicerref_Sound.l1 k4 x4_3 x5_3 x6_3 l0_0 (l0_0.length : Int) (wrap64 (x39_3 + 1)) l0_0 a0_1) = some (r1, r2) := by rw [if_neg (show ¬ (false = true) by decide)] at H; exact H
                                      clear H
                                      have H := H1
                                      clear H1
                                      have H' := Aside0.mk H
                                      clear H
                                      go_wp2
                                      repeat (go_quiet (fail); try go_wp2)
                                      go_roundg k4
                                      case measure => have := HJ1.out; have := HK2.out; have := HK3.out; have := HK4.out; omega
                                      case rel => exact ⟨(x4_3), (x5_3), (x6_3), (wrap64 (x39_3 + 1)), (by first | rfl | (simp; done) | (simp [*]; done)), (by first | rfl | (simp; done) | (simp [*]; done)), H', ⟨by have := HJ1.out; have := HK2.out; have := HK3.out; have := HK4.out; omega⟩, ⟨by (with_reducible repeat (first | apply Kd.R_alloc | apply Kd.R_drewN | apply Kd.R_drew)); exact HO_4.out⟩, ⟨by (with_reducible repeat (first | apply Kd.R_alloc | apply Kd.R_drewN | apply Kd.R_drew)); exact HO_5.out⟩, ⟨by (with_reducible repeat (first | refine blk_drewN ?_ _ | refine blk_drew ?_ | refine blk_alloc ?_ _)); exact BK192.out⟩, ⟨by repeat (first | (with_reducible first | exact HB.out | apply below_alloc | apply pw_below_drewN | apply below_drew1 | refine below_set ?_ GE192.out | refine below_set ?_ GE197.out) | exact HB.out)⟩⟩
                            · rw [if_neg c20] at H
                              exact absurd H (by simp)
                          · rw [if_neg c19] at H
                            exact absurd H (by simp)
                        · rw [if_neg c18] at H
                          exact absurd H (by simp)
                      · rw [if_neg c17] at H
                        have c17b0 : decide (x39_3 < (l0_0.length : Int)) = false := decide_eq_false c17
                        clear c17
                        have H' := Aside0.mk H
                        clear H
                        go_wp2
                        repeat (go_quiet (fail); try go_wp2)
                        go_roundg k3
                        case measure => have := HJ1.out; have := HK2.out; have := HK3.out; omega
                        case rel => exact ⟨(x4_3), (x5_3), (x6_3), (by first | rfl | (simp; done) | (simp [*]; done)), H', ⟨by have := HJ1.out; have := HK2.out; have := HK3.out; omega⟩, ⟨by (with_reducible repeat (first | apply Kd.R_alloc | apply Kd.R_drewN | apply Kd.R_drew)); exact HO_4.out⟩, ⟨by (with_reducible repeat (first | apply Kd.R_alloc | apply Kd.R_drewN | apply Kd.R_drew)); exact HO_5.out⟩, ⟨by (with_reducible repeat (first | refine blk_drewN ?_ _ | refine blk_drew ?_ | refine blk_alloc ?_ _)); exact BK192.out⟩, ⟨by repeat (first | (with_reducible first | exact HB.out | apply below_alloc | apply pw_below_drewN | apply below_drew1 | refine below_set ?_ GE192.out) | exact HB.out)⟩⟩
                · replace c15 := Bool.eq_false_iff.mpr c15
                  subst c15
                  have H1 : (some (x5_2, ((x5_2.length : Int) == (l0_0.length : Int)))) = some (r1, r2) := by rw [if_neg (show ¬ (false = true) by decide)] at H; exact H
                  clear H
                  have H := H1
                  clear H1
                  simp only [Option.some.injEq, Prod.mk.injEq] at H
                  obtain ⟨rfl, rfl⟩ := H
                  obtain ⟨Ao51, co51, eo51⟩ := Kd.R_slice HO_5.out
                  subst eo51
                  have hcz52_0 : wr.cell? ⟨gb192, 0, none⟩ = some (.slice A0_0 l0_0.length c0_0) := (blk_cell BK192.out 0).trans rfl
                  have hcz52_1 : wr.cell? ⟨gb192, 1, none⟩ = some (.int .i64 a0_1) := (blk_cell BK192.out 1).trans rfl
                  have hfz52_0 := blk_frozen BK192.out 0
                  have hfz52_1 := blk_frozen BK192.out 1
                  go_wp2
                  repeat (go_quiet (fail); try go_wp2)
                  go_ret2
                  exact ⟨_, by first | rfl | (simp [errW_none, errW_some] <;> rfl) | (simp [*, errW_none, errW_some] <;> rfl), by (with_reducible repeat (first | apply Kd.R_alloc | apply Kd.R_drewN | apply Kd.R_drew)); exact HO_5.out, by repeat (first | (with_reducible first | exact HB.out | apply below_alloc | apply pw_below_drewN | apply below_drew1 | refine below_set ?_ GE192.out) | exact HB.out)⟩
          · rw [if_neg c11] at H
            exact absurd H (by simp)
        · rw [if_neg c10] at H
          exact absurd H (by simp)

end Go.Proofs.Ytdbomblcijejcaa.PStorePacks
