-- Written by a program of this session: a turn of the print kit's own.
import Derived.Test.YtdbomblcijejcaaPThicketCountsx0
import Derived.Test.YtdbomblcijejcaaPThicketCountsx3
namespace Go.Proofs.Ytdbomblcijejcaa.PThicketCounts
open Go.RowKit Go.Proofs.YtdbomblcijejcaaW.PrintWords Go.Proofs.YtdbomblcijejcaaW.PrintLast Go.Proofs.YtdbomblcijejcaaW.PrintMore
attribute [local go_sem] max2_int min2_int max_two min_two max_three min_three max_four min_four   -- for this text's walks alone
set_option linter.unusedVariables false
set_option linter.unusedSimpArgs false

/-! ### coppicerref_capped: function 13 -/
def coppicerref_capped.j0 : Nat → Int → Int → Bool → Option (Int)
  | 0, _, _, _ => none
  | k + 1, x0, x1, x10 => if x10 = true then (some 0) else (if x1 = 0 then (none) else (if x0 > (wrap64 (Int.tdiv (1099511627777 : Int) x1)) then (some 1099511627777) else (some (wrap64 (x0 * x1)))))
def coppicerref_capped.f (k : Nat) (a0 : Int) (a1 : Int) : Option (Int) := if a0 = 0 then (coppicerref_capped.j0 k a0 a1 true) else (coppicerref_capped.j0 k a0 a1 (a1 == 0))
theorem coppicerref_capped.mono_l : ∀ k, (∀ y0 y1 y2, LeO (coppicerref_capped.j0 k y0 y1 y2) (coppicerref_capped.j0 (k + 1) y0 y1 y2))
  | 0 => fun _ _ _ r h => by simp [coppicerref_capped.j0] at h
  | k + 1 => by
    have ih0 := coppicerref_capped.mono_l k
    · intro y0 y1 y2
      unfold coppicerref_capped.j0
      repeat' first
      | (with_reducible exact ih0 _ _ _)
      | (with_reducible exact LeO.refl _)
      | (with_reducible exact LeO.none _)
      | (with_reducible refine LeO.ite ?_ ?_)
      | (with_reducible refine LeO.bind ?_ (fun _ => ?_))
      | exact ih0 _ _ _
      | exact LeO.none _
      | refine LeO.ite ?_ ?_
      | refine LeO.bind ?_ (fun _ => ?_)
theorem coppicerref_capped.mono : ∀ a0 a1 k, LeO (coppicerref_capped.f k a0 a1) (coppicerref_capped.f (k + 1) a0 a1) := by
  intro a0 a1 k
  have ih0 := coppicerref_capped.mono_l k
  unfold coppicerref_capped.f
  repeat' first
      | (with_reducible exact ih0 _ _ _)
      | (with_reducible exact LeO.refl _)
      | (with_reducible exact LeO.none _)
      | (with_reducible refine LeO.ite ?_ ?_)
      | (with_reducible refine LeO.bind ?_ (fun _ => ?_))
      | exact ih0 _ _ _
      | exact LeO.none _
      | refine LeO.ite ?_ ?_
      | refine LeO.bind ?_ (fun _ => ?_)
set_option maxHeartbeats 8000000 in
set_option maxRecDepth 100000 in
theorem coppicerref_capped.calls (k : Nat) (a0 : Int) (a1 : Int) (r : Int) (w : World) (h : coppicerref_capped.f k a0 a1 = some r) :
    Calls Try.prog 13 #[.int .i64 a0, .int .i64 a1] w fun e w' => e = .returned (.int .i64 r) ∧ Drawn0 w w' := by
  have H : (if a0 = 0 then (coppicerref_capped.j0 k a0 a1 true) else (coppicerref_capped.j0 k a0 a1 (a1 == 0))) = some r := h
  clear h
  have HC3 := Aside0.mk H
  clear H
  go_enter Try.func13, Try.ntmps13
  go_upto_region 1 with (fail)
  go_cut [10] (fun v10 wc => ∃ (kq : Nat) (x10_2 : Bool), v10 = .bool x10_2 ∧ Aside0 (coppicerref_capped.j0 kq a0 a1 x10_2 = some r) ∧ Aside0 (kq ≤ k) ∧ Drawn0 w wc)
  case first =>
    have H := HC3.out
    clear HC3
    by_cases c4 : a0 = 0
    · rw [if_pos c4] at H
      have c4b0 : (a0 == 0) = true := beq_iff_eq.mpr c4
      have c4b1 : (a0 != 0) = false := bne_eq_false_iff_eq.mpr c4
      clear c4
      (first | rw [c4b0] | (simp only [i64_w, i32_w]; rw [c4b0]) | skip)
      have H' := Aside0.mk H
      clear H
      go_wp2
      go_meet
      case rel => exact ⟨_, (true), (by first | rfl | (simp; done) | (simp [*]; done)), H', ⟨by first | omega | exact Nat.le_refl _⟩, by repeat (first | exact Drawn0.refl _ | apply Drawn0.step)⟩
    · rw [if_neg c4] at H
      have c4b0 : (a0 == 0) = false := beq_eq_false_iff_ne.mpr c4
      have c4b1 : (a0 != 0) = true := bne_iff_ne.mpr c4
      (first | rw [c4b0] | (simp only [i64_w, i32_w]; rw [c4b0]) | skip)
      have H' := Aside0.mk H
      clear H
      go_wp2
      go_meet
      case rel => exact ⟨_, ((a1 == 0)), (by first | rfl | (simp; done) | (simp [*]; done)), H', ⟨by first | omega | exact Nat.le_refl _⟩, by repeat (first | exact Drawn0.refl _ | apply Drawn0.step)⟩
  case rest =>
    clear HC3
    try clear c1
    try clear p2
    try clear c4
    try clear c4b0
    try clear c4b1
    obtain ⟨kq, x10_2, rfl, HA, HJ2, ⟨mc2, rfl⟩⟩ := hcut
    cases kq with
    | zero => exact absurd HA.out (by simp [coppicerref_capped.j0])
    | succ kj2 =>
      have H := HA.out
      clear HA
      simp only [coppicerref_capped.j0] at H
      by_cases c5 : x10_2 = true
      · subst c5
        have H1 : (some 0) = some r := by rw [if_pos rfl] at H; exact H
        clear H
        have H := H1
        clear H1
        obtain rfl := Option.some.inj H
        go_wp2
        go_ret
        exact ⟨by first | rfl | (simp; done) | (simp [*]; done), by repeat (first | exact Drawn0.refl _ | apply Drawn0.step)⟩
      · replace c5 := Bool.eq_false_iff.mpr c5
        subst c5
        have H1 : (if a1 = 0 then (none) else (if a0 > (wrap64 (Int.tdiv (1099511627777 : Int) a1)) then (some 1099511627777) else (some (wrap64 (a0 * a1))))) = some r := by rw [if_neg (show ¬ (false = true) by decide)] at H; exact H
        clear H
        have H := H1
        clear H1
        by_cases c6 : a1 = 0
        · rw [if_pos c6] at H
          exact absurd H (by simp)
        · rw [if_neg c6] at H
          have c6b0 : (a1 == 0) = false := beq_eq_false_iff_ne.mpr c6
          have c6b1 : (a1 != 0) = true := bne_iff_ne.mpr c6
          by_cases c7 : a0 > (wrap64 (Int.tdiv (1099511627777 : Int) a1))
          · rw [if_pos c7] at H
            have c7b0 : decide ((wrap64 (Int.tdiv (1099511627777 : Int) a1)) < a0) = true := decide_eq_true c7
            clear c7
            obtain rfl := Option.some.inj H
            go_wp2
            go_ret
            exact ⟨by first | rfl | (simp; done) | (simp [*]; done), by repeat (first | exact Drawn0.refl _ | apply Drawn0.step)⟩
          · rw [if_neg c7] at H
            have c7b0 : decide ((wrap64 (Int.tdiv (1099511627777 : Int) a1)) < a0) = false := decide_eq_false c7
            clear c7
            obtain rfl := Option.some.inj H
            go_wp2
            go_ret
            exact ⟨by first | rfl | (simp; done) | (simp [*]; done), by repeat (first | exact Drawn0.refl _ | apply Drawn0.step)⟩

/-! ### coppicerref_Count: function 7 -/
mutual
def coppicerref_Count.l0 : Nat → List Int → List Int → Int → Int → List (S40) → Int → Option (Int)
  | 0, _, _, _, _, _, _ => none
  | k + 1, x5, x17, x18, x19, x159000, x159001 => if x19 < x18 then (if 0 ≤ x19 then (if x19 < (x17.length : Int) then (if 0 ≤ (rd x17 x19) then (if (rd x17 x19) < (x159000.length : Int) then (if (((rd_T40 x159000 (rd x17 x19)).f3).length : Int) = 0 then (if (rd x17 x19) < (x5.length : Int) then (coppicerref_Count.j1 k (x5.set ((rd x17 x19) : Int).toNat 1) (rd x17 x19) x17 x18 x19 x159000 x159001) else (none)) else (coppicerref_Count.j1 k x5 (rd x17 x19) x17 x18 x19 x159000 x159001)) else (none)) else (none)) else (none)) else (none)) else (if 0 ≤ x159001 then (if x159001 < (x5.length : Int) then (some (rd x5 x159001)) else (none)) else (none))
def coppicerref_Count.j1 : Nat → List Int → Int → List Int → Int → Int → List (S40) → Int → Option (Int)
  | 0, _, _, _, _, _, _, _ => none
  | k + 1, x5, x7, x17, x18, x19, x159000, x159001 => if 0 ≤ x7 then (if x7 < (x159000.length : Int) then (coppicerref_Count.l1 k x5 x7 x17 x18 x19 ((rd_T40 x159000 x7).f3) (((rd_T40 x159000 x7).f3).length : Int) 0 x159000 x159001) else (none)) else (none)
def coppicerref_Count.l1 : Nat → List Int → Int → List Int → Int → Int → List (List Int) → Int → Int → List (S40) → Int → Option (Int)
  | 0, _, _, _, _, _, _, _, _, _, _ => none
  | k + 1, x5, x7, x17, x18, x19, x39, x40, x41, x159000, x159001 => if x41 < x40 then (if 0 ≤ x41 then (if x41 < (x39.length : Int) then ((coppicerref_tail.f (rd_L1 x39 x41)).bind fun t168 => (coppicerref_Count.l2 k x5 x7 1 x17 x18 x19 x39 x40 x41 t168 (t168.length : Int) 0 x159000 x159001)) else (none)) else (none)) else (coppicerref_Count.l0 k x5 x17 x18 (wrap64 (x19 + 1)) x159000 x159001)
def coppicerref_Count.l2 : Nat → List Int → Int → Int → List Int → Int → Int → List (List Int) → Int → Int → List Int → Int → Int → List (S40) → Int → Option (Int)
  | 0, _, _, _, _, _, _, _, _, _, _, _, _, _, _ => none
  | k + 1, x5, x7, x10, x17, x18, x19, x39, x40, x41, x46, x47, x48, x159000, x159001 => if x48 < x47 then (if 0 ≤ x48 then (if x48 < (x46.length : Int) then (if 0 ≤ (rd x46 x48) then (if (rd x46 x48) < (x5.length : Int) then ((coppicerref_capped.f k x10 (rd x5 (rd x46 x48))).bind fun t173 => (coppicerref_Count.l2 k x5 x7 t173 x17 x18 x19 x39 x40 x41 x46 x47 (wrap64 (x48 + 1)) x159000 x159001)) else (none)) else (none)) else (none)) else (none)) else (if 0 ≤ x7 then (if x7 < (x5.length : Int) then ((some (x5.set (x7 : Int).toNat (wrap64 ((rd x5 x7) + x10)) : List Int)).bind fun y175 => (if (rd y175 x7) > 1099511627776 then (coppicerref_Count.l1 k (y175.set (x7 : Int).toNat 1099511627777) x7 x17 x18 x19 x39 x40 (wrap64 (x41 + 1)) x159000 x159001) else (coppicerref_Count.l1 k y175 x7 x17 x18 x19 x39 x40 (wrap64 (x41 + 1)) x159000 x159001))) else (none)) else (none))
end
def coppicerref_Count.f (k : Nat) (l0_0 : List (S40)) (a0_1 : Int) (l1 : List Int) : Option (Int) := if 0 ≤ (l0_0.length : Int) then (if ((l0_0.length : Int) : Int).toNat ≤ 35184372088832 then (coppicerref_Count.l0 k (List.replicate ((l0_0.length : Int) : Int).toNat 0) l1 (l1.length : Int) 0 l0_0 a0_1) else (none)) else (none)
theorem coppicerref_Count.mono_l : ∀ k, (∀ y0 y1 y2 y3 y4 y5, LeO (coppicerref_Count.l0 k y0 y1 y2 y3 y4 y5) (coppicerref_Count.l0 (k + 1) y0 y1 y2 y3 y4 y5)) ∧ (∀ y0 y1 y2 y3 y4 y5 y6, LeO (coppicerref_Count.j1 k y0 y1 y2 y3 y4 y5 y6) (coppicerref_Count.j1 (k + 1) y0 y1 y2 y3 y4 y5 y6)) ∧ (∀ y0 y1 y2 y3 y4 y5 y6 y7 y8 y9, LeO (coppicerref_Count.l1 k y0 y1 y2 y3 y4 y5 y6 y7 y8 y9) (coppicerref_Count.l1 (k + 1) y0 y1 y2 y3 y4 y5 y6 y7 y8 y9)) ∧ (∀ y0 y1 y2 y3 y4 y5 y6 y7 y8 y9 y10 y11 y12 y13, LeO (coppicerref_Count.l2 k y0 y1 y2 y3 y4 y5 y6 y7 y8 y9 y10 y11 y12 y13) (coppicerref_Count.l2 (k + 1) y0 y1 y2 y3 y4 y5 y6 y7 y8 y9 y10 y11 y12 y13))
  | 0 => ⟨fun _ _ _ _ _ _ r h => by simp [coppicerref_Count.l0] at h, fun _ _ _ _ _ _ _ r h => by simp [coppicerref_Count.j1] at h, fun _ _ _ _ _ _ _ _ _ _ r h => by simp [coppicerref_Count.l1] at h, fun _ _ _ _ _ _ _ _ _ _ _ _ _ _ r h => by simp [coppicerref_Count.l2] at h⟩
  | k + 1 => by
    obtain ⟨ih0, ih1, ih2, ih3⟩ := coppicerref_Count.mono_l k
    refine ⟨?_, ?_, ?_, ?_⟩
    · intro y0 y1 y2 y3 y4 y5
      unfold coppicerref_Count.l0
      repeat' first
      | (with_reducible exact ih0 _ _ _ _ _ _)
      | (with_reducible exact ih1 _ _ _ _ _ _ _)
      | (with_reducible exact ih2 _ _ _ _ _ _ _ _ _ _)
      | (with_reducible exact ih3 _ _ _ _ _ _ _ _ _ _ _ _ _ _)
      | (with_reducible exact coppicerref_capped.mono _ _ _)
      | (with_reducible exact LeO.refl _)
      | (with_reducible exact LeO.none _)
      | (with_reducible refine LeO.ite ?_ ?_)
      | (with_reducible refine LeO.bind ?_ (fun _ => ?_))
      | exact ih0 _ _ _ _ _ _
      | exact ih1 _ _ _ _ _ _ _
      | exact ih2 _ _ _ _ _ _ _ _ _ _
      | exact ih3 _ _ _ _ _ _ _ _ _ _ _ _ _ _
      | exact coppicerref_capped.mono _ _ _
      | exact LeO.none _
      | refine LeO.ite ?_ ?_
      | refine LeO.bind ?_ (fun _ => ?_)
    · intro y0 y1 y2 y3 y4 y5 y6
      unfold coppicerref_Count.j1
      repeat' first
      | (with_reducible exact ih0 _ _ _ _ _ _)
      | (with_reducible exact ih1 _ _ _ _ _ _ _)
      | (with_reducible exact ih2 _ _ _ _ _ _ _ _ _ _)
      | (with_reducible exact ih3 _ _ _ _ _ _ _ _ _ _ _ _ _ _)
      | (with_reducible exact coppicerref_capped.mono _ _ _)
      | (with_reducible exact LeO.refl _)
      | (with_reducible exact LeO.none _)
      | (with_reducible refine LeO.ite ?_ ?_)
      | (with_reducible refine LeO.bind ?_ (fun _ => ?_))
      | exact ih0 _ _ _ _ _ _
      | exact ih1 _ _ _ _ _ _ _
      | exact ih2 _ _ _ _ _ _ _ _ _ _
      | exact ih3 _ _ _ _ _ _ _ _ _ _ _ _ _ _
      | exact coppicerref_capped.mono _ _ _
      | exact LeO.none _
      | refine LeO.ite ?_ ?_
      | refine LeO.bind ?_ (fun _ => ?_)
    · intro y0 y1 y2 y3 y4 y5 y6 y7 y8 y9
      unfold coppicerref_Count.l1
      repeat' first
      | (with_reducible exact ih0 _ _ _ _ _ _)
      | (with_reducible exact ih1 _ _ _ _ _ _ _)
      | (with_reducible exact ih2 _ _ _ _ _ _ _ _ _ _)
      | (with_reducible exact ih3 _ _ _ _ _ _ _ _ _ _ _ _ _ _)
      | (with_reducible exact coppicerref_capped.mono _ _ _)
      | (with_reducible exact LeO.refl _)
      | (with_reducible exact LeO.none _)
      | (with_reducible refine LeO.ite ?_ ?_)
      | (with_reducible refine LeO.bind ?_ (fun _ => ?_))
      | exact ih0 _ _ _ _ _ _
      | exact ih1 _ _ _ _ _ _ _
      | exact ih2 _ _ _ _ _ _ _ _ _ _
      | exact ih3 _ _ _ _ _ _ _ _ _ _ _ _ _ _
      | exact coppicerref_capped.mono _ _ _
      | exact LeO.none _
      | refine LeO.ite ?_ ?_
      | refine LeO.bind ?_ (fun _ => ?_)
    · intro y0 y1 y2 y3 y4 y5 y6 y7 y8 y9 y10 y11 y12 y13
      unfold coppicerref_Count.l2
      repeat' first
      | (with_reducible exact ih0 _ _ _ _ _ _)
      | (with_reducible exact ih1 _ _ _ _ _ _ _)
      | (with_reducible exact ih2 _ _ _ _ _ _ _ _ _ _)
      | (with_reducible exact ih3 _ _ _ _ _ _ _ _ _ _ _ _ _ _)
      | (with_reducible exact coppicerref_capped.mono _ _ _)
      | (with_reducible exact LeO.refl _)
      | (with_reducible exact LeO.none _)
      | (with_reducible refine LeO.ite ?_ ?_)
      | (with_reducible refine LeO.bind ?_ (fun _ => ?_))
      | exact ih0 _ _ _ _ _ _
      | exact ih1 _ _ _ _ _ _ _
      | exact ih2 _ _ _ _ _ _ _ _ _ _
      | exact ih3 _ _ _ _ _ _ _ _ _ _ _ _ _ _
      | exact coppicerref_capped.mono _ _ _
      | exact LeO.none _
      | refine LeO.ite ?_ ?_
      | refine LeO.bind ?_ (fun _ => ?_)
theorem coppicerref_Count.mono : ∀ a0 a1 a2 k, LeO (coppicerref_Count.f k a0 a1 a2) (coppicerref_Count.f (k + 1) a0 a1 a2) := by
  intro a0 a1 a2 k
  obtain ⟨ih0, ih1, ih2, ih3⟩ := coppicerref_Count.mono_l k
  unfold coppicerref_Count.f
  repeat' first
      | (with_reducible exact ih0 _ _ _ _ _ _)
      | (with_reducible exact ih1 _ _ _ _ _ _ _)
      | (with_reducible exact ih2 _ _ _ _ _ _ _ _ _ _)
      | (with_reducible exact ih3 _ _ _ _ _ _ _ _ _ _ _ _ _ _)
      | (with_reducible exact coppicerref_capped.mono _ _ _)
      | (with_reducible exact LeO.refl _)
      | (with_reducible exact LeO.none _)
      | (with_reducible refine LeO.ite ?_ ?_)
      | (with_reducible refine LeO.bind ?_ (fun _ => ?_))
      | exact ih0 _ _ _ _ _ _
      | exact ih1 _ _ _ _ _ _ _
      | exact ih2 _ _ _ _ _ _ _ _ _ _
      | exact ih3 _ _ _ _ _ _ _ _ _ _ _ _ _ _
      | exact coppicerref_capped.mono _ _ _
      | exact LeO.none _
      | refine LeO.ite ?_ ?_
      | refine LeO.bind ?_ (fun _ => ?_)
set_option maxHeartbeats 8000000 in
set_option maxRecDepth 100000 in
theorem coppicerref_Count.calls (k : Nat) (A0_0 : Option Addr) (c0_0 : Nat) (l0_0 : List (S40)) (a0_1 : Int) (A1 : Option Addr) (c1 : Nat) (l1 : List Int) (r : Int) (w : World) (hr0_0 : Kd.C k40 w A0_0 l0_0.length l0_0) (hc0_0 : l0_0.length ≤ c0_0) (hr1 : Kd.C (Kd.int .i64) w A1 l1.length l1) (hc1 : l1.length ≤ c1) (h : coppicerref_Count.f k l0_0 a0_1 l1 = some r) :
    Calls Try.prog 7 #[.agg #[.slice A0_0 l0_0.length c0_0, .int .i64 a0_1], .slice A1 l1.length c1] w fun e w' => e = .returned (.int .i64 r) ∧ Below w.heap.size w w' := by
  have hu24 := Try.underlying24
  have hu28 := Try.underlying28
  have HR0_0 := Aside0.mk hr0_0
  have HC0_0 := Aside0.mk hc0_0
  clear hr0_0 hc0_0
  have HR1 := Aside0.mk hr1
  have HC1 := Aside0.mk hc1
  clear hr1 hc1
  have HB := Aside0.mk (Below.refl w.heap.size w)
  have H : (if 0 ≤ (l0_0.length : Int) then (if ((l0_0.length : Int) : Int).toNat ≤ 35184372088832 then (coppicerref_Count.l0 k (List.replicate ((l0_0.length : Int) : Int).toNat 0) l1 (l1.length : Int) 0 l0_0 a0_1) else (none)) else (none)) = some r := h
  clear h
  by_cases c3 : 0 ≤ (l0_0.length : Int)
  · rw [if_pos c3] at H
    have c3b0 := eq_true c3
    have c3b1 : decide (0 ≤ (l0_0.length : Int)) = true := decide_eq_true c3
    clear c3
    by_cases c4 : ((l0_0.length : Int) : Int).toNat ≤ 35184372088832
    · rw [if_pos c4] at H
      have c4b0 := eq_true c4
      have c4b1 : decide (((l0_0.length : Int) : Int).toNat ≤ 35184372088832) = true := decide_eq_true c4
      clear c4
      obtain ⟨y159, hy159⟩ : ∃ y_ : List Int, y_ = (List.replicate ((l0_0.length : Int) : Int).toNat 0) := ⟨_, rfl⟩
      replace H : (coppicerref_Count.l0 k y159 l1 (l1.length : Int) 0 l0_0 a0_1) = some r := by first | (rw [hy159]; with_reducible exact H) | (have H2_ := (Option.bind_some _ _).symm.trans H; rw [hy159]; with_reducible exact H2_) | (have H2_ := (Option.bind_some _ _).symm.trans H; with_reducible exact H2_) | with_reducible exact H | (rw [hy159]; exact H) | exact H
      have Ny159 := Aside0.mk hy159
      clear hy159
      have H' := Aside0.mk H
      clear H
      go_enter Try.func7, Try.ntmps7
      go_wp2_with (first | ((with_reducible refine gate_dst (N := 2) rfl ?_); refine box_event ?hg (N := 2) ?hd (cs := #[.slice A0_0 l0_0.length c0_0, .int .i64 a0_1]) (t := 24) ?hr ?_; (case hd => rfl); (case hg => rfl); (case hr => first | (go_simp; done) | (go_simp; rfl)); intro gb158 hg w5 hbox hb; have n0_ := Aside0.mk (below_step (by repeat (first | (with_reducible first | exact HB.out | apply below_alloc | apply pw_below_drewN | apply below_drew1) | exact HB.out)) hb); have n1_ := Aside0.mk (hbox); have n2_ := Aside0.mk ((by rw [hg]; exact (below_size (by repeat (first | (with_reducible first | exact HB.out | apply below_alloc | apply pw_below_drewN | apply below_drew1) | exact HB.out))) : w.heap.size ≤ gb158)); have n3_ := Aside0.mk ((by rw [hg]; exact (below_size (by repeat (first | (with_reducible first | exact HB.out | apply below_alloc | apply pw_below_drewN | apply below_drew1) | exact HB.out))) : w.heap.size ≤ gb158)); clear HB; have HB := n0_; have BK158 := n1_; have GW158 := n2_; have GE158 := n3_; clear n0_ n1_ n2_ n3_; clear hb hbox hg; have hcz6_0 : w5.cell? ⟨gb158, 0, none⟩ = some (.slice A0_0 l0_0.length c0_0) := (blk_cell BK158.out 0).trans rfl; have hcz6_1 : w5.cell? ⟨gb158, 1, none⟩ = some (.int .i64 a0_1) := (blk_cell BK158.out 1).trans rfl; have hfz6_0 := blk_frozen BK158.out 0; have hfz6_1 := blk_frozen BK158.out 1) | ((with_reducible refine gate_dst (N := 16) rfl ?_); refine Kd.R_make (Kd.int .i64) _ 2 rfl (N := 16) rfl 37 _ _ rfl (l0_0.length : Int) rfl rfl Try.underlying37 (.int .i64 0) 8 info2 rfl (by decide) (by omega) 0 (ok := fun _ => True) (okp := fun _ => True) rfl (fun _ hk => hk) trivial (of_decide_eq_true (by first | (with_reducible assumption) | assumption)) (Nat.le_trans (Nat.mul_le_mul_right _ (of_decide_eq_true (by first | (with_reducible assumption) | assumption) : (l0_0.length : Int).toNat ≤ 35184372088832)) (by omega)) (Below.refl _ _) (Nat.le_refl _) ?_; intro v160 w7 ho8 hb hg_ hnew_; clear hg_ hnew_; (first | rw [← Ny159.out] at ho8 | (simp only [Int.reduceToNat] at ho8; rw [← Ny159.out] at ho8)); have n0_ := Aside0.mk (Kd.R_lower ho8 (below_size (by repeat (first | (with_reducible first | exact HB.out | apply below_alloc | apply pw_below_drewN | apply below_drew1 | refine below_set ?_ GE158.out) | exact HB.out)))); have n1_ := Aside0.mk (blk_below (g := gb158) (o := .cells #[.slice A0_0 l0_0.length c0_0, .int .i64 a0_1] 24 (0, 0)) (by (with_reducible repeat (first | refine blk_drewN ?_ _ | refine blk_drew ?_ | refine blk_alloc ?_ _)); exact BK158.out) hb); have n2_ := Aside0.mk (below_step (by repeat (first | (with_reducible first | exact HB.out | apply below_alloc | apply pw_below_drewN | apply below_drew1 | refine below_set ?_ GE158.out) | exact HB.out)) hb); clear BK158; clear HB; have HO161 := n0_; have BK158 := n1_; have HB := n2_; clear n0_ n1_ n2_; clear hb ho8))
      go_loopg [19] k (fun kq v19 w' => ∃ (x5_1 : List Int) (x19_1 : Int), v19 = .int .i64 x19_1 ∧ Aside0 (coppicerref_Count.l0 kq x5_1 l1 (l1.length : Int) x19_1 l0_0 a0_1 = some r) ∧ Aside0 (kq ≤ k) ∧ Aside0 (Kd.R (Kd.int .i64) 2 w' w.heap.size (fun _ => True) v160 x5_1) ∧ Aside0 (w'.heap[gb158]? = some (.cells #[(.slice A0_0 l0_0.length c0_0), .int .i64 a0_1] 24 (0, 0))) ∧ Aside0 (Below w.heap.size w w'))
      case atStart => exact ⟨(y159), (0), (by first | rfl | (simp; done) | (simp [*]; done)), H', ⟨Nat.le_refl _⟩, ⟨by (with_reducible repeat (first | apply Kd.R_alloc | apply Kd.R_drewN | apply Kd.R_drew)); exact HO161.out⟩, ⟨by (with_reducible repeat (first | refine blk_drewN ?_ _ | refine blk_drew ?_ | refine blk_alloc ?_ _)); exact BK158.out⟩, ⟨by repeat (first | (with_reducible first | exact HB.out | apply below_alloc | apply pw_below_drewN | apply below_drew1 | refine below_set ?_ GE158.out) | exact HB.out)⟩⟩
      case round =>
        clear H'
        try clear c1
        try clear p2
        try clear c3
        try clear c3b0
        try clear c3b1
        try clear c4
        try clear c4b0
        try clear c4b1
        try clear c7
        try clear hcz6_0
        try clear hcz6_1
        try clear hfz6_0
        try clear hfz6_1
        obtain ⟨x5_1, x19_1, rfl, HA, HK1, HO_5, BK158, HB⟩ := hrel
        cases gk with
        | zero => exact absurd HA.out (by simp [coppicerref_Count.l0])
        | succ k1 =>
          have H := HA.out
          clear HA
          simp only [coppicerref_Count.l0] at H
          by_cases c9 : x19_1 < (l1.length : Int)
          · rw [if_pos c9] at H
            have c9b0 : decide (x19_1 < (l1.length : Int)) = true := decide_eq_true c9
            clear c9
            by_cases c10 : 0 ≤ x19_1
            · rw [if_pos c10] at H
              have c10b0 : decide (0 ≤ x19_1) = true := decide_eq_true c10
              clear c10
              by_cases c11 : x19_1 < (l1.length : Int)
              · rw [if_pos c11] at H
                have c11b0 : decide (x19_1 < (l1.length : Int)) = true := decide_eq_true c11
                clear c11
                by_cases c12 : 0 ≤ (rd l1 x19_1)
                · rw [if_pos c12] at H
                  have c12b0 : decide (0 ≤ (rd l1 x19_1)) = true := decide_eq_true c12
                  clear c12
                  by_cases c13 : (rd l1 x19_1) < (l0_0.length : Int)
                  · rw [if_pos c13] at H
                    have c13b0 : decide ((rd l1 x19_1) < (l0_0.length : Int)) = true := decide_eq_true c13
                    clear c13
                    have HC14 := Aside0.mk H
                    clear H
                    have p163 : 0 ≤ (x19_1 : Int) := of_decide_eq_true (by first | (with_reducible assumption) | assumption)
                    have q163 : x19_1 < (l1.length : Int) := of_decide_eq_true (by first | (with_reducible assumption) | assumption)
                    obtain ⟨ad163, e163, hx163_0⟩ := Kd.at_int HR1.out x19_1 p163 q163
                    cases e163
                    replace hx163_0 := (HB.out.cell (World.block_lt_of_cell? w _ hx163_0)).trans hx163_0
                    replace p163 := eq_true p163
                    replace q163 := eq_true q163
                    have hcz15_0 : wr.cell? ⟨gb158, 0, none⟩ = some (.slice A0_0 l0_0.length c0_0) := (blk_cell BK158.out 0).trans rfl
                    have hcz15_1 : wr.cell? ⟨gb158, 1, none⟩ = some (.int .i64 a0_1) := (blk_cell BK158.out 1).trans rfl
                    have hfz15_0 := blk_frozen BK158.out 0
                    have hfz15_1 := blk_frozen BK158.out 1
                    have p164 : 0 ≤ ((rd l1 x19_1) : Int) := of_decide_eq_true (by first | (with_reducible assumption) | assumption)
                    have q164 : (rd l1 x19_1) < (l0_0.length : Int) := of_decide_eq_true (by first | (with_reducible assumption) | assumption)
                    obtain ⟨ad164, A164_3, c164_3, e164, hx164_0, hx164_1, hx164_2, hx164_3, hl164_3, hi164_3⟩ := at_T40 HR0_0.out (rd l1 x19_1) p164 q164
                    cases e164
                    replace hx164_0 := (HB.out.cell (World.block_lt_of_cell? w _ hx164_0)).trans hx164_0
                    replace hx164_1 := (HB.out.cell (World.block_lt_of_cell? w _ hx164_1)).trans hx164_1
                    replace hx164_2 := (HB.out.cell (World.block_lt_of_cell? w _ hx164_2)).trans hx164_2
                    replace hx164_3 := (HB.out.cell (World.block_lt_of_cell? w _ hx164_3)).trans hx164_3
                    have HR164_3 := Aside0.mk hi164_3
                    have HC164_3 := Aside0.mk hl164_3
                    clear hi164_3 hl164_3
                    replace p164 := eq_true p164
                    replace q164 := eq_true q164
                    go_upto_if 30 with (fail)
                    go_cut [] (fun wc => ∃ (kq : Nat) (x5_13 : List Int), Aside0 (coppicerref_Count.j1 kq x5_13 (rd l1 x19_1) l1 (l1.length : Int) x19_1 l0_0 a0_1 = some r) ∧ Aside0 (kq ≤ k1) ∧ Aside0 (Kd.R (Kd.int .i64) 2 wc w.heap.size (fun _ => True) v160 x5_13) ∧ Aside0 (wc.heap[gb158]? = some (.cells #[(.slice (some ad164) l0_0.length c0_0), .int .i64 a0_1] 24 (0, 0))) ∧ Aside0 (Below w.heap.size w wc))
                    case first =>
                      have H := HC14.out
                      clear HC14
                      by_cases c16 : (((rd_T40 l0_0 (rd l1 x19_1)).f3).length : Int) = 0
                      · rw [if_pos c16] at H
                        have c16b0 : ((((rd_T40 l0_0 (rd l1 x19_1)).f3).length : Int) == 0) = true := beq_iff_eq.mpr c16
                        have c16b1 : ((((rd_T40 l0_0 (rd l1 x19_1)).f3).length : Int) != 0) = false := bne_eq_false_iff_eq.mpr c16
                        clear c16
                        (first | rw [c16b0] | (simp only [i64_w, i32_w]; rw [c16b0]) | skip)
                        by_cases c17 : (rd l1 x19_1) < (x5_1.length : Int)
                        · rw [if_pos c17] at H
                          have c17b0 : decide ((rd l1 x19_1) < (x5_1.length : Int)) = true := decide_eq_true c17
                          clear c17
                          obtain ⟨y165, hy165⟩ : ∃ y_ : List Int, y_ = (x5_1.set ((rd l1 x19_1) : Int).toNat 1) := ⟨_, rfl⟩
                          replace H : (coppicerref_Count.j1 k1 y165 (rd l1 x19_1) l1 (l1.length : Int) x19_1 l0_0 a0_1) = some r := by first | (rw [hy165]; with_reducible exact H) | (have H2_ := (Option.bind_some _ _).symm.trans H; rw [hy165]; with_reducible exact H2_) | (have H2_ := (Option.bind_some _ _).symm.trans H; with_reducible exact H2_) | with_reducible exact H | (rw [hy165]; exact H) | exact H
                          have Ny165 := Aside0.mk hy165
                          clear hy165
                          have H' := Aside0.mk H
                          clear H
                          have p18 : 0 ≤ ((rd l1 x19_1) : Int) := of_decide_eq_true (by first | (with_reducible assumption) | assumption)
                          have q18 : ((rd l1 x19_1) : Int) < ((x5_1.length : Int) : Int) := of_decide_eq_true (by first | (with_reducible assumption) | assumption)
                          obtain ⟨go18, co18, eo18, gb18, gl18, cl18, HG18⟩ := Kd.R_form HO_5.out (by omega)
                          (first | cases eo18 | (injection eo18 with ea_ en_ ec_; (first | subst ea_ | (injection ea_ with ea_; subst ea_)); subst ec_; clear en_))
                          have GB18 := Aside0.mk gb18
                          have GG18 := Aside0.mk HG18
                          clear gb18 gl18 HG18
                          obtain ⟨hx18_0, hf18_0⟩ := Kd.R_celln 0 HO_5.out ((rd l1 x19_1) : Int) p18 q18
                          replace p18 := eq_true p18
                          replace q18 := eq_true q18
                          obtain ⟨hy19_, hz19_⟩ := Kd.R_celln 0 HO_5.out ((rd l1 x19_1) : Int) (of_decide_eq_true (by first | (with_reducible assumption) | assumption)) (of_decide_eq_true (by first | (with_reducible assumption) | assumption))
                          have HP19 := Kd.R_putg HO_5.out ((rd l1 x19_1) : Int) 1
                          go_wp2_with (first | ((with_reducible refine gate_store (t := 2) (p := 33) rfl ?_); refine store_event (t := 2) (p := 33) (v := ?vo_w20) (w1 := (wr.setCell ⟨go18, ((rd l1 x19_1) : Int).toNat, none⟩ (.int .i64 1))) ?hg ?ho ?hn ?hr ?_; (case ho => rfl); (case hg => rfl); (case hn => rfl); (case hr => first | (go_simp; done) | (go_simp; rfl)); intro w20 hw; have hg : wr.grownBy w20 (some go18) := (by rw [hw]; exact HP19.2); have hp_ : Kd.R (Kd.int .i64) 2 w20 w.heap.size (fun _ => True) (.slice (some ⟨go18, 0, none⟩) x5_1.length co18) y165 := (by rw [hw, Ny165.out]; exact HP19.1); clear HP19; have n0_ := Aside0.mk (hp_); have n1_ := Aside0.mk (blk_grown (g := gb158) (o := .cells #[.slice (some ad164) l0_0.length c0_0, .int .i64 a0_1] 24 (0, 0)) (by (with_reducible repeat (first | refine blk_drewN ?_ _ | refine blk_drew ?_ | refine blk_alloc ?_ _)); exact BK158.out) hg (Kd.R_ne HO_5.out BK158.out (by decide))); have n2_ := Aside0.mk ((by rw [hw]; exact below_set (HB.out) GB18.out : Below w.heap.size w w20)); clear HO_5; clear BK158; clear HB; have HO_5 := n0_; have BK158 := n1_; have HB := n2_; clear n0_ n1_ n2_; clear hg hw hp_))
                          go_meet
                          case rel => exact ⟨_, (y165), H', ⟨by have := HK1.out; first | omega | exact Nat.le_refl _⟩, ⟨by (with_reducible repeat (first | apply Kd.R_alloc | apply Kd.R_drewN | apply Kd.R_drew)); exact HO_5.out⟩, ⟨by (with_reducible repeat (first | refine blk_drewN ?_ _ | refine blk_drew ?_ | refine blk_alloc ?_ _)); exact BK158.out⟩, ⟨by repeat (first | (with_reducible first | exact HB.out | apply below_alloc | apply pw_below_drewN | apply below_drew1 | refine below_set ?_ GE158.out) | exact HB.out)⟩⟩
                        · rw [if_neg c17] at H
                          exact absurd H (by simp)
                      · rw [if_neg c16] at H
                        have c16b0 : ((((rd_T40 l0_0 (rd l1 x19_1)).f3).length : Int) == 0) = false := beq_eq_false_iff_ne.mpr c16
                        have c16b1 : ((((rd_T40 l0_0 (rd l1 x19_1)).f3).length : Int) != 0) = true := bne_iff_ne.mpr c16
                        have c16b2 : ¬ (((rd_T40 l0_0 (rd l1 x19_1)).f3) = []) := fun h_ => c16 (by rw [h_]; rfl)
                        (first | rw [c16b0] | (simp only [i64_w, i32_w]; rw [c16b0]) | skip)
                        have H' := Aside0.mk H
                        clear H
                        go_wp2
                        go_meet
                        case rel => exact ⟨_, (x5_1), H', ⟨by have := HK1.out; first | omega | exact Nat.le_refl _⟩, ⟨by (with_reducible repeat (first | apply Kd.R_alloc | apply Kd.R_drewN | apply Kd.R_drew)); exact HO_5.out⟩, ⟨by (with_reducible repeat (first | refine blk_drewN ?_ _ | refine blk_drew ?_ | refine blk_alloc ?_ _)); exact BK158.out⟩, ⟨by repeat (first | (with_reducible first | exact HB.out | apply below_alloc | apply pw_below_drewN | apply below_drew1 | refine below_set ?_ GE158.out) | exact HB.out)⟩⟩
                    case rest =>
                      clear HC14
                      try clear c1
                      try clear p1
                      try clear q1
                      try clear hx1
                      try clear p2
                      try clear c3
                      try clear c3b0
                      try clear c3b1
                      try clear c4
                      try clear c4b0
                      try clear c4b1
                      try clear c7
                      try clear c9
                      try clear c9b0
                      try clear c10
                      try clear c10b0
                      try clear c11
                      try clear c11b0
                      try clear c12
                      try clear c12b0
                      try clear c13
                      try clear c13b0
                      try clear c16
                      try clear c16b0
                      try clear c16b1
                      try clear c16b2
                      try clear p16
                      try clear q16
                      try clear hx16
                      try clear c17
                      try clear c17b0
                      try clear p18
                      try clear q18
                      try clear hx18
                      try clear hf18
                      try clear hcz15_0
                      try clear hcz15_1
                      try clear hcz6_0
                      try clear hcz6_1
                      try clear hfz15_0
                      try clear hfz15_1
                      try clear hfz6_0
                      try clear hfz6_1
                      try clear hx163_0
                      try clear hx164_0
                      try clear hx164_1
                      try clear hx164_2
                      try clear hx164_3
                      try clear hx18_0
                      try clear p163
                      try clear p164
                      try clear p18
                      try clear p2
                      try clear q163
                      try clear q164
                      try clear q18
                      obtain ⟨kq, x5_13, HA, HJ13, HO_5, BK158, HB⟩ := hcut
                      cases kq with
                      | zero => exact absurd HA.out (by simp [coppicerref_Count.j1])
                      | succ kj13 =>
                        have H := HA.out
                        clear HA
                        simp only [coppicerref_Count.j1] at H
                        by_cases c21 : 0 ≤ (rd l1 x19_1)
                        · rw [if_pos c21] at H
                          have c21b0 : decide (0 ≤ (rd l1 x19_1)) = true := decide_eq_true c21
                          clear c21
                          by_cases c22 : (rd l1 x19_1) < (l0_0.length : Int)
                          · rw [if_pos c22] at H
                            have c22b0 : decide ((rd l1 x19_1) < (l0_0.length : Int)) = true := decide_eq_true c22
                            clear c22
                            have H' := Aside0.mk H
                            clear H
                            have hcz23_0 : wc.cell? ⟨gb158, 0, none⟩ = some (.slice (some ad164) l0_0.length c0_0) := (blk_cell BK158.out 0).trans rfl
                            have hcz23_1 : wc.cell? ⟨gb158, 1, none⟩ = some (.int .i64 a0_1) := (blk_cell BK158.out 1).trans rfl
                            have hfz23_0 := blk_frozen BK158.out 0
                            have hfz23_1 := blk_frozen BK158.out 1
                            have p166 : 0 ≤ ((rd l1 x19_1) : Int) := of_decide_eq_true (by first | (with_reducible assumption) | assumption)
                            have q166 : (rd l1 x19_1) < (l0_0.length : Int) := of_decide_eq_true (by first | (with_reducible assumption) | assumption)
                            obtain ⟨ad166, A166_3, c166_3, e166, hx166_0, hx166_1, hx166_2, hx166_3, hl166_3, hi166_3⟩ := at_T40 HR0_0.out (rd l1 x19_1) p166 q166
                            obtain rfl : ad164 = ad166 := (by injection e166)
                            replace hx166_0 := (HB.out.cell (World.block_lt_of_cell? w _ hx166_0)).trans hx166_0
                            replace hx166_1 := (HB.out.cell (World.block_lt_of_cell? w _ hx166_1)).trans hx166_1
                            replace hx166_2 := (HB.out.cell (World.block_lt_of_cell? w _ hx166_2)).trans hx166_2
                            replace hx166_3 := (HB.out.cell (World.block_lt_of_cell? w _ hx166_3)).trans hx166_3
                            have HR166_3 := Aside0.mk hi166_3
                            have HC166_3 := Aside0.mk hl166_3
                            clear hi166_3 hl166_3
                            replace p166 := eq_true p166
                            replace q166 := eq_true q166
                            go_wp2
                            go_loopg [41] kj13 (fun kq v41 w' => ∃ (x5_3 : List Int) (x41_3 : Int), v41 = .int .i64 x41_3 ∧ Aside0 (coppicerref_Count.l1 kq x5_3 (rd l1 x19_1) l1 (l1.length : Int) x19_1 ((rd_T40 l0_0 (rd l1 x19_1)).f3) (((rd_T40 l0_0 (rd l1 x19_1)).f3).length : Int) x41_3 l0_0 a0_1 = some r) ∧ Aside0 (kq ≤ kj13) ∧ Aside0 (Kd.R (Kd.int .i64) 2 w' w.heap.size (fun _ => True) v160 x5_3) ∧ Aside0 (w'.heap[gb158]? = some (.cells #[(.slice (some ad164) l0_0.length c0_0), .int .i64 a0_1] 24 (0, 0))) ∧ Aside0 (Below w.heap.size w w'))
                            case atStart => exact ⟨(x5_13), (0), (by first | rfl | (simp; done) | (simp [*]; done)), H', ⟨Nat.le_refl _⟩, ⟨by (with_reducible repeat (first | apply Kd.R_alloc | apply Kd.R_drewN | apply Kd.R_drew)); exact HO_5.out⟩, ⟨by (with_reducible repeat (first | refine blk_drewN ?_ _ | refine blk_drew ?_ | refine blk_alloc ?_ _)); exact BK158.out⟩, ⟨by repeat (first | (with_reducible first | exact HB.out | apply below_alloc | apply pw_below_drewN | apply below_drew1 | refine below_set ?_ GE158.out) | exact HB.out)⟩⟩
                            case round =>
                              clear H'
                              try clear c1
                              try clear p1
                              try clear q1
                              try clear hx1
                              try clear c2
                              try clear p2
                              try clear c3
                              try clear c3b0
                              try clear c3b1
                              try clear c4
                              try clear c4b0
                              try clear c4b1
                              try clear c7
                              try clear c9
                              try clear c9b0
                              try clear c10
                              try clear c10b0
                              try clear c11
                              try clear c11b0
                              try clear c12
                              try clear c12b0
                              try clear c13
                              try clear c13b0
                              try clear c16
                              try clear c16b0
                              try clear c16b1
                              try clear c16b2
                              try clear p16
                              try clear q16
                              try clear hx16
                              try clear c17
                              try clear c17b0
                              try clear p18
                              try clear q18
                              try clear hx18
                              try clear hf18
                              try clear c21
                              try clear c21b0
                              try clear c22
                              try clear c22b0
                              try clear hcz15_0
                              try clear hcz15_1
                              try clear hcz23_0
                              try clear hcz23_1
                              try clear hcz6_0
                              try clear hcz6_1
                              try clear hfz15_0
                              try clear hfz15_1
                              try clear hfz23_0
                              try clear hfz23_1
                              try clear hfz6_0
                              try clear hfz6_1
                              try clear hx163_0
                              try clear hx164_0
                              try clear hx164_1
                              try clear hx164_2
                              try clear hx164_3
                              try clear hx166_0
                              try clear hx166_1
                              try clear hx166_2
                              try clear hx166_3
                              try clear hx18_0
                              try clear p1
                              try clear p16
                              try clear p163
                              try clear p164
                              try clear p166
                              try clear p18
                              try clear p2
                              try clear q1
                              try clear q16
                              try clear q163
                              try clear q164
                              try clear q166
                              try clear q18
                              obtain ⟨x5_3, x41_3, rfl, HA, HK3, HO_5, BK158, HB⟩ := hrel
                              cases gk with
                              | zero => exact absurd HA.out (by simp [coppicerref_Count.l1])
                              | succ k3 =>
                                have H := HA.out
                                clear HA
                                simp only [coppicerref_Count.l1] at H
                                by_cases c24 : x41_3 < (((rd_T40 l0_0 (rd l1 x19_1)).f3).length : Int)
                                · rw [if_pos c24] at H
                                  have c24b0 : decide (x41_3 < (((rd_T40 l0_0 (rd l1 x19_1)).f3).length : Int)) = true := decide_eq_true c24
                                  clear c24
                                  by_cases c25 : 0 ≤ x41_3
                                  · rw [if_pos c25] at H
                                    have c25b0 : decide (0 ≤ x41_3) = true := decide_eq_true c25
                                    clear c25
                                    by_cases c26 : x41_3 < (((rd_T40 l0_0 (rd l1 x19_1)).f3).length : Int)
                                    · rw [if_pos c26] at H
                                      have c26b0 : decide (x41_3 < (((rd_T40 l0_0 (rd l1 x19_1)).f3).length : Int)) = true := decide_eq_true c26
                                      clear c26
                                      replace H := Option.bind_eq_some_iff.mp H
                                      obtain ⟨t168, A270, H⟩ := H
                                      replace H : (coppicerref_Count.l2 k3 x5_3 (rd l1 x19_1) 1 l1 (l1.length : Int) x19_1 ((rd_T40 l0_0 (rd l1 x19_1)).f3) (((rd_T40 l0_0 (rd l1 x19_1)).f3).length : Int) x41_3 t168 (t168.length : Int) 0 l0_0 a0_1) = some r := H
                                      have A27 := Aside0.mk A270
                                      clear A270
                                      have H' := Aside0.mk H
                                      clear H
                                      have p167 : 0 ≤ (x41_3 : Int) := of_decide_eq_true (by first | (with_reducible assumption) | assumption)
                                      have q167 : x41_3 < (((rd_T40 l0_0 (rd l1 x19_1)).f3).length : Int) := of_decide_eq_true (by first | (with_reducible assumption) | assumption)
                                      obtain ⟨ad167, A167_0, c167_0, e167, hx167_0, hl167_0, hi167_0⟩ := at_L1 HR166_3.out x41_3 p167 q167
                                      cases e167
                                      replace hx167_0 := (HB.out.cell (World.block_lt_of_cell? w _ hx167_0)).trans hx167_0
                                      have HR167_0 := Aside0.mk hi167_0
                                      have HC167_0 := Aside0.mk hl167_0
                                      clear hi167_0 hl167_0
                                      replace p167 := eq_true p167
                                      replace q167 := eq_true q167
                                      go_wp2_with (first | ((with_reducible refine gate_callee (f := 12) rfl ?_); refine goesL_ (some 46) rfl rfl Try.func12 (by kernel_rfl) rfl #[.slice A167_0 (rd_L1 ((rd_T40 l0_0 (rd l1 x19_1)).f3) x41_3).length c167_0] rfl (by (try simp only [List.map_toArray, List.map_cons, List.map_nil]); first | done | rfl | (simp only [List.length_drop, List.length_take]; rfl)) ?_; (with_reducible refine (coppicerref_tail.calls (fun k_ => k_ < w.heap.size) _ _ (rd_L1 ((rd_T40 l0_0 (rd l1 x19_1)).f3) x41_3) t168 _ ?side1 A27.out).mono ?_); (case side1 => exact Kd.V_mk HC167_0.out (Kd.F_below (Kd.C_F (Kd.heap_int .i64) HR167_0.out) (by repeat (first | (with_reducible first | exact HB.out | apply below_alloc | apply pw_below_drewN | apply below_drew1 | refine below_set ?_ GE158.out) | exact HB.out)))); rintro e w28 ⟨v169, rfl, ho0, hb⟩; refine ⟨_, rfl, ?_⟩; have n0_ := Aside0.mk (Kd.R_below (by (with_reducible repeat (first | apply Kd.R_alloc | apply Kd.R_drewN | apply Kd.R_drew)); exact HO_5.out) hb); have n1_ := Aside0.mk (Kd.V_lower (Kd.V_mono (ok' := fun k_ => some k_ ≠ (v160 : Value).ownBlock ∧ k_ ≠ gb158) ho0 (fun k_ hk_ => ⟨Or.elim hk_ (fun hs_ => fun e_ => Nat.not_le.2 hs_ (Kd.R_base HO_5.out k_ e_.symm)) (fun hn_ => (Kd.fresh' (Kd.R_lt (by (with_reducible repeat (first | apply Kd.R_alloc | apply Kd.R_drewN | apply Kd.R_drew)); exact HO_5.out)) k_ hn_)), Or.elim hk_ (fun hs_ => fun e_ => Nat.not_le.2 hs_ (by rw [e_]; exact GW158.out)) (fun hn_ => (Kd.freshB (g := gb158) (o := .cells #[.slice (some ad164) l0_0.length c0_0, .int .i64 a0_1] 24 (0, 0)) (by (with_reducible repeat (first | refine blk_drewN ?_ _ | refine blk_drew ?_ | refine blk_alloc ?_ _)); exact BK158.out) k_ hn_))⟩)) (below_size (by repeat (first | (with_reducible first | exact HB.out | apply below_alloc | apply pw_below_drewN | apply below_drew1 | refine below_set ?_ GE158.out) | exact HB.out)))); have n2_ := Aside0.mk (blk_below (g := gb158) (o := .cells #[.slice (some ad164) l0_0.length c0_0, .int .i64 a0_1] 24 (0, 0)) (by (with_reducible repeat (first | refine blk_drewN ?_ _ | refine blk_drew ?_ | refine blk_alloc ?_ _)); exact BK158.out) hb); have n3_ := Aside0.mk (below_step (by repeat (first | (with_reducible first | exact HB.out | apply below_alloc | apply pw_below_drewN | apply below_drew1 | refine below_set ?_ GE158.out) | exact HB.out)) hb); clear HO_5; clear BK158; clear HB; have HO_5 := n0_; have HO170 := n1_; have BK158 := n2_; have HB := n3_; clear n0_ n1_ n2_ n3_; (try clear hb); (try clear hb2); (try clear hk); (try clear hi); (try clear ho0); obtain ⟨Ao29, co29, eo29⟩ := Kd.V_slice HO170.out; subst eo29))
                                      go_loopg [10, 48] k3 (fun kq v10 v48 w' => ∃ (x10_4 : Int) (x48_4 : Int), v10 = .int .i64 x10_4 ∧ v48 = .int .i64 x48_4 ∧ Aside0 (coppicerref_Count.l2 kq x5_3 (rd l1 x19_1) x10_4 l1 (l1.length : Int) x19_1 ((rd_T40 l0_0 (rd l1 x19_1)).f3) (((rd_T40 l0_0 (rd l1 x19_1)).f3).length : Int) x41_3 t168 (t168.length : Int) x48_4 l0_0 a0_1 = some r) ∧ Aside0 (kq ≤ k3) ∧ Aside0 (Kd.R (Kd.int .i64) 2 w' w.heap.size (fun _ => True) v160 x5_3) ∧ Aside0 (Kd.V (Kd.int .i64) 3 w' w.heap.size (fun k_ => some k_ ≠ (v160 : Value).ownBlock ∧ k_ ≠ gb158) (.slice Ao29 t168.length co29) t168) ∧ Aside0 (w'.heap[gb158]? = some (.cells #[(.slice (some ad164) l0_0.length c0_0), .int .i64 a0_1] 24 (0, 0))) ∧ Aside0 (Below w.heap.size w w'))
                                      case atStart => exact ⟨(1), (0), (by first | rfl | (simp; done) | (simp [*]; done)), (by first | rfl | (simp; done) | (simp [*]; done)), H', ⟨Nat.le_refl _⟩, ⟨by (with_reducible repeat (first | apply Kd.R_alloc | apply Kd.R_drewN | apply Kd.R_drew)); exact HO_5.out⟩, ⟨by (with_reducible repeat (first | apply Kd.V_alloc | apply Kd.V_drewN | apply Kd.V_drew)); exact HO170.out⟩, ⟨by (with_reducible repeat (first | refine blk_drewN ?_ _ | refine blk_drew ?_ | refine blk_alloc ?_ _)); exact BK158.out⟩, ⟨by repeat (first | (with_reducible first | exact HB.out | apply below_alloc | apply pw_below_drewN | apply below_drew1 | refine below_set ?_ GE158.out) | exact HB.out)⟩⟩
                                      case round =>
                                        clear H'
                                        try clear c1
                                        try clear p1
                                        try clear q1
                                        try clear hx1
                                        try clear c2
                                        try clear p2
                                        try clear c3
                                        try clear c3b0
                                        try clear c3b1
                                        try clear c4
                                        try clear c4b0
                                        try clear c4b1
                                        try clear c7
                                        try clear c9
                                        try clear c9b0
                                        try clear c10
                                        try clear c10b0
                                        try clear c11
                                        try clear c11b0
                                        try clear c12
                                        try clear c12b0
                                        try clear c13
                                        try clear c13b0
                                        try clear c16
                                        try clear c16b0
                                        try clear c16b1
                                        try clear c16b2
                                        try clear p16
                                        try clear q16
                                        try clear hx16
                                        try clear c17
                                        try clear c17b0
                                        try clear p18
                                        try clear q18
                                        try clear hx18
                                        try clear hf18
                                        try clear c21
                                        try clear c21b0
                                        try clear c22
                                        try clear c22b0
                                        try clear c24
                                        try clear c24b0
                                        try clear c25
                                        try clear c25b0
                                        try clear c26
                                        try clear c26b0
                                        try clear hcz15_0
                                        try clear hcz15_1
                                        try clear hcz23_0
                                        try clear hcz23_1
                                        try clear hcz6_0
                                        try clear hcz6_1
                                        try clear hfz15_0
                                        try clear hfz15_1
                                        try clear hfz23_0
                                        try clear hfz23_1
                                        try clear hfz6_0
                                        try clear hfz6_1
                                        try clear hx163_0
                                        try clear hx164_0
                                        try clear hx164_1
                                        try clear hx164_2
                                        try clear hx164_3
                                        try clear hx166_0
                                        try clear hx166_1
                                        try clear hx166_2
                                        try clear hx166_3
                                        try clear hx167_0
                                        try clear hx18_0
                                        try clear p1
                                        try clear p16
                                        try clear p163
                                        try clear p164
                                        try clear p166
                                        try clear p167
                                        try clear p18
                                        try clear p2
                                        try clear q1
                                        try clear q16
                                        try clear q163
                                        try clear q164
                                        try clear q166
                                        try clear q167
                                        try clear q18
                                        obtain ⟨x10_4, x48_4, rfl, rfl, HA, HK4, HO_5, HO_46, BK158, HB⟩ := hrel
                                        cases gk with
                                        | zero => exact absurd HA.out (by simp [coppicerref_Count.l2])
                                        | succ k4 =>
                                          have H := HA.out
                                          clear HA
                                          simp only [coppicerref_Count.l2] at H
                                          by_cases c30 : x48_4 < (t168.length : Int)
                                          · rw [if_pos c30] at H
                                            have c30b0 : decide (x48_4 < (t168.length : Int)) = true := decide_eq_true c30
                                            clear c30
                                            by_cases c31 : 0 ≤ x48_4
                                            · rw [if_pos c31] at H
                                              have c31b0 : decide (0 ≤ x48_4) = true := decide_eq_true c31
                                              clear c31
                                              by_cases c32 : x48_4 < (t168.length : Int)
                                              · rw [if_pos c32] at H
                                                have c32b0 : decide (x48_4 < (t168.length : Int)) = true := decide_eq_true c32
                                                clear c32
                                                by_cases c33 : 0 ≤ (rd t168 x48_4)
                                                · rw [if_pos c33] at H
                                                  have c33b0 : decide (0 ≤ (rd t168 x48_4)) = true := decide_eq_true c33
                                                  clear c33
                                                  by_cases c34 : (rd t168 x48_4) < (x5_3.length : Int)
                                                  · rw [if_pos c34] at H
                                                    have c34b0 : decide ((rd t168 x48_4) < (x5_3.length : Int)) = true := decide_eq_true c34
                                                    clear c34
                                                    replace H := Option.bind_eq_some_iff.mp H
                                                    obtain ⟨t173, A350, H⟩ := H
                                                    replace H : (coppicerref_Count.l2 k4 x5_3 (rd l1 x19_1) t173 l1 (l1.length : Int) x19_1 ((rd_T40 l0_0 (rd l1 x19_1)).f3) (((rd_T40 l0_0 (rd l1 x19_1)).f3).length : Int) x41_3 t168 (t168.length : Int) (wrap64 (x48_4 + 1)) l0_0 a0_1) = some r := H
                                                    have A35 := Aside0.mk A350
                                                    clear A350
                                                    have H' := Aside0.mk H
                                                    clear H
                                                    have p171 : 0 ≤ (x48_4 : Int) := of_decide_eq_true (by first | (with_reducible assumption) | assumption)
                                                    have q171 : x48_4 < (t168.length : Int) := of_decide_eq_true (by first | (with_reducible assumption) | assumption)
                                                    obtain ⟨ad171, e171, hx171_0⟩ := Kd.at_int (Kd.V_reads' HO_46.out).2.2 x48_4 p171 q171
                                                    cases e171
                                                    replace p171 := eq_true p171
                                                    replace q171 := eq_true q171
                                                    obtain ⟨Ao36, co36, eo36⟩ := Kd.R_slice HO_5.out
                                                    subst eo36
                                                    have p172 : 0 ≤ ((rd t168 x48_4) : Int) := of_decide_eq_true (by first | (with_reducible assumption) | assumption)
                                                    have q172 : (rd t168 x48_4) < (x5_3.length : Int) := of_decide_eq_true (by first | (with_reducible assumption) | assumption)
                                                    obtain ⟨ad172, e172, hx172_0⟩ := Kd.at_int (Kd.R_reads' HO_5.out).2.2 (rd t168 x48_4) p172 q172
                                                    cases e172
                                                    replace p172 := eq_true p172
                                                    replace q172 := eq_true q172
                                                    go_wp2_with (first | ((with_reducible refine gate_callee (f := 13) rfl ?_); refine goesL_ (some 57) rfl rfl Try.func13 (by kernel_rfl) rfl #[.int .i64 x10_4, .int .i64 (rd x5_3 (rd t168 x48_4))] rfl (by (try simp only [List.map_toArray, List.map_cons, List.map_nil]); first | done | rfl | (simp only [List.length_drop, List.length_take]; rfl)) ?_; (with_reducible refine (coppicerref_capped.calls k4 x10_4 (rd x5_3 (rd t168 x48_4)) t173 _ A35.out).mono ?_); rintro e w' ⟨rfl, ⟨nd, rfl⟩⟩; refine ⟨_, rfl, ?_⟩))
                                                    go_roundg k4
                                                    case measure => have := HK1.out; have := HJ13.out; have := HK3.out; have := HK4.out; omega
                                                    case rel => exact ⟨(t173), (wrap64 (x48_4 + 1)), (by first | rfl | (simp; done) | (simp [*]; done)), (by first | rfl | (simp; done) | (simp [*]; done)), H', ⟨by have := HK1.out; have := HJ13.out; have := HK3.out; have := HK4.out; omega⟩, ⟨by (with_reducible repeat (first | apply Kd.R_alloc | apply Kd.R_drewN | apply Kd.R_drew)); exact HO_5.out⟩, ⟨by (with_reducible repeat (first | apply Kd.V_alloc | apply Kd.V_drewN | apply Kd.V_drew)); exact HO_46.out⟩, ⟨by (with_reducible repeat (first | refine blk_drewN ?_ _ | refine blk_drew ?_ | refine blk_alloc ?_ _)); exact BK158.out⟩, ⟨by repeat (first | (with_reducible first | exact HB.out | apply below_alloc | apply pw_below_drewN | apply below_drew1 | refine below_set ?_ GE158.out) | exact HB.out)⟩⟩
                                                  · rw [if_neg c34] at H
                                                    exact absurd H (by simp)
                                                · rw [if_neg c33] at H
                                                  exact absurd H (by simp)
                                              · rw [if_neg c32] at H
                                                exact absurd H (by simp)
                                            · rw [if_neg c31] at H
                                              exact absurd H (by simp)
                                          · rw [if_neg c30] at H
                                            have c30b0 : decide (x48_4 < (t168.length : Int)) = false := decide_eq_false c30
                                            clear c30
                                            by_cases c37 : 0 ≤ (rd l1 x19_1)
                                            · rw [if_pos c37] at H
                                              have c37b0 : decide (0 ≤ (rd l1 x19_1)) = true := decide_eq_true c37
                                              clear c37
                                              by_cases c38 : (rd l1 x19_1) < (x5_3.length : Int)
                                              · rw [if_pos c38] at H
                                                have c38b0 : decide ((rd l1 x19_1) < (x5_3.length : Int)) = true := decide_eq_true c38
                                                clear c38
                                                obtain ⟨y175, hy175⟩ : ∃ y_ : List Int, y_ = (x5_3.set ((rd l1 x19_1) : Int).toNat (wrap64 ((rd x5_3 (rd l1 x19_1)) + x10_4))) := ⟨_, rfl⟩
                                                replace H : (if (rd y175 (rd l1 x19_1)) > 1099511627776 then (coppicerref_Count.l1 k4 (y175.set ((rd l1 x19_1) : Int).toNat 1099511627777) (rd l1 x19_1) l1 (l1.length : Int) x19_1 ((rd_T40 l0_0 (rd l1 x19_1)).f3) (((rd_T40 l0_0 (rd l1 x19_1)).f3).length : Int) (wrap64 (x41_3 + 1)) l0_0 a0_1) else (coppicerref_Count.l1 k4 y175 (rd l1 x19_1) l1 (l1.length : Int) x19_1 ((rd_T40 l0_0 (rd l1 x19_1)).f3) (((rd_T40 l0_0 (rd l1 x19_1)).f3).length : Int) (wrap64 (x41_3 + 1)) l0_0 a0_1)) = some r := by first | (rw [hy175]; with_reducible exact H) | (have H2_ := (Option.bind_some _ _).symm.trans H; rw [hy175]; with_reducible exact H2_) | (have H2_ := (Option.bind_some _ _).symm.trans H; with_reducible exact H2_) | with_reducible exact H | (rw [hy175]; exact H) | exact H
                                                have Ny175 := Aside0.mk hy175
                                                clear hy175
                                                by_cases c40 : (rd y175 (rd l1 x19_1)) > 1099511627776
                                                · rw [if_pos c40] at H
                                                  have c40b0 : decide (1099511627776 < (rd y175 (rd l1 x19_1))) = true := decide_eq_true c40
                                                  clear c40
                                                  obtain ⟨y177, hy177⟩ : ∃ y_ : List Int, y_ = (y175.set ((rd l1 x19_1) : Int).toNat 1099511627777) := ⟨_, rfl⟩
                                                  replace H : (coppicerref_Count.l1 k4 y177 (rd l1 x19_1) l1 (l1.length : Int) x19_1 ((rd_T40 l0_0 (rd l1 x19_1)).f3) (((rd_T40 l0_0 (rd l1 x19_1)).f3).length : Int) (wrap64 (x41_3 + 1)) l0_0 a0_1) = some r := by first | (rw [hy177]; with_reducible exact H) | (have H2_ := (Option.bind_some _ _).symm.trans H; rw [hy177]; with_reducible exact H2_) | (have H2_ := (Option.bind_some _ _).symm.trans H; with_reducible exact H2_) | with_reducible exact H | (rw [hy177]; exact H) | exact H
                                                  have Ny177 := Aside0.mk hy177
                                                  clear hy177
                                                  have H' := Aside0.mk H
                                                  clear H
                                                  obtain ⟨Ao42, co42, eo42⟩ := Kd.R_slice HO_5.out
                                                  subst eo42
                                                  have p174 : 0 ≤ ((rd l1 x19_1) : Int) := of_decide_eq_true (by first | (with_reducible assumption) | assumption)
                                                  have q174 : (rd l1 x19_1) < (x5_3.length : Int) := of_decide_eq_true (by first | (with_reducible assumption) | assumption)
                                                  obtain ⟨ad174, e174, hx174_0⟩ := Kd.at_int (Kd.R_reads' HO_5.out).2.2 (rd l1 x19_1) p174 q174
                                                  cases e174
                                                  replace p174 := eq_true p174
                                                  replace q174 := eq_true q174
                                                  have p39 : 0 ≤ ((rd l1 x19_1) : Int) := of_decide_eq_true (by first | (with_reducible assumption) | assumption)
                                                  have q39 : ((rd l1 x19_1) : Int) < ((x5_3.length : Int) : Int) := of_decide_eq_true (by first | (with_reducible assumption) | assumption)
                                                  obtain ⟨go39, co39, eo39, gb39, gl39, cl39, HG39⟩ := Kd.R_form HO_5.out (by omega)
                                                  (first | cases eo39 | (injection eo39 with ea_ en_ ec_; (first | subst ea_ | (injection ea_ with ea_; subst ea_)); subst ec_; clear en_))
                                                  have GB39 := Aside0.mk gb39
                                                  have GG39 := Aside0.mk HG39
                                                  clear gb39 gl39 HG39
                                                  (first | simp only [add_plain] at hx174_0 | skip)
                                                  obtain ⟨hx39_0, hf39_0⟩ := Kd.R_celln 0 HO_5.out ((rd l1 x19_1) : Int) p39 q39
                                                  replace p39 := eq_true p39
                                                  replace q39 := eq_true q39
                                                  obtain ⟨hy43_, hz43_⟩ := Kd.R_celln 0 HO_5.out ((rd l1 x19_1) : Int) (of_decide_eq_true (by first | (with_reducible assumption) | assumption)) (of_decide_eq_true (by first | (with_reducible assumption) | assumption))
                                                  have HP43 := Kd.R_putg HO_5.out ((rd l1 x19_1) : Int) (wrap64 ((rd x5_3 (rd l1 x19_1)) + x10_4))
                                                  go_wp2_with (first | ((with_reducible refine gate_store (t := 2) (p := 67) rfl ?_); refine store_event (t := 2) (p := 67) (v := ?vo_w44) (w1 := (wr.setCell ⟨go39, ((rd l1 x19_1) : Int).toNat, none⟩ (.int .i64 (wrap64 ((rd x5_3 (rd l1 x19_1)) + x10_4))))) ?hg ?ho ?hn ?hr ?_; (case ho => rfl); (case hg => rfl); (case hn => rfl); (case hr => first | (go_simp; done) | (go_simp; rfl)); intro w44 hw; have hg : wr.grownBy w44 (some go39) := (by rw [hw]; exact HP43.2); have hp_ : Kd.R (Kd.int .i64) 2 w44 w.heap.size (fun _ => True) (.slice (some ⟨go39, 0, none⟩) x5_3.length co42) y175 := (by rw [hw, Ny175.out]; exact HP43.1); clear HP43; have n0_ := Aside0.mk (hp_); have n1_ := Aside0.mk (Kd.V_afterv (v := (.slice (some ⟨go39, 0, none⟩) x5_3.length co42)) (v1 := (.slice (some ⟨go39, 0, none⟩) x5_3.length co42)) (ok := (fun k_ => k_ ≠ gb158)) (by (with_reducible repeat (first | apply Kd.V_alloc | apply Kd.V_drewN | apply Kd.V_drew)); exact Kd.V_mono HO_46.out (fun _ hk => ⟨hk.2, hk.1⟩)) hg (.inl rfl)); have n2_ := Aside0.mk (blk_grown (g := gb158) (o := .cells #[.slice (some ad164) l0_0.length c0_0, .int .i64 a0_1] 24 (0, 0)) (by (with_reducible repeat (first | refine blk_drewN ?_ _ | refine blk_drew ?_ | refine blk_alloc ?_ _)); exact BK158.out) hg (Kd.R_ne HO_5.out BK158.out (by decide))); have n3_ := Aside0.mk ((by rw [hw]; exact below_set (HB.out) GB39.out : Below w.heap.size w w44)); clear HO_5; clear HO_46; clear BK158; clear HB; have HO_5 := n0_; have HO_46 := n1_; have BK158 := n2_; have HB := n3_; clear n0_ n1_ n2_ n3_; clear hg hw hp_; have p176 : 0 ≤ ((rd l1 x19_1) : Int) := of_decide_eq_true (by first | (with_reducible assumption) | assumption); have q176 : (rd l1 x19_1) < (y175.length : Int) := (by have h_ : ((rd l1 x19_1) : Int) < ((x5_3.length : Int) : Int) := of_decide_eq_true (by first | (with_reducible assumption) | assumption); first | (have e_ := (Kd.R_reads' HO_5.out).1; omega) | simpa only [Ny175.out, List.length_set] using h_); have ql176 : (((rd l1 x19_1) : Int) < ((x5_3.length : Int) : Int)) = True := eq_true (of_decide_eq_true (by first | (with_reducible assumption) | assumption)); obtain ⟨ad176, e176, hx176_0⟩ := Kd.at_int (Kd.R_reads' HO_5.out).2.2 (rd l1 x19_1) p176 q176; obtain rfl : (⟨go39, 0, none⟩ : Addr) = ad176 := (by injection e176); (first | simp only [add_plain] at hx176_0 | simp only [add_at] at hx176_0 | simp only [Addr.add, Nat.zero_add] at hx176_0 | skip); replace p176 := eq_true p176; replace q176 := eq_true q176; have p41 : 0 ≤ ((rd l1 x19_1) : Int) := of_decide_eq_true (by first | (with_reducible assumption) | assumption); have q41 : ((rd l1 x19_1) : Int) < ((x5_3.length : Int) : Int) := of_decide_eq_true (by first | (with_reducible assumption) | assumption); obtain ⟨hx41_0, hf41_0⟩ := Kd.R_celln 0 HO_5.out ((rd l1 x19_1) : Int) p41 q41; replace p41 := eq_true p41; replace q41 := eq_true q41; obtain ⟨hy45_, hz45_⟩ := Kd.R_celln 0 HO_5.out ((rd l1 x19_1) : Int) (of_decide_eq_true (by first | (with_reducible assumption) | assumption)) (of_decide_eq_true (by first | (with_reducible assumption) | assumption)); have HP45 := Kd.R_putg HO_5.out ((rd l1 x19_1) : Int) 1099511627777) | ((with_reducible refine gate_store (t := 2) (p := 75) rfl ?_); refine store_event (t := 2) (p := 75) (v := ?vo_w46) (w1 := (w44.setCell ⟨go39, ((rd l1 x19_1) : Int).toNat, none⟩ (.int .i64 1099511627777))) ?hg ?ho ?hn ?hr ?_; (case ho => rfl); (case hg => rfl); (case hn => rfl); (case hr => first | (go_simp; done) | (go_simp; rfl)); intro w46 hw; have hg : w44.grownBy w46 (some go39) := (by rw [hw]; exact HP45.2); have hp_ : Kd.R (Kd.int .i64) 2 w46 w.heap.size (fun _ => True) (.slice (some ⟨go39, 0, none⟩) x5_3.length co42) y177 := (by rw [hw, Ny177.out]; exact HP45.1); clear HP45; have n0_ := Aside0.mk (hp_); have n1_ := Aside0.mk (Kd.V_afterv (v := (.slice (some ⟨go39, 0, none⟩) x5_3.length co42)) (v1 := (.slice (some ⟨go39, 0, none⟩) x5_3.length co42)) (ok := (fun k_ => k_ ≠ gb158)) (by (with_reducible repeat (first | apply Kd.V_alloc | apply Kd.V_drewN | apply Kd.V_drew)); exact HO_46.out) hg (.inl rfl)); have n2_ := Aside0.mk (blk_grown (g := gb158) (o := .cells #[.slice (some ad164) l0_0.length c0_0, .int .i64 a0_1] 24 (0, 0)) (by (with_reducible repeat (first | refine blk_drewN ?_ _ | refine blk_drew ?_ | refine blk_alloc ?_ _)); exact BK158.out) hg (Kd.R_ne HO_5.out BK158.out (by decide))); have n3_ := Aside0.mk ((by rw [hw]; exact below_set (HB.out) GB39.out : Below w.heap.size w w46)); clear HO_5; clear HO_46; clear BK158; clear HB; have HO_5 := n0_; have HO_46 := n1_; have BK158 := n2_; have HB := n3_; clear n0_ n1_ n2_ n3_; clear hg hw hp_))
                                                  go_roundg k4
                                                  case measure => have := HK1.out; have := HJ13.out; have := HK3.out; have := HK4.out; omega
                                                  case rel => exact ⟨(y177), (wrap64 (x41_3 + 1)), (by first | rfl | (simp; done) | (simp [*]; done)), H', ⟨by have := HK1.out; have := HJ13.out; have := HK3.out; have := HK4.out; omega⟩, ⟨by (with_reducible repeat (first | apply Kd.R_alloc | apply Kd.R_drewN | apply Kd.R_drew)); exact HO_5.out⟩, ⟨by (with_reducible repeat (first | refine blk_drewN ?_ _ | refine blk_drew ?_ | refine blk_alloc ?_ _)); exact BK158.out⟩, ⟨by repeat (first | (with_reducible first | exact HB.out | apply below_alloc | apply pw_below_drewN | apply below_drew1 | refine below_set ?_ GE158.out) | exact HB.out)⟩⟩
                                                · rw [if_neg c40] at H
                                                  have c40b0 : decide (1099511627776 < (rd y175 (rd l1 x19_1))) = false := decide_eq_false c40
                                                  clear c40
                                                  have H' := Aside0.mk H
                                                  clear H
                                                  obtain ⟨Ao47, co47, eo47⟩ := Kd.R_slice HO_5.out
                                                  subst eo47
                                                  have p174 : 0 ≤ ((rd l1 x19_1) : Int) := of_decide_eq_true (by first | (with_reducible assumption) | assumption)
                                                  have q174 : (rd l1 x19_1) < (x5_3.length : Int) := of_decide_eq_true (by first | (with_reducible assumption) | assumption)
                                                  obtain ⟨ad174, e174, hx174_0⟩ := Kd.at_int (Kd.R_reads' HO_5.out).2.2 (rd l1 x19_1) p174 q174
                                                  cases e174
                                                  replace p174 := eq_true p174
                                                  replace q174 := eq_true q174
                                                  have p39 : 0 ≤ ((rd l1 x19_1) : Int) := of_decide_eq_true (by first | (with_reducible assumption) | assumption)
                                                  have q39 : ((rd l1 x19_1) : Int) < ((x5_3.length : Int) : Int) := of_decide_eq_true (by first | (with_reducible assumption) | assumption)
                                                  obtain ⟨go39, co39, eo39, gb39, gl39, cl39, HG39⟩ := Kd.R_form HO_5.out (by omega)
                                                  (first | cases eo39 | (injection eo39 with ea_ en_ ec_; (first | subst ea_ | (injection ea_ with ea_; subst ea_)); subst ec_; clear en_))
                                                  have GB39 := Aside0.mk gb39
                                                  have GG39 := Aside0.mk HG39
                                                  clear gb39 gl39 HG39
                                                  (first | simp only [add_plain] at hx174_0 | skip)
                                                  obtain ⟨hx39_0, hf39_0⟩ := Kd.R_celln 0 HO_5.out ((rd l1 x19_1) : Int) p39 q39
                                                  replace p39 := eq_true p39
                                                  replace q39 := eq_true q39
                                                  obtain ⟨hy48_, hz48_⟩ := Kd.R_celln 0 HO_5.out ((rd l1 x19_1) : Int) (of_decide_eq_true (by first | (with_reducible assumption) | assumption)) (of_decide_eq_true (by first | (with_reducible assumption) | assumption))
                                                  have HP48 := Kd.R_putg HO_5.out ((rd l1 x19_1) : Int) (wrap64 ((rd x5_3 (rd l1 x19_1)) + x10_4))
                                                  go_wp2_with (first | ((with_reducible refine gate_store (t := 2) (p := 67) rfl ?_); refine store_event (t := 2) (p := 67) (v := ?vo_w49) (w1 := (wr.setCell ⟨go39, ((rd l1 x19_1) : Int).toNat, none⟩ (.int .i64 (wrap64 ((rd x5_3 (rd l1 x19_1)) + x10_4))))) ?hg ?ho ?hn ?hr ?_; (case ho => rfl); (case hg => rfl); (case hn => rfl); (case hr => first | (go_simp; done) | (go_simp; rfl)); intro w49 hw; have hg : wr.grownBy w49 (some go39) := (by rw [hw]; exact HP48.2); have hp_ : Kd.R (Kd.int .i64) 2 w49 w.heap.size (fun _ => True) (.slice (some ⟨go39, 0, none⟩) x5_3.length co47) y175 := (by rw [hw, Ny175.out]; exact HP48.1); clear HP48; have n0_ := Aside0.mk (hp_); have n1_ := Aside0.mk (Kd.V_afterv (v := (.slice (some ⟨go39, 0, none⟩) x5_3.length co47)) (v1 := (.slice (some ⟨go39, 0, none⟩) x5_3.length co47)) (ok := (fun k_ => k_ ≠ gb158)) (by (with_reducible repeat (first | apply Kd.V_alloc | apply Kd.V_drewN | apply Kd.V_drew)); exact Kd.V_mono HO_46.out (fun _ hk => ⟨hk.2, hk.1⟩)) hg (.inl rfl)); have n2_ := Aside0.mk (blk_grown (g := gb158) (o := .cells #[.slice (some ad164) l0_0.length c0_0, .int .i64 a0_1] 24 (0, 0)) (by (with_reducible repeat (first | refine blk_drewN ?_ _ | refine blk_drew ?_ | refine blk_alloc ?_ _)); exact BK158.out) hg (Kd.R_ne HO_5.out BK158.out (by decide))); have n3_ := Aside0.mk ((by rw [hw]; exact below_set (HB.out) GB39.out : Below w.heap.size w w49)); clear HO_5; clear HO_46; clear BK158; clear HB; have HO_5 := n0_; have HO_46 := n1_; have BK158 := n2_; have HB := n3_; clear n0_ n1_ n2_ n3_; clear hg hw hp_; have p176 : 0 ≤ ((rd l1 x19_1) : Int) := of_decide_eq_true (by first | (with_reducible assumption) | assumption); have q176 : (rd l1 x19_1) < (y175.length : Int) := (by have h_ : ((rd l1 x19_1) : Int) < ((x5_3.length : Int) : Int) := of_decide_eq_true (by first | (with_reducible assumption) | assumption); first | (have e_ := (Kd.R_reads' HO_5.out).1; omega) | simpa only [Ny175.out, List.length_set] using h_); have ql176 : (((rd l1 x19_1) : Int) < ((x5_3.length : Int) : Int)) = True := eq_true (of_decide_eq_true (by first | (with_reducible assumption) | assumption)); obtain ⟨ad176, e176, hx176_0⟩ := Kd.at_int (Kd.R_reads' HO_5.out).2.2 (rd l1 x19_1) p176 q176; obtain rfl : (⟨go39, 0, none⟩ : Addr) = ad176 := (by injection e176); (first | simp only [add_plain] at hx176_0 | simp only [add_at] at hx176_0 | simp only [Addr.add, Nat.zero_add] at hx176_0 | skip); replace p176 := eq_true p176; replace q176 := eq_true q176))
                                                  go_roundg k4
                                                  case measure => have := HK1.out; have := HJ13.out; have := HK3.out; have := HK4.out; omega
                                                  case rel => exact ⟨(y175), (wrap64 (x41_3 + 1)), (by first | rfl | (simp; done) | (simp [*]; done)), H', ⟨by have := HK1.out; have := HJ13.out; have := HK3.out; have := HK4.out; omega⟩, ⟨by (with_reducible repeat (first | apply Kd.R_alloc | apply Kd.R_drewN | apply Kd.R_drew)); exact HO_5.out⟩, ⟨by (with_reducible repeat (first | refine blk_drewN ?_ _ | refine blk_drew ?_ | refine blk_alloc ?_ _)); exact BK158.out⟩, ⟨by repeat (first | (with_reducible first | exact HB.out | apply below_alloc | apply pw_below_drewN | apply below_drew1 | refine below_set ?_ GE158.out) | exact HB.out)⟩⟩
                                              · rw [if_neg c38] at H
                                                exact absurd H (by simp)
                                            · rw [if_neg c37] at H
                                              exact absurd H (by simp)
                                    · rw [if_neg c26] at H
                                      exact absurd H (by simp)
                                  · rw [if_neg c25] at H
                                    exact absurd H (by simp)
                                · rw [if_neg c24] at H
                                  have c24b0 : decide (x41_3 < (((rd_T40 l0_0 (rd l1 x19_1)).f3).length : Int)) = false := decide_eq_false c24
                                  clear c24
                                  have H' := Aside0.mk H
                                  clear H
                                  go_wp2
                                  go_roundg k3
                                  case measure => have := HK1.out; have := HJ13.out; have := HK3.out; omega
                                  case rel => exact ⟨(x5_3), (wrap64 (x19_1 + 1)), (by first | rfl | (simp; done) | (simp [*]; done)), H', ⟨by have := HK1.out; have := HJ13.out; have := HK3.out; omega⟩, ⟨by (with_reducible repeat (first | apply Kd.R_alloc | apply Kd.R_drewN | apply Kd.R_drew)); exact HO_5.out⟩, ⟨by (with_reducible repeat (first | refine blk_drewN ?_ _ | refine blk_drew ?_ | refine blk_alloc ?_ _)); exact BK158.out⟩, ⟨by repeat (first | (with_reducible first | exact HB.out | apply below_alloc | apply pw_below_drewN | apply below_drew1 | refine below_set ?_ GE158.out) | exact HB.out)⟩⟩
                          · rw [if_neg c22] at H
                            exact absurd H (by simp)
                        · rw [if_neg c21] at H
                          exact absurd H (by simp)
                  · rw [if_neg c13] at H
                    exact absurd H (by simp)
                · rw [if_neg c12] at H
                  exact absurd H (by simp)
              · rw [if_neg c11] at H
                exact absurd H (by simp)
            · rw [if_neg c10] at H
              exact absurd H (by simp)
          · rw [if_neg c9] at H
            have c9b0 : decide (x19_1 < (l1.length : Int)) = false := decide_eq_false c9
            clear c9
            by_cases c50 : 0 ≤ a0_1
            · rw [if_pos c50] at H
              have c50b0 : decide (0 ≤ a0_1) = true := decide_eq_true c50
              clear c50
              by_cases c51 : a0_1 < (x5_1.length : Int)
              · rw [if_pos c51] at H
                have c51b0 : decide (a0_1 < (x5_1.length : Int)) = true := decide_eq_true c51
                clear c51
                obtain rfl := Option.some.inj H
                have hcz52_0 : wr.cell? ⟨gb158, 0, none⟩ = some (.slice A0_0 l0_0.length c0_0) := (blk_cell BK158.out 0).trans rfl
                have hcz52_1 : wr.cell? ⟨gb158, 1, none⟩ = some (.int .i64 a0_1) := (blk_cell BK158.out 1).trans rfl
                have hfz52_0 := blk_frozen BK158.out 0
                have hfz52_1 := blk_frozen BK158.out 1
                obtain ⟨Ao53, co53, eo53⟩ := Kd.R_slice HO_5.out
                subst eo53
                have p162 : 0 ≤ (a0_1 : Int) := of_decide_eq_true (by first | (with_reducible assumption) | assumption)
                have q162 : a0_1 < (x5_1.length : Int) := of_decide_eq_true (by first | (with_reducible assumption) | assumption)
                obtain ⟨ad162, e162, hx162_0⟩ := Kd.at_int (Kd.R_reads' HO_5.out).2.2 a0_1 p162 q162
                cases e162
                replace p162 := eq_true p162
                replace q162 := eq_true q162
                go_wp2
                go_ret
                exact ⟨by first | rfl | (simp [errW_none, errW_some] <;> rfl) | (simp [*, errW_none, errW_some] <;> rfl), by repeat (first | (with_reducible first | exact HB.out | apply below_alloc | apply pw_below_drewN | apply below_drew1 | refine below_set ?_ GE158.out) | exact HB.out)⟩
              · rw [if_neg c51] at H
                exact absurd H (by simp)
            · rw [if_neg c50] at H
              exact absurd H (by simp)
    · rw [if_neg c4] at H
      exact absurd H (by simp)
  · rw [if_neg c3] at H
    exact absurd H (by simp)

end Go.Proofs.Ytdbomblcijejcaa.PThicketCounts
