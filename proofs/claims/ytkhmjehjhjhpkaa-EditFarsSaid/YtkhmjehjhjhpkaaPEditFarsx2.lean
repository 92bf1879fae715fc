-- Written by a program of this session: a turn of the print kit's own.
import Derived.Test.YtkhmjehjhjhpkaaPEditFarsx0
namespace Go.Proofs.Ytkhmjehjhjhpkaa.PEditFars
open Go.RowKit Go.Proofs.YtkhmjehjhjhpkaaW.PrintWords Go.Proofs.YtkhmjehjhjhpkaaW.PrintLast Go.Proofs.YtkhmjehjhjhpkaaW.PrintMore
attribute [local go_sem] max2_int min2_int max_two min_two max_three min_three max_four min_four   -- for this text's walks alone
set_option linter.unusedVariables false
set_option linter.unusedSimpArgs false

/-! ### coppicerref_Far: function 29 -/
mutual
def coppicerref_Far.l0 : Nat → List Int → List Int → List (List Int) → Int → Option (Int)
  | 0, _, _, _, _ => none
  | k + 1, x0, x1, x5, x6 => if x6 ≤ (x0.length : Int) then (if 0 ≤ (wrap64 ((x1.length : Int) + 1)) then (if (wrap64 ((x1.length : Int) + 1) : Int).toNat ≤ 35184372088832 then (if 0 ≤ x6 then (if x6 < (x5.length : Int) then (coppicerref_Far.l1 k x0 x1 (x5.set (x6 : Int).toNat (List.replicate (wrap64 ((x1.length : Int) + 1) : Int).toNat 0)) x6 0) else (none)) else (none)) else (none)) else (none)) else (if 0 ≤ (x0.length : Int) then (if (x0.length : Int) < (x5.length : Int) then (if 0 ≤ (x1.length : Int) then (if (x1.length : Int) < ((rd_L2 x5 (x0.length : Int)).length : Int) then (some (rd (rd_L2 x5 (x0.length : Int)) (x1.length : Int))) else (none)) else (none)) else (none)) else (none))
def coppicerref_Far.l1 : Nat → List Int → List Int → List (List Int) → Int → Int → Option (Int)
  | 0, _, _, _, _, _ => none
  | k + 1, x0, x1, x5, x6, x7 => if x7 ≤ (x1.length : Int) then (if x6 > 0 then (if 0 ≤ (wrap64 (x6 - 1)) then (if (wrap64 (x6 - 1)) < (x5.length : Int) then (if 0 ≤ x7 then (if x7 < ((rd_L2 x5 (wrap64 (x6 - 1))).length : Int) then (coppicerref_Far.j2 k x0 x1 x5 x6 x7 (wrap64 (x6 + x7)) (decide ((wrap64 ((rd (rd_L2 x5 (wrap64 (x6 - 1))) x7) + 1)) < (wrap64 (x6 + x7))))) else (none)) else (none)) else (none)) else (none)) else (coppicerref_Far.j2 k x0 x1 x5 x6 x7 (wrap64 (x6 + x7)) false)) else (coppicerref_Far.l0 k x0 x1 x5 (wrap64 (x6 + 1)))
def coppicerref_Far.j2 : Nat → List Int → List Int → List (List Int) → Int → Int → Int → Bool → Option (Int)
  | 0, _, _, _, _, _, _, _ => none
  | k + 1, x0, x1, x5, x6, x7, x8, x50 => if x50 = true then (if 0 ≤ (wrap64 (x6 - 1)) then (if (wrap64 (x6 - 1)) < (x5.length : Int) then (if 0 ≤ x7 then (if x7 < ((rd_L2 x5 (wrap64 (x6 - 1))).length : Int) then (coppicerref_Far.j3 k x0 x1 x5 x6 x7 (wrap64 ((rd (rd_L2 x5 (wrap64 (x6 - 1))) x7) + 1))) else (none)) else (none)) else (none)) else (none)) else (coppicerref_Far.j3 k x0 x1 x5 x6 x7 x8)
def coppicerref_Far.j3 : Nat → List Int → List Int → List (List Int) → Int → Int → Int → Option (Int)
  | 0, _, _, _, _, _, _ => none
  | k + 1, x0, x1, x5, x6, x7, x8 => if x7 > 0 then (if 0 ≤ x6 then (if x6 < (x5.length : Int) then (if 0 ≤ (wrap64 (x7 - 1)) then (if (wrap64 (x7 - 1)) < ((rd_L2 x5 x6).length : Int) then (coppicerref_Far.j4 k x0 x1 x5 x6 x7 x8 (decide ((wrap64 ((rd (rd_L2 x5 x6) (wrap64 (x7 - 1))) + 1)) < x8))) else (none)) else (none)) else (none)) else (none)) else (coppicerref_Far.j4 k x0 x1 x5 x6 x7 x8 false)
def coppicerref_Far.j4 : Nat → List Int → List Int → List (List Int) → Int → Int → Int → Bool → Option (Int)
  | 0, _, _, _, _, _, _, _ => none
  | k + 1, x0, x1, x5, x6, x7, x8, x74 => if x74 = true then (if 0 ≤ x6 then (if x6 < (x5.length : Int) then (if 0 ≤ (wrap64 (x7 - 1)) then (if (wrap64 (x7 - 1)) < ((rd_L2 x5 x6).length : Int) then (coppicerref_Far.j5 k x0 x1 x5 x6 x7 (wrap64 ((rd (rd_L2 x5 x6) (wrap64 (x7 - 1))) + 1))) else (none)) else (none)) else (none)) else (none)) else (coppicerref_Far.j5 k x0 x1 x5 x6 x7 x8)
def coppicerref_Far.j5 : Nat → List Int → List Int → List (List Int) → Int → Int → Int → Option (Int)
  | 0, _, _, _, _, _, _ => none
  | k + 1, x0, x1, x5, x6, x7, x8 => if x6 > 0 then (coppicerref_Far.j6 k x0 x1 x5 x6 x7 x8 (decide (x7 > 0))) else (coppicerref_Far.j6 k x0 x1 x5 x6 x7 x8 false)
def coppicerref_Far.j6 : Nat → List Int → List Int → List (List Int) → Int → Int → Int → Bool → Option (Int)
  | 0, _, _, _, _, _, _, _ => none
  | k + 1, x0, x1, x5, x6, x7, x8, x89 => if x89 = true then (if 0 ≤ (wrap64 (x6 - 1)) then (if (wrap64 (x6 - 1)) < (x5.length : Int) then (if 0 ≤ (wrap64 (x7 - 1)) then (if (wrap64 (x7 - 1)) < ((rd_L2 x5 (wrap64 (x6 - 1))).length : Int) then (if (wrap64 (x6 - 1)) < (x0.length : Int) then (if (wrap64 (x7 - 1)) < (x1.length : Int) then (if (rd x0 (wrap64 (x6 - 1))) = (rd x1 (wrap64 (x7 - 1))) then (if (rd (rd_L2 x5 (wrap64 (x6 - 1))) (wrap64 (x7 - 1))) < x8 then (if 0 ≤ x6 then (if x6 < (x5.length : Int) then (if 0 ≤ x7 then (if x7 < ((rd_L2 x5 x6).length : Int) then (coppicerref_Far.l1 k x0 x1 (x5.set (x6 : Int).toNat ((rd_L2 x5 x6).set (x7 : Int).toNat (rd (rd_L2 x5 (wrap64 (x6 - 1))) (wrap64 (x7 - 1))))) x6 (wrap64 (x7 + 1))) else (none)) else (none)) else (none)) else (none)) else (if 0 ≤ x6 then (if x6 < (x5.length : Int) then (if 0 ≤ x7 then (if x7 < ((rd_L2 x5 x6).length : Int) then (coppicerref_Far.l1 k x0 x1 (x5.set (x6 : Int).toNat ((rd_L2 x5 x6).set (x7 : Int).toNat x8)) x6 (wrap64 (x7 + 1))) else (none)) else (none)) else (none)) else (none))) else (if (wrap64 ((rd (rd_L2 x5 (wrap64 (x6 - 1))) (wrap64 (x7 - 1))) + 1)) < x8 then (if 0 ≤ x6 then (if x6 < (x5.length : Int) then (if 0 ≤ x7 then (if x7 < ((rd_L2 x5 x6).length : Int) then (coppicerref_Far.l1 k x0 x1 (x5.set (x6 : Int).toNat ((rd_L2 x5 x6).set (x7 : Int).toNat (wrap64 ((rd (rd_L2 x5 (wrap64 (x6 - 1))) (wrap64 (x7 - 1))) + 1)))) x6 (wrap64 (x7 + 1))) else (none)) else (none)) else (none)) else (none)) else (if 0 ≤ x6 then (if x6 < (x5.length : Int) then (if 0 ≤ x7 then (if x7 < ((rd_L2 x5 x6).length : Int) then (coppicerref_Far.l1 k x0 x1 (x5.set (x6 : Int).toNat ((rd_L2 x5 x6).set (x7 : Int).toNat x8)) x6 (wrap64 (x7 + 1))) else (none)) else (none)) else (none)) else (none)))) else (none)) else (none)) else (none)) else (none)) else (none)) else (none)) else (if 0 ≤ x6 then (if x6 < (x5.length : Int) then (if 0 ≤ x7 then (if x7 < ((rd_L2 x5 x6).length : Int) then (coppicerref_Far.l1 k x0 x1 (x5.set (x6 : Int).toNat ((rd_L2 x5 x6).set (x7 : Int).toNat x8)) x6 (wrap64 (x7 + 1))) else (none)) else (none)) else (none)) else (none))
end
def coppicerref_Far.f (k : Nat) (l0 : List Int) (l1 : List Int) : Option (Int) := if 0 ≤ (wrap64 ((l0.length : Int) + 1)) then (if (wrap64 ((l0.length : Int) + 1) : Int).toNat ≤ 11728124029610 then (coppicerref_Far.l0 k l0 l1 (List.replicate (wrap64 ((l0.length : Int) + 1) : Int).toNat []) 0) else (none)) else (none)
theorem coppicerref_Far.mono_l : ∀ k, (∀ y0 y1 y2 y3, LeO (coppicerref_Far.l0 k y0 y1 y2 y3) (coppicerref_Far.l0 (k + 1) y0 y1 y2 y3)) ∧ (∀ y0 y1 y2 y3 y4, LeO (coppicerref_Far.l1 k y0 y1 y2 y3 y4) (coppicerref_Far.l1 (k + 1) y0 y1 y2 y3 y4)) ∧ (∀ y0 y1 y2 y3 y4 y5 y6, LeO (coppicerref_Far.j2 k y0 y1 y2 y3 y4 y5 y6) (coppicerref_Far.j2 (k + 1) y0 y1 y2 y3 y4 y5 y6)) ∧ (∀ y0 y1 y2 y3 y4 y5, LeO (coppicerref_Far.j3 k y0 y1 y2 y3 y4 y5) (coppicerref_Far.j3 (k + 1) y0 y1 y2 y3 y4 y5)) ∧ (∀ y0 y1 y2 y3 y4 y5 y6, LeO (coppicerref_Far.j4 k y0 y1 y2 y3 y4 y5 y6) (coppicerref_Far.j4 (k + 1) y0 y1 y2 y3 y4 y5 y6)) ∧ (∀ y0 y1 y2 y3 y4 y5, LeO (coppicerref_Far.j5 k y0 y1 y2 y3 y4 y5) (coppicerref_Far.j5 (k + 1) y0 y1 y2 y3 y4 y5)) ∧ (∀ y0 y1 y2 y3 y4 y5 y6, LeO (coppicerref_Far.j6 k y0 y1 y2 y3 y4 y5 y6) (coppicerref_Far.j6 (k + 1) y0 y1 y2 y3 y4 y5 y6))
  | 0 => ⟨fun _ _ _ _ r h => by simp [coppicerref_Far.l0] at h, fun _ _ _ _ _ r h => by simp [coppicerref_Far.l1] at h, fun _ _ _ _ _ _ _ r h => by simp [coppicerref_Far.j2] at h, fun _ _ _ _ _ _ r h => by simp [coppicerref_Far.j3] at h, fun _ _ _ _ _ _ _ r h => by simp [coppicerref_Far.j4] at h, fun _ _ _ _ _ _ r h => by simp [coppicerref_Far.j5] at h, fun _ _ _ _ _ _ _ r h => by simp [coppicerref_Far.j6] at h⟩
  | k + 1 => by
    obtain ⟨ih0, ih1, ih2, ih3, ih4, ih5, ih6⟩ := coppicerref_Far.mono_l k
    refine ⟨?_, ?_, ?_, ?_, ?_, ?_, ?_⟩
    · intro y0 y1 y2 y3
      unfold coppicerref_Far.l0
      repeat' first
      | (with_reducible exact ih0 _ _ _ _)
      | (with_reducible exact ih1 _ _ _ _ _)
      | (with_reducible exact ih2 _ _ _ _ _ _ _)
      | (with_reducible exact ih3 _ _ _ _ _ _)
      | (with_reducible exact ih4 _ _ _ _ _ _ _)
      | (with_reducible exact ih5 _ _ _ _ _ _)
      | (with_reducible exact ih6 _ _ _ _ _ _ _)
      | (with_reducible exact LeO.refl _)
      | (with_reducible exact LeO.none _)
      | (with_reducible refine LeO.ite ?_ ?_)
      | (with_reducible refine LeO.bind ?_ (fun _ => ?_))
      | exact ih0 _ _ _ _
      | exact ih1 _ _ _ _ _
      | exact ih2 _ _ _ _ _ _ _
      | exact ih3 _ _ _ _ _ _
      | exact ih4 _ _ _ _ _ _ _
      | exact ih5 _ _ _ _ _ _
      | exact ih6 _ _ _ _ _ _ _
      | exact LeO.none _
      | refine LeO.ite ?_ ?_
      | refine LeO.bind ?_ (fun _ => ?_)
    · intro y0 y1 y2 y3 y4
      unfold coppicerref_Far.l1
      repeat' first
      | (with_reducible exact ih0 _ _ _ _)
      | (with_reducible exact ih1 _ _ _ _ _)
      | (with_reducible exact ih2 _ _ _ _ _ _ _)
      | (with_reducible exact ih3 _ _ _ _ _ _)
      | (with_reducible exact ih4 _ _ _ _ _ _ _)
      | (with_reducible exact ih5 _ _ _ _ _ _)
      | (with_reducible exact ih6 _ _ _ _ _ _ _)
      | (with_reducible exact LeO.refl _)
      | (with_reducible exact LeO.none _)
      | (with_reducible refine LeO.ite ?_ ?_)
      | (with_reducible refine LeO.bind ?_ (fun _ => ?_))
      | exact ih0 _ _ _ _
      | exact ih1 _ _ _ _ _
      | exact ih2 _ _ _ _ _ _ _
      | exact ih3 _ _ _ _ _ _
      | exact ih4 _ _ _ _ _ _ _
      | exact ih5 _ _ _ _ _ _
      | exact ih6 _ _ _ _ _ _ _
      | exact LeO.none _
      | refine LeO.ite ?_ ?_
      | refine LeO.bind ?_ (fun _ => ?_)
    · intro y0 y1 y2 y3 y4 y5 y6
      unfold coppicerref_Far.j2
      repeat' first
      | (with_reducible exact ih0 _ _ _ _)
      | (with_reducible exact ih1 _ _ _ _ _)
      | (with_reducible exact ih2 _ _ _ _ _ _ _)
      | (with_reducible exact ih3 _ _ _ _ _ _)
      | (with_reducible exact ih4 _ _ _ _ _ _ _)
      | (with_reducible exact ih5 _ _ _ _ _ _)
      | (with_reducible exact ih6 _ _ _ _ _ _ _)
      | (with_reducible exact LeO.refl _)
      | (with_reducible exact LeO.none _)
      | (with_reducible refine LeO.ite ?_ ?_)
      | (with_reducible refine LeO.bind ?_ (fun _ => ?_))
      | exact ih0 _ _ _ _
      | exact ih1 _ _ _ _ _
      | exact ih2 _ _ _ _ _ _ _
      | exact ih3 _ _ _ _ _ _
      | exact ih4 _ _ _ _ _ _ _
      | exact ih5 _ _ _ _ _ _
      | exact ih6 _ _ _ _ _ _ _
      | exact LeO.none _
      | refine LeO.ite ?_ ?_
      | refine LeO.bind ?_ (fun _ => ?_)
    · intro y0 y1 y2 y3 y4 y5
      unfold coppicerref_Far.j3
      repeat' first
      | (with_reducible exact ih0 _ _ _ _)
      | (with_reducible exact ih1 _ _ _ _ _)
      | (with_reducible exact ih2 _ _ _ _ _ _ _)
      | (with_reducible exact ih3 _ _ _ _ _ _)
      | (with_reducible exact ih4 _ _ _ _ _ _ _)
      | (with_reducible exact ih5 _ _ _ _ _ _)
      | (with_reducible exact ih6 _ _ _ _ _ _ _)
      | (with_reducible exact LeO.refl _)
      | (with_reducible exact LeO.none _)
      | (with_reducible refine LeO.ite ?_ ?_)
      | (with_reducible refine LeO.bind ?_ (fun _ => ?_))
      | exact ih0 _ _ _ _
      | exact ih1 _ _ _ _ _
      | exact ih2 _ _ _ _ _ _ _
      | exact ih3 _ _ _ _ _ _
      | exact ih4 _ _ _ _ _ _ _
      | exact ih5 _ _ _ _ _ _
      | exact ih6 _ _ _ _ _ _ _
      | exact LeO.none _
      | refine LeO.ite ?_ ?_
      | refine LeO.bind ?_ (fun _ => ?_)
    · intro y0 y1 y2 y3 y4 y5 y6
      unfold coppicerref_Far.j4
      repeat' first
      | (with_reducible exact ih0 _ _ _ _)
      | (with_reducible exact ih1 _ _ _ _ _)
      | (with_reducible exact ih2 _ _ _ _ _ _ _)
      | (with_reducible exact ih3 _ _ _ _ _ _)
      | (with_reducible exact ih4 _ _ _ _ _ _ _)
      | (with_reducible exact ih5 _ _ _ _ _ _)
      | (with_reducible exact ih6 _ _ _ _ _ _ _)
      | (with_reducible exact LeO.refl _)
      | (with_reducible exact LeO.none _)
      | (with_reducible refine LeO.ite ?_ ?_)
      | (with_reducible refine LeO.bind ?_ (fun _ => ?_))
      | exact ih0 _ _ _ _
      | exact ih1 _ _ _ _ _
      | exact ih2 _ _ _ _ _ _ _
      | exact ih3 _ _ _ _ _ _
      | exact ih4 _ _ _ _ _ _ _
      | exact ih5 _ _ _ _ _ _
      | exact ih6 _ _ _ _ _ _ _
      | exact LeO.none _
      | refine LeO.ite ?_ ?_
      | refine LeO.bind ?_ (fun _ => ?_)
    · intro y0 y1 y2 y3 y4 y5
      unfold coppicerref_Far.j5
      repeat' first
      | (with_reducible exact ih0 _ _ _ _)
      | (with_reducible exact ih1 _ _ _ _ _)
      | (with_reducible exact ih2 _ _ _ _ _ _ _)
      | (with_reducible exact ih3 _ _ _ _ _ _)
      | (with_reducible exact ih4 _ _ _ _ _ _ _)
      | (with_reducible exact ih5 _ _ _ _ _ _)
      | (with_reducible exact ih6 _ _ _ _ _ _ _)
      | (with_reducible exact LeO.refl _)
      | (with_reducible exact LeO.none _)
      | (with_reducible refine LeO.ite ?_ ?_)
      | (with_reducible refine LeO.bind ?_ (fun _ => ?_))
      | exact ih0 _ _ _ _
      | exact ih1 _ _ _ _ _
      | exact ih2 _ _ _ _ _ _ _
      | exact ih3 _ _ _ _ _ _
      | exact ih4 _ _ _ _ _ _ _
      | exact ih5 _ _ _ _ _ _
      | exact ih6 _ _ _ _ _ _ _
      | exact LeO.none _
      | refine LeO.ite ?_ ?_
      | refine LeO.bind ?_ (fun _ => ?_)
    · intro y0 y1 y2 y3 y4 y5 y6
      unfold coppicerref_Far.j6
      repeat' first
      | (with_reducible exact ih0 _ _ _ _)
      | (with_reducible exact ih1 _ _ _ _ _)
      | (with_reducible exact ih2 _ _ _ _ _ _ _)
      | (with_reducible exact ih3 _ _ _ _ _ _)
      | (with_reducible exact ih4 _ _ _ _ _ _ _)
      | (with_reducible exact ih5 _ _ _ _ _ _)
      | (with_reducible exact ih6 _ _ _ _ _ _ _)
      | (with_reducible exact LeO.refl _)
      | (with_reducible exact LeO.none _)
      | (with_reducible refine LeO.ite ?_ ?_)
      | (with_reducible refine LeO.bind ?_ (fun _ => ?_))
      | exact ih0 _ _ _ _
      | exact ih1 _ _ _ _ _
      | exact ih2 _ _ _ _ _ _ _
      | exact ih3 _ _ _ _ _ _
      | exact ih4 _ _ _ _ _ _ _
      | exact ih5 _ _ _ _ _ _
      | exact ih6 _ _ _ _ _ _ _
      | exact LeO.none _
      | refine LeO.ite ?_ ?_
      | refine LeO.bind ?_ (fun _ => ?_)
theorem coppicerref_Far.mono : ∀ a0 a1 k, LeO (coppicerref_Far.f k a0 a1) (coppicerref_Far.f (k + 1) a0 a1) := by
  intro a0 a1 k
  obtain ⟨ih0, ih1, ih2, ih3, ih4, ih5, ih6⟩ := coppicerref_Far.mono_l k
  unfold coppicerref_Far.f
  repeat' first
      | (with_reducible exact ih0 _ _ _ _)
      | (with_reducible exact ih1 _ _ _ _ _)
      | (with_reducible exact ih2 _ _ _ _ _ _ _)
      | (with_reducible exact ih3 _ _ _ _ _ _)
      | (with_reducible exact ih4 _ _ _ _ _ _ _)
      | (with_reducible exact ih5 _ _ _ _ _ _)
      | (with_reducible exact ih6 _ _ _ _ _ _ _)
      | (with_reducible exact LeO.refl _)
      | (with_reducible exact LeO.none _)
      | (with_reducible refine LeO.ite ?_ ?_)
      | (with_reducible refine LeO.bind ?_ (fun _ => ?_))
      | exact ih0 _ _ _ _
      | exact ih1 _ _ _ _ _
      | exact ih2 _ _ _ _ _ _ _
      | exact ih3 _ _ _ _ _ _
      | exact ih4 _ _ _ _ _ _ _
      | exact ih5 _ _ _ _ _ _
      | exact ih6 _ _ _ _ _ _ _
      | exact LeO.none _
      | refine LeO.ite ?_ ?_
      | refine LeO.bind ?_ (fun _ => ?_)
set_option maxHeartbeats 8000000 in
set_option maxRecDepth 100000 in
theorem coppicerref_Far.calls (k : Nat) (A0 : Option Addr) (c0 : Nat) (l0 : List Int) (A1 : Option Addr) (c1 : Nat) (l1 : List Int) (r : Int) (w : World) (hr0 : Kd.C (Kd.int .u8) w A0 l0.length l0) (hc0 : l0.length ≤ c0) (hr1 : Kd.C (Kd.int .u8) w A1 l1.length l1) (hc1 : l1.length ≤ c1) (h : coppicerref_Far.f k l0 l1 = some r) :
    Calls Try.prog 29 #[.slice A0 l0.length c0, .slice A1 l1.length c1] w fun e w' => e = .returned (.int .i64 r) ∧ Below w.heap.size w w' := by
  have HR0 := Aside0.mk hr0
  have HC0 := Aside0.mk hc0
  clear hr0 hc0
  have HR1 := Aside0.mk hr1
  have HC1 := Aside0.mk hc1
  clear hr1 hc1
  have HB := Aside0.mk (Below.refl w.heap.size w)
  have H : (if 0 ≤ (wrap64 ((l0.length : Int) + 1)) then (if (wrap64 ((l0.length : Int) + 1) : Int).toNat ≤ 11728124029610 then (coppicerref_Far.l0 k l0 l1 (List.replicate (wrap64 ((l0.length : Int) + 1) : Int).toNat []) 0) else (none)) else (none)) = some r := h
  clear h
  obtain ⟨ji3, hji3⟩ : ∃ j_ : Int, (wrap64 ((l0.length : Int) + 1)) = j_ := ⟨_, rfl⟩
  replace H : (if 0 ≤ (ji3) then (if (ji3 : Int).toNat ≤ 11728124029610 then (coppicerref_Far.l0 k l0 l1 (List.replicate (ji3 : Int).toNat []) 0) else (none)) else (none)) = some r := by first | (rw [hji3] at H; exact H) | (simp only [hji3] at H ⊢; exact H)
  have hji3w : (IntKind.i64.wrap ((l0.length : Int) + 1)) = ji3 := (i64_w _).trans hji3
  by_cases c4 : 0 ≤ (ji3)
  · rw [if_pos c4] at H
    have c4b0 := eq_true c4
    have c4b1 : decide (0 ≤ (ji3)) = true := decide_eq_true c4
    clear c4
    by_cases c5 : (ji3 : Int).toNat ≤ 11728124029610
    · rw [if_pos c5] at H
      have c5b0 := eq_true c5
      have c5b1 : decide ((ji3 : Int).toNat ≤ 11728124029610) = true := decide_eq_true c5
      clear c5
      obtain ⟨y116, hy116⟩ : ∃ y_ : List (List Int), y_ = (List.replicate (ji3 : Int).toNat []) := ⟨_, rfl⟩
      replace H : (coppicerref_Far.l0 k l0 l1 y116 0) = some r := by first | (rw [hy116]; with_reducible exact H) | (have H2_ := (Option.bind_some _ _).symm.trans H; rw [hy116]; with_reducible exact H2_) | (have H2_ := (Option.bind_some _ _).symm.trans H; with_reducible exact H2_) | with_reducible exact H | (rw [hy116]; exact H) | exact H
      have Ny116 := Aside0.mk hy116
      clear hy116
      have H' := Aside0.mk H
      clear H
      go_enter Try.func29, Try.ntmps29
      go_wp2_with (first | ((with_reducible refine gate_dst (N := 13) rfl ?_); refine Kd.S_make (Kd.slice 3 (Kd.int .i64)) _ 41 rfl (N := 13) rfl 48 _ _ rfl ji3 rfl rfl Try.underlying48 (.slice none 0 0) 24 info41 rfl (by decide) (by omega) [] (ok := fun _ => True) (okp := fun _ => True) ⟨_, rfl, Kd.R_nil _ _ _ _ _⟩ (fun _ hk => hk) trivial (of_decide_eq_true (by first | (with_reducible assumption) | assumption)) (Nat.le_trans (Nat.mul_le_mul_right _ (of_decide_eq_true (by first | (with_reducible assumption) | assumption) : ji3.toNat ≤ 11728124029610)) (by omega)) (Below.refl _ _) (Nat.le_refl _) ?_; intro v117 w6 ho7 hb hg_ hnew_; clear hg_ hnew_; (first | rw [← Ny116.out] at ho7 | (simp only [Int.reduceToNat] at ho7; rw [← Ny116.out] at ho7)); have n0_ := Aside0.mk (Kd.S_lower ho7 (below_size (by repeat (first | (with_reducible first | exact HB.out | apply below_alloc | apply pw_below_drewN | apply below_drew1) | exact HB.out)))); have n1_ := Aside0.mk (below_step (by repeat (first | (with_reducible first | exact HB.out | apply below_alloc | apply pw_below_drewN | apply below_drew1) | exact HB.out)) hb); clear HB; have HO118 := n0_; have HB := n1_; clear n0_ n1_; clear hb ho7))
      repeat (go_quiet (first | ((with_reducible refine gate_dst (N := 13) rfl ?_); refine Kd.S_make (Kd.slice 3 (Kd.int .i64)) _ 41 rfl (N := 13) rfl 48 _ _ rfl ji3 rfl rfl Try.underlying48 (.slice none 0 0) 24 info41 rfl (by decide) (by omega) [] (ok := fun _ => True) (okp := fun _ => True) ⟨_, rfl, Kd.R_nil _ _ _ _ _⟩ (fun _ hk => hk) trivial (of_decide_eq_true (by first | (with_reducible assumption) | assumption)) (Nat.le_trans (Nat.mul_le_mul_right _ (of_decide_eq_true (by first | (with_reducible assumption) | assumption) : ji3.toNat ≤ 11728124029610)) (by omega)) (Below.refl _ _) (Nat.le_refl _) ?_; intro v117 w6 ho7 hb hg_ hnew_; clear hg_ hnew_; (first | rw [← Ny116.out] at ho7 | (simp only [Int.reduceToNat] at ho7; rw [← Ny116.out] at ho7)); have n0_ := Aside0.mk (Kd.S_lower ho7 (below_size (by repeat (first | (with_reducible first | exact HB.out | apply below_alloc | apply pw_below_drewN | apply below_drew1) | exact HB.out)))); have n1_ := Aside0.mk (below_step (by repeat (first | (with_reducible first | exact HB.out | apply below_alloc | apply pw_below_drewN | apply below_drew1) | exact HB.out)) hb); clear HB; have HO118 := n0_; have HB := n1_; clear n0_ n1_; clear hb ho7)); try go_wp2_with (first | ((with_reducible refine gate_dst (N := 13) rfl ?_); refine Kd.S_make (Kd.slice 3 (Kd.int .i64)) _ 41 rfl (N := 13) rfl 48 _ _ rfl ji3 rfl rfl Try.underlying48 (.slice none 0 0) 24 info41 rfl (by decide) (by omega) [] (ok := fun _ => True) (okp := fun _ => True) ⟨_, rfl, Kd.R_nil _ _ _ _ _⟩ (fun _ hk => hk) trivial (of_decide_eq_true (by first | (with_reducible assumption) | assumption)) (Nat.le_trans (Nat.mul_le_mul_right _ (of_decide_eq_true (by first | (with_reducible assumption) | assumption) : ji3.toNat ≤ 11728124029610)) (by omega)) (Below.refl _ _) (Nat.le_refl _) ?_; intro v117 w6 ho7 hb hg_ hnew_; clear hg_ hnew_; (first | rw [← Ny116.out] at ho7 | (simp only [Int.reduceToNat] at ho7; rw [← Ny116.out] at ho7)); have n0_ := Aside0.mk (Kd.S_lower ho7 (below_size (by repeat (first | (with_reducible first | exact HB.out | apply below_alloc | apply pw_below_drewN | apply below_drew1) | exact HB.out)))); have n1_ := Aside0.mk (below_step (by repeat (first | (with_reducible first | exact HB.out | apply below_alloc | apply pw_below_drewN | apply below_drew1) | exact HB.out)) hb); clear HB; have HO118 := n0_; have HB := n1_; clear n0_ n1_; clear hb ho7)))
      go_loopg [6] k (fun kq v6 w' => ∃ (x5_1 : List (List Int)) (x6_1 : Int), v6 = .int .i64 x6_1 ∧ Aside0 (coppicerref_Far.l0 kq l0 l1 x5_1 x6_1 = some r) ∧ Aside0 (kq ≤ k) ∧ Aside0 (Kd.S (Kd.slice 3 (Kd.int .i64)) 41 w' w.heap.size (fun _ => True) v117 x5_1) ∧ Aside0 (Below w.heap.size w w'))
      case atStart => exact ⟨(y116), (0), (by first | rfl | (simp; done) | (simp [*]; done)), H', ⟨Nat.le_refl _⟩, ⟨by (with_reducible repeat (first | apply Kd.S_alloc | apply Kd.S_drewN | apply Kd.S_drew)); exact HO118.out⟩, ⟨by repeat (first | (with_reducible first | exact HB.out | apply below_alloc | apply pw_below_drewN | apply below_drew1) | exact HB.out)⟩⟩
      case round =>
        clear H'
        try clear c1
        try clear c2
        try clear p2
        try clear c4
        try clear c4b0
        try clear c4b1
        try clear c5
        try clear c5b0
        try clear c5b1
        try clear p6
        obtain ⟨x5_1, x6_1, rfl, HA, HK1, HO_5, HB⟩ := hrel
        cases gk with
        | zero => exact absurd HA.out (by simp [coppicerref_Far.l0])
        | succ k1 =>
          have H := HA.out
          clear HA
          simp only [coppicerref_Far.l0] at H
          by_cases c8 : x6_1 ≤ (l0.length : Int)
          · rw [if_pos c8] at H
            have c8b0 : decide (x6_1 ≤ (l0.length : Int)) = true := decide_eq_true c8
            clear c8
            obtain ⟨ji9, hji9⟩ : ∃ j_ : Int, (wrap64 ((l1.length : Int) + 1)) = j_ := ⟨_, rfl⟩
            replace H : (if 0 ≤ (ji9) then (if (ji9 : Int).toNat ≤ 35184372088832 then (if 0 ≤ x6_1 then (if x6_1 < (x5_1.length : Int) then (coppicerref_Far.l1 k1 l0 l1 (x5_1.set (x6_1 : Int).toNat (List.replicate (ji9 : Int).toNat 0)) x6_1 0) else (none)) else (none)) else (none)) else (none)) = some r := by first | (rw [hji9] at H; exact H) | (simp only [hji9] at H ⊢; exact H)
            have hji9w : (IntKind.i64.wrap ((l1.length : Int) + 1)) = ji9 := (i64_w _).trans hji9
            by_cases c10 : 0 ≤ (ji9)
            · rw [if_pos c10] at H
              have c10b0 := eq_true c10
              have c10b1 : decide (0 ≤ (ji9)) = true := decide_eq_true c10
              clear c10
              by_cases c11 : (ji9 : Int).toNat ≤ 35184372088832
              · rw [if_pos c11] at H
                have c11b0 := eq_true c11
                have c11b1 : decide ((ji9 : Int).toNat ≤ 35184372088832) = true := decide_eq_true c11
                clear c11
                obtain ⟨y121, hy121⟩ : ∃ y_ : List Int, y_ = (List.replicate (ji9 : Int).toNat 0) := ⟨_, rfl⟩
                replace H : (if 0 ≤ x6_1 then (if x6_1 < (x5_1.length : Int) then (coppicerref_Far.l1 k1 l0 l1 (x5_1.set (x6_1 : Int).toNat y121) x6_1 0) else (none)) else (none)) = some r := by first | (rw [hy121]; with_reducible exact H) | (have H2_ := (Option.bind_some _ _).symm.trans H; rw [hy121]; with_reducible exact H2_) | (have H2_ := (Option.bind_some _ _).symm.trans H; with_reducible exact H2_) | with_reducible exact H | (rw [hy121]; exact H) | exact H
                have Ny121 := Aside0.mk hy121
                clear hy121
                by_cases c12 : 0 ≤ x6_1
                · rw [if_pos c12] at H
                  have c12b0 : decide (0 ≤ x6_1) = true := decide_eq_true c12
                  clear c12
                  by_cases c13 : x6_1 < (x5_1.length : Int)
                  · rw [if_pos c13] at H
                    have c13b0 : decide (x6_1 < (x5_1.length : Int)) = true := decide_eq_true c13
                    clear c13
                    obtain ⟨y124, hy124⟩ : ∃ y_ : List (List Int), y_ = (x5_1.set (x6_1 : Int).toNat y121) := ⟨_, rfl⟩
                    replace H : (coppicerref_Far.l1 k1 l0 l1 y124 x6_1 0) = some r := by first | (rw [hy124]; with_reducible exact H) | (have H2_ := (Option.bind_some _ _).symm.trans H; rw [hy124]; with_reducible exact H2_) | (have H2_ := (Option.bind_some _ _).symm.trans H; with_reducible exact H2_) | with_reducible exact H | (rw [hy124]; exact H) | exact H
                    have Ny124 := Aside0.mk hy124
                    clear hy124
                    have H' := Aside0.mk H
                    clear H
                    go_wp2_with (first | ((with_reducible refine gate_dst (N := 25) rfl ?_); refine Kd.R_make (Kd.int .i64) _ 3 rfl (N := 25) rfl 41 _ _ rfl ji9 rfl rfl Try.underlying41 (.int .i64 0) 8 info3 rfl (by decide) (by omega) 0 (ok := fun _ => True) (okp := fun _ => True) rfl (fun _ hk => hk) trivial (of_decide_eq_true (by first | (with_reducible assumption) | assumption)) (Nat.le_trans (Nat.mul_le_mul_right _ (of_decide_eq_true (by first | (with_reducible assumption) | assumption) : ji9.toNat ≤ 35184372088832)) (by omega)) (Below.refl _ _) (Nat.le_refl _) ?_; intro v122 w15 ho16 hb hg_ hnew_; clear hg_ hnew_; (first | rw [← Ny121.out] at ho16 | (simp only [Int.reduceToNat] at ho16; rw [← Ny121.out] at ho16)); have n0_ := Aside0.mk (Kd.S_elder' (by (with_reducible repeat (first | apply Kd.S_alloc | apply Kd.S_drewN | apply Kd.S_drew)); exact HO_5.out) (Kd.R_base ho16) hb); have n1_ := Aside0.mk (Kd.R_lower ho16 (below_size (by repeat (first | (with_reducible first | exact HB.out | apply below_alloc | apply pw_below_drewN | apply below_drew1) | exact HB.out)))); have n2_ := Aside0.mk (below_step (by repeat (first | (with_reducible first | exact HB.out | apply below_alloc | apply pw_below_drewN | apply below_drew1) | exact HB.out)) hb); clear HO_5; clear HB; have HO_5 := n0_; have HO123 := n1_; have HB := n2_; clear n0_ n1_ n2_; clear hb ho16; have p14 : 0 ≤ (x6_1 : Int) := of_decide_eq_true (by first | (with_reducible assumption) | assumption); have q14 : (x6_1 : Int) < ((x5_1.length : Int) : Int) := of_decide_eq_true (by first | (with_reducible assumption) | assumption); obtain ⟨go14, co14, eo14, gb14, gl14, cl14, HG14⟩ := Kd.S_form HO_5.out (by omega); (first | cases eo14 | (injection eo14 with ea_ en_ ec_; (first | subst ea_ | (injection ea_ with ea_; subst ea_)); subst ec_; clear en_)); have GB14 := Aside0.mk gb14; have GG14 := Aside0.mk HG14; clear gb14 gl14 HG14; obtain ⟨_, ce14, hcl14, hM14, hcc14, hfr14, _, _⟩ := Kd.S_elem HO_5.out [] (x6_1 : Int) p14 q14; obtain ⟨ve14_0, rfl, ge14_0⟩ := hM14; have hx14_0 := hcc14 0 _ rfl; have hf14_0 := hfr14 0; (try simp only [show ((Kd.slice 3 (Kd.int .i64))).sz = 1 from rfl, Nat.mul_one, Nat.add_zero] at hx14_0); (try simp only [show ((Kd.slice 3 (Kd.int .i64))).sz = 1 from rfl, Nat.mul_one, Nat.add_zero] at hf14_0); (try clear hcl14); (try clear hcc14); (try clear hfr14); (try clear hM14); replace p14 := eq_true p14; replace q14 := eq_true q14; have n_ := Aside0.mk (Kd.S_mono (ok' := (fun k_ => some k_ ≠ (v122 : Value).ownBlock)) HO_5.out (fun k_ hk => hk.2)); clear HO_5; have HO_5 := n_; clear n_; have HX17 := Aside0.mk (show Kd.S (Kd.slice 3 (Kd.int .i64)) 41 w15 w.heap.size (fun k_ => ((fun _ => True)) k_ ∧ ¬ ((fun k_ => some k_ = (v122 : Value).ownBlock)) k_) (.slice (some ⟨go14, 0, none⟩) x5_1.length co14) x5_1 from (by (with_reducible repeat (first | apply Kd.S_alloc | apply Kd.S_drewN | apply Kd.S_drew)); exact Kd.S_mono HO_5.out (fun k_ hk => ⟨trivial, fun e_ => hk e_⟩))); obtain ⟨oki17, ce17, hcl17, hM17, hcc17, hfr17, hoki17, hH17⟩ := Kd.S_elem HX17.out [] (x6_1 : Int) (of_decide_eq_true (by first | (with_reducible assumption) | assumption)) (by have h_ : (x6_1 : Int) < ((x5_1.length : Int) : Int) := of_decide_eq_true (by first | (with_reducible assumption) | assumption); first | exact h_ | (have e_ := (Kd.S_reads' HO_5.out).1; omega) | simpa using h_); obtain ⟨ve17_0, rfl, ge17_0⟩ := hM17; have HP17 := Kd.S_seg hH17 (of_decide_eq_true (by first | (with_reducible assumption) | assumption)) (by have h_ : (x6_1 : Int) < ((x5_1.length : Int) : Int) := of_decide_eq_true (by first | (with_reducible assumption) | assumption); first | exact h_ | (have e_ := (Kd.S_reads' HO_5.out).1; omega) | simpa using h_) (seg := [v122]) (j := 0) (show 1 ≤ 1 from by decide) (x' := y121) (Kd.M_row (Kd.R_mono (Kd.R_tight rfl (Kd.R_mono (ok' := fun k_ => ((fun _ => True)) k_ ∧ k_ ≠ go14) (Kd.R_apart' (HO123.out) (Kd.S_typed HO_5.out) (by decide)) (fun k_ hk => ⟨trivial, fun e_ => (hk.2) (by rw [e_]; rfl)⟩))) (fun _ h_ => Or.inr (h_)))) (fun _ hk => hk) (fun k_ hk_ => ((Kd.R_mono (ok' := fun k_ => ((fun _ => True)) k_ ∧ k_ ≠ go14) (Kd.R_apart' (HO123.out) (Kd.S_typed HO_5.out) (by decide)) (fun k_ hk => ⟨trivial, fun e_ => (hk.2) (by rw [e_]; rfl)⟩))).1 k_ hk_.symm); have hx17_0 := hcc17 0 _ rfl; (try simp only [show ((Kd.slice 3 (Kd.int .i64))).sz = 1 from rfl, Nat.mul_one, Nat.add_zero] at hx17_0); have hf17_0 := hfr17 0; (try simp only [show ((Kd.slice 3 (Kd.int .i64))).sz = 1 from rfl, Nat.mul_one, Nat.add_zero] at hf17_0); (try clear hcl17); (try clear hcc17); (try clear hfr17); (try clear hM17); (try clear hoki17); (try clear hH17); (try simp only [show ((Kd.slice 3 (Kd.int .i64))).sz = 1 from rfl, Nat.mul_one, Nat.add_zero] at HP17)) | ((with_reducible refine gate_store (t := 41) (p := 26) rfl ?_); (try (rw [drewN_self w15]; generalize hq_ : World.drewN w15 _ = w15; (try (have nx_ := Aside0.mk (Kd.S_at hq_ HO_5.out); clear HO_5; have HO_5 := nx_; clear nx_)); (try (have nx_ := Aside0.mk (below_at hq_ HB.out); clear HB; have HB := nx_; clear nx_)); (try clear hq_); (try (have n_ := Aside0.mk (Kd.S_mono (ok' := (fun k_ => some k_ ≠ (v122 : Value).ownBlock)) HO_5.out (fun k_ hk => hk.2)); clear HO_5; have HO_5 := n_; clear n_)); (try (have HX17 := Aside0.mk (show Kd.S (Kd.slice 3 (Kd.int .i64)) 41 w15 w.heap.size (fun k_ => ((fun _ => True)) k_ ∧ ¬ ((fun k_ => some k_ = (v122 : Value).ownBlock)) k_) (.slice (some ⟨go14, 0, none⟩) x5_1.length co14) x5_1 from (by (with_reducible repeat (first | apply Kd.S_alloc | apply Kd.S_drewN | apply Kd.S_drew)); exact Kd.S_mono HO_5.out (fun k_ hk => ⟨trivial, fun e_ => hk e_⟩))))); (try (obtain ⟨oki17, ce17, hcl17, hM17, hcc17, hfr17, hoki17, hH17⟩ := Kd.S_elem HX17.out [] (x6_1 : Int) (of_decide_eq_true (by first | (with_reducible assumption) | assumption)) (by have h_ : (x6_1 : Int) < ((x5_1.length : Int) : Int) := of_decide_eq_true (by first | (with_reducible assumption) | assumption); first | exact h_ | (have e_ := (Kd.S_reads' HO_5.out).1; omega) | simpa using h_))); (try (obtain ⟨ve17_0, rfl, ge17_0⟩ := hM17)); (try (have HP17 := Kd.S_seg hH17 (of_decide_eq_true (by first | (with_reducible assumption) | assumption)) (by have h_ : (x6_1 : Int) < ((x5_1.length : Int) : Int) := of_decide_eq_true (by first | (with_reducible assumption) | assumption); first | exact h_ | (have e_ := (Kd.S_reads' HO_5.out).1; omega) | simpa using h_) (seg := [v122]) (j := 0) (show 1 ≤ 1 from by decide) (x' := y121) (Kd.M_row (Kd.R_mono (Kd.R_tight rfl (Kd.R_mono (ok' := fun k_ => ((fun _ => True)) k_ ∧ k_ ≠ go14) (Kd.R_apart' (HO123.out) (Kd.S_typed HO_5.out) (by decide)) (fun k_ hk => ⟨trivial, fun e_ => (hk.2) (by rw [e_]; rfl)⟩))) (fun _ h_ => Or.inr (h_)))) (fun _ hk => hk) (fun k_ hk_ => ((Kd.R_mono (ok' := fun k_ => ((fun _ => True)) k_ ∧ k_ ≠ go14) (Kd.R_apart' (HO123.out) (Kd.S_typed HO_5.out) (by decide)) (fun k_ hk => ⟨trivial, fun e_ => (hk.2) (by rw [e_]; rfl)⟩))).1 k_ hk_.symm))); (try (have hx17_0 := hcc17 0 _ rfl)); (try (try simp only [show ((Kd.slice 3 (Kd.int .i64))).sz = 1 from rfl, Nat.mul_one, Nat.add_zero] at hx17_0)); (try (have hf17_0 := hfr17 0)); (try (try simp only [show ((Kd.slice 3 (Kd.int .i64))).sz = 1 from rfl, Nat.mul_one, Nat.add_zero] at hf17_0)); (try (try clear hcl17); (try clear hcc17); (try clear hfr17); (try clear hM17); (try clear hoki17); (try clear hH17)); (try (try simp only [show ((Kd.slice 3 (Kd.int .i64))).sz = 1 from rfl, Nat.mul_one, Nat.add_zero] at HP17)))); refine store_event (t := 41) (p := 26) (v := ?vo_w18) (w1 := (w15.setCell ⟨go14, (x6_1 : Int).toNat, none⟩ (v122))) ?hg ?ho ?hn ?hr ?_; (case ho => rfl); (case hg => rfl); (case hn => rfl); (case hr => first | (go_simp; done) | (go_simp; rfl) | (obtain ⟨_, _, rfl⟩ := Kd.R_slice HO123.out; (first | (go_simp; done) | (go_simp; rfl)))); intro w18 hw; have hg : w15.grownBy w18 (some go14) := (by rw [hw]; exact HP17.2); have hp_ : Kd.S (Kd.slice 3 (Kd.int .i64)) 41 w18 w.heap.size (fun _ => True) (.slice (some ⟨go14, 0, none⟩) x5_1.length co14) y124 := (by rw [hw, Ny124.out]; exact HP17.1); clear HP17; have n0_ := Aside0.mk (hp_); have n1_ := Aside0.mk ((by rw [hw]; exact below_set (HB.out) GB14.out : Below w.heap.size w w18)); clear HO_5; clear HB; clear HO123; have HO_5 := n0_; have HB := n1_; clear n0_ n1_; clear hg hw hp_))
                    repeat (go_quiet (first | ((with_reducible refine gate_dst (N := 25) rfl ?_); refine Kd.R_make (Kd.int .i64) _ 3 rfl (N := 25) rfl 41 _ _ rfl ji9 rfl rfl Try.underlying41 (.int .i64 0) 8 info3 rfl (by decide) (by omega) 0 (ok := fun _ => True) (okp := fun _ => True) rfl (fun _ hk => hk) trivial (of_decide_eq_true (by first | (with_reducible assumption) | assumption)) (Nat.le_trans (Nat.mul_le_mul_right _ (of_decide_eq_true (by first | (with_reducible assumption) | assumption) : ji9.toNat ≤ 35184372088832)) (by omega)) (Below.refl _ _) (Nat.le_refl _) ?_; intro v122 w15 ho16 hb hg_ hnew_; clear hg_ hnew_; (first | rw [← Ny121.out] at ho16 | (simp only [Int.reduceToNat] at ho16; rw [← Ny121.out] at ho16)); have n0_ := Aside0.mk (Kd.S_elder' (by (with_reducible repeat (first | apply Kd.S_alloc | apply Kd.S_drewN | apply Kd.S_drew)); exact HO_5.out) (Kd.R_base ho16) hb); have n1_ := Aside0.mk (Kd.R_lower ho16 (below_size (by repeat (first | (with_reducible first | exact HB.out | apply below_alloc | apply pw_below_drewN | apply below_drew1) | exact HB.out)))); have n2_ := Aside0.mk (below_step (by repeat (first | (with_reducible first | exact HB.out | apply below_alloc | apply pw_below_drewN | apply below_drew1) | exact HB.out)) hb); clear HO_5; clear HB; have HO_5 := n0_; have HO123 := n1_; have HB := n2_; clear n0_ n1_ n2_; clear hb ho16; have p14 : 0 ≤ (x6_1 : Int) := of_decide_eq_true (by first | (with_reducible assumption) | assumption); have q14 : (x6_1 : Int) < ((x5_1.length : Int) : Int) := of_decide_eq_true (by first | (with_reducible assumption) | assumption); obtain ⟨go14, co14, eo14, gb14, gl14, cl14, HG14⟩ := Kd.S_form HO_5.out (by omega); (first | cases eo14 | (injection eo14 with ea_ en_ ec_; (first | subst ea_ | (injection ea_ with ea_; subst ea_)); subst ec_; clear en_)); have GB14 := Aside0.mk gb14; have GG14 := Aside0.mk HG14; clear gb14 gl14 HG14; obtain ⟨_, ce14, hcl14, hM14, hcc14, hfr14, _, _⟩ := Kd.S_elem HO_5.out [] (x6_1 : Int) p14 q14; obtain ⟨ve14_0, rfl, ge14_0⟩ := hM14; have hx14_0 := hcc14 0 _ rfl; have hf14_0 := hfr14 0; (try simp only [show ((Kd.slice 3 (Kd.int .i64))).sz = 1 from rfl, Nat.mul_one, Nat.add_zero] at hx14_0); (try simp only [show ((Kd.slice 3 (Kd.int .i64))).sz = 1 from rfl, Nat.mul_one, Nat.add_zero] at hf14_0); (try clear hcl14); (try clear hcc14); (try clear hfr14); (try clear hM14); replace p14 := eq_true p14; replace q14 := eq_true q14; have n_ := Aside0.mk (Kd.S_mono (ok' := (fun k_ => some k_ ≠ (v122 : Value).ownBlock)) HO_5.out (fun k_ hk => hk.2)); clear HO_5; have HO_5 := n_; clear n_; have HX17 := Aside0.mk (show Kd.S (Kd.slice 3 (Kd.int .i64)) 41 w15 w.heap.size (fun k_ => ((fun _ => True)) k_ ∧ ¬ ((fun k_ => some k_ = (v122 : Value).ownBlock)) k_) (.slice (some ⟨go14, 0, none⟩) x5_1.length co14) x5_1 from (by (with_reducible repeat (first | apply Kd.S_alloc | apply Kd.S_drewN | apply Kd.S_drew)); exact Kd.S_mono HO_5.out (fun k_ hk => ⟨trivial, fun e_ => hk e_⟩))); obtain ⟨oki17, ce17, hcl17, hM17, hcc17, hfr17, hoki17, hH17⟩ := Kd.S_elem HX17.out [] (x6_1 : Int) (of_decide_eq_true (by first | (with_reducible assumption) | assumption)) (by have h_ : (x6_1 : Int) < ((x5_1.length : Int) : Int) := of_decide_eq_true (by first | (with_reducible assumption) | assumption); first | exact h_ | (have e_ := (Kd.S_reads' HO_5.out).1; omega) | simpa using h_); obtain ⟨ve17_0, rfl, ge17_0⟩ := hM17; have HP17 := Kd.S_seg hH17 (of_decide_eq_true (by first | (with_reducible assumption) | assumption)) (by have h_ : (x6_1 : Int) < ((x5_1.length : Int) : Int) := of_decide_eq_true (by first | (with_reducible assumption) | assumption); first | exact h_ | (have e_ := (Kd.S_reads' HO_5.out).1; omega) | simpa using h_) (seg := [v122]) (j := 0) (show 1 ≤ 1 from by decide) (x' := y121) (Kd.M_row (Kd.R_mono (Kd.R_tight rfl (Kd.R_mono (ok' := fun k_ => ((fun _ => True)) k_ ∧ k_ ≠ go14) (Kd.R_apart' (HO123.out) (Kd.S_typed HO_5.out) (by decide)) (fun k_ hk => ⟨trivial, fun e_ => (hk.2) (by rw [e_]; rfl)⟩))) (fun _ h_ => Or.inr (h_)))) (fun _ hk => hk) (fun k_ hk_ => ((Kd.R_mono (ok' := fun k_ => ((fun _ => True)) k_ ∧ k_ ≠ go14) (Kd.R_apart' (HO123.out) (Kd.S_typed HO_5.out) (by decide)) (fun k_ hk => ⟨trivial, fun e_ => (hk.2) (by rw [e_]; rfl)⟩))).1 k_ hk_.symm); have hx17_0 := hcc17 0 _ rfl; (try simp only [show ((Kd.slice 3 (Kd.int .i64))).sz = 1 from rfl, Nat.mul_one, Nat.add_zero] at hx17_0); have hf17_0 := hfr17 0; (try simp only [show ((Kd.slice 3 (Kd.int .i64))).sz = 1 from rfl, Nat.mul_one, Nat.add_zero] at hf17_0); (try clear hcl17); (try clear hcc17); (try clear hfr17); (try clear hM17); (try clear hoki17); (try clear hH17); (try simp only [show ((Kd.slice 3 (Kd.int .i64))).sz = 1 from rfl, Nat.mul_one, Nat.add_zero] at HP17)) | ((with_reducible refine gate_store (t := 41) (p := 26) rfl ?_); (try (rw [drewN_self w15]; generalize hq_ : World.drewN w15 _ = w15; (try (have nx_ := Aside0.mk (Kd.S_at hq_ HO_5.out); clear HO_5; have HO_5 := nx_; clear nx_)); (try (have nx_ := Aside0.mk (below_at hq_ HB.out); clear HB; have HB := nx_; clear nx_)); (try clear hq_); (try (have n_ := Aside0.mk (Kd.S_mono (ok' := (fun k_ => some k_ ≠ (v122 : Value).ownBlock)) HO_5.out (fun k_ hk => hk.2)); clear HO_5; have HO_5 := n_; clear n_)); (try (have HX17 := Aside0.mk (show Kd.S (Kd.slice 3 (Kd.int .i64)) 41 w15 w.heap.size (fun k_ => ((fun _ => True)) k_ ∧ ¬ ((fun k_ => some k_ = (v122 : Value).ownBlock)) k_) (.slice (some ⟨go14, 0, none⟩) x5_1.length co14) x5_1 from (by (with_reducible repeat (first | apply Kd.S_alloc | apply Kd.S_drewN | apply Kd.S_drew)); exact Kd.S_mono HO_5.out (fun k_ hk => ⟨trivial, fun e_ => hk e_⟩))))); (try (obtain ⟨oki17, ce17, hcl17, hM17, hcc17, hfr17, hoki17, hH17⟩ := Kd.S_elem HX17.out [] (x6_1 : Int) (of_decide_eq_true (by first | (with_reducible assumption) | assumption)) (by have h_ : (x6_1 : Int) < ((x5_1.length : Int) : Int) := of_decide_eq_true (by first | (with_reducible assumption) | assumption); first | exact h_ | (have e_ := (Kd.S_reads' HO_5.out).1; omega) | simpa using h_))); (try (obtain ⟨ve17_0, rfl, ge17_0⟩ := hM17)); (try (have HP17 := Kd.S_seg hH17 (of_decide_eq_true (by first | (with_reducible assumption) | assumption)) (by have h_ : (x6_1 : Int) < ((x5_1.length : Int) : Int) := of_decide_eq_true (by first | (with_reducible assumption) | assumption); first | exact h_ | (have e_ := (Kd.S_reads' HO_5.out).1; omega) | simpa using h_) (seg := [v122]) (j := 0) (show 1 ≤ 1 from by decide) (x' := y121) (Kd.M_row (Kd.R_mono (Kd.R_tight rfl (Kd.R_mono (ok' := fun k_ => ((fun _ => True)) k_ ∧ k_ ≠ go14) (Kd.R_apart' (HO123.out) (Kd.S_typed HO_5.out) (by decide)) (fun k_ hk => ⟨trivial, fun e_ => (hk.2) (by rw [e_]; rfl)⟩))) (fun _ h_ => Or.inr (h_)))) (fun _ hk => hk) (fun k_ hk_ => ((Kd.R_mono (ok' := fun k_ => ((fun _ => True)) k_ ∧ k_ ≠ go14) (Kd.R_apart' (HO123.out) (Kd.S_typed HO_5.out) (by decide)) (fun k_ hk => ⟨trivial, fun e_ => (hk.2) (by rw [e_]; rfl)⟩))).1 k_ hk_.symm))); (try (have hx17_0 := hcc17 0 _ rfl)); (try (try simp only [show ((Kd.slice 3 (Kd.int .i64))).sz = 1 from rfl, Nat.mul_one, Nat.add_zero] at hx17_0)); (try (have hf17_0 := hfr17 0)); (try (try simp only [show ((Kd.slice 3 (Kd.int .i64))).sz = 1 from rfl, Nat.mul_one, Nat.add_zero] at hf17_0)); (try (try clear hcl17); (try clear hcc17); (try clear hfr17); (try clear hM17); (try clear hoki17); (try clear hH17)); (try (try simp only [show ((Kd.slice 3 (Kd.int .i64))).sz = 1 from rfl, Nat.mul_one, Nat.add_zero] at HP17)))); refine store_event (t := 41) (p := 26) (v := ?vo_w18) (w1 := (w15.setCell ⟨go14, (x6_1 : Int).toNat, none⟩ (v122))) ?hg ?ho ?hn ?hr ?_; (case ho => rfl); (case hg => rfl); (case hn => rfl); (case hr => first | (go_simp; done) | (go_simp; rfl) | (obtain ⟨_, _, rfl⟩ := Kd.R_slice HO123.out; (first | (go_simp; done) | (go_simp; rfl)))); intro w18 hw; have hg : w15.grownBy w18 (some go14) := (by rw [hw]; exact HP17.2); have hp_ : Kd.S (Kd.slice 3 (Kd.int .i64)) 41 w18 w.heap.size (fun _ => True) (.slice (some ⟨go14, 0, none⟩) x5_1.length co14) y124 := (by rw [hw, Ny124.out]; exact HP17.1); clear HP17; have n0_ := Aside0.mk (hp_); have n1_ := Aside0.mk ((by rw [hw]; exact below_set (HB.out) GB14.out : Below w.heap.size w w18)); clear HO_5; clear HB; clear HO123; have HO_5 := n0_; have HB := n1_; clear n0_ n1_; clear hg hw hp_)); try go_wp2_with (first | ((with_reducible refine gate_dst (N := 25) rfl ?_); refine Kd.R_make (Kd.int .i64) _ 3 rfl (N := 25) rfl 41 _ _ rfl ji9 rfl rfl Try.underlying41 (.int .i64 0) 8 info3 rfl (by decide) (by omega) 0 (ok := fun _ => True) (okp := fun _ => True) rfl (fun _ hk => hk) trivial (of_decide_eq_true (by first | (with_reducible assumption) | assumption)) (Nat.le_trans (Nat.mul_le_mul_right _ (of_decide_eq_true (by first | (with_reducible assumption) | assumption) : ji9.toNat ≤ 35184372088832)) (by omega)) (Below.refl _ _) (Nat.le_refl _) ?_; intro v122 w15 ho16 hb hg_ hnew_; clear hg_ hnew_; (first | rw [← Ny121.out] at ho16 | (simp only [Int.reduceToNat] at ho16; rw [← Ny121.out] at ho16)); have n0_ := Aside0.mk (Kd.S_elder' (by (with_reducible repeat (first | apply Kd.S_alloc | apply Kd.S_drewN | apply Kd.S_drew)); exact HO_5.out) (Kd.R_base ho16) hb); have n1_ := Aside0.mk (Kd.R_lower ho16 (below_size (by repeat (first | (with_reducible first | exact HB.out | apply below_alloc | apply pw_below_drewN | apply below_drew1) | exact HB.out)))); have n2_ := Aside0.mk (below_step (by repeat (first | (with_reducible first | exact HB.out | apply below_alloc | apply pw_below_drewN | apply below_drew1) | exact HB.out)) hb); clear HO_5; clear HB; have HO_5 := n0_; have HO123 := n1_; have HB := n2_; clear n0_ n1_ n2_; clear hb ho16; have p14 : 0 ≤ (x6_1 : Int) := of_decide_eq_true (by first | (with_reducible assumption) | assumption); have q14 : (x6_1 : Int) < ((x5_1.length : Int) : Int) := of_decide_eq_true (by first | (with_reducible assumption) | assumption); obtain ⟨go14, co14, eo14, gb14, gl14, cl14, HG14⟩ := Kd.S_form HO_5.out (by omega); (first | cases eo14 | (injection eo14 with ea_ en_ ec_; (first | subst ea_ | (injection ea_ with ea_; subst ea_)); subst ec_; clear en_)); have GB14 := Aside0.mk gb14; have GG14 := Aside0.mk HG14; clear gb14 gl14 HG14; obtain ⟨_, ce14, hcl14, hM14, hcc14, hfr14, _, _⟩ := Kd.S_elem HO_5.out [] (x6_1 : Int) p14 q14; obtain ⟨ve14_0, rfl, ge14_0⟩ := hM14; have hx14_0 := hcc14 0 _ rfl; have hf14_0 := hfr14 0; (try simp only [show ((Kd.slice 3 (Kd.int .i64))).sz = 1 from rfl, Nat.mul_one, Nat.add_zero] at hx14_0); (try simp only [show ((Kd.slice 3 (Kd.int .i64))).sz = 1 from rfl, Nat.mul_one, Nat.add_zero] at hf14_0); (try clear hcl14); (try clear hcc14); (try clear hfr14); (try clear hM14); replace p14 := eq_true p14; replace q14 := eq_true q14; have n_ := Aside0.mk (Kd.S_mono (ok' := (fun k_ => some k_ ≠ (v122 : Value).ownBlock)) HO_5.out (fun k_ hk => hk.2)); clear HO_5; have HO_5 := n_; clear n_; have HX17 := Aside0.mk (show Kd.S (Kd.slice 3 (Kd.int .i64)) 41 w15 w.heap.size (fun k_ => ((fun _ => True)) k_ ∧ ¬ ((fun k_ => some k_ = (v122 : Value).ownBlock)) k_) (.slice (some ⟨go14, 0, none⟩) x5_1.length co14) x5_1 from (by (with_reducible repeat (first | apply Kd.S_alloc | apply Kd.S_drewN | apply Kd.S_drew)); exact Kd.S_mono HO_5.out (fun k_ hk => ⟨trivial, fun e_ => hk e_⟩))); obtain ⟨oki17, ce17, hcl17, hM17, hcc17, hfr17, hoki17, hH17⟩ := Kd.S_elem HX17.out [] (x6_1 : Int) (of_decide_eq_true (by first | (with_reducible assumption) | assumption)) (by have h_ : (x6_1 : Int) < ((x5_1.length : Int) : Int) := of_decide_eq_true (by first | (with_reducible assumption) | assumption); first | exact h_ | (have e_ := (Kd.S_reads' HO_5.out).1; omega) | simpa using h_); obtain ⟨ve17_0, rfl, ge17_0⟩ := hM17; have HP17 := Kd.S_seg hH17 (of_decide_eq_true (by first | (with_reducible assumption) | assumption)) (by have h_ : (x6_1 : Int) < ((x5_1.length : Int) : Int) := of_decide_eq_true (by first | (with_reducible assumption) | assumption); first | exact h_ | (have e_ := (Kd.S_reads' HO_5.out).1; omega) | simpa using h_) (seg := [v122]) (j := 0) (show 1 ≤ 1 from by decide) (x' := y121) (Kd.M_row (Kd.R_mono (Kd.R_tight rfl (Kd.R_mono (ok' := fun k_ => ((fun _ => True)) k_ ∧ k_ ≠ go14) (Kd.R_apart' (HO123.out) (Kd.S_typed HO_5.out) (by decide)) (fun k_ hk => ⟨trivial, fun e_ => (hk.2) (by rw [e_]; rfl)⟩))) (fun _ h_ => Or.inr (h_)))) (fun _ hk => hk) (fun k_ hk_ => ((Kd.R_mono (ok' := fun k_ => ((fun _ => True)) k_ ∧ k_ ≠ go14) (Kd.R_apart' (HO123.out) (Kd.S_typed HO_5.out) (by decide)) (fun k_ hk => ⟨trivial, fun e_ => (hk.2) (by rw [e_]; rfl)⟩))).1 k_ hk_.symm); have hx17_0 := hcc17 0 _ rfl; (try simp only [show ((Kd.slice 3 (Kd.int .i64))).sz = 1 from rfl, Nat.mul_one, Nat.add_zero] at hx17_0); have hf17_0 := hfr17 0; (try simp only [show ((Kd.slice 3 (Kd.int .i64))).sz = 1 from rfl, Nat.mul_one, Nat.add_zero] at hf17_0); (try clear hcl17); (try clear hcc17); (try clear hfr17); (try clear hM17); (try clear hoki17); (try clear hH17); (try simp only [show ((Kd.slice 3 (Kd.int .i64))).sz = 1 from rfl, Nat.mul_one, Nat.add_zero] at HP17)) | ((with_reducible refine gate_store (t := 41) (p := 26) rfl ?_); (try (rw [drewN_self w15]; generalize hq_ : World.drewN w15 _ = w15; (try (have nx_ := Aside0.mk (Kd.S_at hq_ HO_5.out); clear HO_5; have HO_5 := nx_; clear nx_)); (try (have nx_ := Aside0.mk (below_at hq_ HB.out); clear HB; have HB := nx_; clear nx_)); (try clear hq_); (try (have n_ := Aside0.mk (Kd.S_mono (ok' := (fun k_ => some k_ ≠ (v122 : Value).ownBlock)) HO_5.out (fun k_ hk => hk.2)); clear HO_5; have HO_5 := n_; clear n_)); (try (have HX17 := Aside0.mk (show Kd.S (Kd.slice 3 (Kd.int .i64)) 41 w15 w.heap.size (fun k_ => ((fun _ => True)) k_ ∧ ¬ ((fun k_ => some k_ = (v122 : Value).ownBlock)) k_) (.slice (some ⟨go14, 0, none⟩) x5_1.length co14) x5_1 from (by (with_reducible repeat (first | apply Kd.S_alloc | apply Kd.S_drewN | apply Kd.S_drew)); exact Kd.S_mono HO_5.out (fun k_ hk => ⟨trivial, fun e_ => hk e_⟩))))); (try (obtain ⟨oki17, ce17, hcl17, hM17, hcc17, hfr17, hoki17, hH17⟩ := Kd.S_elem HX17.out [] (x6_1 : Int) (of_decide_eq_true (by first | (with_reducible assumption) | assumption)) (by have h_ : (x6_1 : Int) < ((x5_1.length : Int) : Int) := of_decide_eq_true (by first | (with_reducible assumption) | assumption); first | exact h_ | (have e_ := (Kd.S_reads' HO_5.out).1; omega) | simpa using h_))); (try (obtain ⟨ve17_0, rfl, ge17_0⟩ := hM17)); (try (have HP17 := Kd.S_seg hH17 (of_decide_eq_true (by first | (with_reducible assumption) | assumption)) (by have h_ : (x6_1 : Int) < ((x5_1.length : Int) : Int) := of_decide_eq_true (by first | (with_reducible assumption) | assumption); first | exact h_ | (have e_ := (Kd.S_reads' HO_5.out).1; omega) | simpa using h_) (seg := [v122]) (j := 0) (show 1 ≤ 1 from by decide) (x' := y121) (Kd.M_row (Kd.R_mono (Kd.R_tight rfl (Kd.R_mono (ok' := fun k_ => ((fun _ => True)) k_ ∧ k_ ≠ go14) (Kd.R_apart' (HO123.out) (Kd.S_typed HO_5.out) (by decide)) (fun k_ hk => ⟨trivial, fun e_ => (hk.2) (by rw [e_]; rfl)⟩))) (fun _ h_ => Or.inr (h_)))) (fun _ hk => hk) (fun k_ hk_ => ((Kd.R_mono (ok' := fun k_ => ((fun _ => True)) k_ ∧ k_ ≠ go14) (Kd.R_apart' (HO123.out) (Kd.S_typed HO_5.out) (by decide)) (fun k_ hk => ⟨trivial, fun e_ => (hk.2) (by rw [e_]; rfl)⟩))).1 k_ hk_.symm))); (try (have hx17_0 := hcc17 0 _ rfl)); (try (try simp only [show ((Kd.slice 3 (Kd.int .i64))).sz = 1 from rfl, Nat.mul_one, Nat.add_zero] at hx17_0)); (try (have hf17_0 := hfr17 0)); (try (try simp only [show ((Kd.slice 3 (Kd.int .i64))).sz = 1 from rfl, Nat.mul_one, Nat.add_zero] at hf17_0)); (try (try clear hcl17); (try clear hcc17); (try clear hfr17); (try clear hM17); (try clear hoki17); (try clear hH17)); (try (try simp only [show ((Kd.slice 3 (Kd.int .i64))).sz = 1 from rfl, Nat.mul_one, Nat.add_zero] at HP17)))); refine store_event (t := 41) (p := 26) (v := ?vo_w18) (w1 := (w15.setCell ⟨go14, (x6_1 : Int).toNat, none⟩ (v122))) ?hg ?ho ?hn ?hr ?_; (case ho => rfl); (case hg => rfl); (case hn => rfl); (case hr => first | (go_simp; done) | (go_simp; rfl) | (obtain ⟨_, _, rfl⟩ := Kd.R_slice HO123.out; (first | (go_simp; done) | (go_simp; rfl)))); intro w18 hw; have hg : w15.grownBy w18 (some go14) := (by rw [hw]; exact HP17.2); have hp_ : Kd.S (Kd.slice 3 (Kd.int .i64)) 41 w18 w.heap.size (fun _ => True) (.slice (some ⟨go14, 0, none⟩) x5_1.length co14) y124 := (by rw [hw, Ny124.out]; exact HP17.1); clear HP17; have n0_ := Aside0.mk (hp_); have n1_ := Aside0.mk ((by rw [hw]; exact below_set (HB.out) GB14.out : Below w.heap.size w w18)); clear HO_5; clear HB; clear HO123; have HO_5 := n0_; have HB := n1_; clear n0_ n1_; clear hg hw hp_)))
                    go_loopg [7] k1 (fun kq v7 w' => ∃ (x5_2 : List (List Int)) (x7_2 : Int), v7 = .int .i64 x7_2 ∧ Aside0 (coppicerref_Far.l1 kq l0 l1 x5_2 x6_1 x7_2 = some r) ∧ Aside0 (kq ≤ k1) ∧ Aside0 (Kd.S (Kd.slice 3 (Kd.int .i64)) 41 w' w.heap.size (fun _ => True) (.slice (some ⟨go14, 0, none⟩) x5_1.length co14) x5_2) ∧ Aside0 (Below w.heap.size w w'))
                    case atStart => exact ⟨(y124), (0), (by first | rfl | (simp; done) | (simp [*]; done)), H', ⟨Nat.le_refl _⟩, ⟨by (with_reducible repeat (first | apply Kd.S_alloc | apply Kd.S_drewN | apply Kd.S_drew)); exact HO_5.out⟩, ⟨by repeat (first | (with_reducible first | exact HB.out | apply below_alloc | apply pw_below_drewN | apply below_drew1) | exact HB.out)⟩⟩
                    case round =>
                      clear H'
                      try clear c1
                      try clear p1
                      try clear q1
                      try clear hx1
                      try clear c2
                      try clear p2
                      try clear c4
                      try clear c4b0
                      try clear c4b1
                      try clear c5
                      try clear c5b0
                      try clear c5b1
                      try clear p6
                      try clear c8
                      try clear c8b0
                      try clear c10
                      try clear c10b0
                      try clear c10b1
                      try clear c11
                      try clear c11b0
                      try clear c11b1
                      try clear c12
                      try clear c12b0
                      try clear c13
                      try clear c13b0
                      try clear c14
                      try clear p14
                      try clear q14
                      try clear hx14
                      try clear hf14
                      try clear c17
                      try clear hx17
                      try clear hf17
                      try clear hx14_0
                      try clear hx17_0
                      try clear p14
                      try clear p2
                      try clear p6
                      try clear q14
                      obtain ⟨x5_2, x7_2, rfl, HA, HK2, HO_5, HB⟩ := hrel
                      have hl5_2 := (Kd.S_reads' HO_5.out).1
                      rw [hl5_2] at HO_5
                      (try simp only [hl5_2])
                      cases gk with
                      | zero => exact absurd HA.out (by simp [coppicerref_Far.l1])
                      | succ k2 =>
                        have H := HA.out
                        clear HA
                        simp only [coppicerref_Far.l1] at H
                        by_cases c19 : x7_2 ≤ (l1.length : Int)
                        · rw [if_pos c19] at H
                          have c19b0 : decide (x7_2 ≤ (l1.length : Int)) = true := decide_eq_true c19
                          (try (have c19b0h := c19b0; simp only [hl5_2] at c19b0h))
                          clear c19
                          have HC20 := Aside0.mk H
                          clear H
                          go_upto_region 10 with (fail)
                          repeat (go_quiet (fail); go_upto_region 10 with (fail))
                          go_cut [50] (fun v50 wc => ∃ (kq : Nat) (x50_19 : Bool), v50 = .bool x50_19 ∧ Aside0 (coppicerref_Far.j2 kq l0 l1 x5_2 x6_1 x7_2 (wrap64 (x6_1 + x7_2)) x50_19 = some r) ∧ Aside0 (kq ≤ k2) ∧ Aside0 (Kd.S (Kd.slice 3 (Kd.int .i64)) 41 wc w.heap.size (fun _ => True) (.slice (some ⟨go14, 0, none⟩) x5_2.length co14) x5_2) ∧ Aside0 (Below w.heap.size w wc))
                          case first =>
                            have H := HC20.out
                            clear HC20
                            by_cases c21 : x6_1 > 0
                            · rw [if_pos c21] at H
                              have c21b0 : decide (0 < x6_1) = true := decide_eq_true c21
                              clear c21
                              (first | rw [c21b0] | (simp only [i64_w, i32_w]; rw [c21b0]) | skip)
                              obtain ⟨ji22, hji22⟩ : ∃ j_ : Int, (wrap64 (x6_1 - 1)) = j_ := ⟨_, rfl⟩
                              replace H : (if 0 ≤ (ji22) then (if (ji22) < (x5_2.length : Int) then (if 0 ≤ x7_2 then (if x7_2 < ((rd_L2 x5_2 (ji22)).length : Int) then (coppicerref_Far.j2 k2 l0 l1 x5_2 x6_1 x7_2 (wrap64 (x6_1 + x7_2)) (decide ((wrap64 ((rd (rd_L2 x5_2 (ji22)) x7_2) + 1)) < (wrap64 (x6_1 + x7_2))))) else (none)) else (none)) else (none)) else (none)) = some r := by first | (rw [hji22] at H; exact H) | (simp only [hji22] at H ⊢; exact H)
                              have hji22w : (IntKind.i64.wrap (x6_1 - 1)) = ji22 := (i64_w _).trans hji22
                              by_cases c23 : 0 ≤ (ji22)
                              · rw [if_pos c23] at H
                                have c23b0 : decide (0 ≤ (ji22)) = true := decide_eq_true c23
                                clear c23
                                by_cases c24 : (ji22) < (x5_2.length : Int)
                                · rw [if_pos c24] at H
                                  have c24b0 : decide ((ji22) < (x5_2.length : Int)) = true := decide_eq_true c24
                                  (try (have c24b0h := c24b0; simp only [hl5_2] at c24b0h))
                                  clear c24
                                  by_cases c25 : 0 ≤ x7_2
                                  · rw [if_pos c25] at H
                                    have c25b0 : decide (0 ≤ x7_2) = true := decide_eq_true c25
                                    clear c25
                                    by_cases c26 : x7_2 < ((rd_L2 x5_2 (ji22)).length : Int)
                                    · rw [if_pos c26] at H
                                      have c26b0 : decide (x7_2 < ((rd_L2 x5_2 (ji22)).length : Int)) = true := decide_eq_true c26
                                      (try (have c26b0h := c26b0; simp only [hl5_2] at c26b0h))
                                      clear c26
                                      have H' := Aside0.mk H
                                      clear H
                                      have p125 : 0 ≤ ((ji22) : Int) := of_decide_eq_true (by first | (with_reducible assumption) | assumption)
                                      have q125 : (ji22) < (x5_2.length : Int) := of_decide_eq_true (by first | (with_reducible assumption) | assumption)
                                      obtain ⟨ad125, A125_0, c125_0, e125, hx125_0, hl125_0, hi125_0⟩ := at_L2 (Kd.S_reads' HO_5.out).2.2 (ji22) p125 q125
                                      obtain rfl : (⟨go14, 0, none⟩ : Addr) = ad125 := (by injection e125)
                                      obtain ⟨ce125, hce125, hMe125, hcc125⟩ := Kd.S_get HO_5.out [] (ji22) p125 (by first | exact q125 | exact of_decide_eq_true (by first | (with_reducible assumption) | assumption) | (have e_ := (Kd.S_reads' HO_5.out).1; omega))
                                      obtain ⟨ve125_0, rfl, ge125_0⟩ := hMe125
                                      have hv125_0 := hcc125 0 _ rfl
                                      rw [Nat.add_zero, show ((Kd.slice 3 (Kd.int .i64))).sz = 1 from rfl, Nat.mul_one] at hv125_0
                                      replace hv125_0 := Option.some.inj (hv125_0.symm.trans hx125_0)
                                      rw [hv125_0] at ge125_0
                                      have HL125_0 := Aside0.mk (show Kd.R (Kd.int .i64) 3 _ _ _ _ (rd_L2 x5_2 (ji22)) from ge125_0)
                                      clear hv125_0 ge125_0
                                      have HX125_0 := Aside0.mk hx125_0
                                      clear hcc125 hce125
                                      (first | simp only [add_plain] at hx125_0 | simp only [add_at] at hx125_0 | simp only [Addr.add, Nat.zero_add] at hx125_0 | skip)
                                      have HR125_0 := Aside0.mk hi125_0
                                      have HC125_0 := Aside0.mk hl125_0
                                      clear hi125_0 hl125_0
                                      replace p125 := eq_true p125
                                      replace q125 := eq_true q125
                                      have p126 : 0 ≤ (x7_2 : Int) := of_decide_eq_true (by first | (with_reducible assumption) | assumption)
                                      have q126 : x7_2 < ((rd_L2 x5_2 (ji22)).length : Int) := of_decide_eq_true (by first | (with_reducible assumption) | assumption)
                                      obtain ⟨ad126, e126, hx126_0⟩ := Kd.at_int (by repeat (first | (with_reducible exact HR125_0.out) | (with_reducible refine Kd.C_alloc ?_ _) | (with_reducible refine Kd.C_drewN ?_ _) | (with_reducible refine Kd.C_drew ?_) | exact HR125_0.out)) x7_2 p126 q126
                                      cases e126
                                      replace p126 := eq_true p126
                                      replace q126 := eq_true q126
                                      go_wp2
                                      repeat (go_quiet (fail); try go_wp2)
                                      go_meet
                                      case rel => exact ⟨_, (decide ((wrap64 ((rd (rd_L2 x5_2 (ji22)) x7_2) + 1)) < (wrap64 (x6_1 + x7_2)))), (by first | rfl | (simp; done) | (simp only [← hji22] <;> (first | rfl | simp)) | (simp [*]; done)), H', ⟨by have := HK1.out; have := HK2.out; first | omega | exact Nat.le_refl _⟩, ⟨by (try simp only [hl5_2]); (with_reducible repeat (first | apply Kd.S_alloc | apply Kd.S_drewN | apply Kd.S_drew)); exact HO_5.out⟩, ⟨by repeat (first | (with_reducible first | exact HB.out | apply below_alloc | apply pw_below_drewN | apply below_drew1) | exact HB.out)⟩⟩
                                    · rw [if_neg c26] at H
                                      exact absurd H (by simp)
                                  · rw [if_neg c25] at H
                                    exact absurd H (by simp)
                                · rw [if_neg c24] at H
                                  exact absurd H (by simp)
                              · rw [if_neg c23] at H
                                exact absurd H (by simp)
                            · rw [if_neg c21] at H
                              have c21b0 : decide (0 < x6_1) = false := decide_eq_false c21
                              clear c21
                              (first | rw [c21b0] | (simp only [i64_w, i32_w]; rw [c21b0]) | skip)
                              have H' := Aside0.mk H
                              clear H
                              go_wp2
                              repeat (go_quiet (fail); try go_wp2)
                              go_meet
                              case rel => exact ⟨_, (false), (by first | rfl | (simp; done) | (simp [*]; done)), H', ⟨by have := HK1.out; have := HK2.out; first | omega | exact Nat.le_refl _⟩, ⟨by (try simp only [hl5_2]); (with_reducible repeat (first | apply Kd.S_alloc | apply Kd.S_drewN | apply Kd.S_drew)); exact HO_5.out⟩, ⟨by repeat (first | (with_reducible first | exact HB.out | apply below_alloc | apply pw_below_drewN | apply below_drew1) | exact HB.out)⟩⟩
                          case rest =>
                            clear HC20
                            try clear c1
                            try clear p1
                            try clear q1
                            try clear hx1
                            try clear c2
                            try clear p2
                            try clear c4
                            try clear c4b0
                            try clear c4b1
                            try clear c5
                            try clear c5b0
                            try clear c5b1
                            try clear p6
                            try clear c8
                            try clear c8b0
                            try clear c10
                            try clear c10b0
                            try clear c10b1
                            try clear c11
                            try clear c11b0
                            try clear c11b1
                            try clear c12
                            try clear c12b0
                            try clear p12
                            try clear q12
                            try clear hx12
                            try clear c13
                            try clear c13b0
                            try clear c14
                            try clear p14
                            try clear q14
                            try clear hx14
                            try clear hf14
                            try clear c17
                            try clear hx17
                            try clear hf17
                            try clear c19
                            try clear c19b0
                            try clear c21
                            try clear c21b0
                            try clear c23
                            try clear c23b0
                            try clear c24
                            try clear c24b0
                            try clear c25
                            try clear c25b0
                            try clear c26
                            try clear c26b0
                            try clear hx125_0
                            try clear hx126_0
                            try clear hx14_0
                            try clear hx17_0
                            try clear p1
                            try clear p125
                            try clear p126
                            try clear p14
                            try clear p2
                            try clear p6
                            try clear q1
                            try clear q125
                            try clear q126
                            try clear q14
                            obtain ⟨kq, x50_19, rfl, HA, HJ19, HO_5, HB⟩ := hcut
                            cases kq with
                            | zero => exact absurd HA.out (by simp [coppicerref_Far.j2])
                            | succ kj19 =>
                              have H := HA.out
                              clear HA
                              simp only [coppicerref_Far.j2] at H
                              have HC27 := Aside0.mk H
                              clear H
                              go_upto_if 50 with (fail)
                              repeat (go_quiet (fail); go_upto_if 50 with (fail))
                              go_cut [8] (fun v8 wc => ∃ (kq : Nat) (x8_26 : Int), v8 = .int .i64 x8_26 ∧ Aside0 (coppicerref_Far.j3 kq l0 l1 x5_2 x6_1 x7_2 x8_26 = some r) ∧ Aside0 (kq ≤ kj19) ∧ Aside0 (Kd.S (Kd.slice 3 (Kd.int .i64)) 41 wc w.heap.size (fun _ => True) (.slice (some ⟨go14, 0, none⟩) x5_2.length co14) x5_2) ∧ Aside0 (Below w.heap.size w wc))
                              case first =>
                                have H := HC27.out
                                clear HC27
                                by_cases c28 : x50_19 = true
                                · subst c28
                                  have H1 : (if 0 ≤ (wrap64 (x6_1 - 1)) then (if (wrap64 (x6_1 - 1)) < (x5_2.length : Int) then (if 0 ≤ x7_2 then (if x7_2 < ((rd_L2 x5_2 (wrap64 (x6_1 - 1))).length : Int) then (coppicerref_Far.j3 kj19 l0 l1 x5_2 x6_1 x7_2 (wrap64 ((rd (rd_L2 x5_2 (wrap64 (x6_1 - 1))) x7_2) + 1))) else (none)) else (none)) else (none)) else (none)) = some r := by rw [if_pos rfl] at H; exact H
                                  clear H
                                  have H := H1
                                  clear H1
                                  obtain ⟨ji29, hji29⟩ : ∃ j_ : Int, (wrap64 (x6_1 - 1)) = j_ := ⟨_, rfl⟩
                                  replace H : (if 0 ≤ (ji29) then (if (ji29) < (x5_2.length : Int) then (if 0 ≤ x7_2 then (if x7_2 < ((rd_L2 x5_2 (ji29)).length : Int) then (coppicerref_Far.j3 kj19 l0 l1 x5_2 x6_1 x7_2 (wrap64 ((rd (rd_L2 x5_2 (ji29)) x7_2) + 1))) else (none)) else (none)) else (none)) else (none)) = some r := by first | (rw [hji29] at H; exact H) | (simp only [hji29] at H ⊢; exact H)
                                  have hji29w : (IntKind.i64.wrap (x6_1 - 1)) = ji29 := (i64_w _).trans hji29
                                  by_cases c30 : 0 ≤ (ji29)
                                  · rw [if_pos c30] at H
                                    have c30b0 : decide (0 ≤ (ji29)) = true := decide_eq_true c30
                                    clear c30
                                    (first | rw [c30b0] | (simp only [i64_w, i32_w]; rw [c30b0]) | skip)
                                    by_cases c31 : (ji29) < (x5_2.length : Int)
                                    · rw [if_pos c31] at H
                                      have c31b0 : decide ((ji29) < (x5_2.length : Int)) = true := decide_eq_true c31
                                      (try (have c31b0h := c31b0; simp only [hl5_2] at c31b0h))
                                      clear c31
                                      by_cases c32 : 0 ≤ x7_2
                                      · rw [if_pos c32] at H
                                        have c32b0 : decide (0 ≤ x7_2) = true := decide_eq_true c32
                                        clear c32
                                        by_cases c33 : x7_2 < ((rd_L2 x5_2 (ji29)).length : Int)
                                        · rw [if_pos c33] at H
                                          have c33b0 : decide (x7_2 < ((rd_L2 x5_2 (ji29)).length : Int)) = true := decide_eq_true c33
                                          (try (have c33b0h := c33b0; simp only [hl5_2] at c33b0h))
                                          clear c33
                                          have H' := Aside0.mk H
                                          clear H
                                          have p127 : 0 ≤ ((ji29) : Int) := of_decide_eq_true (by first | (with_reducible assumption) | assumption)
                                          have q127 : (ji29) < (x5_2.length : Int) := of_decide_eq_true (by first | (with_reducible assumption) | assumption)
                                          obtain ⟨ad127, A127_0, c127_0, e127, hx127_0, hl127_0, hi127_0⟩ := at_L2 (Kd.S_reads' HO_5.out).2.2 (ji29) p127 q127
                                          obtain rfl : (⟨go14, 0, none⟩ : Addr) = ad127 := (by injection e127)
                                          obtain ⟨ce127, hce127, hMe127, hcc127⟩ := Kd.S_get HO_5.out [] (ji29) p127 (by first | exact q127 | exact of_decide_eq_true (by first | (with_reducible assumption) | assumption) | (have e_ := (Kd.S_reads' HO_5.out).1; omega))
                                          obtain ⟨ve127_0, rfl, ge127_0⟩ := hMe127
                                          have hv127_0 := hcc127 0 _ rfl
                                          rw [Nat.add_zero, show ((Kd.slice 3 (Kd.int .i64))).sz = 1 from rfl, Nat.mul_one] at hv127_0
                                          replace hv127_0 := Option.some.inj (hv127_0.symm.trans hx127_0)
                                          rw [hv127_0] at ge127_0
                                          have HL127_0 := Aside0.mk (show Kd.R (Kd.int .i64) 3 _ _ _ _ (rd_L2 x5_2 (ji29)) from ge127_0)
                                          clear hv127_0 ge127_0
                                          have HX127_0 := Aside0.mk hx127_0
                                          clear hcc127 hce127
                                          (first | simp only [add_plain] at hx127_0 | simp only [add_at] at hx127_0 | simp only [Addr.add, Nat.zero_add] at hx127_0 | skip)
                                          have HR127_0 := Aside0.mk hi127_0
                                          have HC127_0 := Aside0.mk hl127_0
                                          clear hi127_0 hl127_0
                                          replace p127 := eq_true p127
                                          replace q127 := eq_true q127
                                          have p128 : 0 ≤ (x7_2 : Int) := of_decide_eq_true (by first | (with_reducible assumption) | assumption)
                                          have q128 : x7_2 < ((rd_L2 x5_2 (ji29)).length : Int) := of_decide_eq_true (by first | (with_reducible assumption) | assumption)
                                          obtain ⟨ad128, e128, hx128_0⟩ := Kd.at_int (by repeat (first | (with_reducible exact HR127_0.out) | (with_reducible refine Kd.C_alloc ?_ _) | (with_reducible refine Kd.C_drewN ?_ _) | (with_reducible refine Kd.C_drew ?_) | exact HR127_0.out)) x7_2 p128 q128
                                          cases e128
                                          replace p128 := eq_true p128
                                          replace q128 := eq_true q128
                                          go_wp2
                                          repeat (go_quiet (fail); try go_wp2)
                                          go_meet
                                          case rel => exact ⟨_, (wrap64 ((rd (rd_L2 x5_2 (ji29)) x7_2) + 1)), (by first | rfl | (simp; done) | (simp only [← hji29] <;> (first | rfl | simp)) | (simp [*]; done)), H', ⟨by have := HK1.out; have := HK2.out; have := HJ19.out; first | omega | exact Nat.le_refl _⟩, ⟨by (try simp only [hl5_2]); (with_reducible repeat (first | apply Kd.S_alloc | apply Kd.S_drewN | apply Kd.S_drew)); exact HO_5.out⟩, ⟨by repeat (first | (with_reducible first | exact HB.out | apply below_alloc | apply pw_below_drewN | apply below_drew1) | exact HB.out)⟩⟩
                                        · rw [if_neg c33] at H
                                          exact absurd H (by simp)
                                      · rw [if_neg c32] at H
                                        exact absurd H (by simp)
                                    · rw [if_neg c31] at H
                                      exact absurd H (by simp)
                                  · rw [if_neg c30] at H
                                    exact absurd H (by simp)
                                · replace c28 := Bool.eq_false_iff.mpr c28
                                  subst c28
                                  have H1 : (coppicerref_Far.j3 kj19 l0 l1 x5_2 x6_1 x7_2 (wrap64 (x6_1 + x7_2))) = some r := by rw [if_neg (show ¬ (false = true) by decide)] at H; exact H
                                  clear H
                                  have H := H1
                                  clear H1
                                  have H' := Aside0.mk H
                                  clear H
                                  go_wp2
                                  repeat (go_quiet (fail); try go_wp2)
                                  go_meet
                                  case rel => exact ⟨_, ((wrap64 (x6_1 + x7_2))), (by first | rfl | (simp; done) | (simp [*]; done)), H', ⟨by have := HK1.out; have := HK2.out; have := HJ19.out; first | omega | exact Nat.le_refl _⟩, ⟨by (try simp only [hl5_2]); (with_reducible repeat (first | apply Kd.S_alloc | apply Kd.S_drewN | apply Kd.S_drew)); exact HO_5.out⟩, ⟨by repeat (first | (with_reducible first | exact HB.out | apply below_alloc | apply pw_below_drewN | apply below_drew1) | exact HB.out)⟩⟩
                              case rest =>
                                clear HC27
                                try clear c1
                                try clear p1
                                try clear q1
                                try clear hx1
                                try clear c2
                                try clear p2
                                try clear c3
                                try clear c4
                                try clear c4b0
                                try clear c4b1
                                try clear c5
                                try clear c5b0
                                try clear c5b1
                                try clear p6
                                try clear c8
                                try clear c8b0
                                try clear c10
                                try clear c10b0
                                try clear c10b1
                                try clear c11
                                try clear c11b0
                                try clear c11b1
                                try clear c12
                                try clear c12b0
                                try clear p12
                                try clear q12
                                try clear hx12
                                try clear c13
                                try clear c13b0
                                try clear c14
                                try clear p14
                                try clear q14
                                try clear hx14
                                try clear hf14
                                try clear c17
                                try clear hx17
                                try clear hf17
                                try clear c19
                                try clear c19b0
                                try clear c21
                                try clear c21b0
                                try clear c23
                                try clear c23b0
                                try clear c24
                                try clear c24b0
                                try clear c25
                                try clear c25b0
                                try clear c26
                                try clear c26b0
                                try clear c28
                                try clear c29
                                try clear c30
                                try clear c30b0
                                try clear c31
                                try clear c31b0
                                try clear c32
                                try clear c32b0
                                try clear c33
                                try clear c33b0
                                try clear hx125_0
                                try clear hx126_0
                                try clear hx127_0
                                try clear hx128_0
                                try clear hx14_0
                                try clear hx17_0
                                try clear p1
                                try clear p12
                                try clear p125
                                try clear p126
                                try clear p127
                                try clear p128
                                try clear p14
                                try clear p2
                                try clear p6
                                try clear q1
                                try clear q12
                                try clear q125
                                try clear q126
                                try clear q127
                                try clear q128
                                try clear q14
                                obtain ⟨kq, x8_26, rfl, HA, HJ26, HO_5, HB⟩ := hcut
                                cases kq with
                                | zero => exact absurd HA.out (by simp [coppicerref_Far.j3])
                                | succ kj26 =>
                                  have H := HA.out
                                  clear HA
                                  simp only [coppicerref_Far.j3] at H
                                  have HC34 := Aside0.mk H
                                  clear H
                                  go_upto_region 12 with (fail)
                                  repeat (go_quiet (fail); go_upto_region 12 with (fail))
                                  go_cut [74] (fun v74 wc => ∃ (kq : Nat) (x74_33 : Bool), v74 = .bool x74_33 ∧ Aside0 (coppicerref_Far.j4 kq l0 l1 x5_2 x6_1 x7_2 x8_26 x74_33 = some r) ∧ Aside0 (kq ≤ kj26) ∧ Aside0 (Kd.S (Kd.slice 3 (Kd.int .i64)) 41 wc w.heap.size (fun _ => True) (.slice (some ⟨go14, 0, none⟩) x5_2.length co14) x5_2) ∧ Aside0 (Below w.heap.size w wc))
                                  case first =>
                                    have H := HC34.out
                                    clear HC34
                                    by_cases c35 : x7_2 > 0
                                    · rw [if_pos c35] at H
                                      have c35b0 : decide (0 < x7_2) = true := decide_eq_true c35
                                      clear c35
                                      (first | rw [c35b0] | (simp only [i64_w, i32_w]; rw [c35b0]) | skip)
                                      by_cases c36 : 0 ≤ x6_1
                                      · rw [if_pos c36] at H
                                        have c36b0 : decide (0 ≤ x6_1) = true := decide_eq_true c36
                                        clear c36
                                        by_cases c37 : x6_1 < (x5_2.length : Int)
                                        · rw [if_pos c37] at H
                                          have c37b0 : decide (x6_1 < (x5_2.length : Int)) = true := decide_eq_true c37
                                          (try (have c37b0h := c37b0; simp only [hl5_2] at c37b0h))
                                          clear c37
                                          obtain ⟨ji38, hji38⟩ : ∃ j_ : Int, (wrap64 (x7_2 - 1)) = j_ := ⟨_, rfl⟩
                                          replace H : (if 0 ≤ (ji38) then (if (ji38) < ((rd_L2 x5_2 x6_1).length : Int) then (coppicerref_Far.j4 kj26 l0 l1 x5_2 x6_1 x7_2 x8_26 (decide ((wrap64 ((rd (rd_L2 x5_2 x6_1) (ji38)) + 1)) < x8_26))) else (none)) else (none)) = some r := by first | (rw [hji38] at H; exact H) | (simp only [hji38] at H ⊢; exact H)
                                          have hji38w : (IntKind.i64.wrap (x7_2 - 1)) = ji38 := (i64_w _).trans hji38
                                          by_cases c39 : 0 ≤ (ji38)
                                          · rw [if_pos c39] at H
                                            have c39b0 : decide (0 ≤ (ji38)) = true := decide_eq_true c39
                                            clear c39
                                            by_cases c40 : (ji38) < ((rd_L2 x5_2 x6_1).length : Int)
                                            · rw [if_pos c40] at H
                                              have c40b0 : decide ((ji38) < ((rd_L2 x5_2 x6_1).length : Int)) = true := decide_eq_true c40
                                              (try (have c40b0h := c40b0; simp only [hl5_2] at c40b0h))
                                              clear c40
                                              have H' := Aside0.mk H
                                              clear H
                                              have p129 : 0 ≤ (x6_1 : Int) := of_decide_eq_true (by first | (with_reducible assumption) | assumption)
                                              have q129 : x6_1 < (x5_2.length : Int) := of_decide_eq_true (by first | (with_reducible assumption) | assumption)
                                              obtain ⟨ad129, A129_0, c129_0, e129, hx129_0, hl129_0, hi129_0⟩ := at_L2 (Kd.S_reads' HO_5.out).2.2 x6_1 p129 q129
                                              obtain rfl : (⟨go14, 0, none⟩ : Addr) = ad129 := (by injection e129)
                                              obtain ⟨ce129, hce129, hMe129, hcc129⟩ := Kd.S_get HO_5.out [] x6_1 p129 (by first | exact q129 | exact of_decide_eq_true (by first | (with_reducible assumption) | assumption) | (have e_ := (Kd.S_reads' HO_5.out).1; omega))
                                              obtain ⟨ve129_0, rfl, ge129_0⟩ := hMe129
                                              have hv129_0 := hcc129 0 _ rfl
                                              rw [Nat.add_zero, show ((Kd.slice 3 (Kd.int .i64))).sz = 1 from rfl, Nat.mul_one] at hv129_0
                                              replace hv129_0 := Option.some.inj (hv129_0.symm.trans hx129_0)
                                              rw [hv129_0] at ge129_0
                                              have HL129_0 := Aside0.mk (show Kd.R (Kd.int .i64) 3 _ _ _ _ (rd_L2 x5_2 x6_1) from ge129_0)
                                              clear hv129_0 ge129_0
                                              have HX129_0 := Aside0.mk hx129_0
                                              clear hcc129 hce129
                                              (first | simp only [add_plain] at hx129_0 | simp only [add_at] at hx129_0 | simp only [Addr.add, Nat.zero_add] at hx129_0 | skip)
                                              have HR129_0 := Aside0.mk hi129_0
                                              have HC129_0 := Aside0.mk hl129_0
                                              clear hi129_0 hl129_0
                                              replace p129 := eq_true p129
                                              replace q129 := eq_true q129
                                              have p130 : 0 ≤ ((ji38) : Int) := of_decide_eq_true (by first | (with_reducible assumption) | assumption)
                                              have q130 : (ji38) < ((rd_L2 x5_2 x6_1).length : Int) := of_decide_eq_true (by first | (with_reducible assumption) | assumption)
                                              obtain ⟨ad130, e130, hx130_0⟩ := Kd.at_int (by repeat (first | (with_reducible exact HR129_0.out) | (with_reducible refine Kd.C_alloc ?_ _) | (with_reducible refine Kd.C_drewN ?_ _) | (with_reducible refine Kd.C_drew ?_) | exact HR129_0.out)) (ji38) p130 q130
                                              cases e130
                                              replace p130 := eq_true p130
                                              replace q130 := eq_true q130
                                              go_wp2
                                              repeat (go_quiet (fail); try go_wp2)
                                              go_meet
                                              case rel => exact ⟨_, (decide ((wrap64 ((rd (rd_L2 x5_2 x6_1) (ji38)) + 1)) < x8_26)), (by first | rfl | (simp; done) | (simp only [← hji38] <;> (first | rfl | simp)) | (simp [*]; done)), H', ⟨by have := HK1.out; have := HK2.out; have := HJ19.out; have := HJ26.out; first | omega | exact Nat.le_refl _⟩, ⟨by (try simp only [hl5_2]); (with_reducible repeat (first | apply Kd.S_alloc | apply Kd.S_drewN | apply Kd.S_drew)); exact HO_5.out⟩, ⟨by repeat (first | (with_reducible first | exact HB.out | apply below_alloc | apply pw_below_drewN | apply below_drew1) | exact HB.out)⟩⟩
                                            · rw [if_neg c40] at H
                                              exact absurd H (by simp)
                                          · rw [if_neg c39] at H
                                            exact absurd H (by simp)
                                        · rw [if_neg c37] at H
                                          exact absurd H (by simp)
                                      · rw [if_neg c36] at H
                                        exact absurd H (by simp)
                                    · rw [if_neg c35] at H
                                      have c35b0 : decide (0 < x7_2) = false := decide_eq_false c35
                                      clear c35
                                      (first | rw [c35b0] | (simp only [i64_w, i32_w]; rw [c35b0]) | skip)
                                      have H' := Aside0.mk H
                                      clear H
                                      go_wp2
                                      repeat (go_quiet (fail); try go_wp2)
                                      go_meet
                                      case rel => exact ⟨_, (false), (by first | rfl | (simp; done) | (simp [*]; done)), H', ⟨by have := HK1.out; have := HK2.out; have := HJ19.out; have := HJ26.out; first | omega | exact Nat.le_refl _⟩, ⟨by (try simp only [hl5_2]); (with_reducible repeat (first | apply Kd.S_alloc | apply Kd.S_drewN | apply Kd.S_drew)); exact HO_5.out⟩, ⟨by repeat (first | (with_reducible first | exact HB.out | apply below_alloc | apply pw_below_drewN | apply below_drew1) | exact HB.out)⟩⟩
                                  case rest =>
                                    clear HC34
                                    try clear c1
                                    try clear p1
                                    try clear q1
                                    try clear hx1
                                    try clear c2
                                    try clear p2
                                    try clear c3
                                    try clear c4
                                    try clear c4b0
                                    try clear c4b1
                                    try clear c5
                                    try clear c5b0
                                    try clear c5b1
                                    try clear p6
                                    try clear c8
                                    try clear c8b0
                                    try clear c10
                                    try clear c10b0
                                    try clear c10b1
                                    try clear c11
                                    try clear c11b0
                                    try clear c11b1
                                    try clear c12
                                    try clear c12b0
                                    try clear p12
                                    try clear q12
                                    try clear hx12
                                    try clear c13
                                    try clear c13b0
                                    try clear p13
                                    try clear q13
                                    try clear hx13
                                    try clear c14
                                    try clear p14
                                    try clear q14
                                    try clear hx14
                                    try clear hf14
                                    try clear c17
                                    try clear hx17
                                    try clear hf17
                                    try clear c19
                                    try clear c19b0
                                    try clear c21
                                    try clear c21b0
                                    try clear c23
                                    try clear c23b0
                                    try clear c24
                                    try clear c24b0
                                    try clear c25
                                    try clear c25b0
                                    try clear c26
                                    try clear c26b0
                                    try clear c28
                                    try clear c29
                                    try clear c30
                                    try clear c30b0
                                    try clear c31
                                    try clear c31b0
                                    try clear c32
                                    try clear c32b0
                                    try clear c33
                                    try clear c33b0
                                    try clear c35
                                    try clear c35b0
                                    try clear c36
                                    try clear c36b0
                                    try clear c37
                                    try clear c37b0
                                    try clear c39
                                    try clear c39b0
                                    try clear c40
                                    try clear c40b0
                                    try clear hx125_0
                                    try clear hx126_0
                                    try clear hx127_0
                                    try clear hx128_0
                                    try clear hx129_0
                                    try clear hx130_0
                                    try clear hx14_0
                                    try clear hx17_0
                                    try clear p1
                                    try clear p12
                                    try clear p125
                                    try clear p126
                                    try clear p127
                                    try clear p128
                                    try clear p129
                                    try clear p130
                                    try clear p14
                                    try clear p2
                                    try clear p6
                                    try clear q1
                                    try clear q12
                                    try clear q125
                                    try clear q126
                                    try clear q127
                                    try clear q128
                                    try clear q129
                                    try clear q130
                                    try clear q14
                                    obtain ⟨kq, x74_33, rfl, HA, HJ33, HO_5, HB⟩ := hcut
                                    cases kq with
                                    | zero => exact absurd HA.out (by simp [coppicerref_Far.j4])
                                    | succ kj33 =>
                                      have H := HA.out
                                      clear HA
                                      simp only [coppicerref_Far.j4] at H
                                      have HC41 := Aside0.mk H
                                      clear H
                                      go_upto_if 74 with (fail)
                                      repeat (go_quiet (fail); go_upto_if 74 with (fail))
                                      go_cut [8] (fun v8 wc => ∃ (kq : Nat) (x8_40 : Int), v8 = .int .i64 x8_40 ∧ Aside0 (coppicerref_Far.j5 kq l0 l1 x5_2 x6_1 x7_2 x8_40 = some r) ∧ Aside0 (kq ≤ kj33) ∧ Aside0 (Kd.S (Kd.slice 3 (Kd.int .i64)) 41 wc w.heap.size (fun _ => True) (.slice (some ⟨go14, 0, none⟩) x5_2.length co14) x5_2) ∧ Aside0 (Below w.heap.size w wc))
                                      case first =>
                                        have H := HC41.out
                                        clear HC41
                                        by_cases c42 : x74_33 = true
                                        · subst c42
                                          have H1 : (if 0 ≤ x6_1 then (if x6_1 < (x5_2.length : Int) then (if 0 ≤ (wrap64 (x7_2 - 1)) then (if (wrap64 (x7_2 - 1)) < ((rd_L2 x5_2 x6_1).length : Int) then (coppicerref_Far.j5 kj33 l0 l1 x5_2 x6_1 x7_2 (wrap64 ((rd (rd_L2 x5_2 x6_1) (wrap64 (x7_2 - 1))) + 1))) else (none)) else (none)) else (none)) else (none)) = some r := by rw [if_pos rfl] at H; exact H
                                          clear H
                                          have H := H1
                                          clear H1
                                          by_cases c43 : 0 ≤ x6_1
                                          · rw [if_pos c43] at H
                                            have c43b0 : decide (0 ≤ x6_1) = true := decide_eq_true c43
                                            clear c43
                                            (first | rw [c43b0] | (simp only [i64_w, i32_w]; rw [c43b0]) | skip)
                                            by_cases c44 : x6_1 < (x5_2.length : Int)
                                            · rw [if_pos c44] at H
                                              have c44b0 : decide (x6_1 < (x5_2.length : Int)) = true := decide_eq_true c44
                                              (try (have c44b0h := c44b0; simp only [hl5_2] at c44b0h))
                                              clear c44
                                              obtain ⟨ji45, hji45⟩ : ∃ j_ : Int, (wrap64 (x7_2 - 1)) = j_ := ⟨_, rfl⟩
                                              replace H : (if 0 ≤ (ji45) then (if (ji45) < ((rd_L2 x5_2 x6_1).length : Int) then (coppicerref_Far.j5 kj33 l0 l1 x5_2 x6_1 x7_2 (wrap64 ((rd (rd_L2 x5_2 x6_1) (ji45)) + 1))) else (none)) else (none)) = some r := by first | (rw [hji45] at H; exact H) | (simp only [hji45] at H ⊢; exact H)
                                              have hji45w : (IntKind.i64.wrap (x7_2 - 1)) = ji45 := (i64_w _).trans hji45
                                              by_cases c46 : 0 ≤ (ji45)
                                              · rw [if_pos c46] at H
                                                have c46b0 : decide (0 ≤ (ji45)) = true := decide_eq_true c46
                                                clear c46
                                                by_cases c47 : (ji45) < ((rd_L2 x5_2 x6_1).length : Int)
                                                · rw [if_pos c47] at H
                                                  have c47b0 : decide ((ji45) < ((rd_L2 x5_2 x6_1).length : Int)) = true := decide_eq_true c47
                                                  (try (have c47b0h := c47b0; simp only [hl5_2] at c47b0h))
                                                  clear c47
                                                  have H' := Aside0.mk H
                                                  clear H
                                                  have p131 : 0 ≤ (x6_1 : Int) := of_decide_eq_true (by first | (with_reducible assumption) | assumption)
                                                  have q131 : x6_1 < (x5_2.length : Int) := of_decide_eq_true (by first | (with_reducible assumption) | assumption)
                                                  obtain ⟨ad131, A131_0, c131_0, e131, hx131_0, hl131_0, hi131_0⟩ := at_L2 (Kd.S_reads' HO_5.out).2.2 x6_1 p131 q131
                                                  obtain rfl : (⟨go14, 0, none⟩ : Addr) = ad131 := (by injection e131)
                                                  obtain ⟨ce131, hce131, hMe131, hcc131⟩ := Kd.S_get HO_5.out [] x6_1 p131 (by first | exact q131 | exact of_decide_eq_true (by first | (with_reducible assumption) | assumption) | (have e_ := (Kd.S_reads' HO_5.out).1; omega))
                                                  obtain ⟨ve131_0, rfl, ge131_0⟩ := hMe131
                                                  have hv131_0 := hcc131 0 _ rfl
                                                  rw [Nat.add_zero, show ((Kd.slice 3 (Kd.int .i64))).sz = 1 from rfl, Nat.mul_one] at hv131_0
                                                  replace hv131_0 := Option.some.inj (hv131_0.symm.trans hx131_0)
                                                  rw [hv131_0] at ge131_0
                                                  have HL131_0 := Aside0.mk (show Kd.R (Kd.int .i64) 3 _ _ _ _ (rd_L2 x5_2 x6_1) from ge131_0)
                                                  clear hv131_0 ge131_0
                                                  have HX131_0 := Aside0.mk hx131_0
                                                  clear hcc131 hce131
                                                  (first | simp only [add_plain] at hx131_0 | simp only [add_at] at hx131_0 | simp only [Addr.add, Nat.zero_add] at hx131_0 | skip)
                                                  have HR131_0 := Aside0.mk hi131_0
                                                  have HC131_0 := Aside0.mk hl131_0
                                                  clear hi131_0 hl131_0
                                                  replace p131 := eq_true p131
                                                  replace q131 := eq_true q131
                                                  have p132 : 0 ≤ ((ji45) : Int) := of_decide_eq_true (by first | (with_reducible assumption) | assumption)
                                                  have q132 : (ji45) < ((rd_L2 x5_2 x6_1).length : Int) := of_decide_eq_true (by first | (with_reducible assumption) | assumption)
                                                  obtain ⟨ad132, e132, hx132_0⟩ := Kd.at_int (by repeat (first | (with_reducible exact HR131_0.out) | (with_reducible refine Kd.C_alloc ?_ _) | (with_reducible refine Kd.C_drewN ?_ _) | (with_reducible refine Kd.C_drew ?_) | exact HR131_0.out)) (ji45) p132 q132
                                                  cases e132
                                                  replace p132 := eq_true p132
                                                  replace q132 := eq_true q132
                                                  go_wp2
                                                  repeat (go_quiet (fail); try go_wp2)
                                                  go_meet
                                                  case rel => exact ⟨_, (wrap64 ((rd (rd_L2 x5_2 x6_1) (ji45)) + 1)), (by first | rfl | (simp; done) | (simp only [← hji45] <;> (first | rfl | simp)) | (simp [*]; done)), H', ⟨by have := HK1.out; have := HK2.out; have := HJ19.out; have := HJ26.out; have := HJ33.out; first | omega | exact Nat.le_refl _⟩, ⟨by (try simp only [hl5_2]); (with_reducible repeat (first | apply Kd.S_alloc | apply Kd.S_drewN | apply Kd.S_drew)); exact HO_5.out⟩, ⟨by repeat (first | (with_reducible first | exact HB.out | apply below_alloc | apply pw_below_drewN | apply below_drew1) | exact HB.out)⟩⟩
                                                · rw [if_neg c47] at H
                                                  exact absurd H (by simp)
                                              · rw [if_neg c46] at H
                                                exact absurd H (by simp)
                                            · rw [if_neg c44] at H
                                              exact absurd H (by simp)
                                          · rw [if_neg c43] at H
                                            exact absurd H (by simp)
                                        · replace c42 := Bool.eq_false_iff.mpr c42
                                          subst c42
                                          have H1 : (coppicerref_Far.j5 kj33 l0 l1 x5_2 x6_1 x7_2 x8_26) = some r := by rw [if_neg (show ¬ (false = true) by decide)] at H; exact H
                                          clear H
                                          have H := H1
                                          clear H1
                                          have H' := Aside0.mk H
                                          clear H
                                          go_wp2
                                          repeat (go_quiet (fail); try go_wp2)
                                          go_meet
                                          case rel => exact ⟨_, (x8_26), (by first | rfl | (simp; done) | (simp [*]; done)), H', ⟨by have := HK1.out; have := HK2.out; have := HJ19.out; have := HJ26.out; have := HJ33.out; first | omega | exact Nat.le_refl _⟩, ⟨by (try simp only [hl5_2]); (with_reducible repeat (first | apply Kd.S_alloc | apply Kd.S_drewN | apply Kd.S_drew)); exact HO_5.out⟩, ⟨by repeat (first | (with_reducible first | exact HB.out | apply below_alloc | apply pw_below_drewN | apply below_drew1) | exact HB.out)⟩⟩
                                      case rest =>
                                        clear HC41
                                        try clear c1
                                        try clear p1
                                        try clear q1
                                        try clear hx1
                                        try clear c2
                                        try clear p2
                                        try clear c3
                                        try clear c4
                                        try clear c4b0
                                        try clear c4b1
                                        try clear c5
                                        try clear c5b0
                                        try clear c5b1
                                        try clear p6
                                        try clear c8
                                        try clear c8b0
                                        try clear c10
                                        try clear c10b0
                                        try clear c10b1
                                        try clear c11
                                        try clear c11b0
                                        try clear c11b1
                                        try clear c12
                                        try clear c12b0
                                        try clear p12
                                        try clear q12
                                        try clear hx12
                                        try clear c13
                                        try clear c13b0
                                        try clear p13
                                        try clear q13
                                        try clear hx13
                                        try clear c14
                                        try clear p14
                                        try clear q14
                                        try clear hx14
                                        try clear hf14
                                        try clear c17
                                        try clear hx17
                                        try clear hf17
                                        try clear c19
                                        try clear c19b0
                                        try clear c21
                                        try clear c21b0
                                        try clear c23
                                        try clear c23b0
                                        try clear c24
                                        try clear c24b0
                                        try clear c25
                                        try clear c25b0
                                        try clear c26
                                        try clear c26b0
                                        try clear c28
                                        try clear c29
                                        try clear c30
                                        try clear c30b0
                                        try clear c31
                                        try clear c31b0
                                        try clear c32
                                        try clear c32b0
                                        try clear c33
                                        try clear c33b0
                                        try clear c35
                                        try clear c35b0
                                        try clear c36
                                        try clear c36b0
                                        try clear c37
                                        try clear c37b0
                                        try clear c39
                                        try clear c39b0
                                        try clear c40
                                        try clear c40b0
                                        try clear c42
                                        try clear c43
                                        try clear c43b0
                                        try clear c44
                                        try clear c44b0
                                        try clear c46
                                        try clear c46b0
                                        try clear c47
                                        try clear c47b0
                                        try clear hx125_0
                                        try clear hx126_0
                                        try clear hx127_0
                                        try clear hx128_0
                                        try clear hx129_0
                                        try clear hx130_0
                                        try clear hx131_0
                                        try clear hx132_0
                                        try clear hx14_0
                                        try clear hx17_0
                                        try clear p1
                                        try clear p12
                                        try clear p125
                                        try clear p126
                                        try clear p127
                                        try clear p128
                                        try clear p129
                                        try clear p13
                                        try clear p130
                                        try clear p131
                                        try clear p132
                                        try clear p14
                                        try clear p2
                                        try clear p6
                                        try clear q1
                                        try clear q12
                                        try clear q125
                                        try clear q126
                                        try clear q127
                                        try clear q128
                                        try clear q129
                                        try clear q13
                                        try clear q130
                                        try clear q131
                                        try clear q132
                                        try clear q14
                                        obtain ⟨kq, x8_40, rfl, HA, HJ40, HO_5, HB⟩ := hcut
                                        cases kq with
                                        | zero => exact absurd HA.out (by simp [coppicerref_Far.j5])
                                        | succ kj40 =>
                                          have H := HA.out
                                          clear HA
                                          simp only [coppicerref_Far.j5] at H
                                          have HC48 := Aside0.mk H
                                          clear H
                                          go_upto_region 14 with (fail)
                                          repeat (go_quiet (fail); go_upto_region 14 with (fail))
                                          go_cut [89] (fun v89 wc => ∃ (kq : Nat) (x89_47 : Bool), v89 = .bool x89_47 ∧ Aside0 (coppicerref_Far.j6 kq l0 l1 x5_2 x6_1 x7_2 x8_40 x89_47 = some r) ∧ Aside0 (kq ≤ kj40) ∧ Aside0 (Kd.S (Kd.slice 3 (Kd.int .i64)) 41 wc w.heap.size (fun _ => True) (.slice (some ⟨go14, 0, none⟩) x5_2.length co14) x5_2) ∧ Aside0 (Below w.heap.size w wc))
                                          case first =>
                                            have H := HC48.out
                                            clear HC48
                                            by_cases c49 : x6_1 > 0
                                            · rw [if_pos c49] at H
                                              have c49b0 : decide (0 < x6_1) = true := decide_eq_true c49
                                              clear c49
                                              (first | rw [c49b0] | (simp only [i64_w, i32_w]; rw [c49b0]) | skip)
                                              have H' := Aside0.mk H
                                              clear H
                                              go_wp2
                                              repeat (go_quiet (fail); try go_wp2)
                                              go_meet
                                              case rel => exact ⟨_, (decide (x7_2 > 0)), (by first | rfl | (simp; done) | (simp [*]; done)), H', ⟨by have := HK1.out; have := HK2.out; have := HJ19.out; have := HJ26.out; have := HJ33.out; have := HJ40.out; first | omega | exact Nat.le_refl _⟩, ⟨by (try simp only [hl5_2]); (with_reducible repeat (first | apply Kd.S_alloc | apply Kd.S_drewN | apply Kd.S_drew)); exact HO_5.out⟩, ⟨by repeat (first | (with_reducible first | exact HB.out | apply below_alloc | apply pw_below_drewN | apply below_drew1) | exact HB.out)⟩⟩
                                            · rw [if_neg c49] at H
                                              have c49b0 : decide (0 < x6_1) = false := decide_eq_false c49
                                              clear c49
                                              (first | rw [c49b0] | (simp only [i64_w, i32_w]; rw [c49b0]) | skip)
                                              have H' := Aside0.mk H
                                              clear H
                                              go_wp2
                                              repeat (go_quiet (fail); try go_wp2)
                                              go_meet
                                              case rel => exact ⟨_, (false), (by first | rfl | (simp; done) | (simp [*]; done)), H', ⟨by have := HK1.out; have := HK2.out; have := HJ19.out; have := HJ26.out; have := HJ33.out; have := HJ40.out; first | omega | exact Nat.le_refl _⟩, ⟨by (try simp only [hl5_2]); (with_reducible repeat (first | apply Kd.S_alloc | apply Kd.S_drewN | apply Kd.S_drew)); exact HO_5.out⟩, ⟨by repeat (first | (with_reducible first | exact HB.out | apply below_alloc | apply pw_below_drewN | apply below_drew1) | exact HB.out)⟩⟩
                                          case rest =>
                                            clear HC48
                                            try clear c1
                                            try clear p1
                                            try clear q1
                                            try clear hx1
                                            try clear c2
                                            try clear p2
                                            try clear c3
                                            try clear c4
                                            try clear c4b0
                                            try clear c4b1
                                            try clear c5
                                            try clear c5b0
                                            try clear c5b1
                                            try clear p6
                                            try clear c8
                                            try clear c8b0
                                            try clear c10
                                            try clear c10b0
                                            try clear c10b1
                                            try clear c11
                                            try clear c11b0
                                            try clear c11b1
                                            try clear c12
                                            try clear c12b0
                                            try clear p12
                                            try clear q12
                                            try clear hx12
                                            try clear c13
                                            try clear c13b0
                                            try clear p13
                                            try clear q13
                                            try clear hx13
                                            try clear c14
                                            try clear p14
                                            try clear q14
                                            try clear hx14
                                            try clear hf14
                                            try clear c17
                                            try clear hx17
                                            try clear hf17
                                            try clear c19
                                            try clear c19b0
                                            try clear c21
                                            try clear c21b0
                                            try clear c23
                                            try clear c23b0
                                            try clear c24
                                            try clear c24b0
                                            try clear c25
                                            try clear c25b0
                                            try clear c26
                                            try clear c26b0
                                            try clear c28
                                            try clear c29
                                            try clear c30
                                            try clear c30b0
                                            try clear c31
                                            try clear c31b0
                                            try clear c32
                                            try clear c32b0
                                            try clear c33
                                            try clear c33b0
                                            try clear c35
                                            try clear c35b0
                                            try clear c36
                                            try clear c36b0
                                            try clear c37
                                            try clear c37b0
                                            try clear c39
                                            try clear c39b0
                                            try clear c40
                                            try clear c40b0
                                            try clear c42
                                            try clear c43
                                            try clear c43b0
                                            try clear c44
                                            try clear c44b0
                                            try clear c46
                                            try clear c46b0
                                            try clear c47
                                            try clear c47b0
                                            try clear c49
                                            try clear c49b0
                                            try clear hx125_0
                                            try clear hx126_0
                                            try clear hx127_0
                                            try clear hx128_0
                                            try clear hx129_0
                                            try clear hx130_0
                                            try clear hx131_0
                                            try clear hx132_0
                                            try clear hx14_0
                                            try clear hx17_0
                                            try clear p1
                                            try clear p12
                                            try clear p125
                                            try clear p126
                                            try clear p127
                                            try clear p128
                                            try clear p129
                                            try clear p13
                                            try clear p130
                                            try clear p131
                                            try clear p132
                                            try clear p14
                                            try clear p2
                                            try clear p6
                                            try clear q1
                                            try clear q12
                                            try clear q125
                                            try clear q126
                                            try clear q127
                                            try clear q128
                                            try clear q129
                                            try clear q13
                                            try clear q130
                                            try clear q131
                                            try clear q132
                                            try clear q14
                                            obtain ⟨kq, x89_47, rfl, HA, HJ47, HO_5, HB⟩ := hcut
                                            cases kq with
                                            | zero => exact absurd HA.out (by simp [coppicerref_Far.j6])
                                            | succ kj47 =>
                                              have H := HA.out
                                              clear HA
                                              simp only [coppicerref_Far.j6] at H
                                              by_cases c50 : x89_47 = true
                                              · subst c50
                                                have H1 : (if 0 ≤ (wrap64 (x6_1 - 1)) then (if (wrap64 (x6_1 - 1)) < (x5_2.length : Int) then (if 0 ≤ (wrap64 (x7_2 - 1)) then (if (wrap64 (x7_2 - 1)) < ((rd_L2 x5_2 (wrap64 (x6_1 - 1))).length : Int) then (if (wrap64 (x6_1 - 1)) < (l0.length : Int) then (if (wrap64 (x7_2 - 1)) < (l1.length : Int) then (if (rd l0 (wrap64 (x6_1 - 1))) = (rd l1 (wrap64 (x7_2 - 1))) then (if (rd (rd_L2 x5_2 (wrap64 (x6_1 - 1))) (wrap64 (x7_2 - 1))) < x8_40 then (if 0 ≤ x6_1 then (if x6_1 < (x5_2.length : Int) then (if 0 ≤ x7_2 then (if x7_2 < ((rd_L2 x5_2 x6_1).length : Int) then (coppicerref_Far.l1 kj47 l0 l1 (x5_2.set (x6_1 : Int).toNat ((rd_L2 x5_2 x6_1).set (x7_2 : Int).toNat (rd (rd_L2 x5_2 (wrap64 (x6_1 - 1))) (wrap64 (x7_2 - 1))))) x6_1 (wrap64 (x7_2 + 1))) else (none)) else (none)) else (none)) else (none)) else (if 0 ≤ x6_1 then (if x6_1 < (x5_2.length : Int) then (if 0 ≤ x7_2 then (if x7_2 < ((rd_L2 x5_2 x6_1).length : Int) then (coppicerref_Far.l1 kj47 l0 l1 (x5_2.set (x6_1 : Int).toNat ((rd_L2 x5_2 x6_1).set (x7_2 : Int).toNat x8_40)) x6_1 (wrap64 (x7_2 + 1))) else (none)) else (none)) else (none)) else (none))) else (if (wrap64 ((rd (rd_L2 x5_2 (wrap64 (x6_1 - 1))) (wrap64 (x7_2 - 1))) + 1)) < x8_40 then (if 0 ≤ x6_1 then (if x6_1 < (x5_2.length : Int) then (if 0 ≤ x7_2 then (if x7_2 < ((rd_L2 x5_2 x6_1).length : Int) then (coppicerref_Far.l1 kj47 l0 l1 (x5_2.set (x6_1 : Int).toNat ((rd_L2 x5_2 x6_1).set (x7_2 : Int).toNat (wrap64 ((rd (rd_L2 x5_2 (wrap64 (x6_1 - 1))) (wrap64 (x7_2 - 1))) + 1)))) x6_1 (wrap64 (x7_2 + 1))) else (none)) else (none)) else (none)) else (none)) else (if 0 ≤ x6_1 then (if x6_1 < (x5_2.length : Int) then (if 0 ≤ x7_2 then (if x7_2 < ((rd_L2 x5_2 x6_1).length : Int) then (coppicerref_Far.l1 kj47 l0 l1 (x5_2.set (x6_1 : Int).toNat ((rd_L2 x5_2 x6_1).set (x7_2 : Int).toNat x8_40)) x6_1 (wrap64 (x7_2 + 1))) else (none)) else (none)) else (none)) else (none)))) else (none)) else (none)) else (none)) else (none)) else (none)) else (none)) = some r := by rw [if_pos rfl] at H; exact H
                                                clear H
                                                have H := H1
                                                clear H1
                                                obtain ⟨ji51, hji51⟩ : ∃ j_ : Int, (wrap64 (x6_1 - 1)) = j_ := ⟨_, rfl⟩
                                                replace H : (if 0 ≤ (ji51) then (if (ji51) < (x5_2.length : Int) then (if 0 ≤ (wrap64 (x7_2 - 1)) then (if (wrap64 (x7_2 - 1)) < ((rd_L2 x5_2 (ji51)).length : Int) then (if (ji51) < (l0.length : Int) then (if (wrap64 (x7_2 - 1)) < (l1.length : Int) then (if (rd l0 (ji51)) = (rd l1 (wrap64 (x7_2 - 1))) then (if (rd (rd_L2 x5_2 (ji51)) (wrap64 (x7_2 - 1))) < x8_40 then (if 0 ≤ x6_1 then (if x6_1 < (x5_2.length : Int) then (if 0 ≤ x7_2 then (if x7_2 < ((rd_L2 x5_2 x6_1).length : Int) then (coppicerref_Far.l1 kj47 l0 l1 (x5_2.set (x6_1 : Int).toNat ((rd_L2 x5_2 x6_1).set (x7_2 : Int).toNat (rd (rd_L2 x5_2 (ji51)) (wrap64 (x7_2 - 1))))) x6_1 (wrap64 (x7_2 + 1))) else (none)) else (none)) else (none)) else (none)) else (if 0 ≤ x6_1 then (if x6_1 < (x5_2.length : Int) then (if 0 ≤ x7_2 then (if x7_2 < ((rd_L2 x5_2 x6_1).length : Int) then (coppicerref_Far.l1 kj47 l0 l1 (x5_2.set (x6_1 : Int).toNat ((rd_L2 x5_2 x6_1).set (x7_2 : Int).toNat x8_40)) x6_1 (wrap64 (x7_2 + 1))) else (none)) else (none)) else (none)) else (none))) else (if (wrap64 ((rd (rd_L2 x5_2 (ji51)) (wrap64 (x7_2 - 1))) + 1)) < x8_40 then (if 0 ≤ x6_1 then (if x6_1 < (x5_2.length : Int) then (if 0 ≤ x7_2 then (if x7_2 < ((rd_L2 x5_2 x6_1).length : Int) then (coppicerref_Far.l1 kj47 l0 l1 (x5_2.set (x6_1 : Int).toNat ((rd_L2 x5_2 x6_1).set (x7_2 : Int).toNat (wrap64 ((rd (rd_L2 x5_2 (ji51)) (wrap64 (x7_2 - 1))) + 1)))) x6_1 (wrap64 (x7_2 + 1))) else (none)) else (none)) else (none)) else (none)) else (if 0 ≤ x6_1 then (if x6_1 < (x5_2.length : Int) then (if 0 ≤ x7_2 then (if x7_2 < ((rd_L2 x5_2 x6_1).length : Int) then (coppicerref_Far.l1 kj47 l0 l1 (x5_2.set (x6_1 : Int).toNat ((rd_L2 x5_2 x6_1).set (x7_2 : Int).toNat x8_40)) x6_1 (wrap64 (x7_2 + 1))) else (none)) else (none)) else (none)) else (none)))) else (none)) else (none)) else (none)) else (none)) else (none)) else (none)) = some r := by first | (rw [hji51] at H; exact H) | (simp only [hji51] at H ⊢; exact H)
                                                have hji51w : (IntKind.i64.wrap (x6_1 - 1)) = ji51 := (i64_w _).trans hji51
                                                by_cases c52 : 0 ≤ (ji51)
                                                · rw [if_pos c52] at H
                                                  have c52b0 : decide (0 ≤ (ji51)) = true := decide_eq_true c52
                                                  clear c52
                                                  by_cases c53 : (ji51) < (x5_2.length : Int)
                                                  · rw [if_pos c53] at H
                                                    have c53b0 : decide ((ji51) < (x5_2.length : Int)) = true := decide_eq_true c53
                                                    (try (have c53b0h := c53b0; simp only [hl5_2] at c53b0h))
                                                    clear c53
                                                    obtain ⟨ji54, hji54⟩ : ∃ j_ : Int, (wrap64 (x7_2 - 1)) = j_ := ⟨_, rfl⟩
                                                    replace H : (if 0 ≤ (ji54) then (if (ji54) < ((rd_L2 x5_2 (ji51)).length : Int) then (if (ji51) < (l0.length : Int) then (if (ji54) < (l1.length : Int) then (if (rd l0 (ji51)) = (rd l1 (ji54)) then (if (rd (rd_L2 x5_2 (ji51)) (ji54)) < x8_40 then (if 0 ≤ x6_1 then (if x6_1 < (x5_2.length : Int) then (if 0 ≤ x7_2 then (if x7_2 < ((rd_L2 x5_2 x6_1).length : Int) then (coppicerref_Far.l1 kj47 l0 l1 (x5_2.set (x6_1 : Int).toNat ((rd_L2 x5_2 x6_1).set (x7_2 : Int).toNat (rd (rd_L2 x5_2 (ji51)) (ji54)))) x6_1 (wrap64 (x7_2 + 1))) else (none)) else (none)) else (none)) else (none)) else (if 0 ≤ x6_1 then (if x6_1 < (x5_2.length : Int) then (if 0 ≤ x7_2 then (if x7_2 < ((rd_L2 x5_2 x6_1).length : Int) then (coppicerref_Far.l1 kj47 l0 l1 (x5_2.set (x6_1 : Int).toNat ((rd_L2 x5_2 x6_1).set (x7_2 : Int).toNat x8_40)) x6_1 (wrap64 (x7_2 + 1))) else (none)) else (none)) else (none)) else (none))) else (if (wrap64 ((rd (rd_L2 x5_2 (ji51)) (ji54)) + 1)) < x8_40 then (if 0 ≤ x6_1 then (if x6_1 < (x5_2.length : Int) then (if 0 ≤ x7_2 then (if x7_2 < ((rd_L2 x5_2 x6_1).length : Int) then (coppicerref_Far.l1 kj47 l0 l1 (x5_2.set (x6_1 : Int).toNat ((rd_L2 x5_2 x6_1).set (x7_2 : Int).toNat (wrap64 ((rd (rd_L2 x5_2 (ji51)) (ji54)) + 1)))) x6_1 (wrap64 (x7_2 + 1))) else (none)) else (none)) else (none)) else (none)) else (if 0 ≤ x6_1 then (if x6_1 < (x5_2.length : Int) then (if 0 ≤ x7_2 then (if x7_2 < ((rd_L2 x5_2 x6_1).length : Int) then (coppicerref_Far.l1 kj47 l0 l1 (x5_2.set (x6_1 : Int).toNat ((rd_L2 x5_2 x6_1).set (x7_2 : Int).toNat x8_40)) x6_1 (wrap64 (x7_2 + 1))) else (none)) else (none)) else (none)) else (none)))) else (none)) else (none)) else (none)) else (none)) = some r := by first | (rw [hji54] at H; exact H) | (simp only [hji54] at H ⊢; exact H)
                                                    have hji54w : (IntKind.i64.wrap (x7_2 - 1)) = ji54 := (i64_w _).trans hji54
                                                    by_cases c55 : 0 ≤ (ji54)
                                                    · rw [if_pos c55] at H
                                                      have c55b0 : decide (0 ≤ (ji54)) = true := decide_eq_true c55
                                                      clear c55
                                                      by_cases c56 : (ji54) < ((rd_L2 x5_2 (ji51)).length : Int)
                                                      · rw [if_pos c56] at H
                                                        have c56b0 : decide ((ji54) < ((rd_L2 x5_2 (ji51)).length : Int)) = true := decide_eq_true c56
                                                        (try (have c56b0h := c56b0; simp only [hl5_2] at c56b0h))
                                                        clear c56
                                                        by_cases c57 : (ji51) < (l0.length : Int)
                                                        · rw [if_pos c57] at H
                                                          have c57b0 : decide ((ji51) < (l0.length : Int)) = true := decide_eq_true c57
                                                          (try (have c57b0h := c57b0; simp only [hl5_2] at c57b0h))
                                                          clear c57
                                                          by_cases c58 : (ji54) < (l1.length : Int)
                                                          · rw [if_pos c58] at H
                                                            have c58b0 : decide ((ji54) < (l1.length : Int)) = true := decide_eq_true c58
                                                            (try (have c58b0h := c58b0; simp only [hl5_2] at c58b0h))
                                                            clear c58
                                                            by_cases c59 : (rd l0 (ji51)) = (rd l1 (ji54))
                                                            · rw [if_pos c59] at H
                                                              have c59b0 : ((rd l0 (ji51)) == (rd l1 (ji54))) = true := beq_iff_eq.mpr c59
                                                              have c59b1 : ((rd l0 (ji51)) != (rd l1 (ji54))) = false := bne_eq_false_iff_eq.mpr c59
                                                              clear c59
                                                              by_cases c60 : (rd (rd_L2 x5_2 (ji51)) (ji54)) < x8_40
                                                              · rw [if_pos c60] at H
                                                                have c60b0 : decide ((rd (rd_L2 x5_2 (ji51)) (ji54)) < x8_40) = true := decide_eq_true c60
                                                                clear c60
                                                                by_cases c61 : 0 ≤ x6_1
                                                                · rw [if_pos c61] at H
                                                                  have c61b0 : decide (0 ≤ x6_1) = true := decide_eq_true c61
                                                                  clear c61
                                                                  by_cases c62 : x6_1 < (x5_2.length : Int)
                                                                  · rw [if_pos c62] at H
                                                                    have c62b0 : decide (x6_1 < (x5_2.length : Int)) = true := decide_eq_true c62
                                                                    (try (have c62b0h := c62b0; simp only [hl5_2] at c62b0h))
                                                                    clear c62
                                                                    by_cases c63 : 0 ≤ x7_2
                                                                    · rw [if_pos c63] at H
                                                                      have c63b0 : decide (0 ≤ x7_2) = true := decide_eq_true c63
                                                                      clear c63
                                                                      by_cases c64 : x7_2 < ((rd_L2 x5_2 x6_1).length : Int)
                                                                      · rw [if_pos c64] at H
                                                                        have c64b0 : decide (x7_2 < ((rd_L2 x5_2 x6_1).length : Int)) = true := decide_eq_true c64
                                                                        (try (have c64b0h := c64b0; simp only [hl5_2] at c64b0h))
                                                                        clear c64
                                                                        obtain ⟨y138, hy138⟩ : ∃ y_ : List Int, y_ = ((rd_L2 x5_2 x6_1).set (x7_2 : Int).toNat (rd (rd_L2 x5_2 (ji51)) (ji54))) := ⟨_, rfl⟩
                                                                        replace H : (coppicerref_Far.l1 kj47 l0 l1 (x5_2.set (x6_1 : Int).toNat y138) x6_1 (wrap64 (x7_2 + 1))) = some r := by first | (rw [hy138]; with_reducible exact H) | (have H2_ := (Option.bind_some _ _).symm.trans H; rw [hy138]; with_reducible exact H2_) | (have H2_ := (Option.bind_some _ _).symm.trans H; with_reducible exact H2_) | with_reducible exact H | (rw [hy138]; exact H) | exact H
                                                                        have Ny138 := Aside0.mk hy138
                                                                        clear hy138
                                                                        obtain ⟨y140, hy140⟩ : ∃ y_ : List (List Int), y_ = (x5_2.set (x6_1 : Int).toNat y138) := ⟨_, rfl⟩
                                                                        replace H : (coppicerref_Far.l1 kj47 l0 l1 y140 x6_1 (wrap64 (x7_2 + 1))) = some r := by first | (rw [hy140]; with_reducible exact H) | (have H2_ := (Option.bind_some _ _).symm.trans H; rw [hy140]; with_reducible exact H2_) | (have H2_ := (Option.bind_some _ _).symm.trans H; with_reducible exact H2_) | with_reducible exact H | (rw [hy140]; exact H) | exact H
                                                                        have Ny140 := Aside0.mk hy140
                                                                        clear hy140
                                                                        have H' := Aside0.mk H
                                                                        clear H
                                                                        have p133 : 0 ≤ ((ji51) : Int) := of_decide_eq_true (by first | (with_reducible assumption) | assumption)
                                                                        have q133 : (ji51) < (x5_2.length : Int) := of_decide_eq_true (by first | (with_reducible assumption) | assumption)
                                                                        obtain ⟨ad133, A133_0, c133_0, e133, hx133_0, hl133_0, hi133_0⟩ := at_L2 (Kd.S_reads' HO_5.out).2.2 (ji51) p133 q133
                                                                        obtain rfl : (⟨go14, 0, none⟩ : Addr) = ad133 := (by injection e133)
                                                                        obtain ⟨ce133, hce133, hMe133, hcc133⟩ := Kd.S_get HO_5.out [] (ji51) p133 (by first | exact q133 | exact of_decide_eq_true (by first | (with_reducible assumption) | assumption) | (have e_ := (Kd.S_reads' HO_5.out).1; omega))
                                                                        obtain ⟨ve133_0, rfl, ge133_0⟩ := hMe133
                                                                        have hv133_0 := hcc133 0 _ rfl
                                                                        rw [Nat.add_zero, show ((Kd.slice 3 (Kd.int .i64))).sz = 1 from rfl, Nat.mul_one] at hv133_0
                                                                        replace hv133_0 := Option.some.inj (hv133_0.symm.trans hx133_0)
                                                                        rw [hv133_0] at ge133_0
                                                                        have HL133_0 := Aside0.mk (show Kd.R (Kd.int .i64) 3 _ _ _ _ (rd_L2 x5_2 (ji51)) from ge133_0)
                                                                        clear hv133_0 ge133_0
                                                                        have HX133_0 := Aside0.mk hx133_0
                                                                        clear hcc133 hce133
                                                                        (first | simp only [add_plain] at hx133_0 | simp only [add_at] at hx133_0 | simp only [Addr.add, Nat.zero_add] at hx133_0 | skip)
                                                                        have HR133_0 := Aside0.mk hi133_0
                                                                        have HC133_0 := Aside0.mk hl133_0
                                                                        clear hi133_0 hl133_0
                                                                        replace p133 := eq_true p133
                                                                        replace q133 := eq_true q133
                                                                        have p134 : 0 ≤ ((ji54) : Int) := of_decide_eq_true (by first | (with_reducible assumption) | assumption)
                                                                        have q134 : (ji54) < ((rd_L2 x5_2 (ji51)).length : Int) := of_decide_eq_true (by first | (with_reducible assumption) | assumption)
                                                                        obtain ⟨ad134, e134, hx134_0⟩ := Kd.at_int (by repeat (first | (with_reducible exact HR133_0.out) | (with_reducible refine Kd.C_alloc ?_ _) | (with_reducible refine Kd.C_drewN ?_ _) | (with_reducible refine Kd.C_drew ?_) | exact HR133_0.out)) (ji54) p134 q134
                                                                        cases e134
                                                                        replace p134 := eq_true p134
                                                                        replace q134 := eq_true q134
                                                                        have p135 : 0 ≤ ((ji51) : Int) := of_decide_eq_true (by first | (with_reducible assumption) | assumption)
                                                                        have q135 : (ji51) < (l0.length : Int) := of_decide_eq_true (by first | (with_reducible assumption) | assumption)
                                                                        obtain ⟨ad135, e135, hx135_0⟩ := Kd.at_int HR0.out (ji51) p135 q135
                                                                        cases e135
                                                                        replace hx135_0 := (HB.out.cell (World.block_lt_of_cell? w _ hx135_0)).trans hx135_0
                                                                        replace p135 := eq_true p135
                                                                        replace q135 := eq_true q135
                                                                        have p136 : 0 ≤ ((ji54) : Int) := of_decide_eq_true (by first | (with_reducible assumption) | assumption)
                                                                        have q136 : (ji54) < (l1.length : Int) := of_decide_eq_true (by first | (with_reducible assumption) | assumption)
                                                                        obtain ⟨ad136, e136, hx136_0⟩ := Kd.at_int HR1.out (ji54) p136 q136
                                                                        cases e136
                                                                        replace hx136_0 := (HB.out.cell (World.block_lt_of_cell? w _ hx136_0)).trans hx136_0
                                                                        replace p136 := eq_true p136
                                                                        replace q136 := eq_true q136
                                                                        have p137 : 0 ≤ (x6_1 : Int) := of_decide_eq_true (by first | (with_reducible assumption) | assumption)
                                                                        have q137 : x6_1 < (x5_2.length : Int) := of_decide_eq_true (by first | (with_reducible assumption) | assumption)
                                                                        obtain ⟨ad137, A137_0, c137_0, e137, hx137_0, hl137_0, hi137_0⟩ := at_L2 (Kd.S_reads' HO_5.out).2.2 x6_1 p137 q137
                                                                        obtain rfl : (⟨go14, 0, none⟩ : Addr) = ad137 := (by injection e137)
                                                                        obtain ⟨ce137, hce137, hMe137, hcc137⟩ := Kd.S_get HO_5.out [] x6_1 p137 (by first | exact q137 | exact of_decide_eq_true (by first | (with_reducible assumption) | assumption) | (have e_ := (Kd.S_reads' HO_5.out).1; omega))
                                                                        obtain ⟨ve137_0, rfl, ge137_0⟩ := hMe137
                                                                        have hv137_0 := hcc137 0 _ rfl
                                                                        rw [Nat.add_zero, show ((Kd.slice 3 (Kd.int .i64))).sz = 1 from rfl, Nat.mul_one] at hv137_0
                                                                        replace hv137_0 := Option.some.inj (hv137_0.symm.trans hx137_0)
                                                                        rw [hv137_0] at ge137_0
                                                                        have HL137_0 := Aside0.mk (show Kd.R (Kd.int .i64) 3 _ _ _ _ (rd_L2 x5_2 x6_1) from ge137_0)
                                                                        clear hv137_0 ge137_0
                                                                        have HX137_0 := Aside0.mk hx137_0
                                                                        clear hcc137 hce137
                                                                        (first | simp only [add_plain] at hx137_0 | simp only [add_at] at hx137_0 | simp only [Addr.add, Nat.zero_add] at hx137_0 | skip)
                                                                        have HR137_0 := Aside0.mk hi137_0
                                                                        have HC137_0 := Aside0.mk hl137_0
                                                                        clear hi137_0 hl137_0
                                                                        replace p137 := eq_true p137
                                                                        replace q137 := eq_true q137
                                                                        have p65 : 0 ≤ (x7_2 : Int) := of_decide_eq_true (by first | (with_reducible assumption) | assumption)
                                                                        have q65 : (x7_2 : Int) < (((rd_L2 x5_2 x6_1).length : Int) : Int) := of_decide_eq_true (by first | (with_reducible assumption) | assumption)
                                                                        obtain ⟨go65, co65, eo65, gb65, gl65, cl65, HG65⟩ := Kd.R_form HL137_0.out (by omega)
                                                                        (first | cases eo65 | (injection eo65 with ea_ en_ ec_; (first | subst ea_ | (injection ea_ with ea_; subst ea_)); subst ec_; clear en_))
                                                                        have GB65 := Aside0.mk gb65
                                                                        have GG65 := Aside0.mk HG65
                                                                        clear gb65 gl65 HG65
                                                                        obtain ⟨hx65_0, hf65_0⟩ := Kd.R_celln 0 HL137_0.out (x7_2 : Int) p65 q65
                                                                        replace p65 := eq_true p65
                                                                        replace q65 := eq_true q65
                                                                        have hq66 : (x6_1 : Int) < (x5_2.length : Int) := (by have h_ : (x6_1 : Int) < ((x5_2.length : Int) : Int) := of_decide_eq_true (by first | (with_reducible assumption) | assumption); first | exact h_ | (have e_ := (Kd.S_reads' HO_5.out).1; omega) | simpa only [List.length_set, List.length_set] using h_)
                                                                        obtain ⟨oki66, ce66, hcl66, hM66, hcc66, hok66, hbk66⟩ := Kd.S_borrow HO_5.out [] (x6_1 : Int) (of_decide_eq_true (by first | (with_reducible assumption) | assumption)) hq66
                                                                        obtain ⟨ve66_0, rfl, ge66_0⟩ := hM66
                                                                        have hv66 := hcc66 0 _ rfl
                                                                        rw [Nat.add_zero, show ((Kd.slice 3 (Kd.int .i64))).sz = 1 from rfl, Nat.mul_one] at hv66
                                                                        replace hv66 := Option.some.inj (hv66.symm.trans HX137_0.out)
                                                                        subst hv66
                                                                        clear hcc66 hcl66
                                                                        replace ge66_0 := (show Kd.R (Kd.int .i64) 3 _ _ _ _ (rd_L2 x5_2 x6_1) from ge66_0)
                                                                        (try (obtain ⟨hy66_, hz66_⟩ := Kd.R_celln 0 ge66_0 (x7_2 : Int) (of_decide_eq_true (by first | (with_reducible assumption) | assumption)) (by have h_ : (x7_2 : Int) < (((rd_L2 x5_2 x6_1).length : Int) : Int) := of_decide_eq_true (by first | (with_reducible assumption) | assumption); first | exact h_ | (have e_ := (Kd.R_reads' HR137_0.out).1; omega) | simpa using h_)))
                                                                        have HP66 := Kd.R_putg ge66_0 (x7_2 : Int) (rd (rd_L2 x5_2 (ji51)) (ji54))
                                                                        go_wp2_with (first | ((with_reducible refine gate_store (t := 3) (p := 122) rfl ?_); (try (rw [drewN_self wc]; generalize hq_ : World.drewN wc _ = wc; (try (have nx_ := Aside0.mk (cell_at hq_ HX137_0.out); clear HX137_0; have HX137_0 := nx_; clear nx_)); (try (have nx_ := Aside0.mk (Kd.S_at hq_ HO_5.out); clear HO_5; have HO_5 := nx_; clear nx_)); (try (have nx_ := Aside0.mk (Kd.R_at hq_ HL157.out); clear HL157; have HL157 := nx_; clear nx_)); (try (have nx_ := Aside0.mk (below_at hq_ HB.out); clear HB; have HB := nx_; clear nx_)); (try clear hq_); (try (have hq66 : (x6_1 : Int) < (x5_2.length : Int) := (by have h_ : (x6_1 : Int) < ((x5_2.length : Int) : Int) := of_decide_eq_true (by first | (with_reducible assumption) | assumption); first | exact h_ | (have e_ := (Kd.S_reads' HO_5.out).1; omega) | simpa only [List.length_set, List.length_set] using h_))); (try (obtain ⟨oki66, ce66, hcl66, hM66, hcc66, hok66, hbk66⟩ := Kd.S_borrow HO_5.out [] (x6_1 : Int) (of_decide_eq_true (by first | (with_reducible assumption) | assumption)) hq66)); (try (obtain ⟨ve66_0, rfl, ge66_0⟩ := hM66)); (try (have hv66 := hcc66 0 _ rfl)); (try (rw [Nat.add_zero, show ((Kd.slice 3 (Kd.int .i64))).sz = 1 from rfl, Nat.mul_one] at hv66)); (try (replace hv66 := Option.some.inj (hv66.symm.trans HX137_0.out))); (try (subst hv66)); (try (clear hcc66 hcl66)); (try (replace ge66_0 := (show Kd.R (Kd.int .i64) 3 _ _ _ _ (rd_L2 x5_2 x6_1) from ge66_0))); (try (try (obtain ⟨hy66_, hz66_⟩ := Kd.R_celln 0 ge66_0 (x7_2 : Int) (of_decide_eq_true (by first | (with_reducible assumption) | assumption)) (by have h_ : (x7_2 : Int) < (((rd_L2 x5_2 x6_1).length : Int) : Int) := of_decide_eq_true (by first | (with_reducible assumption) | assumption); first | exact h_ | (have e_ := (Kd.R_reads' HR137_0.out).1; omega) | simpa using h_)))); (try (have HP66 := Kd.R_putg ge66_0 (x7_2 : Int) (rd (rd_L2 x5_2 (ji51)) (ji54)))))); refine store_event (t := 3) (p := 122) (v := ?vo_w67) (w1 := (wc.setCell ⟨go65, (x7_2 : Int).toNat, none⟩ (.int .i64 (rd (rd_L2 x5_2 (ji51)) (ji54))))) ?hg ?ho ?hn ?hr ?_; (case ho => rfl); (case hg => rfl); (case hn => rfl); (case hr => first | (go_simp; done) | (go_simp; rfl)); intro w67 hw; have hg : wc.grownBy w67 (some go65) := (by rw [hw]; exact HP66.2); have hz_ : Kd.R (Kd.int .i64) 3 w67 w.heap.size oki66 (.slice (some ⟨go65, 0, none⟩) (rd_L2 x5_2 x6_1).length c137_0) y138 := (by rw [hw, Ny138.out]; exact HP66.1); have hp_ : Kd.S (Kd.slice 3 (Kd.int .i64)) 41 w67 w.heap.size (fun _ => True) (.slice (some ⟨go14, 0, none⟩) x5_2.length co14) y140 := (by rw [Ny140.out]; exact hbk66 hg (fun k_ e_ => by injection e_ with e_; subst e_; exact ge66_0.1 _ rfl) (Kd.M_row hz_)); have hm_ := Kd.R_mono hz_ hok66; clear HP66 hbk66; have n0_ := Aside0.mk (hp_); have n1_ := Aside0.mk ((by rw [hw]; exact below_set (HB.out) GB65.out : Below w.heap.size w w67)); have n2_ := Aside0.mk (hm_); have n3_ := Aside0.mk ((Kd.R_reads' hm_).2.1); clear HO_5; clear HB; clear HL133_0; clear HL137_0; have HO_5 := n0_; have HB := n1_; have HL157 := n2_; have HC139 := n3_; clear n0_ n1_ n2_ n3_; clear hg hw hp_ hz_ hm_ hok66))
                                                                        repeat (go_quiet (first | ((with_reducible refine gate_store (t := 3) (p := 122) rfl ?_); (try (rw [drewN_self wc]; generalize hq_ : World.drewN wc _ = wc; (try (have nx_ := Aside0.mk (cell_at hq_ HX137_0.out); clear HX137_0; have HX137_0 := nx_; clear nx_)); (try (have nx_ := Aside0.mk (Kd.S_at hq_ HO_5.out); clear HO_5; have HO_5 := nx_; clear nx_)); (try (have nx_ := Aside0.mk (Kd.R_at hq_ HL157.out); clear HL157; have HL157 := nx_; clear nx_)); (try (have nx_ := Aside0.mk (below_at hq_ HB.out); clear HB; have HB := nx_; clear nx_)); (try clear hq_); (try (have hq66 : (x6_1 : Int) < (x5_2.length : Int) := (by have h_ : (x6_1 : Int) < ((x5_2.length : Int) : Int) := of_decide_eq_true (by first | (with_reducible assumption) | assumption); first | exact h_ | (have e_ := (Kd.S_reads' HO_5.out).1; omega) | simpa only [List.length_set, List.length_set] using h_))); (try (obtain ⟨oki66, ce66, hcl66, hM66, hcc66, hok66, hbk66⟩ := Kd.S_borrow HO_5.out [] (x6_1 : Int) (of_decide_eq_true (by first | (with_reducible assumption) | assumption)) hq66)); (try (obtain ⟨ve66_0, rfl, ge66_0⟩ := hM66)); (try (have hv66 := hcc66 0 _ rfl)); (try (rw [Nat.add_zero, show ((Kd.slice 3 (Kd.int .i64))).sz = 1 from rfl, Nat.mul_one] at hv66)); (try (replace hv66 := Option.some.inj (hv66.symm.trans HX137_0.out))); (try (subst hv66)); (try (clear hcc66 hcl66)); (try (replace ge66_0 := (show Kd.R (Kd.int .i64) 3 _ _ _ _ (rd_L2 x5_2 x6_1) from ge66_0))); (try (try (obtain ⟨hy66_, hz66_⟩ := Kd.R_celln 0 ge66_0 (x7_2 : Int) (of_decide_eq_true (by first | (with_reducible assumption) | assumption)) (by have h_ : (x7_2 : Int) < (((rd_L2 x5_2 x6_1).length : Int) : Int) := of_decide_eq_true (by first | (with_reducible assumption) | assumption); first | exact h_ | (have e_ := (Kd.R_reads' HR137_0.out).1; omega) | simpa using h_)))); (try (have HP66 := Kd.R_putg ge66_0 (x7_2 : Int) (rd (rd_L2 x5_2 (ji51)) (ji54)))))); refine store_event (t := 3) (p := 122) (v := ?vo_w67) (w1 := (wc.setCell ⟨go65, (x7_2 : Int).toNat, none⟩ (.int .i64 (rd (rd_L2 x5_2 (ji51)) (ji54))))) ?hg ?ho ?hn ?hr ?_; (case ho => rfl); (case hg => rfl); (case hn => rfl); (case hr => first | (go_simp; done) | (go_simp; rfl)); intro w67 hw; have hg : wc.grownBy w67 (some go65) := (by rw [hw]; exact HP66.2); have hz_ : Kd.R (Kd.int .i64) 3 w67 w.heap.size oki66 (.slice (some ⟨go65, 0, none⟩) (rd_L2 x5_2 x6_1).length c137_0) y138 := (by rw [hw, Ny138.out]; exact HP66.1); have hp_ : Kd.S (Kd.slice 3 (Kd.int .i64)) 41 w67 w.heap.size (fun _ => True) (.slice (some ⟨go14, 0, none⟩) x5_2.length co14) y140 := (by rw [Ny140.out]; exact hbk66 hg (fun k_ e_ => by injection e_ with e_; subst e_; exact ge66_0.1 _ rfl) (Kd.M_row hz_)); have hm_ := Kd.R_mono hz_ hok66; clear HP66 hbk66; have n0_ := Aside0.mk (hp_); have n1_ := Aside0.mk ((by rw [hw]; exact below_set (HB.out) GB65.out : Below w.heap.size w w67)); have n2_ := Aside0.mk (hm_); have n3_ := Aside0.mk ((Kd.R_reads' hm_).2.1); clear HO_5; clear HB; clear HL133_0; clear HL137_0; have HO_5 := n0_; have HB := n1_; have HL157 := n2_; have HC139 := n3_; clear n0_ n1_ n2_ n3_; clear hg hw hp_ hz_ hm_ hok66)); try go_wp2_with (first | ((with_reducible refine gate_store (t := 3) (p := 122) rfl ?_); (try (rw [drewN_self wc]; generalize hq_ : World.drewN wc _ = wc; (try (have nx_ := Aside0.mk (cell_at hq_ HX137_0.out); clear HX137_0; have HX137_0 := nx_; clear nx_)); (try (have nx_ := Aside0.mk (Kd.S_at hq_ HO_5.out); clear HO_5; have HO_5 := nx_; clear nx_)); (try (have nx_ := Aside0.mk (Kd.R_at hq_ HL157.out); clear HL157; have HL157 := nx_; clear nx_)); (try (have nx_ := Aside0.mk (below_at hq_ HB.out); clear HB; have HB := nx_; clear nx_)); (try clear hq_); (try (have hq66 : (x6_1 : Int) < (x5_2.length : Int) := (by have h_ : (x6_1 : Int) < ((x5_2.length : Int) : Int) := of_decide_eq_true (by first | (with_reducible assumption) | assumption); first | exact h_ | (have e_ := (Kd.S_reads' HO_5.out).1; omega) | simpa only [List.length_set, List.length_set] using h_))); (try (obtain ⟨oki66, ce66, hcl66, hM66, hcc66, hok66, hbk66⟩ := Kd.S_borrow HO_5.out [] (x6_1 : Int) (of_decide_eq_true (by first | (with_reducible assumption) | assumption)) hq66)); (try (obtain ⟨ve66_0, rfl, ge66_0⟩ := hM66)); (try (have hv66 := hcc66 0 _ rfl)); (try (rw [Nat.add_zero, show ((Kd.slice 3 (Kd.int .i64))).sz = 1 from rfl, Nat.mul_one] at hv66)); (try (replace hv66 := Option.some.inj (hv66.symm.trans HX137_0.out))); (try (subst hv66)); (try (clear hcc66 hcl66)); (try (replace ge66_0 := (show Kd.R (Kd.int .i64) 3 _ _ _ _ (rd_L2 x5_2 x6_1) from ge66_0))); (try (try (obtain ⟨hy66_, hz66_⟩ := Kd.R_celln 0 ge66_0 (x7_2 : Int) (of_decide_eq_true (by first | (with_reducible assumption) | assumption)) (by have h_ : (x7_2 : Int) < (((rd_L2 x5_2 x6_1).length : Int) : Int) := of_decide_eq_true (by first | (with_reducible assumption) | assumption); first | exact h_ | (have e_ := (Kd.R_reads' HR137_0.out).1; omega) | simpa using h_)))); (try (have HP66 := Kd.R_putg ge66_0 (x7_2 : Int) (rd (rd_L2 x5_2 (ji51)) (ji54)))))); refine store_event (t := 3) (p := 122) (v := ?vo_w67) (w1 := (wc.setCell ⟨go65, (x7_2 : Int).toNat, none⟩ (.int .i64 (rd (rd_L2 x5_2 (ji51)) (ji54))))) ?hg ?ho ?hn ?hr ?_; (case ho => rfl); (case hg => rfl); (case hn => rfl); (case hr => first | (go_simp; done) | (go_simp; rfl)); intro w67 hw; have hg : wc.grownBy w67 (some go65) := (by rw [hw]; exact HP66.2); have hz_ : Kd.R (Kd.int .i64) 3 w67 w.heap.size oki66 (.slice (some ⟨go65, 0, none⟩) (rd_L2 x5_2 x6_1).length c137_0) y138 := (by rw [hw, Ny138.out]; exact HP66.1); have hp_ : Kd.S (Kd.slice 3 (Kd.int .i64)) 41 w67 w.heap.size (fun _ => True) (.slice (some ⟨go14, 0, none⟩) x5_2.length co14) y140 := (by rw [Ny140.out]; exact hbk66 hg (fun k_ e_ => by injection e_ with e_; subst e_; exact ge66_0.1 _ rfl) (Kd.M_row hz_)); have hm_ := Kd.R_mono hz_ hok66; clear HP66 hbk66; have n0_ := Aside0.mk (hp_); have n1_ := Aside0.mk ((by rw [hw]; exact below_set (HB.out) GB65.out : Below w.heap.size w w67)); have n2_ := Aside0.mk (hm_); have n3_ := Aside0.mk ((Kd.R_reads' hm_).2.1); clear HO_5; clear HB; clear HL133_0; clear HL137_0; have HO_5 := n0_; have HB := n1_; have HL157 := n2_; have HC139 := n3_; clear n0_ n1_ n2_ n3_; clear hg hw hp_ hz_ hm_ hok66)))
                                                                        (try simp only [← hl5_2])
                                                                        go_roundg kj47
                                                                        case measure => have := HK1.out; have := HK2.out; have := HJ19.out; have := HJ26.out; have := HJ33.out; have := HJ40.out; have := HJ47.out; omega
                                                                        case rel => exact ⟨(y140), (wrap64 (x7_2 + 1)), (by first | rfl | (simp; done) | (simp [*]; done)), H', ⟨by have := HK1.out; have := HK2.out; have := HJ19.out; have := HJ26.out; have := HJ33.out; have := HJ40.out; have := HJ47.out; omega⟩, ⟨by (try simp only [hl5_2]); (with_reducible repeat (first | apply Kd.S_alloc | apply Kd.S_drewN | apply Kd.S_drew)); exact HO_5.out⟩, ⟨by repeat (first | (with_reducible first | exact HB.out | apply below_alloc | apply pw_below_drewN | apply below_drew1) | exact HB.out)⟩⟩
                                                                      · rw [if_neg c64] at H
                                                                        exact absurd H (by simp)
                                                                    · rw [if_neg c63] at H
                                                                      exact absurd H (by simp)
                                                                  · rw [if_neg c62] at H
                                                                    exact absurd H (by simp)
                                                                · rw [if_neg c61] at H
                                                                  exact absurd H (by simp)
                                                              · rw [if_neg c60] at H
                                                                have c60b0 : decide ((rd (rd_L2 x5_2 (ji51)) (ji54)) < x8_40) = false := decide_eq_false c60
                                                                clear c60
                                                                by_cases c68 : 0 ≤ x6_1
                                                                · rw [if_pos c68] at H
                                                                  have c68b0 : decide (0 ≤ x6_1) = true := decide_eq_true c68
                                                                  clear c68
                                                                  by_cases c69 : x6_1 < (x5_2.length : Int)
                                                                  · rw [if_pos c69] at H
                                                                    have c69b0 : decide (x6_1 < (x5_2.length : Int)) = true := decide_eq_true c69
                                                                    (try (have c69b0h := c69b0; simp only [hl5_2] at c69b0h))
                                                                    clear c69
                                                                    by_cases c70 : 0 ≤ x7_2
                                                                    · rw [if_pos c70] at H
                                                                      have c70b0 : decide (0 ≤ x7_2) = true := decide_eq_true c70
                                                                      clear c70
                                                                      by_cases c71 : x7_2 < ((rd_L2 x5_2 x6_1).length : Int)
                                                                      · rw [if_pos c71] at H
                                                                        have c71b0 : decide (x7_2 < ((rd_L2 x5_2 x6_1).length : Int)) = true := decide_eq_true c71
                                                                        (try (have c71b0h := c71b0; simp only [hl5_2] at c71b0h))
                                                                        clear c71
                                                                        obtain ⟨y142, hy142⟩ : ∃ y_ : List Int, y_ = ((rd_L2 x5_2 x6_1).set (x7_2 : Int).toNat x8_40) := ⟨_, rfl⟩
                                                                        replace H : (coppicerref_Far.l1 kj47 l0 l1 (x5_2.set (x6_1 : Int).toNat y142) x6_1 (wrap64 (x7_2 + 1))) = some r := by first | (rw [hy142]; with_reducible exact H) | (have H2_ := (Option.bind_some _ _).symm.trans H; rw [hy142]; with_reducible exact H2_) | (have H2_ := (Option.bind_some _ _).symm.trans H; with_reducible exact H2_) | with_reducible exact H | (rw [hy142]; exact H) | exact H
                                                                        have Ny142 := Aside0.mk hy142
                                                                        clear hy142
                                                                        obtain ⟨y144, hy144⟩ : ∃ y_ : List (List Int), y_ = (x5_2.set (x6_1 : Int).toNat y142) := ⟨_, rfl⟩
                                                                        replace H : (coppicerref_Far.l1 kj47 l0 l1 y144 x6_1 (wrap64 (x7_2 + 1))) = some r := by first | (rw [hy144]; with_reducible exact H) | (have H2_ := (Option.bind_some _ _).symm.trans H; rw [hy144]; with_reducible exact H2_) | (have H2_ := (Option.bind_some _ _).symm.trans H; with_reducible exact H2_) | with_reducible exact H | (rw [hy144]; exact H) | exact H
                                                                        have Ny144 := Aside0.mk hy144
                                                                        clear hy144
                                                                        have H' := Aside0.mk H
                                                                        clear H
                                                                        have p133 : 0 ≤ ((ji51) : Int) := of_decide_eq_true (by first | (with_reducible assumption) | assumption)
                                                                        have q133 : (ji51) < (x5_2.length : Int) := of_decide_eq_true (by first | (with_reducible assumption) | assumption)
                                                                        obtain ⟨ad133, A133_0, c133_0, e133, hx133_0, hl133_0, hi133_0⟩ := at_L2 (Kd.S_reads' HO_5.out).2.2 (ji51) p133 q133
                                                                        obtain rfl : (⟨go14, 0, none⟩ : Addr) = ad133 := (by injection e133)
                                                                        obtain ⟨ce133, hce133, hMe133, hcc133⟩ := Kd.S_get HO_5.out [] (ji51) p133 (by first | exact q133 | exact of_decide_eq_true (by first | (with_reducible assumption) | assumption) | (have e_ := (Kd.S_reads' HO_5.out).1; omega))
                                                                        obtain ⟨ve133_0, rfl, ge133_0⟩ := hMe133
                                                                        have hv133_0 := hcc133 0 _ rfl
                                                                        rw [Nat.add_zero, show ((Kd.slice 3 (Kd.int .i64))).sz = 1 from rfl, Nat.mul_one] at hv133_0
                                                                        replace hv133_0 := Option.some.inj (hv133_0.symm.trans hx133_0)
                                                                        rw [hv133_0] at ge133_0
                                                                        have HL133_0 := Aside0.mk (show Kd.R (Kd.int .i64) 3 _ _ _ _ (rd_L2 x5_2 (ji51)) from ge133_0)
                                                                        clear hv133_0 ge133_0
                                                                        have HX133_0 := Aside0.mk hx133_0
                                                                        clear hcc133 hce133
                                                                        (first | simp only [add_plain] at hx133_0 | simp only [add_at] at hx133_0 | simp only [Addr.add, Nat.zero_add] at hx133_0 | skip)
                                                                        have HR133_0 := Aside0.mk hi133_0
                                                                        have HC133_0 := Aside0.mk hl133_0
                                                                        clear hi133_0 hl133_0
                                                                        replace p133 := eq_true p133
                                                                        replace q133 := eq_true q133
                                                                        have p134 : 0 ≤ ((ji54) : Int) := of_decide_eq_true (by first | (with_reducible assumption) | assumption)
                                                                        have q134 : (ji54) < ((rd_L2 x5_2 (ji51)).length : Int) := of_decide_eq_true (by first | (with_reducible assumption) | assumption)
                                                                        obtain ⟨ad134, e134, hx134_0⟩ := Kd.at_int (by repeat (first | (with_reducible exact HR133_0.out) | (with_reducible refine Kd.C_alloc ?_ _) | (with_reducible refine Kd.C_drewN ?_ _) | (with_reducible refine Kd.C_drew ?_) | exact HR133_0.out)) (ji54) p134 q134
                                                                        cases e134
                                                                        replace p134 := eq_true p134
                                                                        replace q134 := eq_true q134
                                                                        have p135 : 0 ≤ ((ji51) : Int) := of_decide_eq_true (by first | (with_reducible assumption) | assumption)
                                                                        have q135 : (ji51) < (l0.length : Int) := of_decide_eq_true (by first | (with_reducible assumption) | assumption)
                                                                        obtain ⟨ad135, e135, hx135_0⟩ := Kd.at_int HR0.out (ji51) p135 q135
                                                                        cases e135
                                                                        replace hx135_0 := (HB.out.cell (World.block_lt_of_cell? w _ hx135_0)).trans hx135_0
                                                                        replace p135 := eq_true p135
                                                                        replace q135 := eq_true q135
                                                                        have p136 : 0 ≤ ((ji54) : Int) := of_decide_eq_true (by first | (with_reducible assumption) | assumption)
                                                                        have q136 : (ji54) < (l1.length : Int) := of_decide_eq_true (by first | (with_reducible assumption) | assumption)
                                                                        obtain ⟨ad136, e136, hx136_0⟩ := Kd.at_int HR1.out (ji54) p136 q136
                                                                        cases e136
                                                                        replace hx136_0 := (HB.out.cell (World.block_lt_of_cell? w _ hx136_0)).trans hx136_0
                                                                        replace p136 := eq_true p136
                                                                        replace q136 := eq_true q136
                                                                        have p141 : 0 ≤ (x6_1 : Int) := of_decide_eq_true (by first | (with_reducible assumption) | assumption)
                                                                        have q141 : x6_1 < (x5_2.length : Int) := of_decide_eq_true (by first | (with_reducible assumption) | assumption)
                                                                        obtain ⟨ad141, A141_0, c141_0, e141, hx141_0, hl141_0, hi141_0⟩ := at_L2 (Kd.S_reads' HO_5.out).2.2 x6_1 p141 q141
                                                                        obtain rfl : (⟨go14, 0, none⟩ : Addr) = ad141 := (by injection e141)
                                                                        obtain ⟨ce141, hce141, hMe141, hcc141⟩ := Kd.S_get HO_5.out [] x6_1 p141 (by first | exact q141 | exact of_decide_eq_true (by first | (with_reducible assumption) | assumption) | (have e_ := (Kd.S_reads' HO_5.out).1; omega))
                                                                        obtain ⟨ve141_0, rfl, ge141_0⟩ := hMe141
                                                                        have hv141_0 := hcc141 0 _ rfl
                                                                        rw [Nat.add_zero, show ((Kd.slice 3 (Kd.int .i64))).sz = 1 from rfl, Nat.mul_one] at hv141_0
                                                                        replace hv141_0 := Option.some.inj (hv141_0.symm.trans hx141_0)
                                                                        rw [hv141_0] at ge141_0
                                                                        have HL141_0 := Aside0.mk (show Kd.R (Kd.int .i64) 3 _ _ _ _ (rd_L2 x5_2 x6_1) from ge141_0)
                                                                        clear hv141_0 ge141_0
                                                                        have HX141_0 := Aside0.mk hx141_0
                                                                        clear hcc141 hce141
                                                                        (first | simp only [add_plain] at hx141_0 | simp only [add_at] at hx141_0 | simp only [Addr.add, Nat.zero_add] at hx141_0 | skip)
                                                                        have HR141_0 := Aside0.mk hi141_0
                                                                        have HC141_0 := Aside0.mk hl141_0
                                                                        clear hi141_0 hl141_0
                                                                        replace p141 := eq_true p141
                                                                        replace q141 := eq_true q141
                                                                        have p72 : 0 ≤ (x7_2 : Int) := of_decide_eq_true (by first | (with_reducible assumption) | assumption)
                                                                        have q72 : (x7_2 : Int) < (((rd_L2 x5_2 x6_1).length : Int) : Int) := of_decide_eq_true (by first | (with_reducible assumption) | assumption)
                                                                        obtain ⟨go72, co72, eo72, gb72, gl72, cl72, HG72⟩ := Kd.R_form HL141_0.out (by omega)
                                                                        (first | cases eo72 | (injection eo72 with ea_ en_ ec_; (first | subst ea_ | (injection ea_ with ea_; subst ea_)); subst ec_; clear en_))
                                                                        have GB72 := Aside0.mk gb72
                                                                        have GG72 := Aside0.mk HG72
                                                                        clear gb72 gl72 HG72
                                                                        obtain ⟨hx72_0, hf72_0⟩ := Kd.R_celln 0 HL141_0.out (x7_2 : Int) p72 q72
                                                                        replace p72 := eq_true p72
                                                                        replace q72 := eq_true q72
                                                                        have hq73 : (x6_1 : Int) < (x5_2.length : Int) := (by have h_ : (x6_1 : Int) < ((x5_2.length : Int) : Int) := of_decide_eq_true (by first | (with_reducible assumption) | assumption); first | exact h_ | (have e_ := (Kd.S_reads' HO_5.out).1; omega) | simpa only [List.length_set, List.length_set] using h_)
                                                                        obtain ⟨oki73, ce73, hcl73, hM73, hcc73, hok73, hbk73⟩ := Kd.S_borrow HO_5.out [] (x6_1 : Int) (of_decide_eq_true (by first | (with_reducible assumption) | assumption)) hq73
                                                                        obtain ⟨ve73_0, rfl, ge73_0⟩ := hM73
                                                                        have hv73 := hcc73 0 _ rfl
                                                                        rw [Nat.add_zero, show ((Kd.slice 3 (Kd.int .i64))).sz = 1 from rfl, Nat.mul_one] at hv73
                                                                        replace hv73 := Option.some.inj (hv73.symm.trans HX141_0.out)
                                                                        subst hv73
                                                                        clear hcc73 hcl73
                                                                        replace ge73_0 := (show Kd.R (Kd.int .i64) 3 _ _ _ _ (rd_L2 x5_2 x6_1) from ge73_0)
                                                                        (try (obtain ⟨hy73_, hz73_⟩ := Kd.R_celln 0 ge73_0 (x7_2 : Int) (of_decide_eq_true (by first | (with_reducible assumption) | assumption)) (by have h_ : (x7_2 : Int) < (((rd_L2 x5_2 x6_1).length : Int) : Int) := of_decide_eq_true (by first | (with_reducible assumption) | assumption); first | exact h_ | (have e_ := (Kd.R_reads' HR141_0.out).1; omega) | simpa using h_)))
                                                                        have HP73 := Kd.R_putg ge73_0 (x7_2 : Int) x8_40
                                                                        go_wp2_with (first | ((with_reducible refine gate_store (t := 3) (p := 122) rfl ?_); (try (rw [drewN_self wc]; generalize hq_ : World.drewN wc _ = wc; (try (have nx_ := Aside0.mk (cell_at hq_ HX141_0.out); clear HX141_0; have HX141_0 := nx_; clear nx_)); (try (have nx_ := Aside0.mk (Kd.S_at hq_ HO_5.out); clear HO_5; have HO_5 := nx_; clear nx_)); (try (have nx_ := Aside0.mk (Kd.R_at hq_ HL158.out); clear HL158; have HL158 := nx_; clear nx_)); (try (have nx_ := Aside0.mk (below_at hq_ HB.out); clear HB; have HB := nx_; clear nx_)); (try clear hq_); (try (have hq73 : (x6_1 : Int) < (x5_2.length : Int) := (by have h_ : (x6_1 : Int) < ((x5_2.length : Int) : Int) := of_decide_eq_true (by first | (with_reducible assumption) | assumption); first | exact h_ | (have e_ := (Kd.S_reads' HO_5.out).1; omega) | simpa only [List.length_set, List.length_set] using h_))); (try (obtain ⟨oki73, ce73, hcl73, hM73, hcc73, hok73, hbk73⟩ := Kd.S_borrow HO_5.out [] (x6_1 : Int) (of_decide_eq_true (by first | (with_reducible assumption) | assumption)) hq73)); (try (obtain ⟨ve73_0, rfl, ge73_0⟩ := hM73)); (try (have hv73 := hcc73 0 _ rfl)); (try (rw [Nat.add_zero, show ((Kd.slice 3 (Kd.int .i64))).sz = 1 from rfl, Nat.mul_one] at hv73)); (try (replace hv73 := Option.some.inj (hv73.symm.trans HX141_0.out))); (try (subst hv73)); (try (clear hcc73 hcl73)); (try (replace ge73_0 := (show Kd.R (Kd.int .i64) 3 _ _ _ _ (rd_L2 x5_2 x6_1) from ge73_0))); (try (try (obtain ⟨hy73_, hz73_⟩ := Kd.R_celln 0 ge73_0 (x7_2 : Int) (of_decide_eq_true (by first | (with_reducible assumption) | assumption)) (by have h_ : (x7_2 : Int) < (((rd_L2 x5_2 x6_1).length : Int) : Int) := of_decide_eq_true (by first | (with_reducible assumption) | assumption); first | exact h_ | (have e_ := (Kd.R_reads' HR141_0.out).1; omega) | simpa using h_)))); (try (have HP73 := Kd.R_putg ge73_0 (x7_2 : Int) x8_40)))); refine store_event (t := 3) (p := 122) (v := ?vo_w74) (w1 := (wc.setCell ⟨go72, (x7_2 : Int).toNat, none⟩ (.int .i64 x8_40))) ?hg ?ho ?hn ?hr ?_; (case ho => rfl); (case hg => rfl); (case hn => rfl); (case hr => first | (go_simp; done) | (go_simp; rfl)); intro w74 hw; have hg : wc.grownBy w74 (some go72) := (by rw [hw]; exact HP73.2); have hz_ : Kd.R (Kd.int .i64) 3 w74 w.heap.size oki73 (.slice (some ⟨go72, 0, none⟩) (rd_L2 x5_2 x6_1).length c141_0) y142 := (by rw [hw, Ny142.out]; exact HP73.1); have hp_ : Kd.S (Kd.slice 3 (Kd.int .i64)) 41 w74 w.heap.size (fun _ => True) (.slice (some ⟨go14, 0, none⟩) x5_2.length co14) y144 := (by rw [Ny144.out]; exact hbk73 hg (fun k_ e_ => by injection e_ with e_; subst e_; exact ge73_0.1 _ rfl) (Kd.M_row hz_)); have hm_ := Kd.R_mono hz_ hok73; clear HP73 hbk73; have n0_ := Aside0.mk (hp_); have n1_ := Aside0.mk ((by rw [hw]; exact below_set (HB.out) GB72.out : Below w.heap.size w w74)); have n2_ := Aside0.mk (hm_); have n3_ := Aside0.mk ((Kd.R_reads' hm_).2.1); clear HO_5; clear HB; clear HL133_0; clear HL141_0; have HO_5 := n0_; have HB := n1_; have HL158 := n2_; have HC143 := n3_; clear n0_ n1_ n2_ n3_; clear hg hw hp_ hz_ hm_ hok73))
                                                                        repeat (go_quiet (first | ((with_reducible refine gate_store (t := 3) (p := 122) rfl ?_); (try (rw [drewN_self wc]; generalize hq_ : World.drewN wc _ = wc; (try (have nx_ := Aside0.mk (cell_at hq_ HX141_0.out); clear HX141_0; have HX141_0 := nx_; clear nx_)); (try (have nx_ := Aside0.mk (Kd.S_at hq_ HO_5.out); clear HO_5; have HO_5 := nx_; clear nx_)); (try (have nx_ := Aside0.mk (Kd.R_at hq_ HL158.out); clear HL158; have HL158 := nx_; clear nx_)); (try (have nx_ := Aside0.mk (below_at hq_ HB.out); clear HB; have HB := nx_; clear nx_)); (try clear hq_); (try (have hq73 : (x6_1 : Int) < (x5_2.length : Int) := (by have h_ : (x6_1 : Int) < ((x5_2.length : Int) : Int) := of_decide_eq_true (by first | (with_reducible assumption) | assumption); first | exact h_ | (have e_ := (Kd.S_reads' HO_5.out).1; omega) | simpa only [List.length_set, List.length_set] using h_))); (try (obtain ⟨oki73, ce73, hcl73, hM73, hcc73, hok73, hbk73⟩ := Kd.S_borrow HO_5.out [] (x6_1 : Int) (of_decide_eq_true (by first | (with_reducible assumption) | assumption)) hq73)); (try (obtain ⟨ve73_0, rfl, ge73_0⟩ := hM73)); (try (have hv73 := hcc73 0 _ rfl)); (try (rw [Nat.add_zero, show ((Kd.slice 3 (Kd.int .i64))).sz = 1 from rfl, Nat.mul_one] at hv73)); (try (replace hv73 := Option.some.inj (hv73.symm.trans HX141_0.out))); (try (subst hv73)); (try (clear hcc73 hcl73)); (try (replace ge73_0 := (show Kd.R (Kd.int .i64) 3 _ _ _ _ (rd_L2 x5_2 x6_1) from ge73_0))); (try (try (obtain ⟨hy73_, hz73_⟩ := Kd.R_celln 0 ge73_0 (x7_2 : Int) (of_decide_eq_true (by first | (with_reducible assumption) | assumption)) (by have h_ : (x7_2 : Int) < (((rd_L2 x5_2 x6_1).length : Int) : Int) := of_decide_eq_true (by first | (with_reducible assumption) | assumption); first | exact h_ | (have e_ := (Kd.R_reads' HR141_0.out).1; omega) | simpa using h_)))); (try (have HP73 := Kd.R_putg ge73_0 (x7_2 : Int) x8_40)))); refine store_event (t := 3) (p := 122) (v := ?vo_w74) (w1 := (wc.setCell ⟨go72, (x7_2 : Int).toNat, none⟩ (.int .i64 x8_40))) ?hg ?ho ?hn ?hr ?_; (case ho => rfl); (case hg => rfl); (case hn => rfl); (case hr => first | (go_simp; done) | (go_simp; rfl)); intro w74 hw; have hg : wc.grownBy w74 (some go72) := (by rw [hw]; exact HP73.2); have hz_ : Kd.R (Kd.int .i64) 3 w74 w.heap.size oki73 (.slice (some ⟨go72, 0, none⟩) (rd_L2 x5_2 x6_1).length c141_0) y142 := (by rw [hw, Ny142.out]; exact HP73.1); have hp_ : Kd.S (Kd.slice 3 (Kd.int .i64)) 41 w74 w.heap.size (fun _ => True) (.slice (some ⟨go14, 0, none⟩) x5_2.length co14) y144 := (by rw [Ny144.out]; exact hbk73 hg (fun k_ e_ => by injection e_ with e_; subst e_; exact ge73_0.1 _ rfl) (Kd.M_row hz_)); have hm_ := Kd.R_mono hz_ hok73; clear HP73 hbk73; have n0_ := Aside0.mk (hp_); have n1_ := Aside0.mk ((by rw [hw]; exact below_set (HB.out) GB72.out : Below w.heap.size w w74)); have n2_ := Aside0.mk (hm_); have n3_ := Aside0.mk ((Kd.R_reads' hm_).2.1); clear HO_5; clear HB; clear HL133_0; clear HL141_0; have HO_5 := n0_; have HB := n1_; have HL158 := n2_; have HC143 := n3_; clear n0_ n1_ n2_ n3_; clear hg hw hp_ hz_ hm_ hok73)); try go_wp2_with (first | ((with_reducible refine gate_store (t := 3) (p := 122) rfl ?_); (try (rw [drewN_self wc]; generalize hq_ : World.drewN wc _ = wc; (try (have nx_ := Aside0.mk (cell_at hq_ HX141_0.out); clear HX141_0; have HX141_0 := nx_; clear nx_)); (try (have nx_ := Aside0.mk (Kd.S_at hq_ HO_5.out); clear HO_5; have HO_5 := nx_; clear nx_)); (try (have nx_ := Aside0.mk (Kd.R_at hq_ HL158.out); clear HL158; have HL158 := nx_; clear nx_)); (try (have nx_ := Aside0.mk (below_at hq_ HB.out); clear HB; have HB := nx_; clear nx_)); (try clear hq_); (try (have hq73 : (x6_1 : Int) < (x5_2.length : Int) := (by have h_ : (x6_1 : Int) < ((x5_2.length : Int) : Int) := of_decide_eq_true (by first | (with_reducible assumption) | assumption); first | exact h_ | (have e_ := (Kd.S_reads' HO_5.out).1; omega) | simpa only [List.length_set, List.length_set] using h_))); (try (obtain ⟨oki73, ce73, hcl73, hM73, hcc73, hok73, hbk73⟩ := Kd.S_borrow HO_5.out [] (x6_1 : Int) (of_decide_eq_true (by first | (with_reducible assumption) | assumption)) hq73)); (try (obtain ⟨ve73_0, rfl, ge73_0⟩ := hM73)); (try (have hv73 := hcc73 0 _ rfl)); (try (rw [Nat.add_zero, show ((Kd.slice 3 (Kd.int .i64))).sz = 1 from rfl, Nat.mul_one] at hv73)); (try (replace hv73 := Option.some.inj (hv73.symm.trans HX141_0.out))); (try (subst hv73)); (try (clear hcc73 hcl73)); (try (replace ge73_0 := (show Kd.R (Kd.int .i64) 3 _ _ _ _ (rd_L2 x5_2 x6_1) from ge73_0))); (try (try (obtain ⟨hy73_, hz73_⟩ := Kd.R_celln 0 ge73_0 (x7_2 : Int) (of_decide_eq_true (by first | (with_reducible assumption) | assumption)) (by have h_ : (x7_2 : Int) < (((rd_L2 x5_2 x6_1).length : Int) : Int) := of_decide_eq_true (by first | (with_reducible assumption) | assumption); first | exact h_ | (have e_ := (Kd.R_reads' HR141_0.out).1; omega) | simpa using h_)))); (try (have HP73 := Kd.R_putg ge73_0 (x7_2 : Int) x8_40)))); refine store_event (t := 3) (p := 122) (v := ?vo_w74) (w1 := (wc.setCell ⟨go72, (x7_2 : Int).toNat, none⟩ (.int .i64 x8_40))) ?hg ?ho ?hn ?hr ?_; (case ho => rfl); (case hg => rfl); (case hn => rfl); (case hr => first | (go_simp; done) | (go_simp; rfl)); intro w74 hw; have hg : wc.grownBy w74 (some go72) := (by rw [hw]; exact HP73.2); have hz_ : Kd.R (Kd.int .i64) 3 w74 w.heap.size oki73 (.slice (some ⟨go72, 0, none⟩) (rd_L2 x5_2 x6_1).length c141_0) y142 := (by rw [hw, Ny142.out]; exact HP73.1); have hp_ : Kd.S (Kd.slice 3 (Kd.int .i64)) 41 w74 w.heap.size (fun _ => True) (.slice (some ⟨go14, 0, none⟩) x5_2.length co14) y144 := (by rw [Ny144.out]; exact hbk73 hg (fun k_ e_ => by injection e_ with e_; subst e_; exact ge73_0.1 _ rfl) (Kd.M_row hz_)); have hm_ := Kd.R_mono hz_ hok73; clear HP73 hbk73; have n0_ := Aside0.mk (hp_); have n1_ := Aside0.mk ((by rw [hw]; exact below_set (HB.out) GB72.out : Below w.heap.size w w74)); have n2_ := Aside0.mk (hm_); have n3_ := Aside0.mk ((Kd.R_reads' hm_).2.1); clear HO_5; clear HB; clear HL133_0; clear HL141_0; have HO_5 := n0_; have HB := n1_; have HL158 := n2_; have HC143 := n3_; clear n0_ n1_ n2_ n3_; clear hg hw hp_ hz_ hm_ hok73)))
                                                                        (try simp only [← hl5_2])
                                                                        go_roundg kj47
                                                                        case measure => have := HK1.out; have := HK2.out; have := HJ19.out; have := HJ26.out; have := HJ33.out; have := HJ40.out; have := HJ47.out; omega
                                                                        case rel => exact ⟨(y144), (wrap64 (x7_2 + 1)), (by first | rfl | (simp; done) | (simp [*]; done)), H', ⟨by have := HK1.out; have := HK2.out; have := HJ19.out; have := HJ26.out; have := HJ33.out; have := HJ40.out; have := HJ47.out; omega⟩, ⟨by (try simp only [hl5_2]); (with_reducible repeat (first | apply Kd.S_alloc | apply Kd.S_drewN | apply Kd.S_drew)); exact HO_5.out⟩, ⟨by repeat (first | (with_reducible first | exact HB.out | apply below_alloc | apply pw_below_drewN | apply below_drew1) | exact HB.out)⟩⟩
                                                                      · rw [if_neg c71] at H
                                                                        exact absurd H (by simp)
                                                                    · rw [if_neg c70] at H
                                                                      exact absurd H (by simp)
                                                                  · rw [if_neg c69] at H
                                                                    exact absurd H (by simp)
                                                                · rw [if_neg c68] at H
                                                                  exact absurd H (by simp)
                                                            · rw [if_neg c59] at H
                                                              have c59b0 : ((rd l0 (ji51)) == (rd l1 (ji54))) = false := beq_eq_false_iff_ne.mpr c59
                                                              have c59b1 : ((rd l0 (ji51)) != (rd l1 (ji54))) = true := bne_iff_ne.mpr c59
                                                              by_cases c75 : (wrap64 ((rd (rd_L2 x5_2 (ji51)) (ji54)) + 1)) < x8_40
                                                              · rw [if_pos c75] at H
                                                                have c75b0 : decide ((wrap64 ((rd (rd_L2 x5_2 (ji51)) (ji54)) + 1)) < x8_40) = true := decide_eq_true c75
                                                                clear c75
                                                                by_cases c76 : 0 ≤ x6_1
                                                                · rw [if_pos c76] at H
                                                                  have c76b0 : decide (0 ≤ x6_1) = true := decide_eq_true c76
                                                                  clear c76
                                                                  by_cases c77 : x6_1 < (x5_2.length : Int)
                                                                  · rw [if_pos c77] at H
                                                                    have c77b0 : decide (x6_1 < (x5_2.length : Int)) = true := decide_eq_true c77
                                                                    (try (have c77b0h := c77b0; simp only [hl5_2] at c77b0h))
                                                                    clear c77
                                                                    by_cases c78 : 0 ≤ x7_2
                                                                    · rw [if_pos c78] at H
                                                                      have c78b0 : decide (0 ≤ x7_2) = true := decide_eq_true c78
                                                                      clear c78
                                                                      by_cases c79 : x7_2 < ((rd_L2 x5_2 x6_1).length : Int)
                                                                      · rw [if_pos c79] at H
                                                                        have c79b0 : decide (x7_2 < ((rd_L2 x5_2 x6_1).length : Int)) = true := decide_eq_true c79
                                                                        (try (have c79b0h := c79b0; simp only [hl5_2] at c79b0h))
                                                                        clear c79
                                                                        obtain ⟨y146, hy146⟩ : ∃ y_ : List Int, y_ = ((rd_L2 x5_2 x6_1).set (x7_2 : Int).toNat (wrap64 ((rd (rd_L2 x5_2 (ji51)) (ji54)) + 1))) := ⟨_, rfl⟩
                                                                        replace H : (coppicerref_Far.l1 kj47 l0 l1 (x5_2.set (x6_1 : Int).toNat y146) x6_1 (wrap64 (x7_2 + 1))) = some r := by first | (rw [hy146]; with_reducible exact H) | (have H2_ := (Option.bind_some _ _).symm.trans H; rw [hy146]; with_reducible exact H2_) | (have H2_ := (Option.bind_some _ _).symm.trans H; with_reducible exact H2_) | with_reducible exact H | (rw [hy146]; exact H) | exact H
                                                                        have Ny146 := Aside0.mk hy146
                                                                        clear hy146
                                                                        obtain ⟨y148, hy148⟩ : ∃ y_ : List (List Int), y_ = (x5_2.set (x6_1 : Int).toNat y146) := ⟨_, rfl⟩
                                                                        replace H : (coppicerref_Far.l1 kj47 l0 l1 y148 x6_1 (wrap64 (x7_2 + 1))) = some r := by first | (rw [hy148]; with_reducible exact H) | (have H2_ := (Option.bind_some _ _).symm.trans H; rw [hy148]; with_reducible exact H2_) | (have H2_ := (Option.bind_some _ _).symm.trans H; with_reducible exact H2_) | with_reducible exact H | (rw [hy148]; exact H) | exact H
                                                                        have Ny148 := Aside0.mk hy148
                                                                        clear hy148
                                                                        have H' := Aside0.mk H
                                                                        clear H
                                                                        have p133 : 0 ≤ ((ji51) : Int) := of_decide_eq_true (by first | (with_reducible assumption) | assumption)
                                                                        have q133 : (ji51) < (x5_2.length : Int) := of_decide_eq_true (by first | (with_reducible assumption) | assumption)
                                                                        obtain ⟨ad133, A133_0, c133_0, e133, hx133_0, hl133_0, hi133_0⟩ := at_L2 (Kd.S_reads' HO_5.out).2.2 (ji51) p133 q133
                                                                        obtain rfl : (⟨go14, 0, none⟩ : Addr) = ad133 := (by injection e133)
                                                                        obtain ⟨ce133, hce133, hMe133, hcc133⟩ := Kd.S_get HO_5.out [] (ji51) p133 (by first | exact q133 | exact of_decide_eq_true (by first | (with_reducible assumption) | assumption) | (have e_ := (Kd.S_reads' HO_5.out).1; omega))
                                                                        obtain ⟨ve133_0, rfl, ge133_0⟩ := hMe133
                                                                        have hv133_0 := hcc133 0 _ rfl
                                                                        rw [Nat.add_zero, show ((Kd.slice 3 (Kd.int .i64))).sz = 1 from rfl, Nat.mul_one] at hv133_0
                                                                        replace hv133_0 := Option.some.inj (hv133_0.symm.trans hx133_0)
                                                                        rw [hv133_0] at ge133_0
                                                                        have HL133_0 := Aside0.mk (show Kd.R (Kd.int .i64) 3 _ _ _ _ (rd_L2 x5_2 (ji51)) from ge133_0)
                                                                        clear hv133_0 ge133_0
                                                                        have HX133_0 := Aside0.mk hx133_0
                                                                        clear hcc133 hce133
                                                                        (first | simp only [add_plain] at hx133_0 | simp only [add_at] at hx133_0 | simp only [Addr.add, Nat.zero_add] at hx133_0 | skip)
                                                                        have HR133_0 := Aside0.mk hi133_0
                                                                        have HC133_0 := Aside0.mk hl133_0
                                                                        clear hi133_0 hl133_0
                                                                        replace p133 := eq_true p133
                                                                        replace q133 := eq_true q133
                                                                        have p134 : 0 ≤ ((ji54) : Int) := of_decide_eq_true (by first | (with_reducible assumption) | assumption)
                                                                        have q134 : (ji54) < ((rd_L2 x5_2 (ji51)).length : Int) := of_decide_eq_true (by first | (with_reducible assumption) | assumption)
                                                                        obtain ⟨ad134, e134, hx134_0⟩ := Kd.at_int (by repeat (first | (with_reducible exact HR133_0.out) | (with_reducible refine Kd.C_alloc ?_ _) | (with_reducible refine Kd.C_drewN ?_ _) | (with_reducible refine Kd.C_drew ?_) | exact HR133_0.out)) (ji54) p134 q134
                                                                        cases e134
                                                                        replace p134 := eq_true p134
                                                                        replace q134 := eq_true q134
                                                                        have p135 : 0 ≤ ((ji51) : Int) := of_decide_eq_true (by first | (with_reducible assumption) | assumption)
                                                                        have q135 : (ji51) < (l0.length : Int) := of_decide_eq_true (by first | (with_reducible assumption) | assumption)
                                                                        obtain ⟨ad135, e135, hx135_0⟩ := Kd.at_int HR0.out (ji51) p135 q135
                                                                        cases e135
                                                                        replace hx135_0 := (HB.out.cell (World.block_lt_of_cell? w _ hx135_0)).trans hx135_0
                                                                        replace p135 := eq_true p135
                                                                        replace q135 := eq_true q135
                                                                        have p136 : 0 ≤ ((ji54) : Int) := of_decide_eq_true (by first | (with_reducible assumption) | assumption)
                                                                        have q136 : (ji54) < (l1.length : Int) := of_decide_eq_true (by first | (with_reducible assumption) | assumption)
                                                                        obtain ⟨ad136, e136, hx136_0⟩ := Kd.at_int HR1.out (ji54) p136 q136
                                                                        cases e136
                                                                        replace hx136_0 := (HB.out.cell (World.block_lt_of_cell? w _ hx136_0)).trans hx136_0
                                                                        replace p136 := eq_true p136
                                                                        replace q136 := eq_true q136
                                                                        have p145 : 0 ≤ (x6_1 : Int) := of_decide_eq_true (by first | (with_reducible assumption) | assumption)
                                                                        have q145 : x6_1 < (x5_2.length : Int) := of_decide_eq_true (by first | (with_reducible assumption) | assumption)
                                                                        obtain ⟨ad145, A145_0, c145_0, e145, hx145_0, hl145_0, hi145_0⟩ := at_L2 (Kd.S_reads' HO_5.out).2.2 x6_1 p145 q145
                                                                        obtain rfl : (⟨go14, 0, none⟩ : Addr) = ad145 := (by injection e145)
                                                                        obtain ⟨ce145, hce145, hMe145, hcc145⟩ := Kd.S_get HO_5.out [] x6_1 p145 (by first | exact q145 | exact of_decide_eq_true (by first | (with_reducible assumption) | assumption) | (have e_ := (Kd.S_reads' HO_5.out).1; omega))
                                                                        obtain ⟨ve145_0, rfl, ge145_0⟩ := hMe145
                                                                        have hv145_0 := hcc145 0 _ rfl
                                                                        rw [Nat.add_zero, show ((Kd.slice 3 (Kd.int .i64))).sz = 1 from rfl, Nat.mul_one] at hv145_0
                                                                        replace hv145_0 := Option.some.inj (hv145_0.symm.trans hx145_0)
                                                                        rw [hv145_0] at ge145_0
                                                                        have HL145_0 := Aside0.mk (show Kd.R (Kd.int .i64) 3 _ _ _ _ (rd_L2 x5_2 x6_1) from ge145_0)
                                                                        clear hv145_0 ge145_0
                                                                        have HX145_0 := Aside0.mk hx145_0
                                                                        clear hcc145 hce145
                                                                        (first | simp only [add_plain] at hx145_0 | simp only [add_at] at hx145_0 | simp only [Addr.add, Nat.zero_add] at hx145_0 | skip)
                                                                        have HR145_0 := Aside0.mk hi145_0
                                                                        have HC145_0 := Aside0.mk hl145_0
                                                                        clear hi145_0 hl145_0
                                                                        replace p145 := eq_true p145
                                                                        replace q145 := eq_true q145
                                                                        have p80 : 0 ≤ (x7_2 : Int) := of_decide_eq_true (by first | (with_reducible assumption) | assumption)
                                                                        have q80 : (x7_2 : Int) < (((rd_L2 x5_2 x6_1).length : Int) : Int) := of_decide_eq_true (by first | (with_reducible assumption) | assumption)
                                                                        obtain ⟨go80, co80, eo80, gb80, gl80, cl80, HG80⟩ := Kd.R_form HL145_0.out (by omega)
                                                                        (first | cases eo80 | (injection eo80 with ea_ en_ ec_; (first | subst ea_ | (injection ea_ with ea_; subst ea_)); subst ec_; clear en_))
                                                                        have GB80 := Aside0.mk gb80
                                                                        have GG80 := Aside0.mk HG80
                                                                        clear gb80 gl80 HG80
                                                                        obtain ⟨hx80_0, hf80_0⟩ := Kd.R_celln 0 HL145_0.out (x7_2 : Int) p80 q80
                                                                        replace p80 := eq_true p80
                                                                        replace q80 := eq_true q80
                                                                        have hq81 : (x6_1 : Int) < (x5_2.length : Int) := (by have h_ : (x6_1 : Int) < ((x5_2.length : Int) : Int) := of_decide_eq_true (by first | (with_reducible assumption) | assumption); first | exact h_ | (have e_ := (Kd.S_reads' HO_5.out).1; omega) | simpa only [List.length_set, List.length_set] using h_)
                                                                        obtain ⟨oki81, ce81, hcl81, hM81, hcc81, hok81, hbk81⟩ := Kd.S_borrow HO_5.out [] (x6_1 : Int) (of_decide_eq_true (by first | (with_reducible assumption) | assumption)) hq81
                                                                        obtain ⟨ve81_0, rfl, ge81_0⟩ := hM81
                                                                        have hv81 := hcc81 0 _ rfl
                                                                        rw [Nat.add_zero, show ((Kd.slice 3 (Kd.int .i64))).sz = 1 from rfl, Nat.mul_one] at hv81
                                                                        replace hv81 := Option.some.inj (hv81.symm.trans HX145_0.out)
                                                                        subst hv81
                                                                        clear hcc81 hcl81
                                                                        replace ge81_0 := (show Kd.R (Kd.int .i64) 3 _ _ _ _ (rd_L2 x5_2 x6_1) from ge81_0)
                                                                        (try (obtain ⟨hy81_, hz81_⟩ := Kd.R_celln 0 ge81_0 (x7_2 : Int) (of_decide_eq_true (by first | (with_reducible assumption) | assumption)) (by have h_ : (x7_2 : Int) < (((rd_L2 x5_2 x6_1).length : Int) : Int) := of_decide_eq_true (by first | (with_reducible assumption) | assumption); first | exact h_ | (have e_ := (Kd.R_reads' HR145_0.out).1; omega) | simpa using h_)))
                                                                        have HP81 := Kd.R_putg ge81_0 (x7_2 : Int) (wrap64 ((rd (rd_L2 x5_2 (ji51)) (ji54)) + 1))
                                                                        go_wp2_with (first | ((with_reducible refine gate_store (t := 3) (p := 122) rfl ?_); (try (rw [drewN_self wc]; generalize hq_ : World.drewN wc _ = wc; (try (have nx_ := Aside0.mk (cell_at hq_ HX145_0.out); clear HX145_0; have HX145_0 := nx_; clear nx_)); (try (have nx_ := Aside0.mk (Kd.S_at hq_ HO_5.out); clear HO_5; have HO_5 := nx_; clear nx_)); (try (have nx_ := Aside0.mk (Kd.R_at hq_ HL159.out); clear HL159; have HL159 := nx_; clear nx_)); (try (have nx_ := Aside0.mk (below_at hq_ HB.out); clear HB; have HB := nx_; clear nx_)); (try clear hq_); (try (have hq81 : (x6_1 : Int) < (x5_2.length : Int) := (by have h_ : (x6_1 : Int) < ((x5_2.length : Int) : Int) := of_decide_eq_true (by first | (with_reducible assumption) | assumption); first | exact h_ | (have e_ := (Kd.S_reads' HO_5.out).1; omega) | simpa only [List.length_set, List.length_set] using h_))); (try (obtain ⟨oki81, ce81, hcl81, hM81, hcc81, hok81, hbk81⟩ := Kd.S_borrow HO_5.out [] (x6_1 : Int) (of_decide_eq_true (by first | (with_reducible assumption) | assumption)) hq81)); (try (obtain ⟨ve81_0, rfl, ge81_0⟩ := hM81)); (try (have hv81 := hcc81 0 _ rfl)); (try (rw [Nat.add_zero, show ((Kd.slice 3 (Kd.int .i64))).sz = 1 from rfl, Nat.mul_one] at hv81)); (try (replace hv81 := Option.some.inj (hv81.symm.trans HX145_0.out))); (try (subst hv81)); (try (clear hcc81 hcl81)); (try (replace ge81_0 := (show Kd.R (Kd.int .i64) 3 _ _ _ _ (rd_L2 x5_2 x6_1) from ge81_0))); (try (try (obtain ⟨hy81_, hz81_⟩ := Kd.R_celln 0 ge81_0 (x7_2 : Int) (of_decide_eq_true (by first | (with_reducible assumption) | assumption)) (by have h_ : (x7_2 : Int) < (((rd_L2 x5_2 x6_1).length : Int) : Int) := of_decide_eq_true (by first | (with_reducible assumption) | assumption); first | exact h_ | (have e_ := (Kd.R_reads' HR145_0.out).1; omega) | simpa using h_)))); (try (have HP81 := Kd.R_putg ge81_0 (x7_2 : Int) (wrap64 ((rd (rd_L2 x5_2 (ji51)) (ji54)) + 1)))))); refine store_event (t := 3) (p := 122) (v := ?vo_w82) (w1 := (wc.setCell ⟨go80, (x7_2 : Int).toNat, none⟩ (.int .i64 (wrap64 ((rd (rd_L2 x5_2 (ji51)) (ji54)) + 1))))) ?hg ?ho ?hn ?hr ?_; (case ho => rfl); (case hg => rfl); (case hn => rfl); (case hr => first | (go_simp; done) | (go_simp; rfl)); intro w82 hw; have hg : wc.grownBy w82 (some go80) := (by rw [hw]; exact HP81.2); have hz_ : Kd.R (Kd.int .i64) 3 w82 w.heap.size oki81 (.slice (some ⟨go80, 0, none⟩) (rd_L2 x5_2 x6_1).length c145_0) y146 := (by rw [hw, Ny146.out]; exact HP81.1); have hp_ : Kd.S (Kd.slice 3 (Kd.int .i64)) 41 w82 w.heap.size (fun _ => True) (.slice (some ⟨go14, 0, none⟩) x5_2.length co14) y148 := (by rw [Ny148.out]; exact hbk81 hg (fun k_ e_ => by injection e_ with e_; subst e_; exact ge81_0.1 _ rfl) (Kd.M_row hz_)); have hm_ := Kd.R_mono hz_ hok81; clear HP81 hbk81; have n0_ := Aside0.mk (hp_); have n1_ := Aside0.mk ((by rw [hw]; exact below_set (HB.out) GB80.out : Below w.heap.size w w82)); have n2_ := Aside0.mk (hm_); have n3_ := Aside0.mk ((Kd.R_reads' hm_).2.1); clear HO_5; clear HB; clear HL133_0; clear HL145_0; have HO_5 := n0_; have HB := n1_; have HL159 := n2_; have HC147 := n3_; clear n0_ n1_ n2_ n3_; clear hg hw hp_ hz_ hm_ hok81))
                                                                        repeat (go_quiet (first | ((with_reducible refine gate_store (t := 3) (p := 122) rfl ?_); (try (rw [drewN_self wc]; generalize hq_ : World.drewN wc _ = wc; (try (have nx_ := Aside0.mk (cell_at hq_ HX145_0.out); clear HX145_0; have HX145_0 := nx_; clear nx_)); (try (have nx_ := Aside0.mk (Kd.S_at hq_ HO_5.out); clear HO_5; have HO_5 := nx_; clear nx_)); (try (have nx_ := Aside0.mk (Kd.R_at hq_ HL159.out); clear HL159; have HL159 := nx_; clear nx_)); (try (have nx_ := Aside0.mk (below_at hq_ HB.out); clear HB; have HB := nx_; clear nx_)); (try clear hq_); (try (have hq81 : (x6_1 : Int) < (x5_2.length : Int) := (by have h_ : (x6_1 : Int) < ((x5_2.length : Int) : Int) := of_decide_eq_true (by first | (with_reducible assumption) | assumption); first | exact h_ | (have e_ := (Kd.S_reads' HO_5.out).1; omega) | simpa only [List.length_set, List.length_set] using h_))); (try (obtain ⟨oki81, ce81, hcl81, hM81, hcc81, hok81, hbk81⟩ := Kd.S_borrow HO_5.out [] (x6_1 : Int) (of_decide_eq_true (by first | (with_reducible assumption) | assumption)) hq81)); (try (obtain ⟨ve81_0, rfl, ge81_0⟩ := hM81)); (try (have hv81 := hcc81 0 _ rfl)); (try (rw [Nat.add_zero, show ((Kd.slice 3 (Kd.int .i64))).sz = 1 from rfl, Nat.mul_one] at hv81)); (try (replace hv81 := Option.some.inj (hv81.symm.trans HX145_0.out))); (try (subst hv81)); (try (clear hcc81 hcl81)); (try (replace ge81_0 := (show Kd.R (Kd.int .i64) 3 _ _ _ _ (rd_L2 x5_2 x6_1) from ge81_0))); (try (try (obtain ⟨hy81_, hz81_⟩ := Kd.R_celln 0 ge81_0 (x7_2 : Int) (of_decide_eq_true (by first | (with_reducible assumption) | assumption)) (by have h_ : (x7_2 : Int) < (((rd_L2 x5_2 x6_1).length : Int) : Int) := of_decide_eq_true (by first | (with_reducible assumption) | assumption); first | exact h_ | (have e_ := (Kd.R_reads' HR145_0.out).1; omega) | simpa using h_)))); (try (have HP81 := Kd.R_putg ge81_0 (x7_2 : Int) (wrap64 ((rd (rd_L2 x5_2 (ji51)) (ji54)) + 1)))))); refine store_event (t := 3) (p := 122) (v := ?vo_w82) (w1 := (wc.setCell ⟨go80, (x7_2 : Int).toNat, none⟩ (.int .i64 (wrap64 ((rd (rd_L2 x5_2 (ji51)) (ji54)) + 1))))) ?hg ?ho ?hn ?hr ?_; (case ho => rfl); (case hg => rfl); (case hn => rfl); (case hr => first | (go_simp; done) | (go_simp; rfl)); intro w82 hw; have hg : wc.grownBy w82 (some go80) := (by rw [hw]; exact HP81.2); have hz_ : Kd.R (Kd.int .i64) 3 w82 w.heap.size oki81 (.slice (some ⟨go80, 0, none⟩) (rd_L2 x5_2 x6_1).length c145_0) y146 := (by rw [hw, Ny146.out]; exact HP81.1); have hp_ : Kd.S (Kd.slice 3 (Kd.int .i64)) 41 w82 w.heap.size (fun _ => True) (.slice (some ⟨go14, 0, none⟩) x5_2.length co14) y148 := (by rw [Ny148.out]; exact hbk81 hg (fun k_ e_ => by injection e_ with e_; subst e_; exact ge81_0.1 _ rfl) (Kd.M_row hz_)); have hm_ := Kd.R_mono hz_ hok81; clear HP81 hbk81; have n0_ := Aside0.mk (hp_); have n1_ := Aside0.mk ((by rw [hw]; exact below_set (HB.out) GB80.out : Below w.heap.size w w82)); have n2_ := Aside0.mk (hm_); have n3_ := Aside0.mk ((Kd.R_reads' hm_).2.1); clear HO_5; clear HB; clear HL133_0; clear HL145_0; have HO_5 := n0_; have HB := n1_; have HL159 := n2_; have HC147 := n3_; clear n0_ n1_ n2_ n3_; clear hg hw hp_ hz_ hm_ hok81)); try go_wp2_with (first | ((with_reducible refine gate_store (t := 3) (p := 122) rfl ?_); (try (rw [drewN_self wc]; generalize hq_ : World.drewN wc _ = wc; (try (have nx_ := Aside0.mk (cell_at hq_ HX145_0.out); clear HX145_0; have HX145_0 := nx_; clear nx_)); (try (have nx_ := Aside0.mk (Kd.S_at hq_ HO_5.out); clear HO_5; have HO_5 := nx_; clear nx_)); (try (have nx_ := Aside0.mk (Kd.R_at hq_ HL159.out); clear HL159; have HL159 := nx_; clear nx_)); (try (have nx_ := Aside0.mk (below_at hq_ HB.out); clear HB; have HB := nx_; clear nx_)); (try clear hq_); (try (have hq81 : (x6_1 : Int) < (x5_2.length : Int) := (by have h_ : (x6_1 : Int) < ((x5_2.length : Int) : Int) := of_decide_eq_true (by first | (with_reducible assumption) | assumption); first | exact h_ | (have e_ := (Kd.S_reads' HO_5.out).1; omega) | simpa only [List.length_set, List.length_set] using h_))); (try (obtain ⟨oki81, ce81, hcl81, hM81, hcc81, hok81, hbk81⟩ := Kd.S_borrow HO_5.out [] (x6_1 : Int) (of_decide_eq_true (by first | (with_reducible assumption) | assumption)) hq81)); (try (obtain ⟨ve81_0, rfl, ge81_0⟩ := hM81)); (try (have hv81 := hcc81 0 _ rfl)); (try (rw [Nat.add_zero, show ((Kd.slice 3 (Kd.int .i64))).sz = 1 from rfl, Nat.mul_one] at hv81)); (try (replace hv81 := Option.some.inj (hv81.symm.trans HX145_0.out))); (try (subst hv81)); (try (clear hcc81 hcl81)); (try (replace ge81_0 := (show Kd.R (Kd.int .i64) 3 _ _ _ _ (rd_L2 x5_2 x6_1) from ge81_0))); (try (try (obtain ⟨hy81_, hz81_⟩ := Kd.R_celln 0 ge81_0 (x7_2 : Int) (of_decide_eq_true (by first | (with_reducible assumption) | assumption)) (by have h_ : (x7_2 : Int) < (((rd_L2 x5_2 x6_1).length : Int) : Int) := of_decide_eq_true (by first | (with_reducible assumption) | assumption); first | exact h_ | (have e_ := (Kd.R_reads' HR145_0.out).1; omega) | simpa using h_)))); (try (have HP81 := Kd.R_putg ge81_0 (x7_2 : Int) (wrap64 ((rd (rd_L2 x5_2 (ji51)) (ji54)) + 1)))))); refine store_event (t := 3) (p := 122) (v := ?vo_w82) (w1 := (wc.setCell ⟨go80, (x7_2 : Int).toNat, none⟩ (.int .i64 (wrap64 ((rd (rd_L2 x5_2 (ji51)) (ji54)) + 1))))) ?hg ?ho ?hn ?hr ?_; (case ho => rfl); (case hg => rfl); (case hn => rfl); (case hr => first | (go_simp; done) | (go_simp; rfl)); intro w82 hw; have hg : wc.grownBy w82 (some go80) := (by rw [hw]; exact HP81.2); have hz_ : Kd.R (Kd.int .i64) 3 w82 w.heap.size oki81 (.slice (some ⟨go80, 0, none⟩) (rd_L2 x5_2 x6_1).length c145_0) y146 := (by rw [hw, Ny146.out]; exact HP81.1); have hp_ : Kd.S (Kd.slice 3 (Kd.int .i64)) 41 w82 w.heap.size (fun _ => True) (.slice (some ⟨go14, 0, none⟩) x5_2.length co14) y148 := (by rw [Ny148.out]; exact hbk81 hg (fun k_ e_ => by injection e_ with e_; subst e_; exact ge81_0.1 _ rfl) (Kd.M_row hz_)); have hm_ := Kd.R_mono hz_ hok81; clear HP81 hbk81; have n0_ := Aside0.mk (hp_); have n1_ := Aside0.mk ((by rw [hw]; exact below_set (HB.out) GB80.out : Below w.heap.size w w82)); have n2_ := Aside0.mk (hm_); have n3_ := Aside0.mk ((Kd.R_reads' hm_).2.1); clear HO_5; clear HB; clear HL133_0; clear HL145_0; have HO_5 := n0_; have HB := n1_; have HL159 := n2_; have HC147 := n3_; clear n0_ n1_ n2_ n3_; clear hg hw hp_ hz_ hm_ hok81)))
                                                                        (try simp only [← hl5_2])
                                                                        go_roundg kj47
                                                                        case measure => have := HK1.out; have := HK2.out; have := HJ19.out; have := HJ26.out; have := HJ33.out; have := HJ40.out; have := HJ47.out; omega
                                                                        case rel => exact ⟨(y148), (wrap64 (x7_2 + 1)), (by first | rfl | (simp; done) | (simp [*]; done)), H', ⟨by have := HK1.out; have := HK2.out; have := HJ19.out; have := HJ26.out; have := HJ33.out; have := HJ40.out; have := HJ47.out; omega⟩, ⟨by (try simp only [hl5_2]); (with_reducible repeat (first | apply Kd.S_alloc | apply Kd.S_drewN | apply Kd.S_drew)); exact HO_5.out⟩, ⟨by repeat (first | (with_reducible first | exact HB.out | apply below_alloc | apply pw_below_drewN | apply below_drew1) | exact HB.out)⟩⟩
                                                                      · rw [if_neg c79] at H
                                                                        exact absurd H (by simp)
                                                                    · rw [if_neg c78] at H
                                                                      exact absurd H (by simp)
                                                                  · rw [if_neg c77] at H
                                                                    exact absurd H (by simp)
                                                                · rw [if_neg c76] at H
                                                                  exact absurd H (by simp)
                                                              · rw [if_neg c75] at H
                                                                have c75b0 : decide ((wrap64 ((rd (rd_L2 x5_2 (ji51)) (ji54)) + 1)) < x8_40) = false := decide_eq_false c75
                                                                clear c75
                                                                by_cases c83 : 0 ≤ x6_1
                                                                · rw [if_pos c83] at H
                                                                  have c83b0 : decide (0 ≤ x6_1) = true := decide_eq_true c83
                                                                  clear c83
                                                                  by_cases c84 : x6_1 < (x5_2.length : Int)
                                                                  · rw [if_pos c84] at H
                                                                    have c84b0 : decide (x6_1 < (x5_2.length : Int)) = true := decide_eq_true c84
                                                                    (try (have c84b0h := c84b0; simp only [hl5_2] at c84b0h))
                                                                    clear c84
                                                                    by_cases c85 : 0 ≤ x7_2
                                                                    · rw [if_pos c85] at H
                                                                      have c85b0 : decide (0 ≤ x7_2) = true := decide_eq_true c85
                                                                      clear c85
                                                                      by_cases c86 : x7_2 < ((rd_L2 x5_2 x6_1).length : Int)
                                                                      · rw [if_pos c86] at H
                                                                        have c86b0 : decide (x7_2 < ((rd_L2 x5_2 x6_1).length : Int)) = true := decide_eq_true c86
                                                                        (try (have c86b0h := c86b0; simp only [hl5_2] at c86b0h))
                                                                        clear c86
                                                                        obtain ⟨y150, hy150⟩ : ∃ y_ : List Int, y_ = ((rd_L2 x5_2 x6_1).set (x7_2 : Int).toNat x8_40) := ⟨_, rfl⟩
                                                                        replace H : (coppicerref_Far.l1 kj47 l0 l1 (x5_2.set (x6_1 : Int).toNat y150) x6_1 (wrap64 (x7_2 + 1))) = some r := by first | (rw [hy150]; with_reducible exact H) | (have H2_ := (Option.bind_some _ _).symm.trans H; rw [hy150]; with_reducible exact H2_) | (have H2_ := (Option.bind_some _ _).symm.trans H; with_reducible exact H2_) | with_reducible exact H | (rw [hy150]; exact H) | exact H
                                                                        have Ny150 := Aside0.mk hy150
                                                                        clear hy150
                                                                        obtain ⟨y152, hy152⟩ : ∃ y_ : List (List Int), y_ = (x5_2.set (x6_1 : Int).toNat y150) := ⟨_, rfl⟩
                                                                        replace H : (coppicerref_Far.l1 kj47 l0 l1 y152 x6_1 (wrap64 (x7_2 + 1))) = some r := by first | (rw [hy152]; with_reducible exact H) | (have H2_ := (Option.bind_some _ _).symm.trans H; rw [hy152]; with_reducible exact H2_) | (have H2_ := (Option.bind_some _ _).symm.trans H; with_reducible exact H2_) | with_reducible exact H | (rw [hy152]; exact H) | exact H
                                                                        have Ny152 := Aside0.mk hy152
                                                                        clear hy152
                                                                        have H' := Aside0.mk H
                                                                        clear H
                                                                        have p133 : 0 ≤ ((ji51) : Int) := of_decide_eq_true (by first | (with_reducible assumption) | assumption)
                                                                        have q133 : (ji51) < (x5_2.length : Int) := of_decide_eq_true (by first | (with_reducible assumption) | assumption)
                                                                        obtain ⟨ad133, A133_0, c133_0, e133, hx133_0, hl133_0, hi133_0⟩ := at_L2 (Kd.S_reads' HO_5.out).2.2 (ji51) p133 q133
                                                                        obtain rfl : (⟨go14, 0, none⟩ : Addr) = ad133 := (by injection e133)
                                                                        obtain ⟨ce133, hce133, hMe133, hcc133⟩ := Kd.S_get HO_5.out [] (ji51) p133 (by first | exact q133 | exact of_decide_eq_true (by first | (with_reducible assumption) | assumption) | (have e_ := (Kd.S_reads' HO_5.out).1; omega))
                                                                        obtain ⟨ve133_0, rfl, ge133_0⟩ := hMe133
                                                                        have hv133_0 := hcc133 0 _ rfl
                                                                        rw [Nat.add_zero, show ((Kd.slice 3 (Kd.int .i64))).sz = 1 from rfl, Nat.mul_one] at hv133_0
                                                                        replace hv133_0 := Option.some.inj (hv133_0.symm.trans hx133_0)
                                                                        rw [hv133_0] at ge133_0
                                                                        have HL133_0 := Aside0.mk (show Kd.R (Kd.int .i64) 3 _ _ _ _ (rd_L2 x5_2 (ji51)) from ge133_0)
                                                                        clear hv133_0 ge133_0
                                                                        have HX133_0 := Aside0.mk hx133_0
                                                                        clear hcc133 hce133
                                                                        (first | simp only [add_plain] at hx133_0 | simp only [add_at] at hx133_0 | simp only [Addr.add, Nat.zero_add] at hx133_0 | skip)
                                                                        have HR133_0 := Aside0.mk hi133_0
                                                                        have HC133_0 := Aside0.mk hl133_0
                                                                        clear hi133_0 hl133_0
                                                                        replace p133 := eq_true p133
                                                                        replace q133 := eq_true q133
                                                                        have p134 : 0 ≤ ((ji54) : Int) := of_decide_eq_true (by first | (with_reducible assumption) | assumption)
                                                                        have q134 : (ji54) < ((rd_L2 x5_2 (ji51)).length : Int) := of_decide_eq_true (by first | (with_reducible assumption) | assumption)
                                                                        obtain ⟨ad134, e134, hx134_0⟩ := Kd.at_int (by repeat (first | (with_reducible exact HR133_0.out) | (with_reducible refine Kd.C_alloc ?_ _) | (with_reducible refine Kd.C_drewN ?_ _) | (with_reducible refine Kd.C_drew ?_) | exact HR133_0.out)) (ji54) p134 q134
                                                                        cases e134
                                                                        replace p134 := eq_true p134
                                                                        replace q134 := eq_true q134
                                                                        have p135 : 0 ≤ ((ji51) : Int) := of_decide_eq_true (by first | (with_reducible assumption) | assumption)
                                                                        have q135 : (ji51) < (l0.length : Int) := of_decide_eq_true (by first | (with_reducible assumption) | assumption)
                                                                        obtain ⟨ad135, e135, hx135_0⟩ := Kd.at_int HR0.out (ji51) p135 q135
                                                                        cases e135
                                                                        replace hx135_0 := (HB.out.cell (World.block_lt_of_cell? w _ hx135_0)).trans hx135_0
                                                                        replace p135 := eq_true p135
                                                                        replace q135 := eq_true q135
                                                                        have p136 : 0 ≤ ((ji54) : Int) := of_decide_eq_true (by first | (with_reducible assumption) | assumption)
                                                                        have q136 : (ji54) < (l1.length : Int) := of_decide_eq_true (by first | (with_reducible assumption) | assumption)
                                                                        obtain ⟨ad136, e136, hx136_0⟩ := Kd.at_int HR1.out (ji54) p136 q136
                                                                        cases e136
                                                                        replace hx136_0 := (HB.out.cell (World.block_lt_of_cell? w _ hx136_0)).trans hx136_0
                                                                        replace p136 := eq_true p136
                                                                        replace q136 := eq_true q136
                                                                        have p149 : 0 ≤ (x6_1 : Int) := of_decide_eq_true (by first | (with_reducible assumption) | assumption)
                                                                        have q149 : x6_1 < (x5_2.length : Int) := of_decide_eq_true (by first | (with_reducible assumption) | assumption)
                                                                        obtain ⟨ad149, A149_0, c149_0, e149, hx149_0, hl149_0, hi149_0⟩ := at_L2 (Kd.S_reads' HO_5.out).2.2 x6_1 p149 q149
                                                                        obtain rfl : (⟨go14, 0, none⟩ : Addr) = ad149 := (by injection e149)
                                                                        obtain ⟨ce149, hce149, hMe149, hcc149⟩ := Kd.S_get HO_5.out [] x6_1 p149 (by first | exact q149 | exact of_decide_eq_true (by first | (with_reducible assumption) | assumption) | (have e_ := (Kd.S_reads' HO_5.out).1; omega))
                                                                        obtain ⟨ve149_0, rfl, ge149_0⟩ := hMe149
                                                                        have hv149_0 := hcc149 0 _ rfl
                                                                        rw [Nat.add_zero, show ((Kd.slice 3 (Kd.int .i64))).sz = 1 from rfl, Nat.mul_one] at hv149_0
                                                                        replace hv149_0 := Option.some.inj (hv149_0.symm.trans hx149_0)
                                                                        rw [hv149_0] at ge149_0
                                                                        have HL149_0 := Aside0.mk (show Kd.R (Kd.int .i64) 3 _ _ _ _ (rd_L2 x5_2 x6_1) from ge149_0)
                                                                        clear hv149_0 ge149_0
                                                                        have HX149_0 := Aside0.mk hx149_0
                                                                        clear hcc149 hce149
                                                                        (first | simp only [add_plain] at hx149_0 | simp only [add_at] at hx149_0 | simp only [Addr.add, Nat.zero_add] at hx149_0 | skip)
                                                                        have HR149_0 := Aside0.mk hi149_0
                                                                        have HC149_0 := Aside0.mk hl149_0
                                                                        clear hi149_0 hl149_0
                                                                        replace p149 := eq_true p149
                                                                        replace q149 := eq_true q149
                                                                        have p87 : 0 ≤ (x7_2 : Int) := of_decide_eq_true (by first | (with_reducible assumption) | assumption)
                                                                        have q87 : (x7_2 : Int) < (((rd_L2 x5_2 x6_1).length : Int) : Int) := of_decide_eq_true (by first | (with_reducible assumption) | assumption)
                                                                        obtain ⟨go87, co87, eo87, gb87, gl87, cl87, HG87⟩ := Kd.R_form HL149_0.out (by omega)
                                                                        (first | cases eo87 | (injection eo87 with ea_ en_ ec_; (first | subst ea_ | (injection ea_ with ea_; subst ea_)); subst ec_; clear en_))
                                                                        have GB87 := Aside0.mk gb87
                                                                        have GG87 := Aside0.mk HG87
                                                                        clear gb87 gl87 HG87
                                                                        obtain ⟨hx87_0, hf87_0⟩ := Kd.R_celln 0 HL149_0.out (x7_2 : Int) p87 q87
                                                                        replace p87 := eq_true p87
                                                                        replace q87 := eq_true q87
                                                                        have hq88 : (x6_1 : Int) < (x5_2.length : Int) := (by have h_ : (x6_1 : Int) < ((x5_2.length : Int) : Int) := of_decide_eq_true (by first | (with_reducible assumption) | assumption); first | exact h_ | (have e_ := (Kd.S_reads' HO_5.out).1; omega) | simpa only [List.length_set, List.length_set] using h_)
                                                                        obtain ⟨oki88, ce88, hcl88, hM88, hcc88, hok88, hbk88⟩ := Kd.S_borrow HO_5.out [] (x6_1 : Int) (of_decide_eq_true (by first | (with_reducible assumption) | assumption)) hq88
                                                                        obtain ⟨ve88_0, rfl, ge88_0⟩ := hM88
                                                                        have hv88 := hcc88 0 _ rfl
                                                                        rw [Nat.add_zero, show ((Kd.slice 3 (Kd.int .i64))).sz = 1 from rfl, Nat.mul_one] at hv88
                                                                        replace hv88 := Option.some.inj (hv88.symm.trans HX149_0.out)
                                                                        subst hv88
                                                                        clear hcc88 hcl88
                                                                        replace ge88_0 := (show Kd.R (Kd.int .i64) 3 _ _ _ _ (rd_L2 x5_2 x6_1) from ge88_0)
                                                                        (try (obtain ⟨hy88_, hz88_⟩ := Kd.R_celln 0 ge88_0 (x7_2 : Int) (of_decide_eq_true (by first | (with_reducible assumption) | assumption)) (by have h_ : (x7_2 : Int) < (((rd_L2 x5_2 x6_1).length : Int) : Int) := of_decide_eq_true (by first | (with_reducible assumption) | assumption); first | exact h_ | (have e_ := (Kd.R_reads' HR149_0.out).1; omega) | simpa using h_)))
                                                                        have HP88 := Kd.R_putg ge88_0 (x7_2 : Int) x8_40
                                                                        go_wp2_with (first | ((with_reducible refine gate_store (t := 3) (p := 122) rfl ?_); (try (rw [drewN_self wc]; generalize hq_ : World.drewN wc _ = wc; (try (have nx_ := Aside0.mk (cell_at hq_ HX149_0.out); clear HX149_0; have HX149_0 := nx_; clear nx_)); (try (have nx_ := Aside0.mk (Kd.S_at hq_ HO_5.out); clear HO_5; have HO_5 := nx_; clear nx_)); (try (have nx_ := Aside0.mk (Kd.R_at hq_ HL160.out); clear HL160; have HL160 := nx_; clear nx_)); (try (have nx_ := Aside0.mk (below_at hq_ HB.out); clear HB; have HB := nx_; clear nx_)); (try clear hq_); (try (have hq88 : (x6_1 : Int) < (x5_2.length : Int) := (by have h_ : (x6_1 : Int) < ((x5_2.length : Int) : Int) := of_decide_eq_true (by first | (with_reducible assumption) | assumption); first | exact h_ | (have e_ := (Kd.S_reads' HO_5.out).1; omega) | simpa only [List.length_set, List.length_set] using h_))); (try (obtain ⟨oki88, ce88, hcl88, hM88, hcc88, hok88, hbk88⟩ := Kd.S_borrow HO_5.out [] (x6_1 : Int) (of_decide_eq_true (by first | (with_reducible assumption) | assumption)) hq88)); (try (obtain ⟨ve88_0, rfl, ge88_0⟩ := hM88)); (try (have hv88 := hcc88 0 _ rfl)); (try (rw [Nat.add_zero, show ((Kd.slice 3 (Kd.int .i64))).sz = 1 from rfl, Nat.mul_one] at hv88)); (try (replace hv88 := Option.some.inj (hv88.symm.trans HX149_0.out))); (try (subst hv88)); (try (clear hcc88 hcl88)); (try (replace ge88_0 := (show Kd.R (Kd.int .i64) 3 _ _ _ _ (rd_L2 x5_2 x6_1) from ge88_0))); (try (try (obtain ⟨hy88_, hz88_⟩ := Kd.R_celln 0 ge88_0 (x7_2 : Int) (of_decide_eq_true (by first | (with_reducible assumption) | assumption)) (by have h_ : (x7_2 : Int) < (((rd_L2 x5_2 x6_1).length : Int) : Int) := of_decide_eq_true (by first | (with_reducible assumption) | assumption); first | exact h_ | (have e_ := (Kd.R_reads' HR149_0.out).1; omega) | simpa using h_)))); (try (have HP88 := Kd.R_putg ge88_0 (x7_2 : Int) x8_40)))); refine store_event (t := 3) (p := 122) (v := ?vo_w89) (w1 := (wc.setCell ⟨go87, (x7_2 : Int).toNat, none⟩ (.int .i64 x8_40))) ?hg ?ho ?hn ?hr ?_; (case ho => rfl); (case hg => rfl); (case hn => rfl); (case hr => first | (go_simp; done) | (go_simp; rfl)); intro w89 hw; have hg : wc.grownBy w89 (some go87) := (by rw [hw]; exact HP88.2); have hz_ : Kd.R (Kd.int .i64) 3 w89 w.heap.size oki88 (.slice (some ⟨go87, 0, none⟩) (rd_L2 x5_2 x6_1).length c149_0) y150 := (by rw [hw, Ny150.out]; exact HP88.1); have hp_ : Kd.S (Kd.slice 3 (Kd.int .i64)) 41 w89 w.heap.size (fun _ => True) (.slice (some ⟨go14, 0, none⟩) x5_2.length co14) y152 := (by rw [Ny152.out]; exact hbk88 hg (fun k_ e_ => by injection e_ with e_; subst e_; exact ge88_0.1 _ rfl) (Kd.M_row hz_)); have hm_ := Kd.R_mono hz_ hok88; clear HP88 hbk88; have n0_ := Aside0.mk (hp_); have n1_ := Aside0.mk ((by rw [hw]; exact below_set (HB.out) GB87.out : Below w.heap.size w w89)); have n2_ := Aside0.mk (hm_); have n3_ := Aside0.mk ((Kd.R_reads' hm_).2.1); clear HO_5; clear HB; clear HL133_0; clear HL149_0; have HO_5 := n0_; have HB := n1_; have HL160 := n2_; have HC151 := n3_; clear n0_ n1_ n2_ n3_; clear hg hw hp_ hz_ hm_ hok88))
                                                                        repeat (go_quiet (first | ((with_reducible refine gate_store (t := 3) (p := 122) rfl ?_); (try (rw [drewN_self wc]; generalize hq_ : World.drewN wc _ = wc; (try (have nx_ := Aside0.mk (cell_at hq_ HX149_0.out); clear HX149_0; have HX149_0 := nx_; clear nx_)); (try (have nx_ := Aside0.mk (Kd.S_at hq_ HO_5.out); clear HO_5; have HO_5 := nx_; clear nx_)); (try (have nx_ := Aside0.mk (Kd.R_at hq_ HL160.out); clear HL160; have HL160 := nx_; clear nx_)); (try (have nx_ := Aside0.mk (below_at hq_ HB.out); clear HB; have HB := nx_; clear nx_)); (try clear hq_); (try (have hq88 : (x6_1 : Int) < (x5_2.length : Int) := (by have h_ : (x6_1 : Int) < ((x5_2.length : Int) : Int) := of_decide_eq_true (by first | (with_reducible assumption) | assumption); first | exact h_ | (have e_ := (Kd.S_reads' HO_5.out).1; omega) | simpa only [List.length_set, List.length_set] using h_))); (try (obtain ⟨oki88, ce88, hcl88, hM88, hcc88, hok88, hbk88⟩ := Kd.S_borrow HO_5.out [] (x6_1 : Int) (of_decide_eq_true (by first | (with_reducible assumption) | assumption)) hq88)); (try (obtain ⟨ve88_0, rfl, ge88_0⟩ := hM88)); (try (have hv88 := hcc88 0 _ rfl)); (try (rw [Nat.add_zero, show ((Kd.slice 3 (Kd.int .i64))).sz = 1 from rfl, Nat.mul_one] at hv88)); (try (replace hv88 := Option.some.inj (hv88.symm.trans HX149_0.out))); (try (subst hv88)); (try (clear hcc88 hcl88)); (try (replace ge88_0 := (show Kd.R (Kd.int .i64) 3 _ _ _ _ (rd_L2 x5_2 x6_1) from ge88_0))); (try (try (obtain ⟨hy88_, hz88_⟩ := Kd.R_celln 0 ge88_0 (x7_2 : Int) (of_decide_eq_true (by first | (with_reducible assumption) | assumption)) (by have h_ : (x7_2 : Int) < (((rd_L2 x5_2 x6_1).length : Int) : Int) := of_decide_eq_true (by first | (with_reducible assumption) | assumption); first | exact h_ | (have e_ := (Kd.R_reads' HR149_0.out).1; omega) | simpa using h_)))); (try (have HP88 := Kd.R_putg ge88_0 (x7_2 : Int) x8_40)))); refine store_event (t := 3) (p := 122) (v := ?vo_w89) (w1 := (wc.setCell ⟨go87, (x7_2 : Int).toNat, none⟩ (.int .i64 x8_40))) ?hg ?ho ?hn ?hr ?_; (case ho => rfl); (case hg => rfl); (case hn => rfl); (case hr => first | (go_simp; done) | (go_simp; rfl)); intro w89 hw; have hg : wc.grownBy w89 (some go87) := (by rw [hw]; exact HP88.2); have hz_ : Kd.R (Kd.int .i64) 3 w89 w.heap.size oki88 (.slice (some ⟨go87, 0, none⟩) (rd_L2 x5_2 x6_1).length c149_0) y150 := (by rw [hw, Ny150.out]; exact HP88.1); have hp_ : Kd.S (Kd.slice 3 (Kd.int .i64)) 41 w89 w.heap.size (fun _ => True) (.slice (some ⟨go14, 0, none⟩) x5_2.length co14) y152 := (by rw [Ny152.out]; exact hbk88 hg (fun k_ e_ => by injection e_ with e_; subst e_; exact ge88_0.1 _ rfl) (Kd.M_row hz_)); have hm_ := Kd.R_mono hz_ hok88; clear HP88 hbk88; have n0_ := Aside0.mk (hp_); have n1_ := Aside0.mk ((by rw [hw]; exact below_set (HB.out) GB87.out : Below w.heap.size w w89)); have n2_ := Aside0.mk (hm_); have n3_ := Aside0.mk ((Kd.R_reads' hm_).2.1); clear HO_5; clear HB; clear HL133_0; clear HL149_0; have HO_5 := n0_; have HB := n1_; have HL160 := n2_; have HC151 := n3_; clear n0_ n1_ n2_ n3_; clear hg hw hp_ hz_ hm_ hok88)); try go_wp2_with (first | ((with_reducible refine gate_store (t := 3) (p := 122) rfl ?_); (try (rw [drewN_self wc]; generalize hq_ : World.drewN wc _ = wc; (try (have nx_ := Aside0.mk (cell_at hq_ HX149_0.out); clear HX149_0; have HX149_0 := nx_; clear nx_)); (try (have nx_ := Aside0.mk (Kd.S_at hq_ HO_5.out); clear HO_5; have HO_5 := nx_; clear nx_)); (try (have nx_ := Aside0.mk (Kd.R_at hq_ HL160.out); clear HL160; have HL160 := nx_; clear nx_)); (try (have nx_ := Aside0.mk (below_at hq_ HB.out); clear HB; have HB := nx_; clear nx_)); (try clear hq_); (try (have hq88 : (x6_1 : Int) < (x5_2.length : Int) := (by have h_ : (x6_1 : Int) < ((x5_2.length : Int) : Int) := of_decide_eq_true (by first | (with_reducible assumption) | assumption); first | exact h_ | (have e_ := (Kd.S_reads' HO_5.out).1; omega) | simpa only [List.length_set, List.length_set] using h_))); (try (obtain ⟨oki88, ce88, hcl88, hM88, hcc88, hok88, hbk88⟩ := Kd.S_borrow HO_5.out [] (x6_1 : Int) (of_decide_eq_true (by first | (with_reducible assumption) | assumption)) hq88)); (try (obtain ⟨ve88_0, rfl, ge88_0⟩ := hM88)); (try (have hv88 := hcc88 0 _ rfl)); (try (rw [Nat.add_zero, show ((Kd.slice 3 (Kd.int .i64))).sz = 1 from rfl, Nat.mul_one] at hv88)); (try (replace hv88 := Option.some.inj (hv88.symm.trans HX149_0.out))); (try (subst hv88)); (try (clear hcc88 hcl88)); (try (replace ge88_0 := (show Kd.R (Kd.int .i64) 3 _ _ _ _ (rd_L2 x5_2 x6_1) from ge88_0))); (try (try (obtain ⟨hy88_, hz88_⟩ := Kd.R_celln 0 ge88_0 (x7_2 : Int) (of_decide_eq_true (by first | (with_reducible assumption) | assumption)) (by have h_ : (x7_2 : Int) < (((rd_L2 x5_2 x6_1).length : Int) : Int) := of_decide_eq_true (by first | (with_reducible assumption) | assumption); first | exact h_ | (have e_ := (Kd.R_reads' HR149_0.out).1; omega) | simpa using h_)))); (try (have HP88 := Kd.R_putg ge88_0 (x7_2 : Int) x8_40)))); refine store_event (t := 3) (p := 122) (v := ?vo_w89) (w1 := (wc.setCell ⟨go87, (x7_2 : Int).toNat, none⟩ (.int .i64 x8_40))) ?hg ?ho ?hn ?hr ?_; (case ho => rfl); (case hg => rfl); (case hn => rfl); (case hr => first | (go_simp; done) | (go_simp; rfl)); intro w89 hw; have hg : wc.grownBy w89 (some go87) := (by rw [hw]; exact HP88.2); have hz_ : Kd.R (Kd.int .i64) 3 w89 w.heap.size oki88 (.slice (some ⟨go87, 0, none⟩) (rd_L2 x5_2 x6_1).length c149_0) y150 := (by rw [hw, Ny150.out]; exact HP88.1); have hp_ : Kd.S (Kd.slice 3 (Kd.int .i64)) 41 w89 w.heap.size (fun _ => True) (.slice (some ⟨go14, 0, none⟩) x5_2.length co14) y152 := (by rw [Ny152.out]; exact hbk88 hg (fun k_ e_ => by injection e_ with e_; subst e_; exact ge88_0.1 _ rfl) (Kd.M_row hz_)); have hm_ := Kd.R_mono hz_ hok88; clear HP88 hbk88; have n0_ := Aside0.mk (hp_); have n1_ := Aside0.mk ((by rw [hw]; exact below_set (HB.out) GB87.out : Below w.heap.size w w89)); have n2_ := Aside0.mk (hm_); have n3_ := Aside0.mk ((Kd.R_reads' hm_).2.1); clear HO_5; clear HB; clear HL133_0; clear HL149_0; have HO_5 := n0_; have HB := n1_; have HL160 := n2_; have HC151 := n3_; clear n0_ n1_ n2_ n3_; clear hg hw hp_ hz_ hm_ hok88)))
                                                                        (try simp only [← hl5_2])
                                                                        go_roundg kj47
                                                                        case measure => have := HK1.out; have := HK2.out; have := HJ19.out; have := HJ26.out; have := HJ33.out; have := HJ40.out; have := HJ47.out; omega
                                                                        case rel => exact ⟨(y152), (wrap64 (x7_2 + 1)), (by first | rfl | (simp; done) | (simp [*]; done)), H', ⟨by have := HK1.out; have := HK2.out; have := HJ19.out; have := HJ26.out; have := HJ33.out; have := HJ40.out; have := HJ47.out; omega⟩, ⟨by (try simp only [hl5_2]); (with_reducible repeat (first | apply Kd.S_alloc | apply Kd.S_drewN | apply Kd.S_drew)); exact HO_5.out⟩, ⟨by repeat (first | (with_reducible first | exact HB.out | apply below_alloc | apply pw_below_drewN | apply below_drew1) | exact HB.out)⟩⟩
                                                                      · rw [if_neg c86] at H
                                                                        exact absurd H (by simp)
                                                                    · rw [if_neg c85] at H
                                                                      exact absurd H (by simp)
                                                                  · rw [if_neg c84] at H
                                                                    exact absurd H (by simp)
                                                                · rw [if_neg c83] at H
                                                                  exact absurd H (by simp)
                                                          · rw [if_neg c58] at H
                                                            exact absurd H (by simp)
                                                        · rw [if_neg c57] at H
                                                          exact absurd H (by simp)
                                                      · rw [if_neg c56] at H
                                                        exact absurd H (by simp)
                                                    · rw [if_neg c55] at H
                                                      exact absurd H (by simp)
                                                  · rw [if_neg c53] at H
                                                    exact absurd H (by simp)
                                                · rw [if_neg c52] at H
                                                  exact absurd H (by simp)
                                              · replace c50 := Bool.eq_false_iff.mpr c50
                                                subst c50
                                                have H1 : (if 0 ≤ x6_1 then (if x6_1 < (x5_2.length : Int) then (if 0 ≤ x7_2 then (if x7_2 < ((rd_L2 x5_2 x6_1).length : Int) then (coppicerref_Far.l1 kj47 l0 l1 (x5_2.set (x6_1 : Int).toNat ((rd_L2 x5_2 x6_1).set (x7_2 : Int).toNat x8_40)) x6_1 (wrap64 (x7_2 + 1))) else (none)) else (none)) else (none)) else (none)) = some r := by rw [if_neg (show ¬ (false = true) by decide)] at H; exact H
                                                clear H
                                                have H := H1
                                                clear H1
                                                by_cases c90 : 0 ≤ x6_1
                                                · rw [if_pos c90] at H
                                                  have c90b0 : decide (0 ≤ x6_1) = true := decide_eq_true c90
                                                  clear c90
                                                  by_cases c91 : x6_1 < (x5_2.length : Int)
                                                  · rw [if_pos c91] at H
                                                    have c91b0 : decide (x6_1 < (x5_2.length : Int)) = true := decide_eq_true c91
                                                    (try (have c91b0h := c91b0; simp only [hl5_2] at c91b0h))
                                                    clear c91
                                                    by_cases c92 : 0 ≤ x7_2
                                                    · rw [if_pos c92] at H
                                                      have c92b0 : decide (0 ≤ x7_2) = true := decide_eq_true c92
                                                      clear c92
                                                      by_cases c93 : x7_2 < ((rd_L2 x5_2 x6_1).length : Int)
                                                      · rw [if_pos c93] at H
                                                        have c93b0 : decide (x7_2 < ((rd_L2 x5_2 x6_1).length : Int)) = true := decide_eq_true c93
                                                        (try (have c93b0h := c93b0; simp only [hl5_2] at c93b0h))
                                                        clear c93
                                                        obtain ⟨y154, hy154⟩ : ∃ y_ : List Int, y_ = ((rd_L2 x5_2 x6_1).set (x7_2 : Int).toNat x8_40) := ⟨_, rfl⟩
                                                        replace H : (coppicerref_Far.l1 kj47 l0 l1 (x5_2.set (x6_1 : Int).toNat y154) x6_1 (wrap64 (x7_2 + 1))) = some r := by first | (rw [hy154]; with_reducible exact H) | (have H2_ := (Option.bind_some _ _).symm.trans H; rw [hy154]; with_reducible exact H2_) | (have H2_ := (Option.bind_some _ _).symm.trans H; with_reducible exact H2_) | with_reducible exact H | (rw [hy154]; exact H) | exact H
                                                        have Ny154 := Aside0.mk hy154
                                                        clear hy154
                                                        obtain ⟨y156, hy156⟩ : ∃ y_ : List (List Int), y_ = (x5_2.set (x6_1 : Int).toNat y154) := ⟨_, rfl⟩
                                                        replace H : (coppicerref_Far.l1 kj47 l0 l1 y156 x6_1 (wrap64 (x7_2 + 1))) = some r := by first | (rw [hy156]; with_reducible exact H) | (have H2_ := (Option.bind_some _ _).symm.trans H; rw [hy156]; with_reducible exact H2_) | (have H2_ := (Option.bind_some _ _).symm.trans H; with_reducible exact H2_) | with_reducible exact H | (rw [hy156]; exact H) | exact H
                                                        have Ny156 := Aside0.mk hy156
                                                        clear hy156
                                                        have H' := Aside0.mk H
                                                        clear H
                                                        have p153 : 0 ≤ (x6_1 : Int) := of_decide_eq_true (by first | (with_reducible assumption) | assumption)
                                                        have q153 : x6_1 < (x5_2.length : Int) := of_decide_eq_true (by first | (with_reducible assumption) | assumption)
                                                        obtain ⟨ad153, A153_0, c153_0, e153, hx153_0, hl153_0, hi153_0⟩ := at_L2 (Kd.S_reads' HO_5.out).2.2 x6_1 p153 q153
                                                        obtain rfl : (⟨go14, 0, none⟩ : Addr) = ad153 := (by injection e153)
                                                        obtain ⟨ce153, hce153, hMe153, hcc153⟩ := Kd.S_get HO_5.out [] x6_1 p153 (by first | exact q153 | exact of_decide_eq_true (by first | (with_reducible assumption) | assumption) | (have e_ := (Kd.S_reads' HO_5.out).1; omega))
                                                        obtain ⟨ve153_0, rfl, ge153_0⟩ := hMe153
                                                        have hv153_0 := hcc153 0 _ rfl
                                                        rw [Nat.add_zero, show ((Kd.slice 3 (Kd.int .i64))).sz = 1 from rfl, Nat.mul_one] at hv153_0
                                                        replace hv153_0 := Option.some.inj (hv153_0.symm.trans hx153_0)
                                                        rw [hv153_0] at ge153_0
                                                        have HL153_0 := Aside0.mk (show Kd.R (Kd.int .i64) 3 _ _ _ _ (rd_L2 x5_2 x6_1) from ge153_0)
                                                        clear hv153_0 ge153_0
                                                        have HX153_0 := Aside0.mk hx153_0
                                                        clear hcc153 hce153
                                                        (first | simp only [add_plain] at hx153_0 | simp only [add_at] at hx153_0 | simp only [Addr.add, Nat.zero_add] at hx153_0 | skip)
                                                        have HR153_0 := Aside0.mk hi153_0
                                                        have HC153_0 := Aside0.mk hl153_0
                                                        clear hi153_0 hl153_0
                                                        replace p153 := eq_true p153
                                                        replace q153 := eq_true q153
                                                        have p94 : 0 ≤ (x7_2 : Int) := of_decide_eq_true (by first | (with_reducible assumption) | assumption)
                                                        have q94 : (x7_2 : Int) < (((rd_L2 x5_2 x6_1).length : Int) : Int) := of_decide_eq_true (by first | (with_reducible assumption) | assumption)
                                                        obtain ⟨go94, co94, eo94, gb94, gl94, cl94, HG94⟩ := Kd.R_form HL153_0.out (by omega)
                                                        (first | cases eo94 | (injection eo94 with ea_ en_ ec_; (first | subst ea_ | (injection ea_ with ea_; subst ea_)); subst ec_; clear en_))
                                                        have GB94 := Aside0.mk gb94
                                                        have GG94 := Aside0.mk HG94
                                                        clear gb94 gl94 HG94
                                                        obtain ⟨hx94_0, hf94_0⟩ := Kd.R_celln 0 HL153_0.out (x7_2 : Int) p94 q94
                                                        replace p94 := eq_true p94
                                                        replace q94 := eq_true q94
                                                        have hq95 : (x6_1 : Int) < (x5_2.length : Int) := (by have h_ : (x6_1 : Int) < ((x5_2.length : Int) : Int) := of_decide_eq_true (by first | (with_reducible assumption) | assumption); first | exact h_ | (have e_ := (Kd.S_reads' HO_5.out).1; omega) | simpa only [List.length_set, List.length_set] using h_)
                                                        obtain ⟨oki95, ce95, hcl95, hM95, hcc95, hok95, hbk95⟩ := Kd.S_borrow HO_5.out [] (x6_1 : Int) (of_decide_eq_true (by first | (with_reducible assumption) | assumption)) hq95
                                                        obtain ⟨ve95_0, rfl, ge95_0⟩ := hM95
                                                        have hv95 := hcc95 0 _ rfl
                                                        rw [Nat.add_zero, show ((Kd.slice 3 (Kd.int .i64))).sz = 1 from rfl, Nat.mul_one] at hv95
                                                        replace hv95 := Option.some.inj (hv95.symm.trans HX153_0.out)
                                                        subst hv95
                                                        clear hcc95 hcl95
                                                        replace ge95_0 := (show Kd.R (Kd.int .i64) 3 _ _ _ _ (rd_L2 x5_2 x6_1) from ge95_0)
                                                        (try (obtain ⟨hy95_, hz95_⟩ := Kd.R_celln 0 ge95_0 (x7_2 : Int) (of_decide_eq_true (by first | (with_reducible assumption) | assumption)) (by have h_ : (x7_2 : Int) < (((rd_L2 x5_2 x6_1).length : Int) : Int) := of_decide_eq_true (by first | (with_reducible assumption) | assumption); first | exact h_ | (have e_ := (Kd.R_reads' HR153_0.out).1; omega) | simpa using h_)))
                                                        have HP95 := Kd.R_putg ge95_0 (x7_2 : Int) x8_40
                                                        go_wp2_with (first | ((with_reducible refine gate_store (t := 3) (p := 122) rfl ?_); (try (rw [drewN_self wc]; generalize hq_ : World.drewN wc _ = wc; (try (have nx_ := Aside0.mk (cell_at hq_ HX153_0.out); clear HX153_0; have HX153_0 := nx_; clear nx_)); (try (have nx_ := Aside0.mk (Kd.S_at hq_ HO_5.out); clear HO_5; have HO_5 := nx_; clear nx_)); (try (have nx_ := Aside0.mk (Kd.R_at hq_ HL161.out); clear HL161; have HL161 := nx_; clear nx_)); (try (have nx_ := Aside0.mk (below_at hq_ HB.out); clear HB; have HB := nx_; clear nx_)); (try clear hq_); (try (have hq95 : (x6_1 : Int) < (x5_2.length : Int) := (by have h_ : (x6_1 : Int) < ((x5_2.length : Int) : Int) := of_decide_eq_true (by first | (with_reducible assumption) | assumption); first | exact h_ | (have e_ := (Kd.S_reads' HO_5.out).1; omega) | simpa only [List.length_set, List.length_set] using h_))); (try (obtain ⟨oki95, ce95, hcl95, hM95, hcc95, hok95, hbk95⟩ := Kd.S_borrow HO_5.out [] (x6_1 : Int) (of_decide_eq_true (by first | (with_reducible assumption) | assumption)) hq95)); (try (obtain ⟨ve95_0, rfl, ge95_0⟩ := hM95)); (try (have hv95 := hcc95 0 _ rfl)); (try (rw [Nat.add_zero, show ((Kd.slice 3 (Kd.int .i64))).sz = 1 from rfl, Nat.mul_one] at hv95)); (try (replace hv95 := Option.some.inj (hv95.symm.trans HX153_0.out))); (try (subst hv95)); (try (clear hcc95 hcl95)); (try (replace ge95_0 := (show Kd.R (Kd.int .i64) 3 _ _ _ _ (rd_L2 x5_2 x6_1) from ge95_0))); (try (try (obtain ⟨hy95_, hz95_⟩ := Kd.R_celln 0 ge95_0 (x7_2 : Int) (of_decide_eq_true (by first | (with_reducible assumption) | assumption)) (by have h_ : (x7_2 : Int) < (((rd_L2 x5_2 x6_1).length : Int) : Int) := of_decide_eq_true (by first | (with_reducible assumption) | assumption); first | exact h_ | (have e_ := (Kd.R_reads' HR153_0.out).1; omega) | simpa using h_)))); (try (have HP95 := Kd.R_putg ge95_0 (x7_2 : Int) x8_40)))); refine store_event (t := 3) (p := 122) (v := ?vo_w96) (w1 := (wc.setCell ⟨go94, (x7_2 : Int).toNat, none⟩ (.int .i64 x8_40))) ?hg ?ho ?hn ?hr ?_; (case ho => rfl); (case hg => rfl); (case hn => rfl); (case hr => first | (go_simp; done) | (go_simp; rfl)); intro w96 hw; have hg : wc.grownBy w96 (some go94) := (by rw [hw]; exact HP95.2); have hz_ : Kd.R (Kd.int .i64) 3 w96 w.heap.size oki95 (.slice (some ⟨go94, 0, none⟩) (rd_L2 x5_2 x6_1).length c153_0) y154 := (by rw [hw, Ny154.out]; exact HP95.1); have hp_ : Kd.S (Kd.slice 3 (Kd.int .i64)) 41 w96 w.heap.size (fun _ => True) (.slice (some ⟨go14, 0, none⟩) x5_2.length co14) y156 := (by rw [Ny156.out]; exact hbk95 hg (fun k_ e_ => by injection e_ with e_; subst e_; exact ge95_0.1 _ rfl) (Kd.M_row hz_)); have hm_ := Kd.R_mono hz_ hok95; clear HP95 hbk95; have n0_ := Aside0.mk (hp_); have n1_ := Aside0.mk ((by rw [hw]; exact below_set (HB.out) GB94.out : Below w.heap.size w w96)); have n2_ := Aside0.mk (hm_); have n3_ := Aside0.mk ((Kd.R_reads' hm_).2.1); clear HO_5; clear HB; clear HL153_0; have HO_5 := n0_; have HB := n1_; have HL161 := n2_; have HC155 := n3_; clear n0_ n1_ n2_ n3_; clear hg hw hp_ hz_ hm_ hok95))
                                                        repeat (go_quiet (first | ((with_reducible refine gate_store (t := 3) (p := 122) rfl ?_); (try (rw [drewN_self wc]; generalize hq_ : World.drewN wc _ = wc; (try (have nx_ := Aside0.mk (cell_at hq_ HX153_0.out); clear HX153_0; have HX153_0 := nx_; clear nx_)); (try (have nx_ := Aside0.mk (Kd.S_at hq_ HO_5.out); clear HO_5; have HO_5 := nx_; clear nx_)); (try (have nx_ := Aside0.mk (Kd.R_at hq_ HL161.out); clear HL161; have HL161 := nx_; clear nx_)); (try (have nx_ := Aside0.mk (below_at hq_ HB.out); clear HB; have HB := nx_; clear nx_)); (try clear hq_); (try (have hq95 : (x6_1 : Int) < (x5_2.length : Int) := (by have h_ : (x6_1 : Int) < ((x5_2.length : Int) : Int) := of_decide_eq_true (by first | (with_reducible assumption) | assumption); first | exact h_ | (have e_ := (Kd.S_reads' HO_5.out).1; omega) | simpa only [List.length_set, List.length_set] using h_))); (try (obtain ⟨oki95, ce95, hcl95, hM95, hcc95, hok95, hbk95⟩ := Kd.S_borrow HO_5.out [] (x6_1 : Int) (of_decide_eq_true (by first | (with_reducible assumption) | assumption)) hq95)); (try (obtain ⟨ve95_0, rfl, ge95_0⟩ := hM95)); (try (have hv95 := hcc95 0 _ rfl)); (try (rw [Nat.add_zero, show ((Kd.slice 3 (Kd.int .i64))).sz = 1 from rfl, Nat.mul_one] at hv95)); (try (replace hv95 := Option.some.inj (hv95.symm.trans HX153_0.out))); (try (subst hv95)); (try (clear hcc95 hcl95)); (try (replace ge95_0 := (show Kd.R (Kd.int .i64) 3 _ _ _ _ (rd_L2 x5_2 x6_1) from ge95_0))); (try (try (obtain ⟨hy95_, hz95_⟩ := Kd.R_celln 0 ge95_0 (x7_2 : Int) (of_decide_eq_true (by first | (with_reducible assumption) | assumption)) (by have h_ : (x7_2 : Int) < (((rd_L2 x5_2 x6_1).length : Int) : Int) := of_decide_eq_true (by first | (with_reducible assumption) | assumption); first | exact h_ | (have e_ := (Kd.R_reads' HR153_0.out).1; omega) | simpa using h_)))); (try (have HP95 := Kd.R_putg ge95_0 (x7_2 : Int) x8_40)))); refine store_event (t := 3) (p := 122) (v := ?vo_w96) (w1 := (wc.setCell ⟨go94, (x7_2 : Int).toNat, none⟩ (.int .i64 x8_40))) ?hg ?ho ?hn ?hr ?_; (case ho => rfl); (case hg => rfl); (case hn => rfl); (case hr => first | (go_simp; done) | (go_simp; rfl)); intro w96 hw; have hg : wc.grownBy w96 (some go94) := (by rw [hw]; exact HP95.2); have hz_ : Kd.R (Kd.int .i64) 3 w96 w.heap.size oki95 (.slice (some ⟨go94, 0, none⟩) (rd_L2 x5_2 x6_1).length c153_0) y154 := (by rw [hw, Ny154.out]; exact HP95.1); have hp_ : Kd.S (Kd.slice 3 (Kd.int .i64)) 41 w96 w.heap.size (fun _ => True) (.slice (some ⟨go14, 0, none⟩) x5_2.length co14) y156 := (by rw [Ny156.out]; exact hbk95 hg (fun k_ e_ => by injection e_ with e_; subst e_; exact ge95_0.1 _ rfl) (Kd.M_row hz_)); have hm_ := Kd.R_mono hz_ hok95; clear HP95 hbk95; have n0_ := Aside0.mk (hp_); have n1_ := Aside0.mk ((by rw [hw]; exact below_set (HB.out) GB94.out : Below w.heap.size w w96)); have n2_ := Aside0.mk (hm_); have n3_ := Aside0.mk ((Kd.R_reads' hm_).2.1); clear HO_5; clear HB; clear HL153_0; have HO_5 := n0_; have HB := n1_; have HL161 := n2_; have HC155 := n3_; clear n0_ n1_ n2_ n3_; clear hg hw hp_ hz_ hm_ hok95)); try go_wp2_with (first | ((with_reducible refine gate_store (t := 3) (p := 122) rfl ?_); (try (rw [drewN_self wc]; generalize hq_ : World.drewN wc _ = wc; (try (have nx_ := Aside0.mk (cell_at hq_ HX153_0.out); clear HX153_0; have HX153_0 := nx_; clear nx_)); (try (have nx_ := Aside0.mk (Kd.S_at hq_ HO_5.out); clear HO_5; have HO_5 := nx_; clear nx_)); (try (have nx_ := Aside0.mk (Kd.R_at hq_ HL161.out); clear HL161; have HL161 := nx_; clear nx_)); (try (have nx_ := Aside0.mk (below_at hq_ HB.out); clear HB; have HB := nx_; clear nx_)); (try clear hq_); (try (have hq95 : (x6_1 : Int) < (x5_2.length : Int) := (by have h_ : (x6_1 : Int) < ((x5_2.length : Int) : Int) := of_decide_eq_true (by first | (with_reducible assumption) | assumption); first | exact h_ | (have e_ := (Kd.S_reads' HO_5.out).1; omega) | simpa only [List.length_set, List.length_set] using h_))); (try (obtain ⟨oki95, ce95, hcl95, hM95, hcc95, hok95, hbk95⟩ := Kd.S_borrow HO_5.out [] (x6_1 : Int) (of_decide_eq_true (by first | (with_reducible assumption) | assumption)) hq95)); (try (obtain ⟨ve95_0, rfl, ge95_0⟩ := hM95)); (try (have hv95 := hcc95 0 _ rfl)); (try (rw [Nat.add_zero, show ((Kd.slice 3 (Kd.int .i64))).sz = 1 from rfl, Nat.mul_one] at hv95)); (try (replace hv95 := Option.some.inj (hv95.symm.trans HX153_0.out))); (try (subst hv95)); (try (clear hcc95 hcl95)); (try (replace ge95_0 := (show Kd.R (Kd.int .i64) 3 _ _ _ _ (rd_L2 x5_2 x6_1) from ge95_0))); (try (try (obtain ⟨hy95_, hz95_⟩ := Kd.R_celln 0 ge95_0 (x7_2 : Int) (of_decide_eq_true (by first | (with_reducible assumption) | assumption)) (by have h_ : (x7_2 : Int) < (((rd_L2 x5_2 x6_1).length : Int) : Int) := of_decide_eq_true (by first | (with_reducible assumption) | assumption); first | exact h_ | (have e_ := (Kd.R_reads' HR153_0.out).1; omega) | simpa using h_)))); (try (have HP95 := Kd.R_putg ge95_0 (x7_2 : Int) x8_40)))); refine store_event (t := 3) (p := 122) (v := ?vo_w96) (w1 := (wc.setCell ⟨go94, (x7_2 : Int).toNat, none⟩ (.int .i64 x8_40))) ?hg ?ho ?hn ?hr ?_; (case ho => rfl); (case hg => rfl); (case hn => rfl); (case hr => first | (go_simp; done) | (go_simp; rfl)); intro w96 hw; have hg : wc.grownBy w96 (some go94) := (by rw [hw]; exact HP95.2); have hz_ : Kd.R (Kd.int .i64) 3 w96 w.heap.size oki95 (.slice (some ⟨go94, 0, none⟩) (rd_L2 x5_2 x6_1).length c153_0) y154 := (by rw [hw, Ny154.out]; exact HP95.1); have hp_ : Kd.S (Kd.slice 3 (Kd.int .i64)) 41 w96 w.heap.size (fun _ => True) (.slice (some ⟨go14, 0, none⟩) x5_2.length co14) y156 := (by rw [Ny156.out]; exact hbk95 hg (fun k_ e_ => by injection e_ with e_; subst e_; exact ge95_0.1 _ rfl) (Kd.M_row hz_)); have hm_ := Kd.R_mono hz_ hok95; clear HP95 hbk95; have n0_ := Aside0.mk (hp_); have n1_ := Aside0.mk ((by rw [hw]; exact below_set (HB.out) GB94.out : Below w.heap.size w w96)); have n2_ := Aside0.mk (hm_); have n3_ := Aside0.mk ((Kd.R_reads' hm_).2.1); clear HO_5; clear HB; clear HL153_0; have HO_5 := n0_; have HB := n1_; have HL161 := n2_; have HC155 := n3_; clear n0_ n1_ n2_ n3_; clear hg hw hp_ hz_ hm_ hok95)))
                                                        (try simp only [← hl5_2])
                                                        go_roundg kj47
                                                        case measure => have := HK1.out; have := HK2.out; have := HJ19.out; have := HJ26.out; have := HJ33.out; have := HJ40.out; have := HJ47.out; omega
                                                        case rel => exact ⟨(y156), (wrap64 (x7_2 + 1)), (by first | rfl | (simp; done) | (simp [*]; done)), H', ⟨by have := HK1.out; have := HK2.out; have := HJ19.out; have := HJ26.out; have := HJ33.out; have := HJ40.out; have := HJ47.out; omega⟩, ⟨by (try simp only [hl5_2]); (with_reducible repeat (first | apply Kd.S_alloc | apply Kd.S_drewN | apply Kd.S_drew)); exact HO_5.out⟩, ⟨by repeat (first | (with_reducible first | exact HB.out | apply below_alloc | apply pw_below_drewN | apply below_drew1) | exact HB.out)⟩⟩
                                                      · rw [if_neg c93] at H
                                                        exact absurd H (by simp)
                                                    · rw [if_neg c92] at H
                                                      exact absurd H (by simp)
                                                  · rw [if_neg c91] at H
                                                    exact absurd H (by simp)
                                                · rw [if_neg c90] at H
                                                  exact absurd H (by simp)
                        · rw [if_neg c19] at H
                          have c19b0 : decide (x7_2 ≤ (l1.length : Int)) = false := decide_eq_false c19
                          (try (have c19b0h := c19b0; simp only [hl5_2] at c19b0h))
                          clear c19
                          have H' := Aside0.mk H
                          clear H
                          go_wp2
                          repeat (go_quiet (fail); try go_wp2)
                          (try simp only [← hl5_2])
                          go_roundg k2
                          case measure => have := HK1.out; have := HK2.out; omega
                          case rel => exact ⟨(x5_2), (wrap64 (x6_1 + 1)), (by first | rfl | (simp; done) | (simp [*]; done)), H', ⟨by have := HK1.out; have := HK2.out; omega⟩, ⟨by (try simp only [hl5_2]); (with_reducible repeat (first | apply Kd.S_alloc | apply Kd.S_drewN | apply Kd.S_drew)); exact HO_5.out⟩, ⟨by repeat (first | (with_reducible first | exact HB.out | apply below_alloc | apply pw_below_drewN | apply below_drew1) | exact HB.out)⟩⟩
                  · rw [if_neg c13] at H
                    exact absurd H (by simp)
                · rw [if_neg c12] at H
                  exact absurd H (by simp)
              · rw [if_neg c11] at H
                exact absurd H (by simp)
            · rw [if_neg c10] at H
              exact absurd H (by simp)
          · rw [if_neg c8] at H
            have c8b0 : decide (x6_1 ≤ (l0.length : Int)) = false := decide_eq_false c8
            clear c8
            by_cases c97 : 0 ≤ (l0.length : Int)
            · rw [if_pos c97] at H
              have c97b0 : decide (0 ≤ (l0.length : Int)) = true := decide_eq_true c97
              have c97b1 : decide (0 ≤ l0.length) = true := decide_eq_true (by omega)
              clear c97
              by_cases c98 : (l0.length : Int) < (x5_1.length : Int)
              · rw [if_pos c98] at H
                have c98b0 : decide ((l0.length : Int) < (x5_1.length : Int)) = true := decide_eq_true c98
                have c98b1 : decide (l0.length < x5_1.length) = true := decide_eq_true (Int.ofNat_lt.mp c98)
                clear c98
                by_cases c99 : 0 ≤ (l1.length : Int)
                · rw [if_pos c99] at H
                  have c99b0 : decide (0 ≤ (l1.length : Int)) = true := decide_eq_true c99
                  have c99b1 : decide (0 ≤ l1.length) = true := decide_eq_true (by omega)
                  clear c99
                  by_cases c100 : (l1.length : Int) < ((rd_L2 x5_1 (l0.length : Int)).length : Int)
                  · rw [if_pos c100] at H
                    have c100b0 : decide ((l1.length : Int) < ((rd_L2 x5_1 (l0.length : Int)).length : Int)) = true := decide_eq_true c100
                    have c100b1 : decide (l1.length < (rd_L2 x5_1 (l0.length : Int)).length) = true := decide_eq_true (Int.ofNat_lt.mp c100)
                    clear c100
                    obtain rfl := Option.some.inj H
                    obtain ⟨Ao101, co101, eo101⟩ := Kd.S_slice HO_5.out
                    subst eo101
                    have p119 : 0 ≤ ((l0.length : Int) : Int) := of_decide_eq_true (by first | (with_reducible assumption) | assumption)
                    have q119 : (l0.length : Int) < (x5_1.length : Int) := of_decide_eq_true (by first | (with_reducible assumption) | assumption)
                    obtain ⟨ad119, A119_0, c119_0, e119, hx119_0, hl119_0, hi119_0⟩ := at_L2 (Kd.S_reads' HO_5.out).2.2 (l0.length : Int) p119 q119
                    cases e119
                    obtain ⟨ce119, hce119, hMe119, hcc119⟩ := Kd.S_get HO_5.out [] (l0.length : Int) p119 (by first | exact q119 | exact of_decide_eq_true (by first | (with_reducible assumption) | assumption) | (have e_ := (Kd.S_reads' HO_5.out).1; omega))
                    obtain ⟨ve119_0, rfl, ge119_0⟩ := hMe119
                    have hv119_0 := hcc119 0 _ rfl
                    rw [Nat.add_zero, show ((Kd.slice 3 (Kd.int .i64))).sz = 1 from rfl, Nat.mul_one] at hv119_0
                    replace hv119_0 := Option.some.inj (hv119_0.symm.trans hx119_0)
                    rw [hv119_0] at ge119_0
                    have HL119_0 := Aside0.mk (show Kd.R (Kd.int .i64) 3 _ _ _ _ (rd_L2 x5_1 (l0.length : Int)) from ge119_0)
                    clear hv119_0 ge119_0
                    have HX119_0 := Aside0.mk hx119_0
                    clear hcc119 hce119
                    have HR119_0 := Aside0.mk hi119_0
                    have HC119_0 := Aside0.mk hl119_0
                    clear hi119_0 hl119_0
                    (try simp only [Go.IntWalk.toNatUp] at hx119_0)
                    replace p119 := eq_true p119
                    replace q119 := eq_true q119
                    have p120 : 0 ≤ ((l1.length : Int) : Int) := of_decide_eq_true (by first | (with_reducible assumption) | assumption)
                    have q120 : (l1.length : Int) < ((rd_L2 x5_1 (l0.length : Int)).length : Int) := of_decide_eq_true (by first | (with_reducible assumption) | assumption)
                    obtain ⟨ad120, e120, hx120_0⟩ := Kd.at_int (by repeat (first | (with_reducible exact HR119_0.out) | (with_reducible refine Kd.C_alloc ?_ _) | (with_reducible refine Kd.C_drewN ?_ _) | (with_reducible refine Kd.C_drew ?_) | exact HR119_0.out)) (l1.length : Int) p120 q120
                    cases e120
                    (try simp only [Go.IntWalk.toNatUp] at hx120_0)
                    replace p120 := eq_true p120
                    replace q120 := eq_true q120
                    go_wp2
                    repeat (go_quiet (fail); try go_wp2)
                    go_ret
                    exact ⟨by first | rfl | (simp [errW_none, errW_some] <;> rfl) | (simp only [← hji3]; first | rfl | (simp [errW_none, errW_some] <;> rfl)) | (simp [*, errW_none, errW_some] <;> rfl), by repeat (first | (with_reducible first | exact HB.out | apply below_alloc | apply pw_below_drewN | apply below_drew1) | exact HB.out)⟩
                  · rw [if_neg c100] at H
                    exact absurd H (by simp)
                · rw [if_neg c99] at H
                  exact absurd H (by simp)
              · rw [if_neg c98] at H
                exact absurd H (by simp)
            · rw [if_neg c97] at H
              exact absurd H (by simp)
    · rw [if_neg c5] at H
      exact absurd H (by simp)
  · rw [if_neg c4] at H
    exact absurd H (by simp)

end Go.Proofs.Ytkhmjehjhjhpkaa.PEditFars
