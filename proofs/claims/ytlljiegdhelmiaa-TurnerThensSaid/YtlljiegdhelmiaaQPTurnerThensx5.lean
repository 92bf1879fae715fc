-- Printed by a turn of a template of the kit, and shortened: remarks and what nothing here uses are left out.
import Derived.Test.YtlljiegdhelmiaaQPTurnerThensx0
namespace Go.Proofs.Ytlljiegdhelmiaa.PTurnerThens
open Go.RowKit Go.Proofs.YtlljiegdhelmiaaW.PrintWords Go.Proofs.YtlljiegdhelmiaaW.PrintLast Go.Proofs.YtlljiegdhelmiaaW.PrintMore
attribute [local go_sem] max2_int min2_int max_two min_two max_three min_three max_four min_four
set_option linter.unusedVariables false
set_option linter.unusedSimpArgs false
mutual
def Zl.j0 : Nat → Bool → Int → Int → Int → List (List Int) → List (List (List Int)) → Int → Option (Int)
  | 0, _, _, _, _, _, _, _ => none
  | k + 1, x39, x186000, x186001, x186002, x186003, x186004, x186005 => if x39 = true then (some 1) else (if (x186003.length : Int) = x186000 then (Zl.j1 k ((x186004.length : Int) != x186000) x186000 x186001 x186002 x186003 x186004 x186005) else (Zl.j1 k true x186000 x186001 x186002 x186003 x186004 x186005))
def Zl.j1 : Nat → Bool → Int → Int → Int → List (List Int) → List (List (List Int)) → Int → Option (Int)
  | 0, _, _, _, _, _, _, _ => none
  | k + 1, x53, x186000, x186001, x186002, x186003, x186004, x186005 => if x53 = true then (some 3) else (Zl.l0 k 0 x186000 x186001 x186002 x186003 x186004 x186005)
def Zl.l0 : Nat → Int → Int → Int → Int → List (List Int) → List (List (List Int)) → Int → Option (Int)
  | 0, _, _, _, _, _, _, _ => none
  | k + 1, x3, x186000, x186001, x186002, x186003, x186004, x186005 => if x3 < x186000 then (if 0 ≤ x3 then (if x3 < (x186003.length : Int) then (if ((Zj x186003 x3).length : Int) = x186001 then (if x3 < (x186004.length : Int) then (if ((Zm x186004 x3).length : Int) = x186001 then (Zl.l0 k (wrap64 (x3 + 1)) x186000 x186001 x186002 x186003 x186004 x186005) else (some 3)) else (none)) else (some 3)) else (none)) else (none)) else (Zl.l1 k 0 x186000 x186001 x186002 x186003 x186004 x186005)
def Zl.l1 : Nat → Int → Int → Int → Int → List (List Int) → List (List (List Int)) → Int → Option (Int)
  | 0, _, _, _, _, _, _, _ => none
  | k + 1, x4, x186000, x186001, x186002, x186003, x186004, x186005 => if x4 < x186000 then (if 0 ≤ x4 then (if x4 < (x186004.length : Int) then (Zl.l2 k x4 (Zm x186004 x4) ((Zm x186004 x4).length : Int) 0 x186000 x186001 x186002 x186003 x186004 x186005) else (none)) else (none)) else (if x186005 < 0 then (Zl.j5 k true x186000 x186001 x186002 x186003 x186004 x186005) else (Zl.j5 k (decide (x186005 ≥ x186000)) x186000 x186001 x186002 x186003 x186004 x186005))
def Zl.l2 : Nat → Int → List (List Int) → Int → Int → Int → Int → Int → List (List Int) → List (List (List Int)) → Int → Option (Int)
  | 0, _, _, _, _, _, _, _, _, _, _ => none
  | k + 1, x4, x90, x91, x92, x186000, x186001, x186002, x186003, x186004, x186005 => if x92 < x91 then (if 0 ≤ x92 then (if x92 < (x90.length : Int) then (if ((Zj x90 x92).length : Int) > 4 then (some 1) else (Zl.l2 k x4 x90 x91 (wrap64 (x92 + 1)) x186000 x186001 x186002 x186003 x186004 x186005)) else (none)) else (none)) else (Zl.l1 k (wrap64 (x4 + 1)) x186000 x186001 x186002 x186003 x186004 x186005)
def Zl.j5 : Nat → Bool → Int → Int → Int → List (List Int) → List (List (List Int)) → Int → Option (Int)
  | 0, _, _, _, _, _, _, _ => none
  | k + 1, x7, x186000, x186001, x186002, x186003, x186004, x186005 => Zl.l3 k x7 0 x186000 x186001 x186002 x186003 x186004 x186005
def Zl.l3 : Nat → Bool → Int → Int → Int → Int → List (List Int) → List (List (List Int)) → Int → Option (Int)
  | 0, _, _, _, _, _, _, _, _ => none
  | k + 1, x7, x8, x186000, x186001, x186002, x186003, x186004, x186005 => if x8 < x186000 then (Zl.l4 k x7 x8 0 x186000 x186001 x186002 x186003 x186004 x186005) else (if x7 = true then (some 2) else (some 0))
def Zl.l4 : Nat → Bool → Int → Int → Int → Int → Int → List (List Int) → List (List (List Int)) → Int → Option (Int)
  | 0, _, _, _, _, _, _, _, _, _ => none
  | k + 1, x7, x8, x9, x186000, x186001, x186002, x186003, x186004, x186005 => if x9 < x186001 then (if x7 = true then (Zl.j8 k true x8 x9 x186000 x186001 x186002 x186003 x186004 x186005) else (if 0 ≤ x8 then (if x8 < (x186003.length : Int) then (if 0 ≤ x9 then (if x9 < ((Zj x186003 x8).length : Int) then (if (rd (Zj x186003 x8) x9) < 0 then (Zl.j8 k true x8 x9 x186000 x186001 x186002 x186003 x186004 x186005) else (Zl.j8 k (decide ((rd (Zj x186003 x8) x9) ≥ x186000)) x8 x9 x186000 x186001 x186002 x186003 x186004 x186005)) else (none)) else (none)) else (none)) else (none))) else (Zl.l3 k x7 (wrap64 (x8 + 1)) x186000 x186001 x186002 x186003 x186004 x186005)
def Zl.j8 : Nat → Bool → Int → Int → Int → Int → Int → List (List Int) → List (List (List Int)) → Int → Option (Int)
  | 0, _, _, _, _, _, _, _, _, _ => none
  | k + 1, x7, x8, x9, x186000, x186001, x186002, x186003, x186004, x186005 => if 0 ≤ x8 then (if x8 < (x186004.length : Int) then (if 0 ≤ x9 then (if x9 < ((Zm x186004 x8).length : Int) then (Zl.l5 k x7 x8 x9 (Zj (Zm x186004 x8) x9) ((Zj (Zm x186004 x8) x9).length : Int) 0 x186000 x186001 x186002 x186003 x186004 x186005) else (none)) else (none)) else (none)) else (none)
def Zl.l5 : Nat → Bool → Int → Int → List Int → Int → Int → Int → Int → Int → List (List Int) → List (List (List Int)) → Int → Option (Int)
  | 0, _, _, _, _, _, _, _, _, _, _, _, _ => none
  | k + 1, x7, x8, x9, x154, x155, x156, x186000, x186001, x186002, x186003, x186004, x186005 => if x156 < x155 then (if 0 ≤ x156 then (if x156 < (x154.length : Int) then (if x7 = true then (Zl.l5 k true x8 x9 x154 x155 (wrap64 (x156 + 1)) x186000 x186001 x186002 x186003 x186004 x186005) else (if (rd x154 x156) < 0 then (Zl.l5 k true x8 x9 x154 x155 (wrap64 (x156 + 1)) x186000 x186001 x186002 x186003 x186004 x186005) else (Zl.l5 k (decide ((rd x154 x156) ≥ x186002)) x8 x9 x154 x155 (wrap64 (x156 + 1)) x186000 x186001 x186002 x186003 x186004 x186005))) else (none)) else (none)) else (Zl.l4 k x7 x8 (wrap64 (x9 + 1)) x186000 x186001 x186002 x186003 x186004 x186005)
end
def Zl.f (k : Nat) (a0_0 : Int) (a0_1 : Int) (a0_2 : Int) (l0_3 : List (List Int)) (l0_4 : List (List (List Int))) (a0_5 : Int) : Option (Int) := if a0_0 < 1 then (Zl.j0 k true a0_0 a0_1 a0_2 l0_3 l0_4 a0_5) else (if a0_0 > 7 then (Zl.j0 k true a0_0 a0_1 a0_2 l0_3 l0_4 a0_5) else (if a0_1 < 1 then (Zl.j0 k true a0_0 a0_1 a0_2 l0_3 l0_4 a0_5) else (if a0_1 > 3 then (Zl.j0 k true a0_0 a0_1 a0_2 l0_3 l0_4 a0_5) else (if a0_2 < 1 then (Zl.j0 k true a0_0 a0_1 a0_2 l0_3 l0_4 a0_5) else (Zl.j0 k (decide (a0_2 > 3)) a0_0 a0_1 a0_2 l0_3 l0_4 a0_5)))))
theorem Zl.mono_l : ∀ k, (∀ y0 y1 y2 y3 y4 y5 y6, LeO (Zl.j0 k y0 y1 y2 y3 y4 y5 y6) (Zl.j0 (k + 1) y0 y1 y2 y3 y4 y5 y6)) ∧ (∀ y0 y1 y2 y3 y4 y5 y6, LeO (Zl.j1 k y0 y1 y2 y3 y4 y5 y6) (Zl.j1 (k + 1) y0 y1 y2 y3 y4 y5 y6)) ∧ (∀ y0 y1 y2 y3 y4 y5 y6, LeO (Zl.l0 k y0 y1 y2 y3 y4 y5 y6) (Zl.l0 (k + 1) y0 y1 y2 y3 y4 y5 y6)) ∧ (∀ y0 y1 y2 y3 y4 y5 y6, LeO (Zl.l1 k y0 y1 y2 y3 y4 y5 y6) (Zl.l1 (k + 1) y0 y1 y2 y3 y4 y5 y6)) ∧ (∀ y0 y1 y2 y3 y4 y5 y6 y7 y8 y9, LeO (Zl.l2 k y0 y1 y2 y3 y4 y5 y6 y7 y8 y9) (Zl.l2 (k + 1) y0 y1 y2 y3 y4 y5 y6 y7 y8 y9)) ∧ (∀ y0 y1 y2 y3 y4 y5 y6, LeO (Zl.j5 k y0 y1 y2 y3 y4 y5 y6) (Zl.j5 (k + 1) y0 y1 y2 y3 y4 y5 y6)) ∧ (∀ y0 y1 y2 y3 y4 y5 y6 y7, LeO (Zl.l3 k y0 y1 y2 y3 y4 y5 y6 y7) (Zl.l3 (k + 1) y0 y1 y2 y3 y4 y5 y6 y7)) ∧ (∀ y0 y1 y2 y3 y4 y5 y6 y7 y8, LeO (Zl.l4 k y0 y1 y2 y3 y4 y5 y6 y7 y8) (Zl.l4 (k + 1) y0 y1 y2 y3 y4 y5 y6 y7 y8)) ∧ (∀ y0 y1 y2 y3 y4 y5 y6 y7 y8, LeO (Zl.j8 k y0 y1 y2 y3 y4 y5 y6 y7 y8) (Zl.j8 (k + 1) y0 y1 y2 y3 y4 y5 y6 y7 y8)) ∧ (∀ y0 y1 y2 y3 y4 y5 y6 y7 y8 y9 y10 y11, LeO (Zl.l5 k y0 y1 y2 y3 y4 y5 y6 y7 y8 y9 y10 y11) (Zl.l5 (k + 1) y0 y1 y2 y3 y4 y5 y6 y7 y8 y9 y10 y11))
  | 0 => ⟨fun _ _ _ _ _ _ _ r h => by simp [Zl.j0] at h, fun _ _ _ _ _ _ _ r h => by simp [Zl.j1] at h, fun _ _ _ _ _ _ _ r h => by simp [Zl.l0] at h, fun _ _ _ _ _ _ _ r h => by simp [Zl.l1] at h, fun _ _ _ _ _ _ _ _ _ _ r h => by simp [Zl.l2] at h, fun _ _ _ _ _ _ _ r h => by simp [Zl.j5] at h, fun _ _ _ _ _ _ _ _ r h => by simp [Zl.l3] at h, fun _ _ _ _ _ _ _ _ _ r h => by simp [Zl.l4] at h, fun _ _ _ _ _ _ _ _ _ r h => by simp [Zl.j8] at h, fun _ _ _ _ _ _ _ _ _ _ _ _ r h => by simp [Zl.l5] at h⟩
  | k + 1 => by
    obtain ⟨ih0, ih1, ih2, ih3, ih4, ih5, ih6, ih7, ih8, ih9⟩ := Zl.mono_l k
    refine ⟨?_, ?_, ?_, ?_, ?_, ?_, ?_, ?_, ?_, ?_⟩
    · intro y0 y1 y2 y3 y4 y5 y6
      unfold Zl.j0
      repeat' first
      | (with_reducible exact ih0 _ _ _ _ _ _ _)
      | (with_reducible exact ih1 _ _ _ _ _ _ _)
      | (with_reducible exact ih2 _ _ _ _ _ _ _)
      | (with_reducible exact ih3 _ _ _ _ _ _ _)
      | (with_reducible exact ih4 _ _ _ _ _ _ _ _ _ _)
      | (with_reducible exact ih5 _ _ _ _ _ _ _)
      | (with_reducible exact ih6 _ _ _ _ _ _ _ _)
      | (with_reducible exact ih7 _ _ _ _ _ _ _ _ _)
      | (with_reducible exact ih8 _ _ _ _ _ _ _ _ _)
      | (with_reducible exact ih9 _ _ _ _ _ _ _ _ _ _ _ _)
      | (with_reducible exact LeO.refl _)
      | (with_reducible exact LeO.none _)
      | (with_reducible refine LeO.ite ?_ ?_)
      | (with_reducible refine LeO.bind ?_ (fun _ => ?_))
      | exact ih0 _ _ _ _ _ _ _
      | exact ih1 _ _ _ _ _ _ _
      | exact ih2 _ _ _ _ _ _ _
      | exact ih3 _ _ _ _ _ _ _
      | exact ih4 _ _ _ _ _ _ _ _ _ _
      | exact ih5 _ _ _ _ _ _ _
      | exact ih6 _ _ _ _ _ _ _ _
      | exact ih7 _ _ _ _ _ _ _ _ _
      | exact ih8 _ _ _ _ _ _ _ _ _
      | exact ih9 _ _ _ _ _ _ _ _ _ _ _ _
      | exact LeO.none _
      | refine LeO.ite ?_ ?_
      | refine LeO.bind ?_ (fun _ => ?_)
    · intro y0 y1 y2 y3 y4 y5 y6
      unfold Zl.j1
      repeat' first
      | (with_reducible exact ih0 _ _ _ _ _ _ _)
      | (with_reducible exact ih1 _ _ _ _ _ _ _)
      | (with_reducible exact ih2 _ _ _ _ _ _ _)
      | (with_reducible exact ih3 _ _ _ _ _ _ _)
      | (with_reducible exact ih4 _ _ _ _ _ _ _ _ _ _)
      | (with_reducible exact ih5 _ _ _ _ _ _ _)
      | (with_reducible exact ih6 _ _ _ _ _ _ _ _)
      | (with_reducible exact ih7 _ _ _ _ _ _ _ _ _)
      | (with_reducible exact ih8 _ _ _ _ _ _ _ _ _)
      | (with_reducible exact ih9 _ _ _ _ _ _ _ _ _ _ _ _)
      | (with_reducible exact LeO.refl _)
      | (with_reducible exact LeO.none _)
      | (with_reducible refine LeO.ite ?_ ?_)
      | (with_reducible refine LeO.bind ?_ (fun _ => ?_))
      | exact ih0 _ _ _ _ _ _ _
      | exact ih1 _ _ _ _ _ _ _
      | exact ih2 _ _ _ _ _ _ _
      | exact ih3 _ _ _ _ _ _ _
      | exact ih4 _ _ _ _ _ _ _ _ _ _
      | exact ih5 _ _ _ _ _ _ _
      | exact ih6 _ _ _ _ _ _ _ _
      | exact ih7 _ _ _ _ _ _ _ _ _
      | exact ih8 _ _ _ _ _ _ _ _ _
      | exact ih9 _ _ _ _ _ _ _ _ _ _ _ _
      | exact LeO.none _
      | refine LeO.ite ?_ ?_
      | refine LeO.bind ?_ (fun _ => ?_)
    · intro y0 y1 y2 y3 y4 y5 y6
      unfold Zl.l0
      repeat' first
      | (with_reducible exact ih0 _ _ _ _ _ _ _)
      | (with_reducible exact ih1 _ _ _ _ _ _ _)
      | (with_reducible exact ih2 _ _ _ _ _ _ _)
      | (with_reducible exact ih3 _ _ _ _ _ _ _)
      | (with_reducible exact ih4 _ _ _ _ _ _ _ _ _ _)
      | (with_reducible exact ih5 _ _ _ _ _ _ _)
      | (with_reducible exact ih6 _ _ _ _ _ _ _ _)
      | (with_reducible exact ih7 _ _ _ _ _ _ _ _ _)
      | (with_reducible exact ih8 _ _ _ _ _ _ _ _ _)
      | (with_reducible exact ih9 _ _ _ _ _ _ _ _ _ _ _ _)
      | (with_reducible exact LeO.refl _)
      | (with_reducible exact LeO.none _)
      | (with_reducible refine LeO.ite ?_ ?_)
      | (with_reducible refine LeO.bind ?_ (fun _ => ?_))
      | exact ih0 _ _ _ _ _ _ _
      | exact ih1 _ _ _ _ _ _ _
      | exact ih2 _ _ _ _ _ _ _
      | exact ih3 _ _ _ _ _ _ _
      | exact ih4 _ _ _ _ _ _ _ _ _ _
      | exact ih5 _ _ _ _ _ _ _
      | exact ih6 _ _ _ _ _ _ _ _
      | exact ih7 _ _ _ _ _ _ _ _ _
      | exact ih8 _ _ _ _ _ _ _ _ _
      | exact ih9 _ _ _ _ _ _ _ _ _ _ _ _
      | exact LeO.none _
      | refine LeO.ite ?_ ?_
      | refine LeO.bind ?_ (fun _ => ?_)
    · intro y0 y1 y2 y3 y4 y5 y6
      unfold Zl.l1
      repeat' first
      | (with_reducible exact ih0 _ _ _ _ _ _ _)
      | (with_reducible exact ih1 _ _ _ _ _ _ _)
      | (with_reducible exact ih2 _ _ _ _ _ _ _)
      | (with_reducible exact ih3 _ _ _ _ _ _ _)
      | (with_reducible exact ih4 _ _ _ _ _ _ _ _ _ _)
      | (with_reducible exact ih5 _ _ _ _ _ _ _)
      | (with_reducible exact ih6 _ _ _ _ _ _ _ _)
      | (with_reducible exact ih7 _ _ _ _ _ _ _ _ _)
      | (with_reducible exact ih8 _ _ _ _ _ _ _ _ _)
      | (with_reducible exact ih9 _ _ _ _ _ _ _ _ _ _ _ _)
      | (with_reducible exact LeO.refl _)
      | (with_reducible exact LeO.none _)
      | (with_reducible refine LeO.ite ?_ ?_)
      | (with_reducible refine LeO.bind ?_ (fun _ => ?_))
      | exact ih0 _ _ _ _ _ _ _
      | exact ih1 _ _ _ _ _ _ _
      | exact ih2 _ _ _ _ _ _ _
      | exact ih3 _ _ _ _ _ _ _
      | exact ih4 _ _ _ _ _ _ _ _ _ _
      | exact ih5 _ _ _ _ _ _ _
      | exact ih6 _ _ _ _ _ _ _ _
      | exact ih7 _ _ _ _ _ _ _ _ _
      | exact ih8 _ _ _ _ _ _ _ _ _
      | exact ih9 _ _ _ _ _ _ _ _ _ _ _ _
      | exact LeO.none _
      | refine LeO.ite ?_ ?_
      | refine LeO.bind ?_ (fun _ => ?_)
    · intro y0 y1 y2 y3 y4 y5 y6 y7 y8 y9
      unfold Zl.l2
      repeat' first
      | (with_reducible exact ih0 _ _ _ _ _ _ _)
      | (with_reducible exact ih1 _ _ _ _ _ _ _)
      | (with_reducible exact ih2 _ _ _ _ _ _ _)
      | (with_reducible exact ih3 _ _ _ _ _ _ _)
      | (with_reducible exact ih4 _ _ _ _ _ _ _ _ _ _)
      | (with_reducible exact ih5 _ _ _ _ _ _ _)
      | (with_reducible exact ih6 _ _ _ _ _ _ _ _)
      | (with_reducible exact ih7 _ _ _ _ _ _ _ _ _)
      | (with_reducible exact ih8 _ _ _ _ _ _ _ _ _)
      | (with_reducible exact ih9 _ _ _ _ _ _ _ _ _ _ _ _)
      | (with_reducible exact LeO.refl _)
      | (with_reducible exact LeO.none _)
      | (with_reducible refine LeO.ite ?_ ?_)
      | (with_reducible refine LeO.bind ?_ (fun _ => ?_))
      | exact ih0 _ _ _ _ _ _ _
      | exact ih1 _ _ _ _ _ _ _
      | exact ih2 _ _ _ _ _ _ _
      | exact ih3 _ _ _ _ _ _ _
      | exact ih4 _ _ _ _ _ _ _ _ _ _
      | exact ih5 _ _ _ _ _ _ _
      | exact ih6 _ _ _ _ _ _ _ _
      | exact ih7 _ _ _ _ _ _ _ _ _
      | exact ih8 _ _ _ _ _ _ _ _ _
      | exact ih9 _ _ _ _ _ _ _ _ _ _ _ _
      | exact LeO.none _
      | refine LeO.ite ?_ ?_
      | refine LeO.bind ?_ (fun _ => ?_)
    · intro y0 y1 y2 y3 y4 y5 y6
      unfold Zl.j5
      repeat' first
      | (with_reducible exact ih0 _ _ _ _ _ _ _)
      | (with_reducible exact ih1 _ _ _ _ _ _ _)
      | (with_reducible exact ih2 _ _ _ _ _ _ _)
      | (with_reducible exact ih3 _ _ _ _ _ _ _)
      | (with_reducible exact ih4 _ _ _ _ _ _ _ _ _ _)
      | (with_reducible exact ih5 _ _ _ _ _ _ _)
      | (with_reducible exact ih6 _ _ _ _ _ _ _ _)
      | (with_reducible exact ih7 _ _ _ _ _ _ _ _ _)
      | (with_reducible exact ih8 _ _ _ _ _ _ _ _ _)
      | (with_reducible exact ih9 _ _ _ _ _ _ _ _ _ _ _ _)
      | (with_reducible exact LeO.refl _)
      | (with_reducible exact LeO.none _)
      | (with_reducible refine LeO.ite ?_ ?_)
      | (with_reducible refine LeO.bind ?_ (fun _ => ?_))
      | exact ih0 _ _ _ _ _ _ _
      | exact ih1 _ _ _ _ _ _ _
      | exact ih2 _ _ _ _ _ _ _
      | exact ih3 _ _ _ _ _ _ _
      | exact ih4 _ _ _ _ _ _ _ _ _ _
      | exact ih5 _ _ _ _ _ _ _
      | exact ih6 _ _ _ _ _ _ _ _
      | exact ih7 _ _ _ _ _ _ _ _ _
      | exact ih8 _ _ _ _ _ _ _ _ _
      | exact ih9 _ _ _ _ _ _ _ _ _ _ _ _
      | exact LeO.none _
      | refine LeO.ite ?_ ?_
      | refine LeO.bind ?_ (fun _ => ?_)
    · intro y0 y1 y2 y3 y4 y5 y6 y7
      unfold Zl.l3
      repeat' first
      | (with_reducible exact ih0 _ _ _ _ _ _ _)
      | (with_reducible exact ih1 _ _ _ _ _ _ _)
      | (with_reducible exact ih2 _ _ _ _ _ _ _)
      | (with_reducible exact ih3 _ _ _ _ _ _ _)
      | (with_reducible exact ih4 _ _ _ _ _ _ _ _ _ _)
      | (with_reducible exact ih5 _ _ _ _ _ _ _)
      | (with_reducible exact ih6 _ _ _ _ _ _ _ _)
      | (with_reducible exact ih7 _ _ _ _ _ _ _ _ _)
      | (with_reducible exact ih8 _ _ _ _ _ _ _ _ _)
      | (with_reducible exact ih9 _ _ _ _ _ _ _ _ _ _ _ _)
      | (with_reducible exact LeO.refl _)
      | (with_reducible exact LeO.none _)
      | (with_reducible refine LeO.ite ?_ ?_)
      | (with_reducible refine LeO.bind ?_ (fun _ => ?_))
      | exact ih0 _ _ _ _ _ _ _
      | exact ih1 _ _ _ _ _ _ _
      | exact ih2 _ _ _ _ _ _ _
      | exact ih3 _ _ _ _ _ _ _
      | exact ih4 _ _ _ _ _ _ _ _ _ _
      | exact ih5 _ _ _ _ _ _ _
      | exact ih6 _ _ _ _ _ _ _ _
      | exact ih7 _ _ _ _ _ _ _ _ _
      | exact ih8 _ _ _ _ _ _ _ _ _
      | exact ih9 _ _ _ _ _ _ _ _ _ _ _ _
      | exact LeO.none _
      | refine LeO.ite ?_ ?_
      | refine LeO.bind ?_ (fun _ => ?_)
    · intro y0 y1 y2 y3 y4 y5 y6 y7 y8
      unfold Zl.l4
      repeat' first
      | (with_reducible exact ih0 _ _ _ _ _ _ _)
      | (with_reducible exact ih1 _ _ _ _ _ _ _)
      | (with_reducible exact ih2 _ _ _ _ _ _ _)
      | (with_reducible exact ih3 _ _ _ _ _ _ _)
      | (with_reducible exact ih4 _ _ _ _ _ _ _ _ _ _)
      | (with_reducible exact ih5 _ _ _ _ _ _ _)
      | (with_reducible exact ih6 _ _ _ _ _ _ _ _)
      | (with_reducible exact ih7 _ _ _ _ _ _ _ _ _)
      | (with_reducible exact ih8 _ _ _ _ _ _ _ _ _)
      | (with_reducible exact ih9 _ _ _ _ _ _ _ _ _ _ _ _)
      | (with_reducible exact LeO.refl _)
      | (with_reducible exact LeO.none _)
      | (with_reducible refine LeO.ite ?_ ?_)
      | (with_reducible refine LeO.bind ?_ (fun _ => ?_))
      | exact ih0 _ _ _ _ _ _ _
      | exact ih1 _ _ _ _ _ _ _
      | exact ih2 _ _ _ _ _ _ _
      | exact ih3 _ _ _ _ _ _ _
      | exact ih4 _ _ _ _ _ _ _ _ _ _
      | exact ih5 _ _ _ _ _ _ _
      | exact ih6 _ _ _ _ _ _ _ _
      | exact ih7 _ _ _ _ _ _ _ _ _
      | exact ih8 _ _ _ _ _ _ _ _ _
      | exact ih9 _ _ _ _ _ _ _ _ _ _ _ _
      | exact LeO.none _
      | refine LeO.ite ?_ ?_
      | refine LeO.bind ?_ (fun _ => ?_)
    · intro y0 y1 y2 y3 y4 y5 y6 y7 y8
      unfold Zl.j8
      repeat' first
      | (with_reducible exact ih0 _ _ _ _ _ _ _)
      | (with_reducible exact ih1 _ _ _ _ _ _ _)
      | (with_reducible exact ih2 _ _ _ _ _ _ _)
      | (with_reducible exact ih3 _ _ _ _ _ _ _)
      | (with_reducible exact ih4 _ _ _ _ _ _ _ _ _ _)
      | (with_reducible exact ih5 _ _ _ _ _ _ _)
      | (with_reducible exact ih6 _ _ _ _ _ _ _ _)
      | (with_reducible exact ih7 _ _ _ _ _ _ _ _ _)
      | (with_reducible exact ih8 _ _ _ _ _ _ _ _ _)
      | (with_reducible exact ih9 _ _ _ _ _ _ _ _ _ _ _ _)
      | (with_reducible exact LeO.refl _)
      | (with_reducible exact LeO.none _)
      | (with_reducible refine LeO.ite ?_ ?_)
      | (with_reducible refine LeO.bind ?_ (fun _ => ?_))
      | exact ih0 _ _ _ _ _ _ _
      | exact ih1 _ _ _ _ _ _ _
      | exact ih2 _ _ _ _ _ _ _
      | exact ih3 _ _ _ _ _ _ _
      | exact ih4 _ _ _ _ _ _ _ _ _ _
      | exact ih5 _ _ _ _ _ _ _
      | exact ih6 _ _ _ _ _ _ _ _
      | exact ih7 _ _ _ _ _ _ _ _ _
      | exact ih8 _ _ _ _ _ _ _ _ _
      | exact ih9 _ _ _ _ _ _ _ _ _ _ _ _
      | exact LeO.none _
      | refine LeO.ite ?_ ?_
      | refine LeO.bind ?_ (fun _ => ?_)
    · intro y0 y1 y2 y3 y4 y5 y6 y7 y8 y9 y10 y11
      unfold Zl.l5
      repeat' first
      | (with_reducible exact ih0 _ _ _ _ _ _ _)
      | (with_reducible exact ih1 _ _ _ _ _ _ _)
      | (with_reducible exact ih2 _ _ _ _ _ _ _)
      | (with_reducible exact ih3 _ _ _ _ _ _ _)
      | (with_reducible exact ih4 _ _ _ _ _ _ _ _ _ _)
      | (with_reducible exact ih5 _ _ _ _ _ _ _)
      | (with_reducible exact ih6 _ _ _ _ _ _ _ _)
      | (with_reducible exact ih7 _ _ _ _ _ _ _ _ _)
      | (with_reducible exact ih8 _ _ _ _ _ _ _ _ _)
      | (with_reducible exact ih9 _ _ _ _ _ _ _ _ _ _ _ _)
      | (with_reducible exact LeO.refl _)
      | (with_reducible exact LeO.none _)
      | (with_reducible refine LeO.ite ?_ ?_)
      | (with_reducible refine LeO.bind ?_ (fun _ => ?_))
      | exact ih0 _ _ _ _ _ _ _
      | exact ih1 _ _ _ _ _ _ _
      | exact ih2 _ _ _ _ _ _ _
      | exact ih3 _ _ _ _ _ _ _
      | exact ih4 _ _ _ _ _ _ _ _ _ _
      | exact ih5 _ _ _ _ _ _ _
      | exact ih6 _ _ _ _ _ _ _ _
      | exact ih7 _ _ _ _ _ _ _ _ _
      | exact ih8 _ _ _ _ _ _ _ _ _
      | exact ih9 _ _ _ _ _ _ _ _ _ _ _ _
      | exact LeO.none _
      | refine LeO.ite ?_ ?_
      | refine LeO.bind ?_ (fun _ => ?_)
theorem Zl.mono : ∀ a0 a1 a2 a3 a4 a5 k, LeO (Zl.f k a0 a1 a2 a3 a4 a5) (Zl.f (k + 1) a0 a1 a2 a3 a4 a5) := by
  intro a0 a1 a2 a3 a4 a5 k
  obtain ⟨ih0, ih1, ih2, ih3, ih4, ih5, ih6, ih7, ih8, ih9⟩ := Zl.mono_l k
  unfold Zl.f
  repeat' first
      | (with_reducible exact ih0 _ _ _ _ _ _ _)
      | (with_reducible exact ih1 _ _ _ _ _ _ _)
      | (with_reducible exact ih2 _ _ _ _ _ _ _)
      | (with_reducible exact ih3 _ _ _ _ _ _ _)
      | (with_reducible exact ih4 _ _ _ _ _ _ _ _ _ _)
      | (with_reducible exact ih5 _ _ _ _ _ _ _)
      | (with_reducible exact ih6 _ _ _ _ _ _ _ _)
      | (with_reducible exact ih7 _ _ _ _ _ _ _ _ _)
      | (with_reducible exact ih8 _ _ _ _ _ _ _ _ _)
      | (with_reducible exact ih9 _ _ _ _ _ _ _ _ _ _ _ _)
      | (with_reducible exact LeO.refl _)
      | (with_reducible exact LeO.none _)
      | (with_reducible refine LeO.ite ?_ ?_)
      | (with_reducible refine LeO.bind ?_ (fun _ => ?_))
      | exact ih0 _ _ _ _ _ _ _
      | exact ih1 _ _ _ _ _ _ _
      | exact ih2 _ _ _ _ _ _ _
      | exact ih3 _ _ _ _ _ _ _
      | exact ih4 _ _ _ _ _ _ _ _ _ _
      | exact ih5 _ _ _ _ _ _ _
      | exact ih6 _ _ _ _ _ _ _ _
      | exact ih7 _ _ _ _ _ _ _ _ _
      | exact ih8 _ _ _ _ _ _ _ _ _
      | exact ih9 _ _ _ _ _ _ _ _ _ _ _ _
      | exact LeO.none _
      | refine LeO.ite ?_ ?_
      | refine LeO.bind ?_ (fun _ => ?_)
set_option maxHeartbeats 8000000 in
set_option maxRecDepth 100000 in
theorem Zl.calls (k : Nat) (a0_0 : Int) (a0_1 : Int) (a0_2 : Int) (A0_3 : Option Addr) (c0_3 : Nat) (l0_3 : List (List Int)) (A0_4 : Option Addr) (c0_4 : Nat) (l0_4 : List (List (List Int))) (a0_5 : Int) (r : Int) (w : World) (hr0_3 : Kd.C (Kd.slice 3 (Kd.int .i64)) w A0_3 l0_3.length l0_3) (hc0_3 : l0_3.length ≤ c0_3) (hr0_4 : Kd.C (Kd.slice 33 (Kd.slice 3 (Kd.int .i64))) w A0_4 l0_4.length l0_4) (hc0_4 : l0_4.length ≤ c0_4) (h : Zl.f k a0_0 a0_1 a0_2 l0_3 l0_4 a0_5 = some r) :
    Calls Try.prog 5 #[.agg #[.int .i64 a0_0, .int .i64 a0_1, .int .i64 a0_2, .slice A0_3 l0_3.length c0_3, .slice A0_4 l0_4.length c0_4, .int .i64 a0_5]] w fun e w' => e = .returned (.int .i64 r) ∧ Below w.heap.size w w' := by
 (have hu25 := Try.underlying25); (have HR0_3 := Za.mk hr0_3); (have HC0_3 := Za.mk hc0_3); (clear hr0_3 hc0_3); (have HR0_4 := Za.mk hr0_4); (have HC0_4 := Za.mk hc0_4); (clear hr0_4 hc0_4); (have HB := Za.mk (Below.refl w.heap.size w)); (have H : (if a0_0 < 1 then (Zl.j0 k true a0_0 a0_1 a0_2 l0_3 l0_4 a0_5) else (if a0_0 > 7 then (Zl.j0 k true a0_0 a0_1 a0_2 l0_3 l0_4 a0_5) else (if a0_1 < 1 then (Zl.j0 k true a0_0 a0_1 a0_2 l0_3 l0_4 a0_5) else (if a0_1 > 3 then (Zl.j0 k true a0_0 a0_1 a0_2 l0_3 l0_4 a0_5) else (if a0_2 < 1 then (Zl.j0 k true a0_0 a0_1 a0_2 l0_3 l0_4 a0_5) else (Zl.j0 k (decide (a0_2 > 3)) a0_0 a0_1 a0_2 l0_3 l0_4 a0_5)))))) = some r := h); (clear h); (have HC2 := Za.mk H); (clear H)
 go_enter Try.func5, Try.ntmps5
 go_upto_region 1 with (first | ((with_reducible refine Ze1 (N := 1) rfl ?_); (try (refine gate_guard (by rfl) ?_; dsimp only)); refine Zf1 ?hg (N := 1) ?hd (cs := #[.int .i64 a0_0, .int .i64 a0_1, .int .i64 a0_2, .slice A0_3 l0_3.length c0_3, .slice A0_4 l0_4.length c0_4, .int .i64 a0_5]) (t := 25) ?hr ?_; (case hd => rfl); (case hg => rfl); (case hr => first | (go_simp; done) | (go_simp; rfl)); intro gb185 hg w3 hbox hb; have n0_ := Za.mk (Zu (by repeat (first | (with_reducible first | exact HB.out | apply zc1 | apply zc2 | apply zc3) | exact HB.out)) hb); have n1_ := Za.mk (hbox); have n2_ := Za.mk ((by rw [hg]; exact (Zo (by repeat (first | (with_reducible first | exact HB.out | apply zc1 | apply zc2 | apply zc3) | exact HB.out))) : w.heap.size ≤ gb185)); have n3_ := Za.mk ((by rw [hg]; exact (Zo (by repeat (first | (with_reducible first | exact HB.out | apply zc1 | apply zc2 | apply zc3) | exact HB.out))) : w.heap.size ≤ gb185)); clear HB; have HB := n0_; have BK185 := n1_; have GW185 := n2_; have GE185 := n3_; clear n0_ n1_ n2_ n3_; clear hb hbox hg))
 repeat (go_quiet (first | ((with_reducible refine Ze1 (N := 1) rfl ?_); (try (refine gate_guard (by rfl) ?_; dsimp only)); refine Zf1 ?hg (N := 1) ?hd (cs := #[.int .i64 a0_0, .int .i64 a0_1, .int .i64 a0_2, .slice A0_3 l0_3.length c0_3, .slice A0_4 l0_4.length c0_4, .int .i64 a0_5]) (t := 25) ?hr ?_; (case hd => rfl); (case hg => rfl); (case hr => first | (go_simp; done) | (go_simp; rfl)); intro gb185 hg w3 hbox hb; have n0_ := Za.mk (Zu (by repeat (first | (with_reducible first | exact HB.out | apply zc1 | apply zc2 | apply zc3) | exact HB.out)) hb); have n1_ := Za.mk (hbox); have n2_ := Za.mk ((by rw [hg]; exact (Zo (by repeat (first | (with_reducible first | exact HB.out | apply zc1 | apply zc2 | apply zc3) | exact HB.out))) : w.heap.size ≤ gb185)); have n3_ := Za.mk ((by rw [hg]; exact (Zo (by repeat (first | (with_reducible first | exact HB.out | apply zc1 | apply zc2 | apply zc3) | exact HB.out))) : w.heap.size ≤ gb185)); clear HB; have HB := n0_; have BK185 := n1_; have GW185 := n2_; have GE185 := n3_; clear n0_ n1_ n2_ n3_; clear hb hbox hg)); go_upto_region 1 with (first | ((with_reducible refine Ze1 (N := 1) rfl ?_); (try (refine gate_guard (by rfl) ?_; dsimp only)); refine Zf1 ?hg (N := 1) ?hd (cs := #[.int .i64 a0_0, .int .i64 a0_1, .int .i64 a0_2, .slice A0_3 l0_3.length c0_3, .slice A0_4 l0_4.length c0_4, .int .i64 a0_5]) (t := 25) ?hr ?_; (case hd => rfl); (case hg => rfl); (case hr => first | (go_simp; done) | (go_simp; rfl)); intro gb185 hg w3 hbox hb; have n0_ := Za.mk (Zu (by repeat (first | (with_reducible first | exact HB.out | apply zc1 | apply zc2 | apply zc3) | exact HB.out)) hb); have n1_ := Za.mk (hbox); have n2_ := Za.mk ((by rw [hg]; exact (Zo (by repeat (first | (with_reducible first | exact HB.out | apply zc1 | apply zc2 | apply zc3) | exact HB.out))) : w.heap.size ≤ gb185)); have n3_ := Za.mk ((by rw [hg]; exact (Zo (by repeat (first | (with_reducible first | exact HB.out | apply zc1 | apply zc2 | apply zc3) | exact HB.out))) : w.heap.size ≤ gb185)); clear HB; have HB := n0_; have BK185 := n1_; have GW185 := n2_; have GE185 := n3_; clear n0_ n1_ n2_ n3_; clear hb hbox hg)))
 (try simp only [Act.put, List.setIfInBounds_toArray, List.set_cons_zero, List.set_cons_succ])
 go_cut [39] (fun v39 wc => ∃ (kq : Nat) (x39_1 : Bool), v39 = .bool x39_1 ∧ Za (Zl.j0 kq x39_1 a0_0 a0_1 a0_2 l0_3 l0_4 a0_5 = some r) ∧ Za (kq ≤ k) ∧ Za (wc.heap[gb185]? = some (.cells #[.int .i64 a0_0, .int .i64 a0_1, .int .i64 a0_2, (.slice A0_3 l0_3.length c0_3), (.slice A0_4 l0_4.length c0_4), .int .i64 a0_5] 25 (0, 0))) ∧ Za (Below w.heap.size w wc))
 case first =>
  (have H := HC2.out); (clear HC2)
  by_cases c4 : a0_0 < 1
  ·rw [if_pos c4] at H
   (have c4b0 : decide (a0_0 < 1) = true := decide_eq_true c4); (clear c4)
   (first | rw [c4b0] | (simp only [Zh, Zi]; rw [c4b0]) | skip)
   (have H' := Za.mk H); (clear H); (have hcz5_0 : w3.cell? ⟨gb185, 0, none⟩ = some (.int .i64 a0_0) := (Zb BK185.out 0).trans rfl); (have hcz5_1 : w3.cell? ⟨gb185, 1, none⟩ = some (.int .i64 a0_1) := (Zb BK185.out 1).trans rfl); (have hcz5_2 : w3.cell? ⟨gb185, 2, none⟩ = some (.int .i64 a0_2) := (Zb BK185.out 2).trans rfl); (have hcz5_3 : w3.cell? ⟨gb185, 3, none⟩ = some (.slice A0_3 l0_3.length c0_3) := (Zb BK185.out 3).trans rfl); (have hcz5_4 : w3.cell? ⟨gb185, 4, none⟩ = some (.slice A0_4 l0_4.length c0_4) := (Zb BK185.out 4).trans rfl); (have hcz5_5 : w3.cell? ⟨gb185, 5, none⟩ = some (.int .i64 a0_5) := (Zb BK185.out 5).trans rfl); (have hfz5_0 := Zc BK185.out 0); (have hfz5_1 := Zc BK185.out 1); (have hfz5_2 := Zc BK185.out 2); (have hfz5_3 := Zc BK185.out 3); (have hfz5_4 := Zc BK185.out 4); (have hfz5_5 := Zc BK185.out 5)
   go_wp2
   repeat (go_quiet (fail); try go_wp2)
   go_meet
   case rel => exact ⟨_, (true), (by first | rfl | (simp; done) | (simp [*]; done)), H', ⟨by first | omega | exact Nat.le_refl _⟩, ⟨by (with_reducible repeat (first | apply zb3 | apply zb2 | apply zb1)); exact BK185.out⟩, ⟨by repeat (first | (with_reducible first | exact HB.out | apply zc1 | apply zc2 | apply zc3 | refine zc4 ?_ (by assumption)) | exact HB.out)⟩⟩
  (rw [if_neg c4] at H); (have c4b0 : decide (a0_0 < 1) = false := decide_eq_false c4); (clear c4)
  (first | rw [c4b0] | (simp only [Zh, Zi]; rw [c4b0]) | skip)
  by_cases c6 : a0_0 > 7
  ·rw [if_pos c6] at H
   (have c6b0 : decide (7 < a0_0) = true := decide_eq_true c6); (clear c6); (have H' := Za.mk H); (clear H); (have hcz7_0 : w3.cell? ⟨gb185, 0, none⟩ = some (.int .i64 a0_0) := (Zb BK185.out 0).trans rfl); (have hcz7_1 : w3.cell? ⟨gb185, 1, none⟩ = some (.int .i64 a0_1) := (Zb BK185.out 1).trans rfl); (have hcz7_2 : w3.cell? ⟨gb185, 2, none⟩ = some (.int .i64 a0_2) := (Zb BK185.out 2).trans rfl); (have hcz7_3 : w3.cell? ⟨gb185, 3, none⟩ = some (.slice A0_3 l0_3.length c0_3) := (Zb BK185.out 3).trans rfl); (have hcz7_4 : w3.cell? ⟨gb185, 4, none⟩ = some (.slice A0_4 l0_4.length c0_4) := (Zb BK185.out 4).trans rfl); (have hcz7_5 : w3.cell? ⟨gb185, 5, none⟩ = some (.int .i64 a0_5) := (Zb BK185.out 5).trans rfl); (have hfz7_0 := Zc BK185.out 0); (have hfz7_1 := Zc BK185.out 1); (have hfz7_2 := Zc BK185.out 2); (have hfz7_3 := Zc BK185.out 3); (have hfz7_4 := Zc BK185.out 4); (have hfz7_5 := Zc BK185.out 5)
   go_wp2
   repeat (go_quiet (fail); try go_wp2)
   go_meet
   case rel => exact ⟨_, (true), (by first | rfl | (simp; done) | (simp [*]; done)), H', ⟨by first | omega | exact Nat.le_refl _⟩, ⟨by (with_reducible repeat (first | apply zb3 | apply zb2 | apply zb1)); exact BK185.out⟩, ⟨by repeat (first | (with_reducible first | exact HB.out | apply zc1 | apply zc2 | apply zc3 | refine zc4 ?_ (by assumption)) | exact HB.out)⟩⟩
  (rw [if_neg c6] at H); (have c6b0 : decide (7 < a0_0) = false := decide_eq_false c6); (clear c6)
  by_cases c8 : a0_1 < 1
  ·rw [if_pos c8] at H
   (have c8b0 : decide (a0_1 < 1) = true := decide_eq_true c8); (clear c8); (have H' := Za.mk H); (clear H); (have hcz9_0 : w3.cell? ⟨gb185, 0, none⟩ = some (.int .i64 a0_0) := (Zb BK185.out 0).trans rfl); (have hcz9_1 : w3.cell? ⟨gb185, 1, none⟩ = some (.int .i64 a0_1) := (Zb BK185.out 1).trans rfl); (have hcz9_2 : w3.cell? ⟨gb185, 2, none⟩ = some (.int .i64 a0_2) := (Zb BK185.out 2).trans rfl); (have hcz9_3 : w3.cell? ⟨gb185, 3, none⟩ = some (.slice A0_3 l0_3.length c0_3) := (Zb BK185.out 3).trans rfl); (have hcz9_4 : w3.cell? ⟨gb185, 4, none⟩ = some (.slice A0_4 l0_4.length c0_4) := (Zb BK185.out 4).trans rfl); (have hcz9_5 : w3.cell? ⟨gb185, 5, none⟩ = some (.int .i64 a0_5) := (Zb BK185.out 5).trans rfl); (have hfz9_0 := Zc BK185.out 0); (have hfz9_1 := Zc BK185.out 1); (have hfz9_2 := Zc BK185.out 2); (have hfz9_3 := Zc BK185.out 3); (have hfz9_4 := Zc BK185.out 4); (have hfz9_5 := Zc BK185.out 5)
   go_wp2
   repeat (go_quiet (fail); try go_wp2)
   go_meet
   case rel => exact ⟨_, (true), (by first | rfl | (simp; done) | (simp [*]; done)), H', ⟨by first | omega | exact Nat.le_refl _⟩, ⟨by (with_reducible repeat (first | apply zb3 | apply zb2 | apply zb1)); exact BK185.out⟩, ⟨by repeat (first | (with_reducible first | exact HB.out | apply zc1 | apply zc2 | apply zc3 | refine zc4 ?_ (by assumption)) | exact HB.out)⟩⟩
  (rw [if_neg c8] at H); (have c8b0 : decide (a0_1 < 1) = false := decide_eq_false c8); (clear c8)
  by_cases c10 : a0_1 > 3
  ·rw [if_pos c10] at H
   (have c10b0 : decide (3 < a0_1) = true := decide_eq_true c10); (clear c10); (have H' := Za.mk H); (clear H); (have hcz11_0 : w3.cell? ⟨gb185, 0, none⟩ = some (.int .i64 a0_0) := (Zb BK185.out 0).trans rfl); (have hcz11_1 : w3.cell? ⟨gb185, 1, none⟩ = some (.int .i64 a0_1) := (Zb BK185.out 1).trans rfl); (have hcz11_2 : w3.cell? ⟨gb185, 2, none⟩ = some (.int .i64 a0_2) := (Zb BK185.out 2).trans rfl); (have hcz11_3 : w3.cell? ⟨gb185, 3, none⟩ = some (.slice A0_3 l0_3.length c0_3) := (Zb BK185.out 3).trans rfl); (have hcz11_4 : w3.cell? ⟨gb185, 4, none⟩ = some (.slice A0_4 l0_4.length c0_4) := (Zb BK185.out 4).trans rfl); (have hcz11_5 : w3.cell? ⟨gb185, 5, none⟩ = some (.int .i64 a0_5) := (Zb BK185.out 5).trans rfl); (have hfz11_0 := Zc BK185.out 0); (have hfz11_1 := Zc BK185.out 1); (have hfz11_2 := Zc BK185.out 2); (have hfz11_3 := Zc BK185.out 3); (have hfz11_4 := Zc BK185.out 4); (have hfz11_5 := Zc BK185.out 5)
   go_wp2
   repeat (go_quiet (fail); try go_wp2)
   go_meet
   case rel => exact ⟨_, (true), (by first | rfl | (simp; done) | (simp [*]; done)), H', ⟨by first | omega | exact Nat.le_refl _⟩, ⟨by (with_reducible repeat (first | apply zb3 | apply zb2 | apply zb1)); exact BK185.out⟩, ⟨by repeat (first | (with_reducible first | exact HB.out | apply zc1 | apply zc2 | apply zc3 | refine zc4 ?_ (by assumption)) | exact HB.out)⟩⟩
  (rw [if_neg c10] at H); (have c10b0 : decide (3 < a0_1) = false := decide_eq_false c10); (clear c10)
  by_cases c12 : a0_2 < 1
  ·rw [if_pos c12] at H
   (have c12b0 : decide (a0_2 < 1) = true := decide_eq_true c12); (clear c12); (have H' := Za.mk H); (clear H); (have hcz13_0 : w3.cell? ⟨gb185, 0, none⟩ = some (.int .i64 a0_0) := (Zb BK185.out 0).trans rfl); (have hcz13_1 : w3.cell? ⟨gb185, 1, none⟩ = some (.int .i64 a0_1) := (Zb BK185.out 1).trans rfl); (have hcz13_2 : w3.cell? ⟨gb185, 2, none⟩ = some (.int .i64 a0_2) := (Zb BK185.out 2).trans rfl); (have hcz13_3 : w3.cell? ⟨gb185, 3, none⟩ = some (.slice A0_3 l0_3.length c0_3) := (Zb BK185.out 3).trans rfl); (have hcz13_4 : w3.cell? ⟨gb185, 4, none⟩ = some (.slice A0_4 l0_4.length c0_4) := (Zb BK185.out 4).trans rfl); (have hcz13_5 : w3.cell? ⟨gb185, 5, none⟩ = some (.int .i64 a0_5) := (Zb BK185.out 5).trans rfl); (have hfz13_0 := Zc BK185.out 0); (have hfz13_1 := Zc BK185.out 1); (have hfz13_2 := Zc BK185.out 2); (have hfz13_3 := Zc BK185.out 3); (have hfz13_4 := Zc BK185.out 4); (have hfz13_5 := Zc BK185.out 5)
   go_wp2
   repeat (go_quiet (fail); try go_wp2)
   go_meet
   case rel => exact ⟨_, (true), (by first | rfl | (simp; done) | (simp [*]; done)), H', ⟨by first | omega | exact Nat.le_refl _⟩, ⟨by (with_reducible repeat (first | apply zb3 | apply zb2 | apply zb1)); exact BK185.out⟩, ⟨by repeat (first | (with_reducible first | exact HB.out | apply zc1 | apply zc2 | apply zc3 | refine zc4 ?_ (by assumption)) | exact HB.out)⟩⟩
  (rw [if_neg c12] at H); (have c12b0 : decide (a0_2 < 1) = false := decide_eq_false c12); (clear c12); (have H' := Za.mk H); (clear H); (have hcz14_0 : w3.cell? ⟨gb185, 0, none⟩ = some (.int .i64 a0_0) := (Zb BK185.out 0).trans rfl); (have hcz14_1 : w3.cell? ⟨gb185, 1, none⟩ = some (.int .i64 a0_1) := (Zb BK185.out 1).trans rfl); (have hcz14_2 : w3.cell? ⟨gb185, 2, none⟩ = some (.int .i64 a0_2) := (Zb BK185.out 2).trans rfl); (have hcz14_3 : w3.cell? ⟨gb185, 3, none⟩ = some (.slice A0_3 l0_3.length c0_3) := (Zb BK185.out 3).trans rfl); (have hcz14_4 : w3.cell? ⟨gb185, 4, none⟩ = some (.slice A0_4 l0_4.length c0_4) := (Zb BK185.out 4).trans rfl); (have hcz14_5 : w3.cell? ⟨gb185, 5, none⟩ = some (.int .i64 a0_5) := (Zb BK185.out 5).trans rfl); (have hfz14_0 := Zc BK185.out 0); (have hfz14_1 := Zc BK185.out 1); (have hfz14_2 := Zc BK185.out 2); (have hfz14_3 := Zc BK185.out 3); (have hfz14_4 := Zc BK185.out 4); (have hfz14_5 := Zc BK185.out 5)
  go_wp2
  repeat (go_quiet (fail); try go_wp2)
  go_meet
  case rel => exact ⟨_, (decide (a0_2 > 3)), (by first | rfl | (simp; done) | (simp [*]; done)), H', ⟨by first | omega | exact Nat.le_refl _⟩, ⟨by (with_reducible repeat (first | apply zb3 | apply zb2 | apply zb1)); exact BK185.out⟩, ⟨by repeat (first | (with_reducible first | exact HB.out | apply zc1 | apply zc2 | apply zc3 | refine zc4 ?_ (by assumption)) | exact HB.out)⟩⟩
 case rest =>
  (clear HC2); (try clear c1); (try clear p2); (try clear c4); (try clear c4b0); (try clear c5); (try clear c6); (try clear c6b0); (try clear c8); (try clear c8b0); (try clear c10); (try clear c10b0); (try clear c12); (try clear c12b0); (try clear hcz11_0 hcz11_1 hcz11_2 hcz11_3 hcz11_4 hcz11_5 hcz13_0 hcz13_1 hcz13_2 hcz13_3 hcz13_4 hcz13_5 hcz14_0 hcz14_1 hcz14_2 hcz14_3 hcz14_4 hcz14_5 hcz5_0 hcz5_1 hcz5_2 hcz5_3 hcz5_4 hcz5_5 hcz7_0 hcz7_1 hcz7_2 hcz7_3 hcz7_4 hcz7_5 hcz9_0 hcz9_1 hcz9_2 hcz9_3 hcz9_4 hcz9_5 hfz11_0 hfz11_1 hfz11_2 hfz11_3 hfz11_4 hfz11_5 hfz13_0 hfz13_1 hfz13_2 hfz13_3 hfz13_4 hfz13_5 hfz14_0 hfz14_1 hfz14_2 hfz14_3 hfz14_4 hfz14_5 hfz5_0 hfz5_1 hfz5_2 hfz5_3 hfz5_4 hfz5_5 hfz7_0 hfz7_1 hfz7_2 hfz7_3 hfz7_4 hfz7_5 hfz9_0 hfz9_1 hfz9_2 hfz9_3 hfz9_4 hfz9_5); (obtain ⟨kq, x39_1, rfl, HA, HJ1, BK185, HB⟩ := hcut)
  cases kq with
  | zero => exact absurd HA.out (by simp [Zl.j0])
  | succ kj1 =>
   (have H := HA.out); (clear HA); (simp only [Zl.j0] at H)
   by_cases c15 : x39_1 = true
   ·subst c15
    (have H1 : (some 1) = some r := by rw [if_pos rfl] at H; exact H); (clear H); (have H := H1); (clear H1); (obtain rfl := Option.some.inj H)
    go_wp2
    repeat (go_quiet (fail); try go_wp2)
    go_ret
    exact ⟨by first | rfl | (simp [Zx, Zw] <;> rfl) | (simp [*, Zx, Zw] <;> rfl), by repeat (first | (with_reducible first | exact HB.out | apply zc1 | apply zc2 | apply zc3 | refine zc4 ?_ (by assumption)) | exact HB.out)⟩
   (replace c15 := Bool.eq_false_iff.mpr c15); (subst c15); (have H1 : (if (l0_3.length : Int) = a0_0 then (Zl.j1 kj1 ((l0_4.length : Int) != a0_0) a0_0 a0_1 a0_2 l0_3 l0_4 a0_5) else (Zl.j1 kj1 true a0_0 a0_1 a0_2 l0_3 l0_4 a0_5)) = some r := by rw [if_neg (show ¬ (false = true) by decide)] at H; exact H); (clear H); (have H := H1); (clear H1); (have HC16 := Za.mk H); (clear H)
   go_upto_region 3 with (fail)
   repeat (go_quiet (fail); go_upto_region 3 with (fail))
   go_cut [53] (fun v53 wc => ∃ (kq : Nat) (x53_15 : Bool), v53 = .bool x53_15 ∧ Za (Zl.j1 kq x53_15 a0_0 a0_1 a0_2 l0_3 l0_4 a0_5 = some r) ∧ Za (kq ≤ kj1) ∧ Za (wc.heap[gb185]? = some (.cells #[.int .i64 a0_0, .int .i64 a0_1, .int .i64 a0_2, (.slice A0_3 l0_3.length c0_3), (.slice A0_4 l0_4.length c0_4), .int .i64 a0_5] 25 (0, 0))) ∧ Za (Below w.heap.size w wc))
   case first =>
    (have H := HC16.out); (clear HC16)
    by_cases c17 : (l0_3.length : Int) = a0_0
    rotate_left
    ·rw [if_neg c17] at H
     (have c17b0 : ((l0_3.length : Int) == a0_0) = false := beq_eq_false_iff_ne.mpr c17); (have c17b1 : ((l0_3.length : Int) != a0_0) = true := bne_iff_ne.mpr c17)
     (first | rw [c17b0] | (simp only [Zh, Zi]; rw [c17b0]) | skip)
     (have H' := Za.mk H); (clear H); (have hcz19_0 : wc.cell? ⟨gb185, 0, none⟩ = some (.int .i64 a0_0) := (Zb BK185.out 0).trans rfl); (have hcz19_1 : wc.cell? ⟨gb185, 1, none⟩ = some (.int .i64 a0_1) := (Zb BK185.out 1).trans rfl); (have hcz19_2 : wc.cell? ⟨gb185, 2, none⟩ = some (.int .i64 a0_2) := (Zb BK185.out 2).trans rfl); (have hcz19_3 : wc.cell? ⟨gb185, 3, none⟩ = some (.slice A0_3 l0_3.length c0_3) := (Zb BK185.out 3).trans rfl); (have hcz19_4 : wc.cell? ⟨gb185, 4, none⟩ = some (.slice A0_4 l0_4.length c0_4) := (Zb BK185.out 4).trans rfl); (have hcz19_5 : wc.cell? ⟨gb185, 5, none⟩ = some (.int .i64 a0_5) := (Zb BK185.out 5).trans rfl); (have hfz19_0 := Zc BK185.out 0); (have hfz19_1 := Zc BK185.out 1); (have hfz19_2 := Zc BK185.out 2); (have hfz19_3 := Zc BK185.out 3); (have hfz19_4 := Zc BK185.out 4); (have hfz19_5 := Zc BK185.out 5)
     go_wp2
     repeat (go_quiet (fail); try go_wp2)
     go_meet
     case rel => exact ⟨_, (true), (by first | rfl | (simp; done) | (simp [*]; done)), H', ⟨by have := HJ1.out; first | omega | exact Nat.le_refl _⟩, ⟨by (with_reducible repeat (first | apply zb3 | apply zb2 | apply zb1)); exact BK185.out⟩, ⟨by repeat (first | (with_reducible first | exact HB.out | apply zc1 | apply zc2 | apply zc3 | refine zc4 ?_ (by assumption)) | exact HB.out)⟩⟩
    (rw [if_pos c17] at H); (have c17b0 : ((l0_3.length : Int) == a0_0) = true := beq_iff_eq.mpr c17); (have c17b1 : ((l0_3.length : Int) != a0_0) = false := bne_eq_false_iff_eq.mpr c17); (clear c17)
    (first | rw [c17b0] | (simp only [Zh, Zi]; rw [c17b0]) | skip)
    (have H' := Za.mk H); (clear H); (have hcz18_0 : wc.cell? ⟨gb185, 0, none⟩ = some (.int .i64 a0_0) := (Zb BK185.out 0).trans rfl); (have hcz18_1 : wc.cell? ⟨gb185, 1, none⟩ = some (.int .i64 a0_1) := (Zb BK185.out 1).trans rfl); (have hcz18_2 : wc.cell? ⟨gb185, 2, none⟩ = some (.int .i64 a0_2) := (Zb BK185.out 2).trans rfl); (have hcz18_3 : wc.cell? ⟨gb185, 3, none⟩ = some (.slice A0_3 l0_3.length c0_3) := (Zb BK185.out 3).trans rfl); (have hcz18_4 : wc.cell? ⟨gb185, 4, none⟩ = some (.slice A0_4 l0_4.length c0_4) := (Zb BK185.out 4).trans rfl); (have hcz18_5 : wc.cell? ⟨gb185, 5, none⟩ = some (.int .i64 a0_5) := (Zb BK185.out 5).trans rfl); (have hfz18_0 := Zc BK185.out 0); (have hfz18_1 := Zc BK185.out 1); (have hfz18_2 := Zc BK185.out 2); (have hfz18_3 := Zc BK185.out 3); (have hfz18_4 := Zc BK185.out 4); (have hfz18_5 := Zc BK185.out 5)
    go_wp2
    repeat (go_quiet (fail); try go_wp2)
    go_meet
    case rel => exact ⟨_, (((l0_4.length : Int) != a0_0)), (by first | rfl | (simp; done) | (simp [*]; done)), H', ⟨by have := HJ1.out; first | omega | exact Nat.le_refl _⟩, ⟨by (with_reducible repeat (first | apply zb3 | apply zb2 | apply zb1)); exact BK185.out⟩, ⟨by repeat (first | (with_reducible first | exact HB.out | apply zc1 | apply zc2 | apply zc3 | refine zc4 ?_ (by assumption)) | exact HB.out)⟩⟩
   case rest =>
    (clear HC16); (try clear c1); (try clear p2); (try clear c4); (try clear c4b0); (try clear c5); (try clear c6); (try clear c6b0); (try clear c8); (try clear c8b0); (try clear c10); (try clear c10b0); (try clear c12); (try clear c12b0); (try clear c15); (try clear c17); (try clear c17b0); (try clear c17b1); (try clear hcz11_0 hcz11_1 hcz11_2 hcz11_3 hcz11_4 hcz11_5 hcz13_0 hcz13_1 hcz13_2 hcz13_3 hcz13_4 hcz13_5 hcz14_0 hcz14_1 hcz14_2 hcz14_3 hcz14_4 hcz14_5 hcz18_0 hcz18_1 hcz18_2 hcz18_3 hcz18_4 hcz18_5 hcz19_0 hcz19_1 hcz19_2 hcz19_3 hcz19_4 hcz19_5 hcz5_0 hcz5_1 hcz5_2 hcz5_3 hcz5_4 hcz5_5 hcz7_0 hcz7_1 hcz7_2 hcz7_3 hcz7_4 hcz7_5 hcz9_0 hcz9_1 hcz9_2 hcz9_3 hcz9_4 hcz9_5 hfz11_0 hfz11_1 hfz11_2 hfz11_3 hfz11_4 hfz11_5 hfz13_0 hfz13_1 hfz13_2 hfz13_3 hfz13_4 hfz13_5 hfz14_0 hfz14_1 hfz14_2 hfz14_3 hfz14_4 hfz14_5 hfz18_0 hfz18_1 hfz18_2 hfz18_3 hfz18_4 hfz18_5 hfz19_0 hfz19_1 hfz19_2 hfz19_3 hfz19_4 hfz19_5 hfz5_0 hfz5_1 hfz5_2 hfz5_3 hfz5_4 hfz5_5 hfz7_0 hfz7_1 hfz7_2 hfz7_3 hfz7_4 hfz7_5 hfz9_0 hfz9_1 hfz9_2 hfz9_3 hfz9_4 hfz9_5); (try clear p2); (obtain ⟨kq, x53_15, rfl, HA, HJ15, BK185, HB⟩ := hcut)
    cases kq with
    | zero => exact absurd HA.out (by simp [Zl.j1])
    | succ kj15 =>
     (have H := HA.out); (clear HA); (simp only [Zl.j1] at H)
     by_cases c20 : x53_15 = true
     ·subst c20
      (have H1 : (some 3) = some r := by rw [if_pos rfl] at H; exact H); (clear H); (have H := H1); (clear H1); (obtain rfl := Option.some.inj H)
      go_wp2
      repeat (go_quiet (fail); try go_wp2)
      go_ret
      exact ⟨by first | rfl | (simp [Zx, Zw] <;> rfl) | (simp [*, Zx, Zw] <;> rfl), by repeat (first | (with_reducible first | exact HB.out | apply zc1 | apply zc2 | apply zc3 | refine zc4 ?_ (by assumption)) | exact HB.out)⟩
     (replace c20 := Bool.eq_false_iff.mpr c20); (subst c20); (have H1 : (Zl.l0 kj15 0 a0_0 a0_1 a0_2 l0_3 l0_4 a0_5) = some r := by rw [if_neg (show ¬ (false = true) by decide)] at H; exact H); (clear H); (have H := H1); (clear H1); (have H' := Za.mk H); (clear H)
     go_wp2
     repeat (go_quiet (fail); try go_wp2)
     go_loopg [3] kj15 (fun kq v3 w' => ∃ (x3_3 : Int), v3 = .int .i64 x3_3 ∧ Za (Zl.l0 kq x3_3 a0_0 a0_1 a0_2 l0_3 l0_4 a0_5 = some r) ∧ Za (kq ≤ kj15) ∧ Za (w'.heap[gb185]? = some (.cells #[.int .i64 a0_0, .int .i64 a0_1, .int .i64 a0_2, (.slice A0_3 l0_3.length c0_3), (.slice A0_4 l0_4.length c0_4), .int .i64 a0_5] 25 (0, 0))) ∧ Za (Below w.heap.size w w'))
     case atStart => exact ⟨(0), (by first | rfl | (simp; done) | (simp [*]; done)), H', ⟨Nat.le_refl _⟩, ⟨by (with_reducible repeat (first | apply zb3 | apply zb2 | apply zb1)); exact BK185.out⟩, ⟨by repeat (first | (with_reducible first | exact HB.out | apply zc1 | apply zc2 | apply zc3 | refine zc4 ?_ (by assumption)) | exact HB.out)⟩⟩
     case round =>
      (clear H'); (try clear c1); (try clear c2); (try clear p2); (try clear c4); (try clear c4b0); (try clear c5); (try clear c6); (try clear c6b0); (try clear c8); (try clear c8b0); (try clear c10); (try clear c10b0); (try clear c12); (try clear c12b0); (try clear c15); (try clear c17); (try clear c17b0); (try clear c17b1); (try clear c20); (try clear hcz11_0 hcz11_1 hcz11_2 hcz11_3 hcz11_4 hcz11_5 hcz13_0 hcz13_1 hcz13_2 hcz13_3 hcz13_4 hcz13_5 hcz14_0 hcz14_1 hcz14_2 hcz14_3 hcz14_4 hcz14_5 hcz18_0 hcz18_1 hcz18_2 hcz18_3 hcz18_4 hcz18_5 hcz19_0 hcz19_1 hcz19_2 hcz19_3 hcz19_4 hcz19_5 hcz5_0 hcz5_1 hcz5_2 hcz5_3 hcz5_4 hcz5_5 hcz7_0 hcz7_1 hcz7_2 hcz7_3 hcz7_4 hcz7_5 hcz9_0 hcz9_1 hcz9_2 hcz9_3 hcz9_4 hcz9_5 hfz11_0 hfz11_1 hfz11_2 hfz11_3 hfz11_4 hfz11_5 hfz13_0 hfz13_1 hfz13_2 hfz13_3 hfz13_4 hfz13_5 hfz14_0 hfz14_1 hfz14_2 hfz14_3 hfz14_4 hfz14_5 hfz18_0 hfz18_1 hfz18_2 hfz18_3 hfz18_4 hfz18_5 hfz19_0 hfz19_1 hfz19_2 hfz19_3 hfz19_4 hfz19_5 hfz5_0 hfz5_1 hfz5_2 hfz5_3 hfz5_4 hfz5_5 hfz7_0 hfz7_1 hfz7_2 hfz7_3 hfz7_4 hfz7_5 hfz9_0 hfz9_1 hfz9_2 hfz9_3 hfz9_4 hfz9_5); (try clear p2); (obtain ⟨x3_3, rfl, HA, HK3, BK185, HB⟩ := hrel)
      cases gk with
      | zero => exact absurd HA.out (by simp [Zl.l0])
      | succ k3 =>
       (have H := HA.out); (clear HA); (simp only [Zl.l0] at H)
       by_cases c21 : x3_3 < a0_0
       ·rw [if_pos c21] at H
        (have c21b0 : decide (x3_3 < a0_0) = true := decide_eq_true c21); (clear c21)
        by_cases c22 : 0 ≤ x3_3
        rotate_left
        ·rw [if_neg c22] at H
         exact absurd H (by simp)
        (rw [if_pos c22] at H); (have c22b0 : decide (0 ≤ x3_3) = true := decide_eq_true c22); (clear c22)
        by_cases c23 : x3_3 < (l0_3.length : Int)
        rotate_left
        ·rw [if_neg c23] at H
         exact absurd H (by simp)
        (rw [if_pos c23] at H); (have c23b0 : decide (x3_3 < (l0_3.length : Int)) = true := decide_eq_true c23); (clear c23)
        by_cases c24 : ((Zj l0_3 x3_3).length : Int) = a0_1
        rotate_left
        ·rw [if_neg c24] at H
         (have c24b0 : (((Zj l0_3 x3_3).length : Int) == a0_1) = false := beq_eq_false_iff_ne.mpr c24); (have c24b1 : (((Zj l0_3 x3_3).length : Int) != a0_1) = true := bne_iff_ne.mpr c24); (obtain rfl := Option.some.inj H); (have hcz29_0 : wr.cell? ⟨gb185, 0, none⟩ = some (.int .i64 a0_0) := (Zb BK185.out 0).trans rfl); (have hcz29_1 : wr.cell? ⟨gb185, 1, none⟩ = some (.int .i64 a0_1) := (Zb BK185.out 1).trans rfl); (have hcz29_2 : wr.cell? ⟨gb185, 2, none⟩ = some (.int .i64 a0_2) := (Zb BK185.out 2).trans rfl); (have hcz29_3 : wr.cell? ⟨gb185, 3, none⟩ = some (.slice A0_3 l0_3.length c0_3) := (Zb BK185.out 3).trans rfl); (have hcz29_4 : wr.cell? ⟨gb185, 4, none⟩ = some (.slice A0_4 l0_4.length c0_4) := (Zb BK185.out 4).trans rfl); (have hcz29_5 : wr.cell? ⟨gb185, 5, none⟩ = some (.int .i64 a0_5) := (Zb BK185.out 5).trans rfl); (have hfz29_0 := Zc BK185.out 0); (have hfz29_1 := Zc BK185.out 1); (have hfz29_2 := Zc BK185.out 2); (have hfz29_3 := Zc BK185.out 3); (have hfz29_4 := Zc BK185.out 4); (have hfz29_5 := Zc BK185.out 5); (have p186 : 0 ≤ (x3_3 : Int) := of_decide_eq_true (by assumption)); (have q186 : x3_3 < (l0_3.length : Int) := of_decide_eq_true (by assumption)); (obtain ⟨ad186, A186_0, c186_0, e186, hx186_0, hl186_0, hi186_0⟩ := at_L1 HR0_3.out x3_3 p186 q186); (cases e186); (replace hx186_0 := (HB.out.cell (World.block_lt_of_cell? w _ hx186_0)).trans hx186_0); (have HR186_0 := Za.mk hi186_0); (have HC186_0 := Za.mk hl186_0); (clear hi186_0 hl186_0); (replace p186 := eq_true p186)
         replace q186 := eq_true q186
         go_wp2
         repeat (go_quiet (fail); try go_wp2)
         go_ret
         exact ⟨by first | rfl | (simp [Zx, Zw] <;> rfl) | (simp [*, Zx, Zw] <;> rfl), by repeat (first | (with_reducible first | exact HB.out | apply zc1 | apply zc2 | apply zc3 | refine zc4 ?_ (by assumption)) | exact HB.out)⟩
        (rw [if_pos c24] at H); (have c24b0 : (((Zj l0_3 x3_3).length : Int) == a0_1) = true := beq_iff_eq.mpr c24); (have c24b1 : (((Zj l0_3 x3_3).length : Int) != a0_1) = false := bne_eq_false_iff_eq.mpr c24); (clear c24)
        by_cases c25 : x3_3 < (l0_4.length : Int)
        rotate_left
        ·rw [if_neg c25] at H
         exact absurd H (by simp)
        (rw [if_pos c25] at H); (have c25b0 : decide (x3_3 < (l0_4.length : Int)) = true := decide_eq_true c25); (clear c25)
        by_cases c26 : ((Zm l0_4 x3_3).length : Int) = a0_1
        rotate_left
        ·rw [if_neg c26] at H
         (have c26b0 : (((Zm l0_4 x3_3).length : Int) == a0_1) = false := beq_eq_false_iff_ne.mpr c26); (have c26b1 : (((Zm l0_4 x3_3).length : Int) != a0_1) = true := bne_iff_ne.mpr c26); (obtain rfl := Option.some.inj H); (have hcz28_0 : wr.cell? ⟨gb185, 0, none⟩ = some (.int .i64 a0_0) := (Zb BK185.out 0).trans rfl); (have hcz28_1 : wr.cell? ⟨gb185, 1, none⟩ = some (.int .i64 a0_1) := (Zb BK185.out 1).trans rfl); (have hcz28_2 : wr.cell? ⟨gb185, 2, none⟩ = some (.int .i64 a0_2) := (Zb BK185.out 2).trans rfl); (have hcz28_3 : wr.cell? ⟨gb185, 3, none⟩ = some (.slice A0_3 l0_3.length c0_3) := (Zb BK185.out 3).trans rfl); (have hcz28_4 : wr.cell? ⟨gb185, 4, none⟩ = some (.slice A0_4 l0_4.length c0_4) := (Zb BK185.out 4).trans rfl); (have hcz28_5 : wr.cell? ⟨gb185, 5, none⟩ = some (.int .i64 a0_5) := (Zb BK185.out 5).trans rfl); (have hfz28_0 := Zc BK185.out 0); (have hfz28_1 := Zc BK185.out 1); (have hfz28_2 := Zc BK185.out 2); (have hfz28_3 := Zc BK185.out 3); (have hfz28_4 := Zc BK185.out 4); (have hfz28_5 := Zc BK185.out 5); (have p186 : 0 ≤ (x3_3 : Int) := of_decide_eq_true (by assumption)); (have q186 : x3_3 < (l0_3.length : Int) := of_decide_eq_true (by assumption)); (obtain ⟨ad186, A186_0, c186_0, e186, hx186_0, hl186_0, hi186_0⟩ := at_L1 HR0_3.out x3_3 p186 q186); (cases e186); (replace hx186_0 := (HB.out.cell (World.block_lt_of_cell? w _ hx186_0)).trans hx186_0); (have HR186_0 := Za.mk hi186_0); (have HC186_0 := Za.mk hl186_0); (clear hi186_0 hl186_0); (replace p186 := eq_true p186)
         (replace q186 := eq_true q186); (have p187 : 0 ≤ (x3_3 : Int) := of_decide_eq_true (by assumption)); (have q187 : x3_3 < (l0_4.length : Int) := of_decide_eq_true (by assumption)); (obtain ⟨ad187, A187_0, c187_0, e187, hx187_0, hl187_0, hi187_0⟩ := at_L2 HR0_4.out x3_3 p187 q187); (cases e187); (replace hx187_0 := (HB.out.cell (World.block_lt_of_cell? w _ hx187_0)).trans hx187_0); (have HR187_0 := Za.mk hi187_0); (have HC187_0 := Za.mk hl187_0); (clear hi187_0 hl187_0); (replace p187 := eq_true p187); (replace q187 := eq_true q187)
         go_wp2
         repeat (go_quiet (fail); try go_wp2)
         go_ret
         exact ⟨by first | rfl | (simp [Zx, Zw] <;> rfl) | (simp [*, Zx, Zw] <;> rfl), by repeat (first | (with_reducible first | exact HB.out | apply zc1 | apply zc2 | apply zc3 | refine zc4 ?_ (by assumption)) | exact HB.out)⟩
        (rw [if_pos c26] at H); (have c26b0 : (((Zm l0_4 x3_3).length : Int) == a0_1) = true := beq_iff_eq.mpr c26); (have c26b1 : (((Zm l0_4 x3_3).length : Int) != a0_1) = false := bne_eq_false_iff_eq.mpr c26); (clear c26); (have H' := Za.mk H); (clear H); (have hcz27_0 : wr.cell? ⟨gb185, 0, none⟩ = some (.int .i64 a0_0) := (Zb BK185.out 0).trans rfl); (have hcz27_1 : wr.cell? ⟨gb185, 1, none⟩ = some (.int .i64 a0_1) := (Zb BK185.out 1).trans rfl); (have hcz27_2 : wr.cell? ⟨gb185, 2, none⟩ = some (.int .i64 a0_2) := (Zb BK185.out 2).trans rfl); (have hcz27_3 : wr.cell? ⟨gb185, 3, none⟩ = some (.slice A0_3 l0_3.length c0_3) := (Zb BK185.out 3).trans rfl); (have hcz27_4 : wr.cell? ⟨gb185, 4, none⟩ = some (.slice A0_4 l0_4.length c0_4) := (Zb BK185.out 4).trans rfl); (have hcz27_5 : wr.cell? ⟨gb185, 5, none⟩ = some (.int .i64 a0_5) := (Zb BK185.out 5).trans rfl); (have hfz27_0 := Zc BK185.out 0); (have hfz27_1 := Zc BK185.out 1); (have hfz27_2 := Zc BK185.out 2); (have hfz27_3 := Zc BK185.out 3); (have hfz27_4 := Zc BK185.out 4); (have hfz27_5 := Zc BK185.out 5); (have p186 : 0 ≤ (x3_3 : Int) := of_decide_eq_true (by assumption)); (have q186 : x3_3 < (l0_3.length : Int) := of_decide_eq_true (by assumption)); (obtain ⟨ad186, A186_0, c186_0, e186, hx186_0, hl186_0, hi186_0⟩ := at_L1 HR0_3.out x3_3 p186 q186); (cases e186); (replace hx186_0 := (HB.out.cell (World.block_lt_of_cell? w _ hx186_0)).trans hx186_0); (have HR186_0 := Za.mk hi186_0); (have HC186_0 := Za.mk hl186_0); (clear hi186_0 hl186_0)
        (replace p186 := eq_true p186); (replace q186 := eq_true q186); (have p187 : 0 ≤ (x3_3 : Int) := of_decide_eq_true (by assumption)); (have q187 : x3_3 < (l0_4.length : Int) := of_decide_eq_true (by assumption)); (obtain ⟨ad187, A187_0, c187_0, e187, hx187_0, hl187_0, hi187_0⟩ := at_L2 HR0_4.out x3_3 p187 q187); (cases e187); (replace hx187_0 := (HB.out.cell (World.block_lt_of_cell? w _ hx187_0)).trans hx187_0); (have HR187_0 := Za.mk hi187_0); (have HC187_0 := Za.mk hl187_0); (clear hi187_0 hl187_0); (replace p187 := eq_true p187); (replace q187 := eq_true q187)
        go_wp2
        repeat (go_quiet (fail); try go_wp2)
        go_roundg k3
        case measure => have := HJ1.out; have := HJ15.out; have := HK3.out; omega
        case rel => exact ⟨(wrap64 (x3_3 + 1)), (by first | rfl | (simp; done) | (simp [*]; done)), H', ⟨by have := HJ1.out; have := HJ15.out; have := HK3.out; omega⟩, ⟨by (with_reducible repeat (first | apply zb3 | apply zb2 | apply zb1)); exact BK185.out⟩, ⟨by repeat (first | (with_reducible first | exact HB.out | apply zc1 | apply zc2 | apply zc3 | refine zc4 ?_ (by assumption)) | exact HB.out)⟩⟩
       (rw [if_neg c21] at H); (have c21b0 : decide (x3_3 < a0_0) = false := decide_eq_false c21); (clear c21); (have H' := Za.mk H); (clear H); (have hcz30_0 : wr.cell? ⟨gb185, 0, none⟩ = some (.int .i64 a0_0) := (Zb BK185.out 0).trans rfl); (have hcz30_1 : wr.cell? ⟨gb185, 1, none⟩ = some (.int .i64 a0_1) := (Zb BK185.out 1).trans rfl); (have hcz30_2 : wr.cell? ⟨gb185, 2, none⟩ = some (.int .i64 a0_2) := (Zb BK185.out 2).trans rfl); (have hcz30_3 : wr.cell? ⟨gb185, 3, none⟩ = some (.slice A0_3 l0_3.length c0_3) := (Zb BK185.out 3).trans rfl); (have hcz30_4 : wr.cell? ⟨gb185, 4, none⟩ = some (.slice A0_4 l0_4.length c0_4) := (Zb BK185.out 4).trans rfl); (have hcz30_5 : wr.cell? ⟨gb185, 5, none⟩ = some (.int .i64 a0_5) := (Zb BK185.out 5).trans rfl); (have hfz30_0 := Zc BK185.out 0); (have hfz30_1 := Zc BK185.out 1); (have hfz30_2 := Zc BK185.out 2); (have hfz30_3 := Zc BK185.out 3); (have hfz30_4 := Zc BK185.out 4); (have hfz30_5 := Zc BK185.out 5)
       go_wp2
       repeat (go_quiet (fail); try go_wp2)
       go_loopg [4] k3 (fun kq v4 w' => ∃ (x4_4 : Int), v4 = .int .i64 x4_4 ∧ Za (Zl.l1 kq x4_4 a0_0 a0_1 a0_2 l0_3 l0_4 a0_5 = some r) ∧ Za (kq ≤ k3) ∧ Za (w'.heap[gb185]? = some (.cells #[.int .i64 a0_0, .int .i64 a0_1, .int .i64 a0_2, (.slice A0_3 l0_3.length c0_3), (.slice A0_4 l0_4.length c0_4), .int .i64 a0_5] 25 (0, 0))) ∧ Za (Below w.heap.size w w'))
       case atStart => exact ⟨(0), (by first | rfl | (simp; done) | (simp [*]; done)), H', ⟨Nat.le_refl _⟩, ⟨by (with_reducible repeat (first | apply zb3 | apply zb2 | apply zb1)); exact BK185.out⟩, ⟨by repeat (first | (with_reducible first | exact HB.out | apply zc1 | apply zc2 | apply zc3 | refine zc4 ?_ (by assumption)) | exact HB.out)⟩⟩
       case round =>
        (clear H'); (try clear c1); (try clear p1); (try clear q1); (try clear hx1); (try clear c2); (try clear p2); (try clear c4); (try clear c4b0); (try clear c5); (try clear c6); (try clear c6b0); (try clear p6); (try clear c8); (try clear c8b0); (try clear c10); (try clear c10b0); (try clear c12); (try clear c12b0); (try clear c15); (try clear c17); (try clear c17b0); (try clear c17b1); (try clear c18); (try clear p18); (try clear q18); (try clear hx18); (try clear c20); (try clear c21); (try clear c21b0); (try clear c22); (try clear c22b0); (try clear c23); (try clear c23b0); (try clear c24); (try clear c24b0); (try clear c24b1); (try clear c25); (try clear c25b0); (try clear c26); (try clear c26b0); (try clear c26b1); (try clear hcz11_0 hcz11_1 hcz11_2 hcz11_3 hcz11_4 hcz11_5 hcz13_0 hcz13_1 hcz13_2 hcz13_3 hcz13_4 hcz13_5 hcz14_0 hcz14_1 hcz14_2 hcz14_3 hcz14_4 hcz14_5 hcz18_0 hcz18_1 hcz18_2 hcz18_3 hcz18_4 hcz18_5 hcz19_0 hcz19_1 hcz19_2 hcz19_3 hcz19_4 hcz19_5 hcz27_0 hcz27_1 hcz27_2 hcz27_3 hcz27_4 hcz27_5 hcz28_0 hcz28_1 hcz28_2 hcz28_3 hcz28_4 hcz28_5 hcz29_0 hcz29_1 hcz29_2 hcz29_3 hcz29_4 hcz29_5 hcz30_0 hcz30_1 hcz30_2 hcz30_3 hcz30_4 hcz30_5 hcz5_0 hcz5_1 hcz5_2 hcz5_3 hcz5_4 hcz5_5 hcz7_0 hcz7_1 hcz7_2 hcz7_3 hcz7_4 hcz7_5 hcz9_0 hcz9_1 hcz9_2 hcz9_3 hcz9_4 hcz9_5 hfz11_0 hfz11_1 hfz11_2 hfz11_3 hfz11_4 hfz11_5 hfz13_0 hfz13_1 hfz13_2 hfz13_3 hfz13_4 hfz13_5 hfz14_0 hfz14_1 hfz14_2 hfz14_3 hfz14_4 hfz14_5 hfz18_0 hfz18_1 hfz18_2 hfz18_3 hfz18_4 hfz18_5 hfz19_0 hfz19_1 hfz19_2 hfz19_3 hfz19_4 hfz19_5 hfz27_0 hfz27_1 hfz27_2 hfz27_3 hfz27_4 hfz27_5 hfz28_0 hfz28_1 hfz28_2 hfz28_3 hfz28_4 hfz28_5 hfz29_0 hfz29_1 hfz29_2 hfz29_3 hfz29_4 hfz29_5 hfz30_0 hfz30_1 hfz30_2 hfz30_3 hfz30_4 hfz30_5 hfz5_0 hfz5_1 hfz5_2 hfz5_3 hfz5_4 hfz5_5 hfz7_0 hfz7_1 hfz7_2 hfz7_3 hfz7_4 hfz7_5 hfz9_0 hfz9_1 hfz9_2 hfz9_3 hfz9_4 hfz9_5)
        (try clear hx186_0); (try clear hx187_0); (try clear p186); (try clear p187); (try clear p2); (try clear q186); (try clear q187); (obtain ⟨x4_4, rfl, HA, HK4, BK185, HB⟩ := hrel)
        cases gk with
        | zero => exact absurd HA.out (by simp [Zl.l1])
        | succ k4 =>
         (have H := HA.out); (clear HA); (simp only [Zl.l1] at H)
         by_cases c31 : x4_4 < a0_0
         ·rw [if_pos c31] at H
          (have c31b0 : decide (x4_4 < a0_0) = true := decide_eq_true c31); (clear c31)
          by_cases c32 : 0 ≤ x4_4
          rotate_left
          ·rw [if_neg c32] at H
           exact absurd H (by simp)
          (rw [if_pos c32] at H); (have c32b0 : decide (0 ≤ x4_4) = true := decide_eq_true c32); (clear c32)
          by_cases c33 : x4_4 < (l0_4.length : Int)
          rotate_left
          ·rw [if_neg c33] at H
           exact absurd H (by simp)
          (rw [if_pos c33] at H); (have c33b0 : decide (x4_4 < (l0_4.length : Int)) = true := decide_eq_true c33); (clear c33); (have H' := Za.mk H); (clear H); (have hcz34_0 : wr.cell? ⟨gb185, 0, none⟩ = some (.int .i64 a0_0) := (Zb BK185.out 0).trans rfl); (have hcz34_1 : wr.cell? ⟨gb185, 1, none⟩ = some (.int .i64 a0_1) := (Zb BK185.out 1).trans rfl); (have hcz34_2 : wr.cell? ⟨gb185, 2, none⟩ = some (.int .i64 a0_2) := (Zb BK185.out 2).trans rfl); (have hcz34_3 : wr.cell? ⟨gb185, 3, none⟩ = some (.slice A0_3 l0_3.length c0_3) := (Zb BK185.out 3).trans rfl); (have hcz34_4 : wr.cell? ⟨gb185, 4, none⟩ = some (.slice A0_4 l0_4.length c0_4) := (Zb BK185.out 4).trans rfl); (have hcz34_5 : wr.cell? ⟨gb185, 5, none⟩ = some (.int .i64 a0_5) := (Zb BK185.out 5).trans rfl); (have hfz34_0 := Zc BK185.out 0); (have hfz34_1 := Zc BK185.out 1); (have hfz34_2 := Zc BK185.out 2); (have hfz34_3 := Zc BK185.out 3); (have hfz34_4 := Zc BK185.out 4); (have hfz34_5 := Zc BK185.out 5); (have p188 : 0 ≤ (x4_4 : Int) := of_decide_eq_true (by assumption)); (have q188 : x4_4 < (l0_4.length : Int) := of_decide_eq_true (by assumption)); (obtain ⟨ad188, A188_0, c188_0, e188, hx188_0, hl188_0, hi188_0⟩ := at_L2 HR0_4.out x4_4 p188 q188); (cases e188); (replace hx188_0 := (HB.out.cell (World.block_lt_of_cell? w _ hx188_0)).trans hx188_0); (have HR188_0 := Za.mk hi188_0); (have HC188_0 := Za.mk hl188_0); (clear hi188_0 hl188_0); (replace p188 := eq_true p188); (replace q188 := eq_true q188)
          go_wp2
          repeat (go_quiet (fail); try go_wp2)
          go_loopg [92] k4 (fun kq v92 w' => ∃ (x92_5 : Int), v92 = .int .i64 x92_5 ∧ Za (Zl.l2 kq x4_4 (Zm l0_4 x4_4) ((Zm l0_4 x4_4).length : Int) x92_5 a0_0 a0_1 a0_2 l0_3 l0_4 a0_5 = some r) ∧ Za (kq ≤ k4) ∧ Za (w'.heap[gb185]? = some (.cells #[.int .i64 a0_0, .int .i64 a0_1, .int .i64 a0_2, (.slice A0_3 l0_3.length c0_3), (.slice (some ad188) l0_4.length c0_4), .int .i64 a0_5] 25 (0, 0))) ∧ Za (Below w.heap.size w w'))
          case atStart => exact ⟨(0), (by first | rfl | (simp; done) | (simp [*]; done)), H', ⟨Nat.le_refl _⟩, ⟨by (with_reducible repeat (first | apply zb3 | apply zb2 | apply zb1)); exact BK185.out⟩, ⟨by repeat (first | (with_reducible first | exact HB.out | apply zc1 | apply zc2 | apply zc3 | refine zc4 ?_ (by assumption)) | exact HB.out)⟩⟩
          case round =>
           (clear H'); (try clear c1); (try clear p1); (try clear q1); (try clear hx1); (try clear c2); (try clear p2); (try clear c3); (try clear c4); (try clear c4b0); (try clear c5); (try clear c6); (try clear c6b0); (try clear p6); (try clear c8); (try clear c8b0); (try clear c10); (try clear c10b0); (try clear c12); (try clear c12b0); (try clear c15); (try clear c17); (try clear c17b0); (try clear c17b1); (try clear c18); (try clear p18); (try clear q18); (try clear hx18); (try clear c20); (try clear c21); (try clear c21b0); (try clear c22); (try clear c22b0); (try clear c23); (try clear c23b0); (try clear c24); (try clear c24b0); (try clear c24b1); (try clear c25); (try clear c25b0); (try clear c26); (try clear c26b0); (try clear c26b1); (try clear c31); (try clear c31b0); (try clear c32); (try clear c32b0); (try clear c33); (try clear c33b0); (try clear hcz11_0 hcz11_1 hcz11_2 hcz11_3 hcz11_4 hcz11_5 hcz13_0 hcz13_1 hcz13_2 hcz13_3 hcz13_4 hcz13_5 hcz14_0 hcz14_1 hcz14_2 hcz14_3 hcz14_4 hcz14_5 hcz18_0 hcz18_1 hcz18_2 hcz18_3 hcz18_4 hcz18_5 hcz19_0 hcz19_1 hcz19_2 hcz19_3 hcz19_4 hcz19_5 hcz27_0 hcz27_1 hcz27_2 hcz27_3 hcz27_4 hcz27_5 hcz28_0 hcz28_1 hcz28_2 hcz28_3 hcz28_4 hcz28_5 hcz29_0 hcz29_1 hcz29_2 hcz29_3 hcz29_4 hcz29_5 hcz30_0 hcz30_1 hcz30_2 hcz30_3 hcz30_4 hcz30_5 hcz34_0 hcz34_1 hcz34_2 hcz34_3 hcz34_4 hcz34_5 hcz5_0 hcz5_1 hcz5_2 hcz5_3 hcz5_4 hcz5_5 hcz7_0 hcz7_1 hcz7_2 hcz7_3 hcz7_4 hcz7_5 hcz9_0 hcz9_1 hcz9_2 hcz9_3 hcz9_4 hcz9_5 hfz11_0 hfz11_1 hfz11_2 hfz11_3 hfz11_4 hfz11_5 hfz13_0 hfz13_1 hfz13_2 hfz13_3 hfz13_4 hfz13_5 hfz14_0 hfz14_1 hfz14_2 hfz14_3 hfz14_4 hfz14_5 hfz18_0 hfz18_1 hfz18_2 hfz18_3 hfz18_4 hfz18_5 hfz19_0 hfz19_1 hfz19_2 hfz19_3 hfz19_4 hfz19_5 hfz27_0 hfz27_1 hfz27_2 hfz27_3 hfz27_4 hfz27_5 hfz28_0 hfz28_1 hfz28_2 hfz28_3 hfz28_4 hfz28_5 hfz29_0 hfz29_1 hfz29_2 hfz29_3 hfz29_4 hfz29_5 hfz30_0 hfz30_1 hfz30_2 hfz30_3 hfz30_4 hfz30_5 hfz34_0 hfz34_1 hfz34_2 hfz34_3 hfz34_4 hfz34_5 hfz5_0 hfz5_1 hfz5_2 hfz5_3 hfz5_4 hfz5_5 hfz7_0 hfz7_1 hfz7_2 hfz7_3 hfz7_4 hfz7_5 hfz9_0 hfz9_1 hfz9_2 hfz9_3 hfz9_4 hfz9_5)
           (try clear hx186_0); (try clear hx187_0); (try clear hx188_0); (try clear p1); (try clear p18); (try clear p186); (try clear p187); (try clear p188); (try clear p2); (try clear p6); (try clear q1); (try clear q18); (try clear q186); (try clear q187); (try clear q188); (obtain ⟨x92_5, rfl, HA, HK5, BK185, HB⟩ := hrel)
           cases gk with
           | zero => exact absurd HA.out (by simp [Zl.l2])
           | succ k5 =>
            (have H := HA.out); (clear HA); (simp only [Zl.l2] at H)
            by_cases c35 : x92_5 < ((Zm l0_4 x4_4).length : Int)
            rotate_left
            ·rw [if_neg c35] at H
             (have c35b0 : decide (x92_5 < ((Zm l0_4 x4_4).length : Int)) = false := decide_eq_false c35); (clear c35); (have H' := Za.mk H); (clear H)
             go_wp2
             repeat (go_quiet (fail); try go_wp2)
             go_roundg k5
             case measure => have := HJ1.out; have := HJ15.out; have := HK3.out; have := HK4.out; have := HK5.out; omega
             case rel => exact ⟨(wrap64 (x4_4 + 1)), (by first | rfl | (simp; done) | (simp [*]; done)), H', ⟨by have := HJ1.out; have := HJ15.out; have := HK3.out; have := HK4.out; have := HK5.out; omega⟩, ⟨by (with_reducible repeat (first | apply zb3 | apply zb2 | apply zb1)); exact BK185.out⟩, ⟨by repeat (first | (with_reducible first | exact HB.out | apply zc1 | apply zc2 | apply zc3 | refine zc4 ?_ (by assumption)) | exact HB.out)⟩⟩
            (rw [if_pos c35] at H); (have c35b0 : decide (x92_5 < ((Zm l0_4 x4_4).length : Int)) = true := decide_eq_true c35); (clear c35)
            by_cases c36 : 0 ≤ x92_5
            rotate_left
            ·rw [if_neg c36] at H
             exact absurd H (by simp)
            (rw [if_pos c36] at H); (have c36b0 : decide (0 ≤ x92_5) = true := decide_eq_true c36); (clear c36)
            by_cases c37 : x92_5 < ((Zm l0_4 x4_4).length : Int)
            rotate_left
            ·rw [if_neg c37] at H
             exact absurd H (by simp)
            (rw [if_pos c37] at H); (have c37b0 : decide (x92_5 < ((Zm l0_4 x4_4).length : Int)) = true := decide_eq_true c37); (clear c37)
            by_cases c38 : ((Zj (Zm l0_4 x4_4) x92_5).length : Int) > 4
            ·rw [if_pos c38] at H
             (have c38b0 : decide (4 < ((Zj (Zm l0_4 x4_4) x92_5).length : Int)) = true := decide_eq_true c38); (have c38b1 : decide (4 < (Zj (Zm l0_4 x4_4) x92_5).length) = true := decide_eq_true (by omega)); (clear c38); (obtain rfl := Option.some.inj H); (have p189 : 0 ≤ (x92_5 : Int) := of_decide_eq_true (by assumption)); (have q189 : x92_5 < ((Zm l0_4 x4_4).length : Int) := of_decide_eq_true (by assumption)); (obtain ⟨ad189, A189_0, c189_0, e189, hx189_0, hl189_0, hi189_0⟩ := at_L1 HR188_0.out x92_5 p189 q189); (cases e189); (replace hx189_0 := (HB.out.cell (World.block_lt_of_cell? w _ hx189_0)).trans hx189_0); (have HR189_0 := Za.mk hi189_0); (have HC189_0 := Za.mk hl189_0); (clear hi189_0 hl189_0); (replace p189 := eq_true p189); (replace q189 := eq_true q189)
             go_wp2
             repeat (go_quiet (fail); try go_wp2)
             go_ret
             exact ⟨by first | rfl | (simp [Zx, Zw] <;> rfl) | (simp [*, Zx, Zw] <;> rfl), by repeat (first | (with_reducible first | exact HB.out | apply zc1 | apply zc2 | apply zc3 | refine zc4 ?_ (by assumption)) | exact HB.out)⟩
            (rw [if_neg c38] at H); (have c38b0 : decide (4 < ((Zj (Zm l0_4 x4_4) x92_5).length : Int)) = false := decide_eq_false c38); (have c38b1 : decide (4 < (Zj (Zm l0_4 x4_4) x92_5).length) = false := decide_eq_false (by omega)); (clear c38); (have H' := Za.mk H); (clear H); (have p189 : 0 ≤ (x92_5 : Int) := of_decide_eq_true (by assumption)); (have q189 : x92_5 < ((Zm l0_4 x4_4).length : Int) := of_decide_eq_true (by assumption)); (obtain ⟨ad189, A189_0, c189_0, e189, hx189_0, hl189_0, hi189_0⟩ := at_L1 HR188_0.out x92_5 p189 q189); (cases e189); (replace hx189_0 := (HB.out.cell (World.block_lt_of_cell? w _ hx189_0)).trans hx189_0); (have HR189_0 := Za.mk hi189_0); (have HC189_0 := Za.mk hl189_0); (clear hi189_0 hl189_0); (replace p189 := eq_true p189); (replace q189 := eq_true q189)
            go_wp2
            repeat (go_quiet (fail); try go_wp2)
            go_roundg k5
            case measure => have := HJ1.out; have := HJ15.out; have := HK3.out; have := HK4.out; have := HK5.out; omega
            case rel => exact ⟨(wrap64 (x92_5 + 1)), (by first | rfl | (simp; done) | (simp [*]; done)), H', ⟨by have := HJ1.out; have := HJ15.out; have := HK3.out; have := HK4.out; have := HK5.out; omega⟩, ⟨by (with_reducible repeat (first | apply zb3 | apply zb2 | apply zb1)); exact BK185.out⟩, ⟨by repeat (first | (with_reducible first | exact HB.out | apply zc1 | apply zc2 | apply zc3 | refine zc4 ?_ (by assumption)) | exact HB.out)⟩⟩
         (rw [if_neg c31] at H); (have c31b0 : decide (x4_4 < a0_0) = false := decide_eq_false c31); (clear c31); (have HC39 := Za.mk H); (clear H); (have hcz40_0 : wr.cell? ⟨gb185, 0, none⟩ = some (.int .i64 a0_0) := (Zb BK185.out 0).trans rfl); (have hcz40_1 : wr.cell? ⟨gb185, 1, none⟩ = some (.int .i64 a0_1) := (Zb BK185.out 1).trans rfl); (have hcz40_2 : wr.cell? ⟨gb185, 2, none⟩ = some (.int .i64 a0_2) := (Zb BK185.out 2).trans rfl); (have hcz40_3 : wr.cell? ⟨gb185, 3, none⟩ = some (.slice A0_3 l0_3.length c0_3) := (Zb BK185.out 3).trans rfl); (have hcz40_4 : wr.cell? ⟨gb185, 4, none⟩ = some (.slice A0_4 l0_4.length c0_4) := (Zb BK185.out 4).trans rfl); (have hcz40_5 : wr.cell? ⟨gb185, 5, none⟩ = some (.int .i64 a0_5) := (Zb BK185.out 5).trans rfl); (have hfz40_0 := Zc BK185.out 0); (have hfz40_1 := Zc BK185.out 1); (have hfz40_2 := Zc BK185.out 2); (have hfz40_3 := Zc BK185.out 3); (have hfz40_4 := Zc BK185.out 4); (have hfz40_5 := Zc BK185.out 5)
         go_upto_region 19 with (fail)
         repeat (go_quiet (fail); go_upto_region 19 with (fail))
         go_cut [7] (fun v7 wc => ∃ (kq : Nat) (x7_38 : Bool), v7 = .bool x7_38 ∧ Za (Zl.j5 kq x7_38 a0_0 a0_1 a0_2 l0_3 l0_4 a0_5 = some r) ∧ Za (kq ≤ k4) ∧ Za (wc.heap[gb185]? = some (.cells #[.int .i64 a0_0, .int .i64 a0_1, .int .i64 a0_2, (.slice A0_3 l0_3.length c0_3), (.slice A0_4 l0_4.length c0_4), .int .i64 a0_5] 25 (0, 0))) ∧ Za (Below w.heap.size w wc))
         case first =>
          (have H := HC39.out); (clear HC39)
          by_cases c41 : a0_5 < 0
          ·rw [if_pos c41] at H
           (have c41b0 : decide (a0_5 < 0) = true := decide_eq_true c41); (clear c41)
           (first | rw [c41b0] | (simp only [Zh, Zi]; rw [c41b0]) | skip)
           (have H' := Za.mk H); (clear H); (have hcz42_0 : wr.cell? ⟨gb185, 0, none⟩ = some (.int .i64 a0_0) := (Zb BK185.out 0).trans rfl); (have hcz42_1 : wr.cell? ⟨gb185, 1, none⟩ = some (.int .i64 a0_1) := (Zb BK185.out 1).trans rfl); (have hcz42_2 : wr.cell? ⟨gb185, 2, none⟩ = some (.int .i64 a0_2) := (Zb BK185.out 2).trans rfl); (have hcz42_3 : wr.cell? ⟨gb185, 3, none⟩ = some (.slice A0_3 l0_3.length c0_3) := (Zb BK185.out 3).trans rfl); (have hcz42_4 : wr.cell? ⟨gb185, 4, none⟩ = some (.slice A0_4 l0_4.length c0_4) := (Zb BK185.out 4).trans rfl); (have hcz42_5 : wr.cell? ⟨gb185, 5, none⟩ = some (.int .i64 a0_5) := (Zb BK185.out 5).trans rfl); (have hfz42_0 := Zc BK185.out 0); (have hfz42_1 := Zc BK185.out 1); (have hfz42_2 := Zc BK185.out 2); (have hfz42_3 := Zc BK185.out 3); (have hfz42_4 := Zc BK185.out 4); (have hfz42_5 := Zc BK185.out 5)
           go_wp2
           repeat (go_quiet (fail); try go_wp2)
           go_meet
           case rel => exact ⟨_, (true), (by first | rfl | (simp; done) | (simp [*]; done)), H', ⟨by have := HJ1.out; have := HJ15.out; have := HK3.out; have := HK4.out; first | omega | exact Nat.le_refl _⟩, ⟨by (with_reducible repeat (first | apply zb3 | apply zb2 | apply zb1)); exact BK185.out⟩, ⟨by repeat (first | (with_reducible first | exact HB.out | apply zc1 | apply zc2 | apply zc3 | refine zc4 ?_ (by assumption)) | exact HB.out)⟩⟩
          (rw [if_neg c41] at H); (have c41b0 : decide (a0_5 < 0) = false := decide_eq_false c41); (clear c41)
          (first | rw [c41b0] | (simp only [Zh, Zi]; rw [c41b0]) | skip)
          (have H' := Za.mk H); (clear H); (have hcz43_0 : wr.cell? ⟨gb185, 0, none⟩ = some (.int .i64 a0_0) := (Zb BK185.out 0).trans rfl); (have hcz43_1 : wr.cell? ⟨gb185, 1, none⟩ = some (.int .i64 a0_1) := (Zb BK185.out 1).trans rfl); (have hcz43_2 : wr.cell? ⟨gb185, 2, none⟩ = some (.int .i64 a0_2) := (Zb BK185.out 2).trans rfl); (have hcz43_3 : wr.cell? ⟨gb185, 3, none⟩ = some (.slice A0_3 l0_3.length c0_3) := (Zb BK185.out 3).trans rfl); (have hcz43_4 : wr.cell? ⟨gb185, 4, none⟩ = some (.slice A0_4 l0_4.length c0_4) := (Zb BK185.out 4).trans rfl); (have hcz43_5 : wr.cell? ⟨gb185, 5, none⟩ = some (.int .i64 a0_5) := (Zb BK185.out 5).trans rfl); (have hfz43_0 := Zc BK185.out 0); (have hfz43_1 := Zc BK185.out 1); (have hfz43_2 := Zc BK185.out 2); (have hfz43_3 := Zc BK185.out 3); (have hfz43_4 := Zc BK185.out 4); (have hfz43_5 := Zc BK185.out 5)
          go_wp2
          repeat (go_quiet (fail); try go_wp2)
          go_meet
          case rel => exact ⟨_, (decide (a0_5 ≥ a0_0)), (by first | rfl | (simp; done) | (simp [*]; done)), H', ⟨by have := HJ1.out; have := HJ15.out; have := HK3.out; have := HK4.out; first | omega | exact Nat.le_refl _⟩, ⟨by (with_reducible repeat (first | apply zb3 | apply zb2 | apply zb1)); exact BK185.out⟩, ⟨by repeat (first | (with_reducible first | exact HB.out | apply zc1 | apply zc2 | apply zc3 | refine zc4 ?_ (by assumption)) | exact HB.out)⟩⟩
         case rest =>
          (clear HC39); (try clear c1); (try clear p1); (try clear q1); (try clear hx1); (try clear c2); (try clear p2); (try clear c3); (try clear c4); (try clear c4b0); (try clear c5); (try clear c6); (try clear c6b0); (try clear p6); (try clear c8); (try clear c8b0); (try clear c10); (try clear c10b0); (try clear c12); (try clear c12b0); (try clear c15); (try clear c17); (try clear c17b0); (try clear c17b1); (try clear c18); (try clear p18); (try clear q18); (try clear hx18); (try clear c20); (try clear c21); (try clear c21b0); (try clear c22); (try clear c22b0); (try clear c23); (try clear c23b0); (try clear c24); (try clear c24b0); (try clear c24b1); (try clear c25); (try clear c25b0); (try clear c26); (try clear c26b0); (try clear c26b1); (try clear c31); (try clear c31b0); (try clear c32); (try clear c32b0); (try clear c33); (try clear c33b0); (try clear c35); (try clear c35b0); (try clear c36); (try clear c36b0); (try clear c37); (try clear c37b0); (try clear c38); (try clear c38b0); (try clear c38b1); (try clear c41); (try clear c41b0); (try clear hcz11_0 hcz11_1 hcz11_2 hcz11_3 hcz11_4 hcz11_5 hcz13_0 hcz13_1 hcz13_2 hcz13_3 hcz13_4 hcz13_5 hcz14_0 hcz14_1 hcz14_2 hcz14_3 hcz14_4 hcz14_5 hcz18_0 hcz18_1 hcz18_2 hcz18_3 hcz18_4 hcz18_5 hcz19_0 hcz19_1 hcz19_2 hcz19_3 hcz19_4 hcz19_5 hcz27_0 hcz27_1 hcz27_2 hcz27_3 hcz27_4 hcz27_5 hcz28_0 hcz28_1 hcz28_2 hcz28_3 hcz28_4 hcz28_5 hcz29_0 hcz29_1 hcz29_2 hcz29_3 hcz29_4 hcz29_5 hcz30_0 hcz30_1 hcz30_2 hcz30_3 hcz30_4 hcz30_5 hcz34_0 hcz34_1 hcz34_2 hcz34_3 hcz34_4 hcz34_5 hcz40_0 hcz40_1 hcz40_2 hcz40_3 hcz40_4 hcz40_5 hcz42_0 hcz42_1 hcz42_2 hcz42_3 hcz42_4 hcz42_5 hcz43_0 hcz43_1 hcz43_2 hcz43_3 hcz43_4 hcz43_5 hcz5_0 hcz5_1 hcz5_2 hcz5_3 hcz5_4 hcz5_5 hcz7_0 hcz7_1 hcz7_2 hcz7_3 hcz7_4 hcz7_5 hcz9_0 hcz9_1 hcz9_2 hcz9_3 hcz9_4 hcz9_5 hfz11_0 hfz11_1 hfz11_2 hfz11_3 hfz11_4 hfz11_5 hfz13_0 hfz13_1 hfz13_2 hfz13_3 hfz13_4 hfz13_5 hfz14_0 hfz14_1 hfz14_2 hfz14_3 hfz14_4 hfz14_5 hfz18_0 hfz18_1 hfz18_2 hfz18_3 hfz18_4 hfz18_5 hfz19_0 hfz19_1 hfz19_2 hfz19_3 hfz19_4 hfz19_5 hfz27_0 hfz27_1 hfz27_2 hfz27_3 hfz27_4 hfz27_5 hfz28_0 hfz28_1 hfz28_2 hfz28_3 hfz28_4 hfz28_5 hfz29_0 hfz29_1 hfz29_2 hfz29_3 hfz29_4 hfz29_5 hfz30_0 hfz30_1 hfz30_2 hfz30_3 hfz30_4 hfz30_5 hfz34_0 hfz34_1 hfz34_2 hfz34_3 hfz34_4 hfz34_5 hfz40_0 hfz40_1 hfz40_2 hfz40_3 hfz40_4 hfz40_5 hfz42_0 hfz42_1 hfz42_2 hfz42_3 hfz42_4 hfz42_5 hfz43_0 hfz43_1 hfz43_2 hfz43_3 hfz43_4 hfz43_5 hfz5_0 hfz5_1 hfz5_2 hfz5_3 hfz5_4 hfz5_5 hfz7_0 hfz7_1 hfz7_2 hfz7_3 hfz7_4 hfz7_5 hfz9_0 hfz9_1 hfz9_2 hfz9_3 hfz9_4 hfz9_5)
          (try clear hx186_0); (try clear hx187_0); (try clear hx188_0); (try clear hx189_0); (try clear p1); (try clear p18); (try clear p186); (try clear p187); (try clear p188); (try clear p189); (try clear p2); (try clear p6); (try clear q1); (try clear q18); (try clear q186); (try clear q187); (try clear q188); (try clear q189); (obtain ⟨kq, x7_38, rfl, HA, HJ38, BK185, HB⟩ := hcut)
          cases kq with
          | zero => exact absurd HA.out (by simp [Zl.j5])
          | succ kj38 =>
           (have H := HA.out); (clear HA); (simp only [Zl.j5] at H); (have H' := Za.mk H); (clear H)
           go_wp2
           repeat (go_quiet (fail); try go_wp2)
           go_loopg [7, 8] kj38 (fun kq v7 v8 w' => ∃ (x7_6 : Bool) (x8_6 : Int), v7 = .bool x7_6 ∧ v8 = .int .i64 x8_6 ∧ Za (Zl.l3 kq x7_6 x8_6 a0_0 a0_1 a0_2 l0_3 l0_4 a0_5 = some r) ∧ Za (kq ≤ kj38) ∧ Za (w'.heap[gb185]? = some (.cells #[.int .i64 a0_0, .int .i64 a0_1, .int .i64 a0_2, (.slice A0_3 l0_3.length c0_3), (.slice A0_4 l0_4.length c0_4), .int .i64 a0_5] 25 (0, 0))) ∧ Za (Below w.heap.size w w'))
           case atStart => exact ⟨(x7_38), (0), (by first | rfl | (simp; done) | (simp [*]; done)), (by first | rfl | (simp; done) | (simp [*]; done)), H', ⟨Nat.le_refl _⟩, ⟨by (with_reducible repeat (first | apply zb3 | apply zb2 | apply zb1)); exact BK185.out⟩, ⟨by repeat (first | (with_reducible first | exact HB.out | apply zc1 | apply zc2 | apply zc3 | refine zc4 ?_ (by assumption)) | exact HB.out)⟩⟩
           case round =>
            (clear H'); (try clear c1); (try clear p1); (try clear q1); (try clear hx1); (try clear c2); (try clear p2); (try clear c3); (try clear c4); (try clear c4b0); (try clear c5); (try clear c6); (try clear c6b0); (try clear p6); (try clear c8); (try clear c8b0); (try clear c10); (try clear c10b0); (try clear c12); (try clear c12b0); (try clear c15); (try clear c17); (try clear c17b0); (try clear c17b1); (try clear c18); (try clear p18); (try clear q18); (try clear hx18); (try clear c20); (try clear c21); (try clear c21b0); (try clear c22); (try clear c22b0); (try clear c23); (try clear c23b0); (try clear c24); (try clear c24b0); (try clear c24b1); (try clear c25); (try clear c25b0); (try clear c26); (try clear c26b0); (try clear c26b1); (try clear c31); (try clear c31b0); (try clear c32); (try clear c32b0); (try clear c33); (try clear c33b0); (try clear c35); (try clear c35b0); (try clear c36); (try clear c36b0); (try clear c37); (try clear c37b0); (try clear c38); (try clear c38b0); (try clear c38b1); (try clear c41); (try clear c41b0); (try clear hcz11_0 hcz11_1 hcz11_2 hcz11_3 hcz11_4 hcz11_5 hcz13_0 hcz13_1 hcz13_2 hcz13_3 hcz13_4 hcz13_5 hcz14_0 hcz14_1 hcz14_2 hcz14_3 hcz14_4 hcz14_5 hcz18_0 hcz18_1 hcz18_2 hcz18_3 hcz18_4 hcz18_5 hcz19_0 hcz19_1 hcz19_2 hcz19_3 hcz19_4 hcz19_5 hcz27_0 hcz27_1 hcz27_2 hcz27_3 hcz27_4 hcz27_5 hcz28_0 hcz28_1 hcz28_2 hcz28_3 hcz28_4 hcz28_5 hcz29_0 hcz29_1 hcz29_2 hcz29_3 hcz29_4 hcz29_5 hcz30_0 hcz30_1 hcz30_2 hcz30_3 hcz30_4 hcz30_5 hcz34_0 hcz34_1 hcz34_2 hcz34_3 hcz34_4 hcz34_5 hcz40_0 hcz40_1 hcz40_2 hcz40_3 hcz40_4 hcz40_5 hcz42_0 hcz42_1 hcz42_2 hcz42_3 hcz42_4 hcz42_5 hcz43_0 hcz43_1 hcz43_2 hcz43_3 hcz43_4 hcz43_5 hcz5_0 hcz5_1 hcz5_2 hcz5_3 hcz5_4 hcz5_5 hcz7_0 hcz7_1 hcz7_2 hcz7_3 hcz7_4 hcz7_5 hcz9_0 hcz9_1 hcz9_2 hcz9_3 hcz9_4 hcz9_5 hfz11_0 hfz11_1 hfz11_2 hfz11_3 hfz11_4 hfz11_5 hfz13_0 hfz13_1 hfz13_2 hfz13_3 hfz13_4 hfz13_5 hfz14_0 hfz14_1 hfz14_2 hfz14_3 hfz14_4 hfz14_5 hfz18_0 hfz18_1 hfz18_2 hfz18_3 hfz18_4 hfz18_5 hfz19_0 hfz19_1 hfz19_2 hfz19_3 hfz19_4 hfz19_5 hfz27_0 hfz27_1 hfz27_2 hfz27_3 hfz27_4 hfz27_5 hfz28_0 hfz28_1 hfz28_2 hfz28_3 hfz28_4 hfz28_5 hfz29_0 hfz29_1 hfz29_2 hfz29_3 hfz29_4 hfz29_5 hfz30_0 hfz30_1 hfz30_2 hfz30_3 hfz30_4 hfz30_5 hfz34_0 hfz34_1 hfz34_2 hfz34_3 hfz34_4 hfz34_5 hfz40_0 hfz40_1 hfz40_2 hfz40_3 hfz40_4 hfz40_5 hfz42_0 hfz42_1 hfz42_2 hfz42_3 hfz42_4 hfz42_5 hfz43_0 hfz43_1 hfz43_2 hfz43_3 hfz43_4 hfz43_5 hfz5_0 hfz5_1 hfz5_2 hfz5_3 hfz5_4 hfz5_5 hfz7_0 hfz7_1 hfz7_2 hfz7_3 hfz7_4 hfz7_5 hfz9_0 hfz9_1 hfz9_2 hfz9_3 hfz9_4 hfz9_5)
            (try clear hx186_0); (try clear hx187_0); (try clear hx188_0); (try clear hx189_0); (try clear p1); (try clear p18); (try clear p186); (try clear p187); (try clear p188); (try clear p189); (try clear p2); (try clear p6); (try clear q1); (try clear q18); (try clear q186); (try clear q187); (try clear q188); (try clear q189); (obtain ⟨x7_6, x8_6, rfl, rfl, HA, HK6, BK185, HB⟩ := hrel)
            cases gk with
            | zero => exact absurd HA.out (by simp [Zl.l3])
            | succ k6 =>
             (have H := HA.out); (clear HA); (simp only [Zl.l3] at H)
             by_cases c44 : x8_6 < a0_0
             rotate_left
             ·rw [if_neg c44] at H
              (have c44b0 : decide (x8_6 < a0_0) = false := decide_eq_false c44); (clear c44)
              by_cases c69 : x7_6 = true
              ·subst c69
               (have H1 : (some 2) = some r := by rw [if_pos rfl] at H; exact H); (clear H); (have H := H1); (clear H1); (obtain rfl := Option.some.inj H); (have hcz70_0 : wr.cell? ⟨gb185, 0, none⟩ = some (.int .i64 a0_0) := (Zb BK185.out 0).trans rfl); (have hcz70_1 : wr.cell? ⟨gb185, 1, none⟩ = some (.int .i64 a0_1) := (Zb BK185.out 1).trans rfl); (have hcz70_2 : wr.cell? ⟨gb185, 2, none⟩ = some (.int .i64 a0_2) := (Zb BK185.out 2).trans rfl); (have hcz70_3 : wr.cell? ⟨gb185, 3, none⟩ = some (.slice A0_3 l0_3.length c0_3) := (Zb BK185.out 3).trans rfl); (have hcz70_4 : wr.cell? ⟨gb185, 4, none⟩ = some (.slice A0_4 l0_4.length c0_4) := (Zb BK185.out 4).trans rfl); (have hcz70_5 : wr.cell? ⟨gb185, 5, none⟩ = some (.int .i64 a0_5) := (Zb BK185.out 5).trans rfl); (have hfz70_0 := Zc BK185.out 0); (have hfz70_1 := Zc BK185.out 1); (have hfz70_2 := Zc BK185.out 2); (have hfz70_3 := Zc BK185.out 3); (have hfz70_4 := Zc BK185.out 4); (have hfz70_5 := Zc BK185.out 5)
               go_wp2
               repeat (go_quiet (fail); try go_wp2)
               go_ret
               exact ⟨by first | rfl | (simp [Zx, Zw] <;> rfl) | (simp [*, Zx, Zw] <;> rfl), by repeat (first | (with_reducible first | exact HB.out | apply zc1 | apply zc2 | apply zc3 | refine zc4 ?_ (by assumption)) | exact HB.out)⟩
              (replace c69 := Bool.eq_false_iff.mpr c69); (subst c69); (have H1 : (some 0) = some r := by rw [if_neg (show ¬ (false = true) by decide)] at H; exact H); (clear H); (have H := H1); (clear H1); (obtain rfl := Option.some.inj H); (have hcz71_0 : wr.cell? ⟨gb185, 0, none⟩ = some (.int .i64 a0_0) := (Zb BK185.out 0).trans rfl); (have hcz71_1 : wr.cell? ⟨gb185, 1, none⟩ = some (.int .i64 a0_1) := (Zb BK185.out 1).trans rfl); (have hcz71_2 : wr.cell? ⟨gb185, 2, none⟩ = some (.int .i64 a0_2) := (Zb BK185.out 2).trans rfl); (have hcz71_3 : wr.cell? ⟨gb185, 3, none⟩ = some (.slice A0_3 l0_3.length c0_3) := (Zb BK185.out 3).trans rfl); (have hcz71_4 : wr.cell? ⟨gb185, 4, none⟩ = some (.slice A0_4 l0_4.length c0_4) := (Zb BK185.out 4).trans rfl); (have hcz71_5 : wr.cell? ⟨gb185, 5, none⟩ = some (.int .i64 a0_5) := (Zb BK185.out 5).trans rfl); (have hfz71_0 := Zc BK185.out 0); (have hfz71_1 := Zc BK185.out 1); (have hfz71_2 := Zc BK185.out 2); (have hfz71_3 := Zc BK185.out 3); (have hfz71_4 := Zc BK185.out 4); (have hfz71_5 := Zc BK185.out 5)
              go_wp2
              repeat (go_quiet (fail); try go_wp2)
              go_ret
              exact ⟨by first | rfl | (simp [Zx, Zw] <;> rfl) | (simp [*, Zx, Zw] <;> rfl), by repeat (first | (with_reducible first | exact HB.out | apply zc1 | apply zc2 | apply zc3 | refine zc4 ?_ (by assumption)) | exact HB.out)⟩
             (rw [if_pos c44] at H); (have c44b0 : decide (x8_6 < a0_0) = true := decide_eq_true c44); (clear c44); (have H' := Za.mk H); (clear H); (have hcz45_0 : wr.cell? ⟨gb185, 0, none⟩ = some (.int .i64 a0_0) := (Zb BK185.out 0).trans rfl); (have hcz45_1 : wr.cell? ⟨gb185, 1, none⟩ = some (.int .i64 a0_1) := (Zb BK185.out 1).trans rfl); (have hcz45_2 : wr.cell? ⟨gb185, 2, none⟩ = some (.int .i64 a0_2) := (Zb BK185.out 2).trans rfl); (have hcz45_3 : wr.cell? ⟨gb185, 3, none⟩ = some (.slice A0_3 l0_3.length c0_3) := (Zb BK185.out 3).trans rfl); (have hcz45_4 : wr.cell? ⟨gb185, 4, none⟩ = some (.slice A0_4 l0_4.length c0_4) := (Zb BK185.out 4).trans rfl); (have hcz45_5 : wr.cell? ⟨gb185, 5, none⟩ = some (.int .i64 a0_5) := (Zb BK185.out 5).trans rfl); (have hfz45_0 := Zc BK185.out 0); (have hfz45_1 := Zc BK185.out 1); (have hfz45_2 := Zc BK185.out 2); (have hfz45_3 := Zc BK185.out 3); (have hfz45_4 := Zc BK185.out 4); (have hfz45_5 := Zc BK185.out 5)
             go_wp2
             repeat (go_quiet (fail); try go_wp2)
             go_loopg [7, 9] k6 (fun kq v7 v9 w' => ∃ (x7_7 : Bool) (x9_7 : Int), v7 = .bool x7_7 ∧ v9 = .int .i64 x9_7 ∧ Za (Zl.l4 kq x7_7 x8_6 x9_7 a0_0 a0_1 a0_2 l0_3 l0_4 a0_5 = some r) ∧ Za (kq ≤ k6) ∧ Za (w'.heap[gb185]? = some (.cells #[.int .i64 a0_0, .int .i64 a0_1, .int .i64 a0_2, (.slice A0_3 l0_3.length c0_3), (.slice A0_4 l0_4.length c0_4), .int .i64 a0_5] 25 (0, 0))) ∧ Za (Below w.heap.size w w'))
             case atStart => exact ⟨(x7_6), (0), (by first | rfl | (simp; done) | (simp [*]; done)), (by first | rfl | (simp; done) | (simp [*]; done)), H', ⟨Nat.le_refl _⟩, ⟨by (with_reducible repeat (first | apply zb3 | apply zb2 | apply zb1)); exact BK185.out⟩, ⟨by repeat (first | (with_reducible first | exact HB.out | apply zc1 | apply zc2 | apply zc3 | refine zc4 ?_ (by assumption)) | exact HB.out)⟩⟩
             case round =>
              (clear H'); (try clear c1); (try clear p1); (try clear q1); (try clear hx1); (try clear c2); (try clear p2); (try clear c3); (try clear c4); (try clear c4b0); (try clear c5); (try clear c6); (try clear c6b0); (try clear p6); (try clear c8); (try clear c8b0); (try clear c10); (try clear c10b0); (try clear c12); (try clear c12b0); (try clear c15); (try clear c17); (try clear c17b0); (try clear c17b1); (try clear c18); (try clear p18); (try clear q18); (try clear hx18); (try clear c20); (try clear c21); (try clear c21b0); (try clear c22); (try clear c22b0); (try clear c23); (try clear c23b0); (try clear c24); (try clear c24b0); (try clear c24b1); (try clear c25); (try clear c25b0); (try clear c26); (try clear c26b0); (try clear c26b1); (try clear c31); (try clear c31b0); (try clear c32); (try clear c32b0); (try clear c33); (try clear c33b0); (try clear c35); (try clear c35b0); (try clear c36); (try clear c36b0); (try clear c37); (try clear c37b0); (try clear c38); (try clear c38b0); (try clear c38b1); (try clear c41); (try clear c41b0); (try clear c44); (try clear c44b0); (try clear hcz11_0 hcz11_1 hcz11_2 hcz11_3 hcz11_4 hcz11_5 hcz13_0 hcz13_1 hcz13_2 hcz13_3 hcz13_4 hcz13_5 hcz14_0 hcz14_1 hcz14_2 hcz14_3 hcz14_4 hcz14_5 hcz18_0 hcz18_1 hcz18_2 hcz18_3 hcz18_4 hcz18_5 hcz19_0 hcz19_1 hcz19_2 hcz19_3 hcz19_4 hcz19_5 hcz27_0 hcz27_1 hcz27_2 hcz27_3 hcz27_4 hcz27_5 hcz28_0 hcz28_1 hcz28_2 hcz28_3 hcz28_4 hcz28_5 hcz29_0 hcz29_1 hcz29_2 hcz29_3 hcz29_4 hcz29_5 hcz30_0 hcz30_1 hcz30_2 hcz30_3 hcz30_4 hcz30_5 hcz34_0 hcz34_1 hcz34_2 hcz34_3 hcz34_4 hcz34_5 hcz40_0 hcz40_1 hcz40_2 hcz40_3 hcz40_4 hcz40_5 hcz42_0 hcz42_1 hcz42_2 hcz42_3 hcz42_4 hcz42_5 hcz43_0 hcz43_1 hcz43_2 hcz43_3 hcz43_4 hcz43_5 hcz45_0 hcz45_1 hcz45_2 hcz45_3 hcz45_4 hcz45_5 hcz5_0 hcz5_1 hcz5_2 hcz5_3 hcz5_4 hcz5_5 hcz7_0 hcz7_1 hcz7_2 hcz7_3 hcz7_4 hcz7_5 hcz9_0 hcz9_1 hcz9_2 hcz9_3 hcz9_4 hcz9_5 hfz11_0 hfz11_1 hfz11_2 hfz11_3 hfz11_4 hfz11_5 hfz13_0 hfz13_1 hfz13_2 hfz13_3 hfz13_4 hfz13_5 hfz14_0 hfz14_1 hfz14_2 hfz14_3 hfz14_4 hfz14_5 hfz18_0 hfz18_1 hfz18_2 hfz18_3 hfz18_4 hfz18_5 hfz19_0 hfz19_1 hfz19_2 hfz19_3 hfz19_4 hfz19_5 hfz27_0 hfz27_1 hfz27_2 hfz27_3 hfz27_4 hfz27_5 hfz28_0 hfz28_1 hfz28_2 hfz28_3 hfz28_4 hfz28_5 hfz29_0 hfz29_1 hfz29_2 hfz29_3 hfz29_4 hfz29_5 hfz30_0 hfz30_1 hfz30_2 hfz30_3 hfz30_4 hfz30_5 hfz34_0 hfz34_1 hfz34_2 hfz34_3 hfz34_4 hfz34_5 hfz40_0 hfz40_1 hfz40_2 hfz40_3 hfz40_4 hfz40_5 hfz42_0 hfz42_1 hfz42_2 hfz42_3 hfz42_4 hfz42_5 hfz43_0 hfz43_1 hfz43_2 hfz43_3 hfz43_4 hfz43_5 hfz45_0 hfz45_1 hfz45_2 hfz45_3 hfz45_4 hfz45_5 hfz5_0 hfz5_1 hfz5_2 hfz5_3 hfz5_4 hfz5_5 hfz7_0 hfz7_1 hfz7_2 hfz7_3 hfz7_4 hfz7_5 hfz9_0 hfz9_1 hfz9_2 hfz9_3 hfz9_4 hfz9_5)
              (try clear hx186_0); (try clear hx187_0); (try clear hx188_0); (try clear hx189_0); (try clear p1); (try clear p18); (try clear p186); (try clear p187); (try clear p188); (try clear p189); (try clear p2); (try clear p6); (try clear q1); (try clear q18); (try clear q186); (try clear q187); (try clear q188); (try clear q189); (obtain ⟨x7_7, x9_7, rfl, rfl, HA, HK7, BK185, HB⟩ := hrel)
              cases gk with
              | zero => exact absurd HA.out (by simp [Zl.l4])
              | succ k7 =>
               (have H := HA.out); (clear HA); (simp only [Zl.l4] at H)
               by_cases c46 : x9_7 < a0_1
               rotate_left
               ·rw [if_neg c46] at H
                (have c46b0 : decide (x9_7 < a0_1) = false := decide_eq_false c46); (clear c46); (have H' := Za.mk H); (clear H); (have hcz68_0 : wr.cell? ⟨gb185, 0, none⟩ = some (.int .i64 a0_0) := (Zb BK185.out 0).trans rfl); (have hcz68_1 : wr.cell? ⟨gb185, 1, none⟩ = some (.int .i64 a0_1) := (Zb BK185.out 1).trans rfl); (have hcz68_2 : wr.cell? ⟨gb185, 2, none⟩ = some (.int .i64 a0_2) := (Zb BK185.out 2).trans rfl); (have hcz68_3 : wr.cell? ⟨gb185, 3, none⟩ = some (.slice A0_3 l0_3.length c0_3) := (Zb BK185.out 3).trans rfl); (have hcz68_4 : wr.cell? ⟨gb185, 4, none⟩ = some (.slice A0_4 l0_4.length c0_4) := (Zb BK185.out 4).trans rfl); (have hcz68_5 : wr.cell? ⟨gb185, 5, none⟩ = some (.int .i64 a0_5) := (Zb BK185.out 5).trans rfl); (have hfz68_0 := Zc BK185.out 0); (have hfz68_1 := Zc BK185.out 1); (have hfz68_2 := Zc BK185.out 2); (have hfz68_3 := Zc BK185.out 3); (have hfz68_4 := Zc BK185.out 4); (have hfz68_5 := Zc BK185.out 5)
                go_wp2
                repeat (go_quiet (fail); try go_wp2)
                go_roundg k7
                case measure => have := HJ1.out; have := HJ15.out; have := HK3.out; have := HK4.out; have := HJ38.out; have := HK6.out; have := HK7.out; omega
                case rel => exact ⟨(x7_7), (wrap64 (x8_6 + 1)), (by first | rfl | (simp; done) | (simp [*]; done)), (by first | rfl | (simp; done) | (simp [*]; done)), H', ⟨by have := HJ1.out; have := HJ15.out; have := HK3.out; have := HK4.out; have := HJ38.out; have := HK6.out; have := HK7.out; omega⟩, ⟨by (with_reducible repeat (first | apply zb3 | apply zb2 | apply zb1)); exact BK185.out⟩, ⟨by repeat (first | (with_reducible first | exact HB.out | apply zc1 | apply zc2 | apply zc3 | refine zc4 ?_ (by assumption)) | exact HB.out)⟩⟩
               (rw [if_pos c46] at H); (have c46b0 : decide (x9_7 < a0_1) = true := decide_eq_true c46); (clear c46); (have HC47 := Za.mk H); (clear H); (have hcz48_0 : wr.cell? ⟨gb185, 0, none⟩ = some (.int .i64 a0_0) := (Zb BK185.out 0).trans rfl); (have hcz48_1 : wr.cell? ⟨gb185, 1, none⟩ = some (.int .i64 a0_1) := (Zb BK185.out 1).trans rfl); (have hcz48_2 : wr.cell? ⟨gb185, 2, none⟩ = some (.int .i64 a0_2) := (Zb BK185.out 2).trans rfl); (have hcz48_3 : wr.cell? ⟨gb185, 3, none⟩ = some (.slice A0_3 l0_3.length c0_3) := (Zb BK185.out 3).trans rfl); (have hcz48_4 : wr.cell? ⟨gb185, 4, none⟩ = some (.slice A0_4 l0_4.length c0_4) := (Zb BK185.out 4).trans rfl); (have hcz48_5 : wr.cell? ⟨gb185, 5, none⟩ = some (.int .i64 a0_5) := (Zb BK185.out 5).trans rfl); (have hfz48_0 := Zc BK185.out 0); (have hfz48_1 := Zc BK185.out 1); (have hfz48_2 := Zc BK185.out 2); (have hfz48_3 := Zc BK185.out 3); (have hfz48_4 := Zc BK185.out 4); (have hfz48_5 := Zc BK185.out 5)
               go_upto_region 26 with (fail)
               repeat (go_quiet (fail); go_upto_region 26 with (fail))
               go_cut [7] (fun v7 wc => ∃ (kq : Nat) (x7_46 : Bool), v7 = .bool x7_46 ∧ Za (Zl.j8 kq x7_46 x8_6 x9_7 a0_0 a0_1 a0_2 l0_3 l0_4 a0_5 = some r) ∧ Za (kq ≤ k7) ∧ Za (wc.heap[gb185]? = some (.cells #[.int .i64 a0_0, .int .i64 a0_1, .int .i64 a0_2, (.slice A0_3 l0_3.length c0_3), (.slice A0_4 l0_4.length c0_4), .int .i64 a0_5] 25 (0, 0))) ∧ Za (Below w.heap.size w wc))
               case first =>
                (have H := HC47.out); (clear HC47)
                by_cases c49 : x7_7 = true
                ·subst c49
                 (have H1 : (Zl.j8 k7 true x8_6 x9_7 a0_0 a0_1 a0_2 l0_3 l0_4 a0_5) = some r := by rw [if_pos rfl] at H; exact H); (clear H); (have H := H1); (clear H1); (have H' := Za.mk H); (clear H)
                 go_wp2
                 repeat (go_quiet (fail); try go_wp2)
                 go_meet
                 case rel => exact ⟨_, (true), (by first | rfl | (simp; done) | (simp [*]; done)), H', ⟨by have := HJ1.out; have := HJ15.out; have := HK3.out; have := HK4.out; have := HJ38.out; have := HK6.out; have := HK7.out; first | omega | exact Nat.le_refl _⟩, ⟨by (with_reducible repeat (first | apply zb3 | apply zb2 | apply zb1)); exact BK185.out⟩, ⟨by repeat (first | (with_reducible first | exact HB.out | apply zc1 | apply zc2 | apply zc3 | refine zc4 ?_ (by assumption)) | exact HB.out)⟩⟩
                (replace c49 := Bool.eq_false_iff.mpr c49); (subst c49); (have H1 : (if 0 ≤ x8_6 then (if x8_6 < (l0_3.length : Int) then (if 0 ≤ x9_7 then (if x9_7 < ((Zj l0_3 x8_6).length : Int) then (if (rd (Zj l0_3 x8_6) x9_7) < 0 then (Zl.j8 k7 true x8_6 x9_7 a0_0 a0_1 a0_2 l0_3 l0_4 a0_5) else (Zl.j8 k7 (decide ((rd (Zj l0_3 x8_6) x9_7) ≥ a0_0)) x8_6 x9_7 a0_0 a0_1 a0_2 l0_3 l0_4 a0_5)) else (none)) else (none)) else (none)) else (none)) = some r := by rw [if_neg (show ¬ (false = true) by decide)] at H; exact H); (clear H); (have H := H1); (clear H1)
                by_cases c50 : 0 ≤ x8_6
                rotate_left
                ·rw [if_neg c50] at H
                 exact absurd H (by simp)
                (rw [if_pos c50] at H); (have c50b0 : decide (0 ≤ x8_6) = true := decide_eq_true c50); (clear c50)
                (first | rw [c50b0] | (simp only [Zh, Zi]; rw [c50b0]) | skip)
                by_cases c51 : x8_6 < (l0_3.length : Int)
                rotate_left
                ·rw [if_neg c51] at H
                 exact absurd H (by simp)
                (rw [if_pos c51] at H); (have c51b0 : decide (x8_6 < (l0_3.length : Int)) = true := decide_eq_true c51); (clear c51)
                by_cases c52 : 0 ≤ x9_7
                rotate_left
                ·rw [if_neg c52] at H
                 exact absurd H (by simp)
                (rw [if_pos c52] at H); (have c52b0 : decide (0 ≤ x9_7) = true := decide_eq_true c52); (clear c52)
                by_cases c53 : x9_7 < ((Zj l0_3 x8_6).length : Int)
                rotate_left
                ·rw [if_neg c53] at H
                 exact absurd H (by simp)
                (rw [if_pos c53] at H); (have c53b0 : decide (x9_7 < ((Zj l0_3 x8_6).length : Int)) = true := decide_eq_true c53); (clear c53)
                by_cases c54 : (rd (Zj l0_3 x8_6) x9_7) < 0
                ·rw [if_pos c54] at H
                 (have c54b0 : decide ((rd (Zj l0_3 x8_6) x9_7) < 0) = true := decide_eq_true c54); (clear c54); (have H' := Za.mk H); (clear H); (have hcz55_0 : wr.cell? ⟨gb185, 0, none⟩ = some (.int .i64 a0_0) := (Zb BK185.out 0).trans rfl); (have hcz55_1 : wr.cell? ⟨gb185, 1, none⟩ = some (.int .i64 a0_1) := (Zb BK185.out 1).trans rfl); (have hcz55_2 : wr.cell? ⟨gb185, 2, none⟩ = some (.int .i64 a0_2) := (Zb BK185.out 2).trans rfl); (have hcz55_3 : wr.cell? ⟨gb185, 3, none⟩ = some (.slice A0_3 l0_3.length c0_3) := (Zb BK185.out 3).trans rfl); (have hcz55_4 : wr.cell? ⟨gb185, 4, none⟩ = some (.slice A0_4 l0_4.length c0_4) := (Zb BK185.out 4).trans rfl); (have hcz55_5 : wr.cell? ⟨gb185, 5, none⟩ = some (.int .i64 a0_5) := (Zb BK185.out 5).trans rfl); (have hfz55_0 := Zc BK185.out 0); (have hfz55_1 := Zc BK185.out 1); (have hfz55_2 := Zc BK185.out 2); (have hfz55_3 := Zc BK185.out 3); (have hfz55_4 := Zc BK185.out 4); (have hfz55_5 := Zc BK185.out 5); (have p190 : 0 ≤ (x8_6 : Int) := of_decide_eq_true (by assumption)); (have q190 : x8_6 < (l0_3.length : Int) := of_decide_eq_true (by assumption)); (obtain ⟨ad190, A190_0, c190_0, e190, hx190_0, hl190_0, hi190_0⟩ := at_L1 HR0_3.out x8_6 p190 q190); (cases e190); (replace hx190_0 := (HB.out.cell (World.block_lt_of_cell? w _ hx190_0)).trans hx190_0); (have HR190_0 := Za.mk hi190_0); (have HC190_0 := Za.mk hl190_0); (clear hi190_0 hl190_0); (replace p190 := eq_true p190); (replace q190 := eq_true q190); (have p191 : 0 ≤ (x9_7 : Int) := of_decide_eq_true (by assumption))
                 (have q191 : x9_7 < ((Zj l0_3 x8_6).length : Int) := of_decide_eq_true (by assumption)); (obtain ⟨ad191, e191, hx191_0⟩ := Kd.at_int HR190_0.out x9_7 p191 q191); (cases e191); (replace hx191_0 := (HB.out.cell (World.block_lt_of_cell? w _ hx191_0)).trans hx191_0); (replace p191 := eq_true p191); (replace q191 := eq_true q191)
                 go_wp2
                 repeat (go_quiet (fail); try go_wp2)
                 go_meet
                 case rel => exact ⟨_, (true), (by first | rfl | (simp; done) | (simp [*]; done)), H', ⟨by have := HJ1.out; have := HJ15.out; have := HK3.out; have := HK4.out; have := HJ38.out; have := HK6.out; have := HK7.out; first | omega | exact Nat.le_refl _⟩, ⟨by (with_reducible repeat (first | apply zb3 | apply zb2 | apply zb1)); exact BK185.out⟩, ⟨by repeat (first | (with_reducible first | exact HB.out | apply zc1 | apply zc2 | apply zc3 | refine zc4 ?_ (by assumption)) | exact HB.out)⟩⟩
                (rw [if_neg c54] at H); (have c54b0 : decide ((rd (Zj l0_3 x8_6) x9_7) < 0) = false := decide_eq_false c54); (clear c54); (have H' := Za.mk H); (clear H); (have hcz56_0 : wr.cell? ⟨gb185, 0, none⟩ = some (.int .i64 a0_0) := (Zb BK185.out 0).trans rfl); (have hcz56_1 : wr.cell? ⟨gb185, 1, none⟩ = some (.int .i64 a0_1) := (Zb BK185.out 1).trans rfl); (have hcz56_2 : wr.cell? ⟨gb185, 2, none⟩ = some (.int .i64 a0_2) := (Zb BK185.out 2).trans rfl); (have hcz56_3 : wr.cell? ⟨gb185, 3, none⟩ = some (.slice A0_3 l0_3.length c0_3) := (Zb BK185.out 3).trans rfl); (have hcz56_4 : wr.cell? ⟨gb185, 4, none⟩ = some (.slice A0_4 l0_4.length c0_4) := (Zb BK185.out 4).trans rfl); (have hcz56_5 : wr.cell? ⟨gb185, 5, none⟩ = some (.int .i64 a0_5) := (Zb BK185.out 5).trans rfl); (have hfz56_0 := Zc BK185.out 0); (have hfz56_1 := Zc BK185.out 1); (have hfz56_2 := Zc BK185.out 2); (have hfz56_3 := Zc BK185.out 3); (have hfz56_4 := Zc BK185.out 4); (have hfz56_5 := Zc BK185.out 5); (have p190 : 0 ≤ (x8_6 : Int) := of_decide_eq_true (by assumption)); (have q190 : x8_6 < (l0_3.length : Int) := of_decide_eq_true (by assumption)); (obtain ⟨ad190, A190_0, c190_0, e190, hx190_0, hl190_0, hi190_0⟩ := at_L1 HR0_3.out x8_6 p190 q190); (cases e190); (replace hx190_0 := (HB.out.cell (World.block_lt_of_cell? w _ hx190_0)).trans hx190_0); (have HR190_0 := Za.mk hi190_0); (have HC190_0 := Za.mk hl190_0); (clear hi190_0 hl190_0); (replace p190 := eq_true p190); (replace q190 := eq_true q190); (have p191 : 0 ≤ (x9_7 : Int) := of_decide_eq_true (by assumption))
                (have q191 : x9_7 < ((Zj l0_3 x8_6).length : Int) := of_decide_eq_true (by assumption)); (obtain ⟨ad191, e191, hx191_0⟩ := Kd.at_int HR190_0.out x9_7 p191 q191); (cases e191); (replace hx191_0 := (HB.out.cell (World.block_lt_of_cell? w _ hx191_0)).trans hx191_0); (replace p191 := eq_true p191); (replace q191 := eq_true q191); (have p192 : 0 ≤ (x8_6 : Int) := of_decide_eq_true (by assumption)); (have q192 : x8_6 < (l0_3.length : Int) := of_decide_eq_true (by assumption)); (obtain ⟨ad192, A192_0, c192_0, e192, hx192_0, hl192_0, hi192_0⟩ := at_L1 HR0_3.out x8_6 p192 q192); (obtain rfl : ad190 = ad192 := (by injection e192)); (replace hx192_0 := (HB.out.cell (World.block_lt_of_cell? w _ hx192_0)).trans hx192_0); (have HR192_0 := Za.mk hi192_0); (have HC192_0 := Za.mk hl192_0); (clear hi192_0 hl192_0); (replace p192 := eq_true p192); (replace q192 := eq_true q192); (have ea_ := Option.some.inj (hx190_0.symm.trans hx192_0)); (injection ea_ with ea_ en_ ec_); (subst ea_); (subst ec_); (clear en_); (have p193 : 0 ≤ (x9_7 : Int) := of_decide_eq_true (by assumption)); (have q193 : x9_7 < ((Zj l0_3 x8_6).length : Int) := of_decide_eq_true (by assumption)); (obtain ⟨ad193, e193, hx193_0⟩ := Kd.at_int HR192_0.out x9_7 p193 q193); (obtain rfl : ad191 = ad193 := (by injection e193)); (replace hx193_0 := (HB.out.cell (World.block_lt_of_cell? w _ hx193_0)).trans hx193_0); (replace p193 := eq_true p193); (replace q193 := eq_true q193)
                go_wp2
                repeat (go_quiet (fail); try go_wp2)
                go_meet
                case rel => exact ⟨_, (decide ((rd (Zj l0_3 x8_6) x9_7) ≥ a0_0)), (by first | rfl | (simp; done) | (simp [*]; done)), H', ⟨by have := HJ1.out; have := HJ15.out; have := HK3.out; have := HK4.out; have := HJ38.out; have := HK6.out; have := HK7.out; first | omega | exact Nat.le_refl _⟩, ⟨by (with_reducible repeat (first | apply zb3 | apply zb2 | apply zb1)); exact BK185.out⟩, ⟨by repeat (first | (with_reducible first | exact HB.out | apply zc1 | apply zc2 | apply zc3 | refine zc4 ?_ (by assumption)) | exact HB.out)⟩⟩
               case rest =>
                (clear HC47); (try clear c1); (try clear p1); (try clear q1); (try clear hx1); (try clear c2); (try clear p2); (try clear c3); (try clear c4); (try clear c4b0); (try clear c5); (try clear c6); (try clear c6b0); (try clear p6); (try clear c8); (try clear c8b0); (try clear c10); (try clear c10b0); (try clear c12); (try clear c12b0); (try clear c15); (try clear c17); (try clear c17b0); (try clear c17b1); (try clear c18); (try clear p18); (try clear q18); (try clear hx18); (try clear c19); (try clear p19); (try clear q19); (try clear hx19); (try clear c20); (try clear c21); (try clear c21b0); (try clear c22); (try clear c22b0); (try clear c23); (try clear c23b0); (try clear c24); (try clear c24b0); (try clear c24b1); (try clear c25); (try clear c25b0); (try clear c26); (try clear c26b0); (try clear c26b1); (try clear c31); (try clear c31b0); (try clear c32); (try clear c32b0); (try clear c33); (try clear c33b0); (try clear c35); (try clear c35b0); (try clear c36); (try clear c36b0); (try clear c37); (try clear c37b0); (try clear c38); (try clear c38b0); (try clear c38b1); (try clear c41); (try clear c41b0); (try clear c44); (try clear c44b0); (try clear c46); (try clear c46b0); (try clear c49); (try clear c50); (try clear c50b0); (try clear c51); (try clear c51b0); (try clear c52); (try clear c52b0); (try clear c53); (try clear c53b0); (try clear c54); (try clear c54b0); (try clear hcz11_0 hcz11_1 hcz11_2 hcz11_3 hcz11_4 hcz11_5 hcz13_0 hcz13_1 hcz13_2 hcz13_3 hcz13_4 hcz13_5 hcz14_0 hcz14_1 hcz14_2 hcz14_3 hcz14_4 hcz14_5 hcz18_0 hcz18_1 hcz18_2 hcz18_3 hcz18_4 hcz18_5 hcz19_0 hcz19_1 hcz19_2 hcz19_3 hcz19_4 hcz19_5 hcz27_0 hcz27_1 hcz27_2 hcz27_3 hcz27_4 hcz27_5 hcz28_0 hcz28_1 hcz28_2 hcz28_3 hcz28_4 hcz28_5 hcz29_0 hcz29_1 hcz29_2 hcz29_3 hcz29_4 hcz29_5 hcz30_0 hcz30_1 hcz30_2 hcz30_3 hcz30_4 hcz30_5 hcz34_0 hcz34_1 hcz34_2 hcz34_3 hcz34_4 hcz34_5 hcz40_0 hcz40_1 hcz40_2 hcz40_3 hcz40_4 hcz40_5 hcz42_0 hcz42_1 hcz42_2 hcz42_3 hcz42_4 hcz42_5 hcz43_0 hcz43_1 hcz43_2 hcz43_3 hcz43_4 hcz43_5 hcz45_0 hcz45_1 hcz45_2 hcz45_3 hcz45_4 hcz45_5 hcz48_0 hcz48_1 hcz48_2 hcz48_3 hcz48_4 hcz48_5 hcz55_0 hcz55_1 hcz55_2 hcz55_3 hcz55_4 hcz55_5 hcz56_0 hcz56_1 hcz56_2 hcz56_3 hcz56_4 hcz56_5 hcz5_0 hcz5_1 hcz5_2 hcz5_3 hcz5_4 hcz5_5 hcz7_0 hcz7_1 hcz7_2 hcz7_3 hcz7_4 hcz7_5 hcz9_0 hcz9_1 hcz9_2 hcz9_3 hcz9_4 hcz9_5 hfz11_0 hfz11_1 hfz11_2 hfz11_3 hfz11_4 hfz11_5 hfz13_0 hfz13_1 hfz13_2 hfz13_3 hfz13_4 hfz13_5 hfz14_0 hfz14_1 hfz14_2 hfz14_3 hfz14_4 hfz14_5 hfz18_0 hfz18_1 hfz18_2 hfz18_3 hfz18_4 hfz18_5 hfz19_0 hfz19_1 hfz19_2 hfz19_3 hfz19_4 hfz19_5 hfz27_0 hfz27_1 hfz27_2 hfz27_3 hfz27_4 hfz27_5 hfz28_0 hfz28_1 hfz28_2 hfz28_3 hfz28_4 hfz28_5 hfz29_0 hfz29_1 hfz29_2 hfz29_3 hfz29_4 hfz29_5 hfz30_0 hfz30_1 hfz30_2 hfz30_3 hfz30_4 hfz30_5 hfz34_0 hfz34_1 hfz34_2 hfz34_3 hfz34_4 hfz34_5 hfz40_0 hfz40_1 hfz40_2 hfz40_3 hfz40_4 hfz40_5 hfz42_0 hfz42_1 hfz42_2 hfz42_3 hfz42_4 hfz42_5 hfz43_0 hfz43_1 hfz43_2 hfz43_3 hfz43_4 hfz43_5 hfz45_0 hfz45_1 hfz45_2 hfz45_3 hfz45_4 hfz45_5 hfz48_0 hfz48_1 hfz48_2 hfz48_3 hfz48_4 hfz48_5 hfz55_0 hfz55_1 hfz55_2 hfz55_3 hfz55_4 hfz55_5 hfz56_0 hfz56_1 hfz56_2 hfz56_3 hfz56_4 hfz56_5 hfz5_0 hfz5_1 hfz5_2 hfz5_3 hfz5_4 hfz5_5 hfz7_0 hfz7_1 hfz7_2 hfz7_3 hfz7_4 hfz7_5 hfz9_0 hfz9_1 hfz9_2 hfz9_3 hfz9_4 hfz9_5)
                (try clear hx186_0); (try clear hx187_0); (try clear hx188_0); (try clear hx189_0); (try clear hx190_0); (try clear hx191_0); (try clear hx192_0); (try clear hx193_0); (try clear p1); (try clear p18); (try clear p186); (try clear p187); (try clear p188); (try clear p189); (try clear p190); (try clear p191); (try clear p192); (try clear p193); (try clear p2); (try clear p6); (try clear q1); (try clear q18); (try clear q186); (try clear q187); (try clear q188); (try clear q189); (try clear q190); (try clear q191); (try clear q192); (try clear q193); (obtain ⟨kq, x7_46, rfl, HA, HJ46, BK185, HB⟩ := hcut)
                cases kq with
                | zero => exact absurd HA.out (by simp [Zl.j8])
                | succ kj46 =>
                 (have H := HA.out); (clear HA); (simp only [Zl.j8] at H)
                 by_cases c57 : 0 ≤ x8_6
                 rotate_left
                 ·rw [if_neg c57] at H
                  exact absurd H (by simp)
                 (rw [if_pos c57] at H); (have c57b0 : decide (0 ≤ x8_6) = true := decide_eq_true c57); (clear c57)
                 by_cases c58 : x8_6 < (l0_4.length : Int)
                 rotate_left
                 ·rw [if_neg c58] at H
                  exact absurd H (by simp)
                 (rw [if_pos c58] at H); (have c58b0 : decide (x8_6 < (l0_4.length : Int)) = true := decide_eq_true c58); (clear c58)
                 by_cases c59 : 0 ≤ x9_7
                 rotate_left
                 ·rw [if_neg c59] at H
                  exact absurd H (by simp)
                 (rw [if_pos c59] at H); (have c59b0 : decide (0 ≤ x9_7) = true := decide_eq_true c59); (clear c59)
                 by_cases c60 : x9_7 < ((Zm l0_4 x8_6).length : Int)
                 rotate_left
                 ·rw [if_neg c60] at H
                  exact absurd H (by simp)
                 (rw [if_pos c60] at H); (have c60b0 : decide (x9_7 < ((Zm l0_4 x8_6).length : Int)) = true := decide_eq_true c60); (clear c60); (have H' := Za.mk H); (clear H); (have hcz61_0 : wc.cell? ⟨gb185, 0, none⟩ = some (.int .i64 a0_0) := (Zb BK185.out 0).trans rfl); (have hcz61_1 : wc.cell? ⟨gb185, 1, none⟩ = some (.int .i64 a0_1) := (Zb BK185.out 1).trans rfl); (have hcz61_2 : wc.cell? ⟨gb185, 2, none⟩ = some (.int .i64 a0_2) := (Zb BK185.out 2).trans rfl); (have hcz61_3 : wc.cell? ⟨gb185, 3, none⟩ = some (.slice A0_3 l0_3.length c0_3) := (Zb BK185.out 3).trans rfl); (have hcz61_4 : wc.cell? ⟨gb185, 4, none⟩ = some (.slice A0_4 l0_4.length c0_4) := (Zb BK185.out 4).trans rfl); (have hcz61_5 : wc.cell? ⟨gb185, 5, none⟩ = some (.int .i64 a0_5) := (Zb BK185.out 5).trans rfl); (have hfz61_0 := Zc BK185.out 0); (have hfz61_1 := Zc BK185.out 1); (have hfz61_2 := Zc BK185.out 2); (have hfz61_3 := Zc BK185.out 3); (have hfz61_4 := Zc BK185.out 4); (have hfz61_5 := Zc BK185.out 5); (have p194 : 0 ≤ (x8_6 : Int) := of_decide_eq_true (by assumption)); (have q194 : x8_6 < (l0_4.length : Int) := of_decide_eq_true (by assumption)); (obtain ⟨ad194, A194_0, c194_0, e194, hx194_0, hl194_0, hi194_0⟩ := at_L2 HR0_4.out x8_6 p194 q194); (cases e194); (replace hx194_0 := (HB.out.cell (World.block_lt_of_cell? w _ hx194_0)).trans hx194_0); (have HR194_0 := Za.mk hi194_0); (have HC194_0 := Za.mk hl194_0); (clear hi194_0 hl194_0); (replace p194 := eq_true p194); (replace q194 := eq_true q194); (have p195 : 0 ≤ (x9_7 : Int) := of_decide_eq_true (by assumption))
                 (have q195 : x9_7 < ((Zm l0_4 x8_6).length : Int) := of_decide_eq_true (by assumption)); (obtain ⟨ad195, A195_0, c195_0, e195, hx195_0, hl195_0, hi195_0⟩ := at_L1 HR194_0.out x9_7 p195 q195); (cases e195); (replace hx195_0 := (HB.out.cell (World.block_lt_of_cell? w _ hx195_0)).trans hx195_0); (have HR195_0 := Za.mk hi195_0); (have HC195_0 := Za.mk hl195_0); (clear hi195_0 hl195_0); (replace p195 := eq_true p195); (replace q195 := eq_true q195)
                 go_wp2
                 repeat (go_quiet (fail); try go_wp2)
                 go_loopg [7, 156] kj46 (fun kq v7 v156 w' => ∃ (x7_9 : Bool) (x156_9 : Int), v7 = .bool x7_9 ∧ v156 = .int .i64 x156_9 ∧ Za (Zl.l5 kq x7_9 x8_6 x9_7 (Zj (Zm l0_4 x8_6) x9_7) ((Zj (Zm l0_4 x8_6) x9_7).length : Int) x156_9 a0_0 a0_1 a0_2 l0_3 l0_4 a0_5 = some r) ∧ Za (kq ≤ kj46) ∧ Za (w'.heap[gb185]? = some (.cells #[.int .i64 a0_0, .int .i64 a0_1, .int .i64 a0_2, (.slice A0_3 l0_3.length c0_3), (.slice (some ad194) l0_4.length c0_4), .int .i64 a0_5] 25 (0, 0))) ∧ Za (Below w.heap.size w w'))
                 case atStart => exact ⟨(x7_46), (0), (by first | rfl | (simp; done) | (simp [*]; done)), (by first | rfl | (simp; done) | (simp [*]; done)), H', ⟨Nat.le_refl _⟩, ⟨by (with_reducible repeat (first | apply zb3 | apply zb2 | apply zb1)); exact BK185.out⟩, ⟨by repeat (first | (with_reducible first | exact HB.out | apply zc1 | apply zc2 | apply zc3 | refine zc4 ?_ (by assumption)) | exact HB.out)⟩⟩
                 case round =>
                  (clear H'); (try clear c1); (try clear p1); (try clear q1); (try clear hx1); (try clear c2); (try clear p2); (try clear c3); (try clear c4); (try clear c4b0); (try clear c5); (try clear c6); (try clear c6b0); (try clear p6); (try clear c8); (try clear c8b0); (try clear c10); (try clear c10b0); (try clear c12); (try clear c12b0); (try clear c15); (try clear c17); (try clear c17b0); (try clear c17b1); (try clear c18); (try clear p18); (try clear q18); (try clear hx18); (try clear c19); (try clear p19); (try clear q19); (try clear hx19); (try clear c20); (try clear c21); (try clear c21b0); (try clear c22); (try clear c22b0); (try clear c23); (try clear c23b0); (try clear c24); (try clear c24b0); (try clear c24b1); (try clear c25); (try clear c25b0); (try clear c26); (try clear c26b0); (try clear c26b1); (try clear c31); (try clear c31b0); (try clear c32); (try clear c32b0); (try clear c33); (try clear c33b0); (try clear c35); (try clear c35b0); (try clear c36); (try clear c36b0); (try clear c37); (try clear c37b0); (try clear c38); (try clear c38b0); (try clear c38b1); (try clear c41); (try clear c41b0); (try clear c44); (try clear c44b0); (try clear c46); (try clear c46b0); (try clear c49); (try clear c50); (try clear c50b0); (try clear c51); (try clear c51b0); (try clear c52); (try clear c52b0); (try clear c53); (try clear c53b0); (try clear c54); (try clear c54b0); (try clear c57); (try clear c57b0); (try clear c58); (try clear c58b0); (try clear c59); (try clear c59b0); (try clear c60); (try clear c60b0); (try clear hcz11_0 hcz11_1 hcz11_2 hcz11_3 hcz11_4 hcz11_5 hcz13_0 hcz13_1 hcz13_2 hcz13_3 hcz13_4 hcz13_5 hcz14_0 hcz14_1 hcz14_2 hcz14_3 hcz14_4 hcz14_5 hcz18_0 hcz18_1 hcz18_2 hcz18_3 hcz18_4 hcz18_5 hcz19_0 hcz19_1 hcz19_2 hcz19_3 hcz19_4 hcz19_5 hcz27_0 hcz27_1 hcz27_2 hcz27_3 hcz27_4 hcz27_5 hcz28_0 hcz28_1 hcz28_2 hcz28_3 hcz28_4 hcz28_5 hcz29_0 hcz29_1 hcz29_2 hcz29_3 hcz29_4 hcz29_5 hcz30_0 hcz30_1 hcz30_2 hcz30_3 hcz30_4 hcz30_5 hcz34_0 hcz34_1 hcz34_2 hcz34_3 hcz34_4 hcz34_5 hcz40_0 hcz40_1 hcz40_2 hcz40_3 hcz40_4 hcz40_5 hcz42_0 hcz42_1 hcz42_2 hcz42_3 hcz42_4 hcz42_5 hcz43_0 hcz43_1 hcz43_2 hcz43_3 hcz43_4 hcz43_5 hcz45_0 hcz45_1 hcz45_2 hcz45_3 hcz45_4 hcz45_5 hcz48_0 hcz48_1 hcz48_2 hcz48_3 hcz48_4 hcz48_5 hcz55_0 hcz55_1 hcz55_2 hcz55_3 hcz55_4 hcz55_5 hcz56_0 hcz56_1 hcz56_2 hcz56_3 hcz56_4 hcz56_5 hcz5_0 hcz5_1 hcz5_2 hcz5_3 hcz5_4 hcz5_5 hcz61_0 hcz61_1 hcz61_2 hcz61_3 hcz61_4 hcz61_5 hcz7_0 hcz7_1 hcz7_2 hcz7_3 hcz7_4 hcz7_5 hcz9_0 hcz9_1 hcz9_2 hcz9_3 hcz9_4 hcz9_5 hfz11_0 hfz11_1 hfz11_2 hfz11_3 hfz11_4 hfz11_5 hfz13_0 hfz13_1 hfz13_2 hfz13_3 hfz13_4 hfz13_5 hfz14_0 hfz14_1 hfz14_2 hfz14_3 hfz14_4 hfz14_5 hfz18_0 hfz18_1 hfz18_2 hfz18_3 hfz18_4 hfz18_5 hfz19_0 hfz19_1 hfz19_2 hfz19_3 hfz19_4 hfz19_5 hfz27_0 hfz27_1 hfz27_2 hfz27_3 hfz27_4 hfz27_5 hfz28_0 hfz28_1 hfz28_2 hfz28_3 hfz28_4 hfz28_5 hfz29_0 hfz29_1 hfz29_2 hfz29_3 hfz29_4 hfz29_5 hfz30_0 hfz30_1 hfz30_2 hfz30_3 hfz30_4 hfz30_5 hfz34_0 hfz34_1 hfz34_2 hfz34_3 hfz34_4 hfz34_5 hfz40_0 hfz40_1 hfz40_2 hfz40_3 hfz40_4 hfz40_5 hfz42_0 hfz42_1 hfz42_2 hfz42_3 hfz42_4 hfz42_5 hfz43_0 hfz43_1 hfz43_2 hfz43_3 hfz43_4 hfz43_5 hfz45_0 hfz45_1 hfz45_2 hfz45_3 hfz45_4 hfz45_5 hfz48_0 hfz48_1 hfz48_2 hfz48_3 hfz48_4 hfz48_5 hfz55_0 hfz55_1 hfz55_2 hfz55_3 hfz55_4 hfz55_5 hfz56_0 hfz56_1 hfz56_2 hfz56_3 hfz56_4 hfz56_5 hfz5_0 hfz5_1 hfz5_2 hfz5_3 hfz5_4 hfz5_5 hfz61_0 hfz61_1 hfz61_2 hfz61_3 hfz61_4 hfz61_5 hfz7_0 hfz7_1 hfz7_2 hfz7_3 hfz7_4 hfz7_5 hfz9_0 hfz9_1 hfz9_2 hfz9_3 hfz9_4 hfz9_5)
                  (try clear hx186_0); (try clear hx187_0); (try clear hx188_0); (try clear hx189_0); (try clear hx190_0); (try clear hx191_0); (try clear hx192_0); (try clear hx193_0); (try clear hx194_0); (try clear hx195_0); (try clear p1); (try clear p18); (try clear p186); (try clear p187); (try clear p188); (try clear p189); (try clear p19); (try clear p190); (try clear p191); (try clear p192); (try clear p193); (try clear p194); (try clear p195); (try clear p2); (try clear p6); (try clear q1); (try clear q18); (try clear q186); (try clear q187); (try clear q188); (try clear q189); (try clear q19); (try clear q190); (try clear q191); (try clear q192); (try clear q193); (try clear q194); (try clear q195); (obtain ⟨x7_9, x156_9, rfl, rfl, HA, HK9, BK185, HB⟩ := hrel)
                  cases gk with
                  | zero => exact absurd HA.out (by simp [Zl.l5])
                  | succ k9 =>
                   (have H := HA.out); (clear HA); (simp only [Zl.l5] at H)
                   by_cases c62 : x156_9 < ((Zj (Zm l0_4 x8_6) x9_7).length : Int)
                   rotate_left
                   ·rw [if_neg c62] at H
                    (have c62b0 : decide (x156_9 < ((Zj (Zm l0_4 x8_6) x9_7).length : Int)) = false := decide_eq_false c62); (clear c62); (have H' := Za.mk H); (clear H)
                    go_wp2
                    repeat (go_quiet (fail); try go_wp2)
                    go_roundg k9
                    case measure => have := HJ1.out; have := HJ15.out; have := HK3.out; have := HK4.out; have := HJ38.out; have := HK6.out; have := HK7.out; have := HJ46.out; have := HK9.out; omega
                    case rel => exact ⟨(x7_9), (wrap64 (x9_7 + 1)), (by first | rfl | (simp; done) | (simp [*]; done)), (by first | rfl | (simp; done) | (simp [*]; done)), H', ⟨by have := HJ1.out; have := HJ15.out; have := HK3.out; have := HK4.out; have := HJ38.out; have := HK6.out; have := HK7.out; have := HJ46.out; have := HK9.out; omega⟩, ⟨by (with_reducible repeat (first | apply zb3 | apply zb2 | apply zb1)); exact BK185.out⟩, ⟨by repeat (first | (with_reducible first | exact HB.out | apply zc1 | apply zc2 | apply zc3 | refine zc4 ?_ (by assumption)) | exact HB.out)⟩⟩
                   (rw [if_pos c62] at H); (have c62b0 : decide (x156_9 < ((Zj (Zm l0_4 x8_6) x9_7).length : Int)) = true := decide_eq_true c62); (clear c62)
                   by_cases c63 : 0 ≤ x156_9
                   rotate_left
                   ·rw [if_neg c63] at H
                    exact absurd H (by simp)
                   (rw [if_pos c63] at H); (have c63b0 : decide (0 ≤ x156_9) = true := decide_eq_true c63); (clear c63)
                   by_cases c64 : x156_9 < ((Zj (Zm l0_4 x8_6) x9_7).length : Int)
                   rotate_left
                   ·rw [if_neg c64] at H
                    exact absurd H (by simp)
                   (rw [if_pos c64] at H); (have c64b0 : decide (x156_9 < ((Zj (Zm l0_4 x8_6) x9_7).length : Int)) = true := decide_eq_true c64); (clear c64)
                   by_cases c65 : x7_9 = true
                   ·subst c65
                    (have H1 : (Zl.l5 k9 true x8_6 x9_7 (Zj (Zm l0_4 x8_6) x9_7) ((Zj (Zm l0_4 x8_6) x9_7).length : Int) (wrap64 (x156_9 + 1)) a0_0 a0_1 a0_2 l0_3 l0_4 a0_5) = some r := by rw [if_pos rfl] at H; exact H); (clear H); (have H := H1); (clear H1); (have H' := Za.mk H); (clear H); (have p196 : 0 ≤ (x156_9 : Int) := of_decide_eq_true (by assumption)); (have q196 : x156_9 < ((Zj (Zm l0_4 x8_6) x9_7).length : Int) := of_decide_eq_true (by assumption)); (obtain ⟨ad196, e196, hx196_0⟩ := Kd.at_int HR195_0.out x156_9 p196 q196); (cases e196); (replace hx196_0 := (HB.out.cell (World.block_lt_of_cell? w _ hx196_0)).trans hx196_0); (replace p196 := eq_true p196); (replace q196 := eq_true q196)
                    go_wp2
                    repeat (go_quiet (fail); try go_wp2)
                    go_roundg k9
                    case measure => have := HJ1.out; have := HJ15.out; have := HK3.out; have := HK4.out; have := HJ38.out; have := HK6.out; have := HK7.out; have := HJ46.out; have := HK9.out; omega
                    case rel => exact ⟨(true), (wrap64 (x156_9 + 1)), (by first | rfl | (simp; done) | (simp [*]; done)), (by first | rfl | (simp; done) | (simp [*]; done)), H', ⟨by have := HJ1.out; have := HJ15.out; have := HK3.out; have := HK4.out; have := HJ38.out; have := HK6.out; have := HK7.out; have := HJ46.out; have := HK9.out; omega⟩, ⟨by (with_reducible repeat (first | apply zb3 | apply zb2 | apply zb1)); exact BK185.out⟩, ⟨by repeat (first | (with_reducible first | exact HB.out | apply zc1 | apply zc2 | apply zc3 | refine zc4 ?_ (by assumption)) | exact HB.out)⟩⟩
                   (replace c65 := Bool.eq_false_iff.mpr c65); (subst c65); (have H1 : (if (rd (Zj (Zm l0_4 x8_6) x9_7) x156_9) < 0 then (Zl.l5 k9 true x8_6 x9_7 (Zj (Zm l0_4 x8_6) x9_7) ((Zj (Zm l0_4 x8_6) x9_7).length : Int) (wrap64 (x156_9 + 1)) a0_0 a0_1 a0_2 l0_3 l0_4 a0_5) else (Zl.l5 k9 (decide ((rd (Zj (Zm l0_4 x8_6) x9_7) x156_9) ≥ a0_2)) x8_6 x9_7 (Zj (Zm l0_4 x8_6) x9_7) ((Zj (Zm l0_4 x8_6) x9_7).length : Int) (wrap64 (x156_9 + 1)) a0_0 a0_1 a0_2 l0_3 l0_4 a0_5)) = some r := by rw [if_neg (show ¬ (false = true) by decide)] at H; exact H); (clear H); (have H := H1); (clear H1)
                   by_cases c66 : (rd (Zj (Zm l0_4 x8_6) x9_7) x156_9) < 0
                   ·rw [if_pos c66] at H
                    (have c66b0 : decide ((rd (Zj (Zm l0_4 x8_6) x9_7) x156_9) < 0) = true := decide_eq_true c66); (clear c66); (have H' := Za.mk H); (clear H); (have p196 : 0 ≤ (x156_9 : Int) := of_decide_eq_true (by assumption)); (have q196 : x156_9 < ((Zj (Zm l0_4 x8_6) x9_7).length : Int) := of_decide_eq_true (by assumption)); (obtain ⟨ad196, e196, hx196_0⟩ := Kd.at_int HR195_0.out x156_9 p196 q196); (cases e196); (replace hx196_0 := (HB.out.cell (World.block_lt_of_cell? w _ hx196_0)).trans hx196_0); (replace p196 := eq_true p196); (replace q196 := eq_true q196)
                    go_wp2
                    repeat (go_quiet (fail); try go_wp2)
                    go_roundg k9
                    case measure => have := HJ1.out; have := HJ15.out; have := HK3.out; have := HK4.out; have := HJ38.out; have := HK6.out; have := HK7.out; have := HJ46.out; have := HK9.out; omega
                    case rel => exact ⟨(true), (wrap64 (x156_9 + 1)), (by first | rfl | (simp; done) | (simp [*]; done)), (by first | rfl | (simp; done) | (simp [*]; done)), H', ⟨by have := HJ1.out; have := HJ15.out; have := HK3.out; have := HK4.out; have := HJ38.out; have := HK6.out; have := HK7.out; have := HJ46.out; have := HK9.out; omega⟩, ⟨by (with_reducible repeat (first | apply zb3 | apply zb2 | apply zb1)); exact BK185.out⟩, ⟨by repeat (first | (with_reducible first | exact HB.out | apply zc1 | apply zc2 | apply zc3 | refine zc4 ?_ (by assumption)) | exact HB.out)⟩⟩
                   (rw [if_neg c66] at H); (have c66b0 : decide ((rd (Zj (Zm l0_4 x8_6) x9_7) x156_9) < 0) = false := decide_eq_false c66); (clear c66); (have H' := Za.mk H); (clear H); (have p196 : 0 ≤ (x156_9 : Int) := of_decide_eq_true (by assumption)); (have q196 : x156_9 < ((Zj (Zm l0_4 x8_6) x9_7).length : Int) := of_decide_eq_true (by assumption)); (obtain ⟨ad196, e196, hx196_0⟩ := Kd.at_int HR195_0.out x156_9 p196 q196); (cases e196); (replace hx196_0 := (HB.out.cell (World.block_lt_of_cell? w _ hx196_0)).trans hx196_0); (replace p196 := eq_true p196); (replace q196 := eq_true q196); (have hcz67_0 : wr.cell? ⟨gb185, 0, none⟩ = some (.int .i64 a0_0) := (Zb BK185.out 0).trans rfl); (have hcz67_1 : wr.cell? ⟨gb185, 1, none⟩ = some (.int .i64 a0_1) := (Zb BK185.out 1).trans rfl); (have hcz67_2 : wr.cell? ⟨gb185, 2, none⟩ = some (.int .i64 a0_2) := (Zb BK185.out 2).trans rfl); (have hcz67_3 : wr.cell? ⟨gb185, 3, none⟩ = some (.slice A0_3 l0_3.length c0_3) := (Zb BK185.out 3).trans rfl); (have hcz67_4 : wr.cell? ⟨gb185, 4, none⟩ = some (.slice (some ad194) l0_4.length c0_4) := (Zb BK185.out 4).trans rfl); (have hcz67_5 : wr.cell? ⟨gb185, 5, none⟩ = some (.int .i64 a0_5) := (Zb BK185.out 5).trans rfl); (have hfz67_0 := Zc BK185.out 0); (have hfz67_1 := Zc BK185.out 1); (have hfz67_2 := Zc BK185.out 2); (have hfz67_3 := Zc BK185.out 3); (have hfz67_4 := Zc BK185.out 4); (have hfz67_5 := Zc BK185.out 5)
                   go_wp2
                   repeat (go_quiet (fail); try go_wp2)
                   go_roundg k9
                   case measure => have := HJ1.out; have := HJ15.out; have := HK3.out; have := HK4.out; have := HJ38.out; have := HK6.out; have := HK7.out; have := HJ46.out; have := HK9.out; omega
                   case rel => exact ⟨(decide ((rd (Zj (Zm l0_4 x8_6) x9_7) x156_9) ≥ a0_2)), (wrap64 (x156_9 + 1)), (by first | rfl | (simp; done) | (simp [*]; done)), (by first | rfl | (simp; done) | (simp [*]; done)), H', ⟨by have := HJ1.out; have := HJ15.out; have := HK3.out; have := HK4.out; have := HJ38.out; have := HK6.out; have := HK7.out; have := HJ46.out; have := HK9.out; omega⟩, ⟨by (with_reducible repeat (first | apply zb3 | apply zb2 | apply zb1)); exact BK185.out⟩, ⟨by repeat (first | (with_reducible first | exact HB.out | apply zc1 | apply zc2 | apply zc3 | refine zc4 ?_ (by assumption)) | exact HB.out)⟩⟩
end Go.Proofs.Ytlljiegdhelmiaa.PTurnerThens
