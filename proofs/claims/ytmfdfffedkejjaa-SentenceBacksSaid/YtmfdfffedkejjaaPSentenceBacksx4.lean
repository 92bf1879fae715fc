-- Written by a program of this session: a turn of the print kit's own.
import Derived.Test.YtmfdfffedkejjaaPSentenceBacksx0
namespace Go.Proofs.Ytmfdfffedkejjaa.PSentenceBacks
open Go.RowKit Go.Proofs.YtmfdfffedkejjaaW.PrintWords Go.Proofs.YtmfdfffedkejjaaW.PrintLast Go.Proofs.YtmfdfffedkejjaaW.PrintMore
attribute [local go_sem] max2_int min2_int max_two min_two max_three min_three max_four min_four   -- for this text's walks alone
set_option linter.unusedVariables false
set_option linter.unusedSimpArgs false

/-! ### coppicerref_Means: function 15 -/
mutual
def coppicerref_Means.l0 : Nat → List (S67) → List Int → Int → List (List Bool) → List (S67) → Int → Int → Option (Bool)
  | 0, _, _, _, _, _, _, _ => none
  | k + 1, x0, x1, x5, x6, x21, x22, x23 => if x23 < x22 then (if 0 ≤ x23 then (if x23 < (x21.length : Int) then (if 0 ≤ (wrap64 (x5 * x5)) then (if (wrap64 (x5 * x5) : Int).toNat ≤ 281474976710656 then (if x23 < (x6.length : Int) then (coppicerref_Means.l1 k x0 x1 x5 (x6.set (x23 : Int).toNat (List.replicate (wrap64 (x5 * x5) : Int).toNat false)) x23 0 x21 x22 x23 ((rd_T67 x21 x23).f0) ((rd_T67 x21 x23).f1) ((rd_T67 x21 x23).f2)) else (none)) else (none)) else (none)) else (none)) else (none)) else (if (x0.length : Int) > 0 then (if 0 ≤ (wrap64 ((x0.length : Int) - 1)) then (if (wrap64 ((x0.length : Int) - 1)) < (x6.length : Int) then (if 0 ≤ (wrap64 (x5 - 1)) then (if (wrap64 (x5 - 1)) < ((rd_L3 x6 (wrap64 ((x0.length : Int) - 1))).length : Int) then (some (rdOf false (rd_L3 x6 (wrap64 ((x0.length : Int) - 1))) (wrap64 (x5 - 1)))) else (none)) else (none)) else (none)) else (none)) else (some false))
def coppicerref_Means.l1 : Nat → List (S67) → List Int → Int → List (List Bool) → Int → Int → List (S67) → Int → Int → Int → Int → Int → Option (Bool)
  | 0, _, _, _, _, _, _, _, _, _, _, _, _ => none
  | k + 1, x0, x1, x5, x6, x7, x9, x21, x22, x23, x124000, x124001, x124002 => if x9 < x5 then (coppicerref_Means.l2 k x0 x1 x5 x6 x7 x9 0 x21 x22 x23 x124000 x124001 x124002) else (coppicerref_Means.l0 k x0 x1 x5 x6 x21 x22 (wrap64 (x23 + 1)))
def coppicerref_Means.l2 : Nat → List (S67) → List Int → Int → List (List Bool) → Int → Int → Int → List (S67) → Int → Int → Int → Int → Int → Option (Bool)
  | 0, _, _, _, _, _, _, _, _, _, _, _, _, _ => none
  | k + 1, x0, x1, x5, x6, x7, x9, x10, x21, x22, x23, x124000, x124001, x124002 => if (wrap64 (x10 + x9)) < x5 then (if x124000 = 2 then (coppicerref_Means.j7 k x0 x1 x5 x6 x7 x9 x10 (wrap64 (x10 + x9)) (x9 == 0) x21 x22 x23 x124000 x124001 x124002) else (if x124000 = 3 then (if x9 = 1 then (if 0 ≤ x10 then (if x10 < (x1.length : Int) then (coppicerref_Means.j7 k x0 x1 x5 x6 x7 x9 x10 (wrap64 (x10 + x9)) ((rd x1 x10) == x124001) x21 x22 x23 x124000 x124001 x124002) else (none)) else (none)) else (coppicerref_Means.j7 k x0 x1 x5 x6 x7 x9 x10 (wrap64 (x10 + x9)) false x21 x22 x23 x124000 x124001 x124002)) else (if x124000 = 5 then (if 0 ≤ x124001 then (if x124001 < (x6.length : Int) then (if 0 ≤ (wrap64 ((wrap64 (x10 * x5)) + (wrap64 (x10 + x9)))) then (if (wrap64 ((wrap64 (x10 * x5)) + (wrap64 (x10 + x9)))) < ((rd_L3 x6 x124001).length : Int) then (if rdOf false (rd_L3 x6 x124001) (wrap64 ((wrap64 (x10 * x5)) + (wrap64 (x10 + x9)))) = true then (coppicerref_Means.j7 k x0 x1 x5 x6 x7 x9 x10 (wrap64 (x10 + x9)) true x21 x22 x23 x124000 x124001 x124002) else (if 0 ≤ x124002 then (if x124002 < (x6.length : Int) then (if (wrap64 ((wrap64 (x10 * x5)) + (wrap64 (x10 + x9)))) < ((rd_L3 x6 x124002).length : Int) then (coppicerref_Means.j7 k x0 x1 x5 x6 x7 x9 x10 (wrap64 (x10 + x9)) (rdOf false (rd_L3 x6 x124002) (wrap64 ((wrap64 (x10 * x5)) + (wrap64 (x10 + x9))))) x21 x22 x23 x124000 x124001 x124002) else (none)) else (none)) else (none))) else (none)) else (none)) else (none)) else (none)) else (if x124000 = 4 then (coppicerref_Means.l3 k x0 x1 x5 x6 x7 x9 x10 (wrap64 (x10 + x9)) false x10 x21 x22 x23 x124000 x124001 x124002) else (if x124000 = 6 then (coppicerref_Means.l4 k x0 x1 x5 x6 x7 x9 x10 (wrap64 (x10 + x9)) (x9 == 0) (wrap64 (x10 + 1)) x21 x22 x23 x124000 x124001 x124002) else (coppicerref_Means.j7 k x0 x1 x5 x6 x7 x9 x10 (wrap64 (x10 + x9)) false x21 x22 x23 x124000 x124001 x124002)))))) else (coppicerref_Means.l1 k x0 x1 x5 x6 x7 (wrap64 (x9 + 1)) x21 x22 x23 x124000 x124001 x124002)
def coppicerref_Means.j7 : Nat → List (S67) → List Int → Int → List (List Bool) → Int → Int → Int → Int → Bool → List (S67) → Int → Int → Int → Int → Int → Option (Bool)
  | 0, _, _, _, _, _, _, _, _, _, _, _, _, _, _, _ => none
  | k + 1, x0, x1, x5, x6, x7, x9, x10, x11, x12, x21, x22, x23, x124000, x124001, x124002 => if 0 ≤ x7 then (if x7 < (x6.length : Int) then (if 0 ≤ (wrap64 ((wrap64 (x10 * x5)) + x11)) then (if (wrap64 ((wrap64 (x10 * x5)) + x11)) < ((rd_L3 x6 x7).length : Int) then (coppicerref_Means.l2 k x0 x1 x5 (x6.set (x7 : Int).toNat ((rd_L3 x6 x7).set ((wrap64 ((wrap64 (x10 * x5)) + x11)) : Int).toNat x12)) x7 x9 (wrap64 (x10 + 1)) x21 x22 x23 x124000 x124001 x124002) else (none)) else (none)) else (none)) else (none)
def coppicerref_Means.l3 : Nat → List (S67) → List Int → Int → List (List Bool) → Int → Int → Int → Int → Bool → Int → List (S67) → Int → Int → Int → Int → Int → Option (Bool)
  | 0, _, _, _, _, _, _, _, _, _, _, _, _, _, _, _, _ => none
  | k + 1, x0, x1, x5, x6, x7, x9, x10, x11, x12, x13, x21, x22, x23, x124000, x124001, x124002 => if x13 ≤ x11 then (if x12 = true then (coppicerref_Means.j4 k x0 x1 x5 x6 x7 x9 x10 x11 true x13 x21 x22 x23 x124000 x124001 x124002) else (if 0 ≤ x124001 then (if x124001 < (x6.length : Int) then (if 0 ≤ (wrap64 ((wrap64 (x10 * x5)) + x13)) then (if (wrap64 ((wrap64 (x10 * x5)) + x13)) < ((rd_L3 x6 x124001).length : Int) then (if rdOf false (rd_L3 x6 x124001) (wrap64 ((wrap64 (x10 * x5)) + x13)) = true then (if 0 ≤ x124002 then (if x124002 < (x6.length : Int) then (if 0 ≤ (wrap64 ((wrap64 (x13 * x5)) + x11)) then (if (wrap64 ((wrap64 (x13 * x5)) + x11)) < ((rd_L3 x6 x124002).length : Int) then (coppicerref_Means.j4 k x0 x1 x5 x6 x7 x9 x10 x11 (rdOf false (rd_L3 x6 x124002) (wrap64 ((wrap64 (x13 * x5)) + x11))) x13 x21 x22 x23 x124000 x124001 x124002) else (none)) else (none)) else (none)) else (none)) else (coppicerref_Means.j4 k x0 x1 x5 x6 x7 x9 x10 x11 false x13 x21 x22 x23 x124000 x124001 x124002)) else (none)) else (none)) else (none)) else (none))) else (coppicerref_Means.j7 k x0 x1 x5 x6 x7 x9 x10 x11 x12 x21 x22 x23 x124000 x124001 x124002)
def coppicerref_Means.j4 : Nat → List (S67) → List Int → Int → List (List Bool) → Int → Int → Int → Int → Bool → Int → List (S67) → Int → Int → Int → Int → Int → Option (Bool)
  | 0, _, _, _, _, _, _, _, _, _, _, _, _, _, _, _, _ => none
  | k + 1, x0, x1, x5, x6, x7, x9, x10, x11, x12, x13, x21, x22, x23, x124000, x124001, x124002 => coppicerref_Means.l3 k x0 x1 x5 x6 x7 x9 x10 x11 x12 (wrap64 (x13 + 1)) x21 x22 x23 x124000 x124001 x124002
def coppicerref_Means.l4 : Nat → List (S67) → List Int → Int → List (List Bool) → Int → Int → Int → Int → Bool → Int → List (S67) → Int → Int → Int → Int → Int → Option (Bool)
  | 0, _, _, _, _, _, _, _, _, _, _, _, _, _, _, _, _ => none
  | k + 1, x0, x1, x5, x6, x7, x9, x10, x11, x12, x14, x21, x22, x23, x124000, x124001, x124002 => if x14 ≤ x11 then (if x12 = true then (coppicerref_Means.j6 k x0 x1 x5 x6 x7 x9 x10 x11 true x14 x21 x22 x23 x124000 x124001 x124002) else (if 0 ≤ x124001 then (if x124001 < (x6.length : Int) then (if 0 ≤ (wrap64 ((wrap64 (x10 * x5)) + x14)) then (if (wrap64 ((wrap64 (x10 * x5)) + x14)) < ((rd_L3 x6 x124001).length : Int) then (if rdOf false (rd_L3 x6 x124001) (wrap64 ((wrap64 (x10 * x5)) + x14)) = true then (if 0 ≤ x7 then (if x7 < (x6.length : Int) then (if 0 ≤ (wrap64 ((wrap64 (x14 * x5)) + x11)) then (if (wrap64 ((wrap64 (x14 * x5)) + x11)) < ((rd_L3 x6 x7).length : Int) then (coppicerref_Means.j6 k x0 x1 x5 x6 x7 x9 x10 x11 (rdOf false (rd_L3 x6 x7) (wrap64 ((wrap64 (x14 * x5)) + x11))) x14 x21 x22 x23 x124000 x124001 x124002) else (none)) else (none)) else (none)) else (none)) else (coppicerref_Means.j6 k x0 x1 x5 x6 x7 x9 x10 x11 false x14 x21 x22 x23 x124000 x124001 x124002)) else (none)) else (none)) else (none)) else (none))) else (coppicerref_Means.j7 k x0 x1 x5 x6 x7 x9 x10 x11 x12 x21 x22 x23 x124000 x124001 x124002)
def coppicerref_Means.j6 : Nat → List (S67) → List Int → Int → List (List Bool) → Int → Int → Int → Int → Bool → Int → List (S67) → Int → Int → Int → Int → Int → Option (Bool)
  | 0, _, _, _, _, _, _, _, _, _, _, _, _, _, _, _, _ => none
  | k + 1, x0, x1, x5, x6, x7, x9, x10, x11, x12, x14, x21, x22, x23, x124000, x124001, x124002 => coppicerref_Means.l4 k x0 x1 x5 x6 x7 x9 x10 x11 x12 (wrap64 (x14 + 1)) x21 x22 x23 x124000 x124001 x124002
end
def coppicerref_Means.f (k : Nat) (l0 : List (S67)) (l1 : List Int) : Option (Bool) := if 0 ≤ (l0.length : Int) then (if ((l0.length : Int) : Int).toNat ≤ 11728124029610 then (coppicerref_Means.l0 k l0 l1 (wrap64 ((l1.length : Int) + 1)) (List.replicate ((l0.length : Int) : Int).toNat []) l0 (l0.length : Int) 0) else (none)) else (none)
theorem coppicerref_Means.mono_l : ∀ k, (∀ y0 y1 y2 y3 y4 y5 y6, LeO (coppicerref_Means.l0 k y0 y1 y2 y3 y4 y5 y6) (coppicerref_Means.l0 (k + 1) y0 y1 y2 y3 y4 y5 y6)) ∧ (∀ y0 y1 y2 y3 y4 y5 y6 y7 y8 y9 y10 y11, LeO (coppicerref_Means.l1 k y0 y1 y2 y3 y4 y5 y6 y7 y8 y9 y10 y11) (coppicerref_Means.l1 (k + 1) y0 y1 y2 y3 y4 y5 y6 y7 y8 y9 y10 y11)) ∧ (∀ y0 y1 y2 y3 y4 y5 y6 y7 y8 y9 y10 y11 y12, LeO (coppicerref_Means.l2 k y0 y1 y2 y3 y4 y5 y6 y7 y8 y9 y10 y11 y12) (coppicerref_Means.l2 (k + 1) y0 y1 y2 y3 y4 y5 y6 y7 y8 y9 y10 y11 y12)) ∧ (∀ y0 y1 y2 y3 y4 y5 y6 y7 y8 y9 y10 y11 y12 y13 y14, LeO (coppicerref_Means.j7 k y0 y1 y2 y3 y4 y5 y6 y7 y8 y9 y10 y11 y12 y13 y14) (coppicerref_Means.j7 (k + 1) y0 y1 y2 y3 y4 y5 y6 y7 y8 y9 y10 y11 y12 y13 y14)) ∧ (∀ y0 y1 y2 y3 y4 y5 y6 y7 y8 y9 y10 y11 y12 y13 y14 y15, LeO (coppicerref_Means.l3 k y0 y1 y2 y3 y4 y5 y6 y7 y8 y9 y10 y11 y12 y13 y14 y15) (coppicerref_Means.l3 (k + 1) y0 y1 y2 y3 y4 y5 y6 y7 y8 y9 y10 y11 y12 y13 y14 y15)) ∧ (∀ y0 y1 y2 y3 y4 y5 y6 y7 y8 y9 y10 y11 y12 y13 y14 y15, LeO (coppicerref_Means.j4 k y0 y1 y2 y3 y4 y5 y6 y7 y8 y9 y10 y11 y12 y13 y14 y15) (coppicerref_Means.j4 (k + 1) y0 y1 y2 y3 y4 y5 y6 y7 y8 y9 y10 y11 y12 y13 y14 y15)) ∧ (∀ y0 y1 y2 y3 y4 y5 y6 y7 y8 y9 y10 y11 y12 y13 y14 y15, LeO (coppicerref_Means.l4 k y0 y1 y2 y3 y4 y5 y6 y7 y8 y9 y10 y11 y12 y13 y14 y15) (coppicerref_Means.l4 (k + 1) y0 y1 y2 y3 y4 y5 y6 y7 y8 y9 y10 y11 y12 y13 y14 y15)) ∧ (∀ y0 y1 y2 y3 y4 y5 y6 y7 y8 y9 y10 y11 y12 y13 y14 y15, LeO (coppicerref_Means.j6 k y0 y1 y2 y3 y4 y5 y6 y7 y8 y9 y10 y11 y12 y13 y14 y15) (coppicerref_Means.j6 (k + 1) y0 y1 y2 y3 y4 y5 y6 y7 y8 y9 y10 y11 y12 y13 y14 y15))
  | 0 => ⟨fun _ _ _ _ _ _ _ r h => by simp [coppicerref_Means.l0] at h, fun _ _ _ _ _ _ _ _ _ _ _ _ r h => by simp [coppicerref_Means.l1] at h, fun _ _ _ _ _ _ _ _ _ _ _ _ _ r h => by simp [coppicerref_Means.l2] at h, fun _ _ _ _ _ _ _ _ _ _ _ _ _ _ _ r h => by simp [coppicerref_Means.j7] at h, fun _ _ _ _ _ _ _ _ _ _ _ _ _ _ _ _ r h => by simp [coppicerref_Means.l3] at h, fun _ _ _ _ _ _ _ _ _ _ _ _ _ _ _ _ r h => by simp [coppicerref_Means.j4] at h, fun _ _ _ _ _ _ _ _ _ _ _ _ _ _ _ _ r h => by simp [coppicerref_Means.l4] at h, fun _ _ _ _ _ _ _ _ _ _ _ _ _ _ _ _ r h => by simp [coppicerref_Means.j6] at h⟩
  | k + 1 => by
    obtain ⟨ih0, ih1, ih2, ih3, ih4, ih5, ih6, ih7⟩ := coppicerref_Means.mono_l k
    refine ⟨?_, ?_, ?_, ?_, ?_, ?_, ?_, ?_⟩
    · intro y0 y1 y2 y3 y4 y5 y6
      unfold coppicerref_Means.l0
      repeat' first
      | (with_reducible exact ih0 _ _ _ _ _ _ _)
      | (with_reducible exact ih1 _ _ _ _ _ _ _ _ _ _ _ _)
      | (with_reducible exact ih2 _ _ _ _ _ _ _ _ _ _ _ _ _)
      | (with_reducible exact ih3 _ _ _ _ _ _ _ _ _ _ _ _ _ _ _)
      | (with_reducible exact ih4 _ _ _ _ _ _ _ _ _ _ _ _ _ _ _ _)
      | (with_reducible exact ih5 _ _ _ _ _ _ _ _ _ _ _ _ _ _ _ _)
      | (with_reducible exact ih6 _ _ _ _ _ _ _ _ _ _ _ _ _ _ _ _)
      | (with_reducible exact ih7 _ _ _ _ _ _ _ _ _ _ _ _ _ _ _ _)
      | (with_reducible exact LeO.refl _)
      | (with_reducible exact LeO.none _)
      | (with_reducible refine LeO.ite ?_ ?_)
      | (with_reducible refine LeO.bind ?_ (fun _ => ?_))
      | exact ih0 _ _ _ _ _ _ _
      | exact ih1 _ _ _ _ _ _ _ _ _ _ _ _
      | exact ih2 _ _ _ _ _ _ _ _ _ _ _ _ _
      | exact ih3 _ _ _ _ _ _ _ _ _ _ _ _ _ _ _
      | exact ih4 _ _ _ _ _ _ _ _ _ _ _ _ _ _ _ _
      | exact ih5 _ _ _ _ _ _ _ _ _ _ _ _ _ _ _ _
      | exact ih6 _ _ _ _ _ _ _ _ _ _ _ _ _ _ _ _
      | exact ih7 _ _ _ _ _ _ _ _ _ _ _ _ _ _ _ _
      | exact LeO.none _
      | refine LeO.ite ?_ ?_
      | refine LeO.bind ?_ (fun _ => ?_)
    · intro y0 y1 y2 y3 y4 y5 y6 y7 y8 y9 y10 y11
      unfold coppicerref_Means.l1
      repeat' first
      | (with_reducible exact ih0 _ _ _ _ _ _ _)
      | (with_reducible exact ih1 _ _ _ _ _ _ _ _ _ _ _ _)
      | (with_reducible exact ih2 _ _ _ _ _ _ _ _ _ _ _ _ _)
      | (with_reducible exact ih3 _ _ _ _ _ _ _ _ _ _ _ _ _ _ _)
      | (with_reducible exact ih4 _ _ _ _ _ _ _ _ _ _ _ _ _ _ _ _)
      | (with_reducible exact ih5 _ _ _ _ _ _ _ _ _ _ _ _ _ _ _ _)
      | (with_reducible exact ih6 _ _ _ _ _ _ _ _ _ _ _ _ _ _ _ _)
      | (with_reducible exact ih7 _ _ _ _ _ _ _ _ _ _ _ _ _ _ _ _)
      | (with_reducible exact LeO.refl _)
      | (with_reducible exact LeO.none _)
      | (with_reducible refine LeO.ite ?_ ?_)
      | (with_reducible refine LeO.bind ?_ (fun _ => ?_))
      | exact ih0 _ _ _ _ _ _ _
      | exact ih1 _ _ _ _ _ _ _ _ _ _ _ _
      | exact ih2 _ _ _ _ _ _ _ _ _ _ _ _ _
      | exact ih3 _ _ _ _ _ _ _ _ _ _ _ _ _ _ _
      | exact ih4 _ _ _ _ _ _ _ _ _ _ _ _ _ _ _ _
      | exact ih5 _ _ _ _ _ _ _ _ _ _ _ _ _ _ _ _
      | exact ih6 _ _ _ _ _ _ _ _ _ _ _ _ _ _ _ _
      | exact ih7 _ _ _ _ _ _ _ _ _ _ _ _ _ _ _ _
      | exact LeO.none _
      | refine LeO.ite ?_ ?_
      | refine LeO.bind ?_ (fun _ => ?_)
    · intro y0 y1 y2 y3 y4 y5 y6 y7 y8 y9 y10 y11 y12
      unfold coppicerref_Means.l2
      repeat' first
      | (with_reducible exact ih0 _ _ _ _ _ _ _)
      | (with_reducible exact ih1 _ _ _ _ _ _ _ _ _ _ _ _)
      | (with_reducible exact ih2 _ _ _ _ _ _ _ _ _ _ _ _ _)
      | (with_reducible exact ih3 _ _ _ _ _ _ _ _ _ _ _ _ _ _ _)
      | (with_reducible exact ih4 _ _ _ _ _ _ _ _ _ _ _ _ _ _ _ _)
      | (with_reducible exact ih5 _ _ _ _ _ _ _ _ _ _ _ _ _ _ _ _)
      | (with_reducible exact ih6 _ _ _ _ _ _ _ _ _ _ _ _ _ _ _ _)
      | (with_reducible exact ih7 _ _ _ _ _ _ _ _ _ _ _ _ _ _ _ _)
      | (with_reducible exact LeO.refl _)
      | (with_reducible exact LeO.none _)
      | (with_reducible refine LeO.ite ?_ ?_)
      | (with_reducible refine LeO.bind ?_ (fun _ => ?_))
      | exact ih0 _ _ _ _ _ _ _
      | exact ih1 _ _ _ _ _ _ _ _ _ _ _ _
      | exact ih2 _ _ _ _ _ _ _ _ _ _ _ _ _
      | exact ih3 _ _ _ _ _ _ _ _ _ _ _ _ _ _ _
      | exact ih4 _ _ _ _ _ _ _ _ _ _ _ _ _ _ _ _
      | exact ih5 _ _ _ _ _ _ _ _ _ _ _ _ _ _ _ _
      | exact ih6 _ _ _ _ _ _ _ _ _ _ _ _ _ _ _ _
      | exact ih7 _ _ _ _ _ _ _ _ _ _ _ _ _ _ _ _
      | exact LeO.none _
      | refine LeO.ite ?_ ?_
      | refine LeO.bind ?_ (fun _ => ?_)
    · intro y0 y1 y2 y3 y4 y5 y6 y7 y8 y9 y10 y11 y12 y13 y14
      unfold coppicerref_Means.j7
      repeat' first
      | (with_reducible exact ih0 _ _ _ _ _ _ _)
      | (with_reducible exact ih1 _ _ _ _ _ _ _ _ _ _ _ _)
      | (with_reducible exact ih2 _ _ _ _ _ _ _ _ _ _ _ _ _)
      | (with_reducible exact ih3 _ _ _ _ _ _ _ _ _ _ _ _ _ _ _)
      | (with_reducible exact ih4 _ _ _ _ _ _ _ _ _ _ _ _ _ _ _ _)
      | (with_reducible exact ih5 _ _ _ _ _ _ _ _ _ _ _ _ _ _ _ _)
      | (with_reducible exact ih6 _ _ _ _ _ _ _ _ _ _ _ _ _ _ _ _)
      | (with_reducible exact ih7 _ _ _ _ _ _ _ _ _ _ _ _ _ _ _ _)
      | (with_reducible exact LeO.refl _)
      | (with_reducible exact LeO.none _)
      | (with_reducible refine LeO.ite ?_ ?_)
      | (with_reducible refine LeO.bind ?_ (fun _ => ?_))
      | exact ih0 _ _ _ _ _ _ _
      | exact ih1 _ _ _ _ _ _ _ _ _ _ _ _
      | exact ih2 _ _ _ _ _ _ _ _ _ _ _ _ _
      | exact ih3 _ _ _ _ _ _ _ _ _ _ _ _ _ _ _
      | exact ih4 _ _ _ _ _ _ _ _ _ _ _ _ _ _ _ _
      | exact ih5 _ _ _ _ _ _ _ _ _ _ _ _ _ _ _ _
      | exact ih6 _ _ _ _ _ _ _ _ _ _ _ _ _ _ _ _
      | exact ih7 _ _ _ _ _ _ _ _ _ _ _ _ _ _ _ _
      | exact LeO.none _
      | refine LeO.ite ?_ ?_
      | refine LeO.bind ?_ (fun _ => ?_)
    · intro y0 y1 y2 y3 y4 y5 y6 y7 y8 y9 y10 y11 y12 y13 y14 y15
      unfold coppicerref_Means.l3
      repeat' first
      | (with_reducible exact ih0 _ _ _ _ _ _ _)
      | (with_reducible exact ih1 _ _ _ _ _ _ _ _ _ _ _ _)
      | (with_reducible exact ih2 _ _ _ _ _ _ _ _ _ _ _ _ _)
      | (with_reducible exact ih3 _ _ _ _ _ _ _ _ _ _ _ _ _ _ _)
      | (with_reducible exact ih4 _ _ _ _ _ _ _ _ _ _ _ _ _ _ _ _)
      | (with_reducible exact ih5 _ _ _ _ _ _ _ _ _ _ _ _ _ _ _ _)
      | (with_reducible exact ih6 _ _ _ _ _ _ _ _ _ _ _ _ _ _ _ _)
      | (with_reducible exact ih7 _ _ _ _ _ _ _ _ _ _ _ _ _ _ _ _)
      | (with_reducible exact LeO.refl _)
      | (with_reducible exact LeO.none _)
      | (with_reducible refine LeO.ite ?_ ?_)
      | (with_reducible refine LeO.bind ?_ (fun _ => ?_))
      | exact ih0 _ _ _ _ _ _ _
      | exact ih1 _ _ _ _ _ _ _ _ _ _ _ _
      | exact ih2 _ _ _ _ _ _ _ _ _ _ _ _ _
      | exact ih3 _ _ _ _ _ _ _ _ _ _ _ _ _ _ _
      | exact ih4 _ _ _ _ _ _ _ _ _ _ _ _ _ _ _ _
      | exact ih5 _ _ _ _ _ _ _ _ _ _ _ _ _ _ _ _
      | exact ih6 _ _ _ _ _ _ _ _ _ _ _ _ _ _ _ _
      | exact ih7 _ _ _ _ _ _ _ _ _ _ _ _ _ _ _ _
      | exact LeO.none _
      | refine LeO.ite ?_ ?_
      | refine LeO.bind ?_ (fun _ => ?_)
    · intro y0 y1 y2 y3 y4 y5 y6 y7 y8 y9 y10 y11 y12 y13 y14 y15
      unfold coppicerref_Means.j4
      repeat' first
      | (with_reducible exact ih0 _ _ _ _ _ _ _)
      | (with_reducible exact ih1 _ _ _ _ _ _ _ _ _ _ _ _)
      | (with_reducible exact ih2 _ _ _ _ _ _ _ _ _ _ _ _ _)
      | (with_reducible exact ih3 _ _ _ _ _ _ _ _ _ _ _ _ _ _ _)
      | (with_reducible exact ih4 _ _ _ _ _ _ _ _ _ _ _ _ _ _ _ _)
      | (with_reducible exact ih5 _ _ _ _ _ _ _ _ _ _ _ _ _ _ _ _)
      | (with_reducible exact ih6 _ _ _ _ _ _ _ _ _ _ _ _ _ _ _ _)
      | (with_reducible exact ih7 _ _ _ _ _ _ _ _ _ _ _ _ _ _ _ _)
      | (with_reducible exact LeO.refl _)
      | (with_reducible exact LeO.none _)
      | (with_reducible refine LeO.ite ?_ ?_)
      | (with_reducible refine LeO.bind ?_ (fun _ => ?_))
      | exact ih0 _ _ _ _ _ _ _
      | exact ih1 _ _ _ _ _ _ _ _ _ _ _ _
      | exact ih2 _ _ _ _ _ _ _ _ _ _ _ _ _
      | exact ih3 _ _ _ _ _ _ _ _ _ _ _ _ _ _ _
      | exact ih4 _ _ _ _ _ _ _ _ _ _ _ _ _ _ _ _
      | exact ih5 _ _ _ _ _ _ _ _ _ _ _ _ _ _ _ _
      | exact ih6 _ _ _ _ _ _ _ _ _ _ _ _ _ _ _ _
      | exact ih7 _ _ _ _ _ _ _ _ _ _ _ _ _ _ _ _
      | exact LeO.none _
      | refine LeO.ite ?_ ?_
      | refine LeO.bind ?_ (fun _ => ?_)
    · intro y0 y1 y2 y3 y4 y5 y6 y7 y8 y9 y10 y11 y12 y13 y14 y15
      unfold coppicerref_Means.l4
      repeat' first
      | (with_reducible exact ih0 _ _ _ _ _ _ _)
      | (with_reducible exact ih1 _ _ _ _ _ _ _ _ _ _ _ _)
      | (with_reducible exact ih2 _ _ _ _ _ _ _ _ _ _ _ _ _)
      | (with_reducible exact ih3 _ _ _ _ _ _ _ _ _ _ _ _ _ _ _)
      | (with_reducible exact ih4 _ _ _ _ _ _ _ _ _ _ _ _ _ _ _ _)
      | (with_reducible exact ih5 _ _ _ _ _ _ _ _ _ _ _ _ _ _ _ _)
      | (with_reducible exact ih6 _ _ _ _ _ _ _ _ _ _ _ _ _ _ _ _)
      | (with_reducible exact ih7 _ _ _ _ _ _ _ _ _ _ _ _ _ _ _ _)
      | (with_reducible exact LeO.refl _)
      | (with_reducible exact LeO.none _)
      | (with_reducible refine LeO.ite ?_ ?_)
      | (with_reducible refine LeO.bind ?_ (fun _ => ?_))
      | exact ih0 _ _ _ _ _ _ _
      | exact ih1 _ _ _ _ _ _ _ _ _ _ _ _
      | exact ih2 _ _ _ _ _ _ _ _ _ _ _ _ _
      | exact ih3 _ _ _ _ _ _ _ _ _ _ _ _ _ _ _
      | exact ih4 _ _ _ _ _ _ _ _ _ _ _ _ _ _ _ _
      | exact ih5 _ _ _ _ _ _ _ _ _ _ _ _ _ _ _ _
      | exact ih6 _ _ _ _ _ _ _ _ _ _ _ _ _ _ _ _
      | exact ih7 _ _ _ _ _ _ _ _ _ _ _ _ _ _ _ _
      | exact LeO.none _
      | refine LeO.ite ?_ ?_
      | refine LeO.bind ?_ (fun _ => ?_)
    · intro y0 y1 y2 y3 y4 y5 y6 y7 y8 y9 y10 y11 y12 y13 y14 y15
      unfold coppicerref_Means.j6
      repeat' first
      | (with_reducible exact ih0 _ _ _ _ _ _ _)
      | (with_reducible exact ih1 _ _ _ _ _ _ _ _ _ _ _ _)
      | (with_reducible exact ih2 _ _ _ _ _ _ _ _ _ _ _ _ _)
      | (with_reducible exact ih3 _ _ _ _ _ _ _ _ _ _ _ _ _ _ _)
      | (with_reducible exact ih4 _ _ _ _ _ _ _ _ _ _ _ _ _ _ _ _)
      | (with_reducible exact ih5 _ _ _ _ _ _ _ _ _ _ _ _ _ _ _ _)
      | (with_reducible exact ih6 _ _ _ _ _ _ _ _ _ _ _ _ _ _ _ _)
      | (with_reducible exact ih7 _ _ _ _ _ _ _ _ _ _ _ _ _ _ _ _)
      | (with_reducible exact LeO.refl _)
      | (with_reducible exact LeO.none _)
      | (with_reducible refine LeO.ite ?_ ?_)
      | (with_reducible refine LeO.bind ?_ (fun _ => ?_))
      | exact ih0 _ _ _ _ _ _ _
      | exact ih1 _ _ _ _ _ _ _ _ _ _ _ _
      | exact ih2 _ _ _ _ _ _ _ _ _ _ _ _ _
      | exact ih3 _ _ _ _ _ _ _ _ _ _ _ _ _ _ _
      | exact ih4 _ _ _ _ _ _ _ _ _ _ _ _ _ _ _ _
      | exact ih5 _ _ _ _ _ _ _ _ _ _ _ _ _ _ _ _
      | exact ih6 _ _ _ _ _ _ _ _ _ _ _ _ _ _ _ _
      | exact ih7 _ _ _ _ _ _ _ _ _ _ _ _ _ _ _ _
      | exact LeO.none _
      | refine LeO.ite ?_ ?_
      | refine LeO.bind ?_ (fun _ => ?_)
theorem coppicerref_Means.mono : ∀ a0 a1 k, LeO (coppicerref_Means.f k a0 a1) (coppicerref_Means.f (k + 1) a0 a1) := by
  intro a0 a1 k
  obtain ⟨ih0, ih1, ih2, ih3, ih4, ih5, ih6, ih7⟩ := coppicerref_Means.mono_l k
  unfold coppicerref_Means.f
  repeat' first
      | (with_reducible exact ih0 _ _ _ _ _ _ _)
      | (with_reducible exact ih1 _ _ _ _ _ _ _ _ _ _ _ _)
      | (with_reducible exact ih2 _ _ _ _ _ _ _ _ _ _ _ _ _)
      | (with_reducible exact ih3 _ _ _ _ _ _ _ _ _ _ _ _ _ _ _)
      | (with_reducible exact ih4 _ _ _ _ _ _ _ _ _ _ _ _ _ _ _ _)
      | (with_reducible exact ih5 _ _ _ _ _ _ _ _ _ _ _ _ _ _ _ _)
      | (with_reducible exact ih6 _ _ _ _ _ _ _ _ _ _ _ _ _ _ _ _)
      | (with_reducible exact ih7 _ _ _ _ _ _ _ _ _ _ _ _ _ _ _ _)
      | (with_reducible exact LeO.refl _)
      | (with_reducible exact LeO.none _)
      | (with_reducible refine LeO.ite ?_ ?_)
      | (with_reducible refine LeO.bind ?_ (fun _ => ?_))
      | exact ih0 _ _ _ _ _ _ _
      | exact ih1 _ _ _ _ _ _ _ _ _ _ _ _
      | exact ih2 _ _ _ _ _ _ _ _ _ _ _ _ _
      | exact ih3 _ _ _ _ _ _ _ _ _ _ _ _ _ _ _
      | exact ih4 _ _ _ _ _ _ _ _ _ _ _ _ _ _ _ _
      | exact ih5 _ _ _ _ _ _ _ _ _ _ _ _ _ _ _ _
      | exact ih6 _ _ _ _ _ _ _ _ _ _ _ _ _ _ _ _
      | exact ih7 _ _ _ _ _ _ _ _ _ _ _ _ _ _ _ _
      | exact LeO.none _
      | refine LeO.ite ?_ ?_
      | refine LeO.bind ?_ (fun _ => ?_)
set_option maxHeartbeats 8000000 in
set_option maxRecDepth 100000 in
theorem coppicerref_Means.calls (k : Nat) (A0 : Option Addr) (c0 : Nat) (l0 : List (S67)) (A1 : Option Addr) (c1 : Nat) (l1 : List Int) (r : Bool) (w : World) (hr0 : Kd.C k67 w A0 l0.length l0) (hc0 : l0.length ≤ c0) (hr1 : Kd.C (Kd.int .i64) w A1 l1.length l1) (hc1 : l1.length ≤ c1) (h : coppicerref_Means.f k l0 l1 = some r) :
    Calls Try.prog 15 #[.slice A0 l0.length c0, .slice A1 l1.length c1] w fun e w' => e = .returned (.bool r) ∧ Below w.heap.size w w' := by
  have hu67 := Try.underlying67
  have hu3 := Try.underlying3
  have HR0 := Aside0.mk hr0
  have HC0 := Aside0.mk hc0
  clear hr0 hc0
  have HR1 := Aside0.mk hr1
  have HC1 := Aside0.mk hc1
  clear hr1 hc1
  have HB := Aside0.mk (Below.refl w.heap.size w)
  have H : (if 0 ≤ (l0.length : Int) then (if ((l0.length : Int) : Int).toNat ≤ 11728124029610 then (coppicerref_Means.l0 k l0 l1 (wrap64 ((l1.length : Int) + 1)) (List.replicate ((l0.length : Int) : Int).toNat []) l0 (l0.length : Int) 0) else (none)) else (none)) = some r := h
  clear h
  by_cases c3 : 0 ≤ (l0.length : Int)
  · rw [if_pos c3] at H
    have c3b0 := eq_true c3
    have c3b1 : decide (0 ≤ (l0.length : Int)) = true := decide_eq_true c3
    clear c3
    by_cases c4 : ((l0.length : Int) : Int).toNat ≤ 11728124029610
    · rw [if_pos c4] at H
      have c4b0 := eq_true c4
      have c4b1 : decide (((l0.length : Int) : Int).toNat ≤ 11728124029610) = true := decide_eq_true c4
      clear c4
      obtain ⟨y119, hy119⟩ : ∃ y_ : List (List Bool), y_ = (List.replicate ((l0.length : Int) : Int).toNat []) := ⟨_, rfl⟩
      replace H : (coppicerref_Means.l0 k l0 l1 (wrap64 ((l1.length : Int) + 1)) y119 l0 (l0.length : Int) 0) = some r := by first | (rw [hy119]; with_reducible exact H) | (have H2_ := (Option.bind_some _ _).symm.trans H; rw [hy119]; with_reducible exact H2_) | (have H2_ := (Option.bind_some _ _).symm.trans H; with_reducible exact H2_) | with_reducible exact H | (rw [hy119]; exact H) | exact H
      have Ny119 := Aside0.mk hy119
      clear hy119
      have H' := Aside0.mk H
      clear H
      go_enter Try.func15, Try.ntmps15
      go_wp2_with (first | ((with_reducible refine gate_dst (N := 20) rfl ?_); (try (refine gate_guard (by rfl) ?_; dsimp only)); refine Kd.S_make (Kd.slice 4 Kd.bool) _ 69 rfl (N := 20) rfl 68 _ _ rfl (l0.length : Int) rfl rfl Try.underlying68 (.slice none 0 0) 24 info69 rfl (by decide) (by omega) [] (ok := fun _ => True) (okp := fun _ => True) ⟨_, rfl, Kd.R_nil _ _ _ _ _⟩ (fun _ hk => hk) trivial (of_decide_eq_true (by first | (with_reducible assumption) | assumption)) (Nat.le_trans (Nat.mul_le_mul_right _ (of_decide_eq_true (by first | (with_reducible assumption) | assumption) : (l0.length : Int).toNat ≤ 11728124029610)) (by omega)) (Below.refl _ _) (Nat.le_refl _) ?_; intro v120 w5 ho6 hb hg_ hnew_; clear hg_ hnew_; (first | rw [← Ny119.out] at ho6 | (simp only [Int.reduceToNat] at ho6; rw [← Ny119.out] at ho6)); have n0_ := Aside0.mk (Kd.S_lower ho6 (below_size (by repeat (first | (with_reducible first | exact HB.out | apply below_alloc | apply pw_below_drewN | apply below_drew1) | exact HB.out)))); have n1_ := Aside0.mk (below_step (by repeat (first | (with_reducible first | exact HB.out | apply below_alloc | apply pw_below_drewN | apply below_drew1) | exact HB.out)) hb); clear HB; have HO121 := n0_; have HB := n1_; clear n0_ n1_; clear hb ho6))
      repeat (go_quiet (first | ((with_reducible refine gate_dst (N := 20) rfl ?_); (try (refine gate_guard (by rfl) ?_; dsimp only)); refine Kd.S_make (Kd.slice 4 Kd.bool) _ 69 rfl (N := 20) rfl 68 _ _ rfl (l0.length : Int) rfl rfl Try.underlying68 (.slice none 0 0) 24 info69 rfl (by decide) (by omega) [] (ok := fun _ => True) (okp := fun _ => True) ⟨_, rfl, Kd.R_nil _ _ _ _ _⟩ (fun _ hk => hk) trivial (of_decide_eq_true (by first | (with_reducible assumption) | assumption)) (Nat.le_trans (Nat.mul_le_mul_right _ (of_decide_eq_true (by first | (with_reducible assumption) | assumption) : (l0.length : Int).toNat ≤ 11728124029610)) (by omega)) (Below.refl _ _) (Nat.le_refl _) ?_; intro v120 w5 ho6 hb hg_ hnew_; clear hg_ hnew_; (first | rw [← Ny119.out] at ho6 | (simp only [Int.reduceToNat] at ho6; rw [← Ny119.out] at ho6)); have n0_ := Aside0.mk (Kd.S_lower ho6 (below_size (by repeat (first | (with_reducible first | exact HB.out | apply below_alloc | apply pw_below_drewN | apply below_drew1) | exact HB.out)))); have n1_ := Aside0.mk (below_step (by repeat (first | (with_reducible first | exact HB.out | apply below_alloc | apply pw_below_drewN | apply below_drew1) | exact HB.out)) hb); clear HB; have HO121 := n0_; have HB := n1_; clear n0_ n1_; clear hb ho6)); try go_wp2_with (first | ((with_reducible refine gate_dst (N := 20) rfl ?_); (try (refine gate_guard (by rfl) ?_; dsimp only)); refine Kd.S_make (Kd.slice 4 Kd.bool) _ 69 rfl (N := 20) rfl 68 _ _ rfl (l0.length : Int) rfl rfl Try.underlying68 (.slice none 0 0) 24 info69 rfl (by decide) (by omega) [] (ok := fun _ => True) (okp := fun _ => True) ⟨_, rfl, Kd.R_nil _ _ _ _ _⟩ (fun _ hk => hk) trivial (of_decide_eq_true (by first | (with_reducible assumption) | assumption)) (Nat.le_trans (Nat.mul_le_mul_right _ (of_decide_eq_true (by first | (with_reducible assumption) | assumption) : (l0.length : Int).toNat ≤ 11728124029610)) (by omega)) (Below.refl _ _) (Nat.le_refl _) ?_; intro v120 w5 ho6 hb hg_ hnew_; clear hg_ hnew_; (first | rw [← Ny119.out] at ho6 | (simp only [Int.reduceToNat] at ho6; rw [← Ny119.out] at ho6)); have n0_ := Aside0.mk (Kd.S_lower ho6 (below_size (by repeat (first | (with_reducible first | exact HB.out | apply below_alloc | apply pw_below_drewN | apply below_drew1) | exact HB.out)))); have n1_ := Aside0.mk (below_step (by repeat (first | (with_reducible first | exact HB.out | apply below_alloc | apply pw_below_drewN | apply below_drew1) | exact HB.out)) hb); clear HB; have HO121 := n0_; have HB := n1_; clear n0_ n1_; clear hb ho6)))
      go_loopg [23] k (fun kq v23 w' => ∃ (x6_1 : List (List Bool)) (x23_1 : Int), v23 = .int .i64 x23_1 ∧ Aside0 (coppicerref_Means.l0 kq l0 l1 (wrap64 ((l1.length : Int) + 1)) x6_1 l0 (l0.length : Int) x23_1 = some r) ∧ Aside0 (kq ≤ k) ∧ Aside0 (Kd.S (Kd.slice 4 Kd.bool) 69 w' w.heap.size (fun _ => True) v120 x6_1) ∧ Aside0 (Below w.heap.size w w'))
      case atStart => exact ⟨(y119), (0), (by first | rfl | (simp; done) | (simp [*]; done)), H', ⟨Nat.le_refl _⟩, ⟨by (with_reducible repeat (first | apply Kd.S_alloc | apply Kd.S_drewN | apply Kd.S_drew)); exact HO121.out⟩, ⟨by repeat (first | (with_reducible first | exact HB.out | apply below_alloc | apply pw_below_drewN | apply below_drew1) | exact HB.out)⟩⟩
      case round =>
        clear H'
        try clear c1
        try clear p2
        try clear c3
        try clear c3b0
        try clear c3b1
        try clear c4
        try clear c4b0
        try clear c4b1
        try clear p6
        obtain ⟨x6_1, x23_1, rfl, HA, HK1, HO_6, HB⟩ := hrel
        cases gk with
        | zero => exact absurd HA.out (by simp [coppicerref_Means.l0])
        | succ k1 =>
          have H := HA.out
          clear HA
          simp only [coppicerref_Means.l0] at H
          by_cases c7 : x23_1 < (l0.length : Int)
          · rw [if_pos c7] at H
            have c7b0 : decide (x23_1 < (l0.length : Int)) = true := decide_eq_true c7
            clear c7
            by_cases c8 : 0 ≤ x23_1
            · rw [if_pos c8] at H
              have c8b0 : decide (0 ≤ x23_1) = true := decide_eq_true c8
              clear c8
              by_cases c9 : x23_1 < (l0.length : Int)
              · rw [if_pos c9] at H
                have c9b0 : decide (x23_1 < (l0.length : Int)) = true := decide_eq_true c9
                clear c9
                obtain ⟨ji10, hji10⟩ : ∃ j_ : Int, (wrap64 ((wrap64 ((l1.length : Int) + 1)) * (wrap64 ((l1.length : Int) + 1)))) = j_ := ⟨_, rfl⟩
                replace H : (if 0 ≤ (ji10) then (if (ji10 : Int).toNat ≤ 281474976710656 then (if x23_1 < (x6_1.length : Int) then (coppicerref_Means.l1 k1 l0 l1 (wrap64 ((l1.length : Int) + 1)) (x6_1.set (x23_1 : Int).toNat (List.replicate (ji10 : Int).toNat false)) x23_1 0 l0 (l0.length : Int) x23_1 ((rd_T67 l0 x23_1).f0) ((rd_T67 l0 x23_1).f1) ((rd_T67 l0 x23_1).f2)) else (none)) else (none)) else (none)) = some r := by first | (rw [hji10] at H; exact H) | (simp only [hji10] at H ⊢; exact H)
                have hji10w : (IntKind.i64.wrap ((wrap64 ((l1.length : Int) + 1)) * (wrap64 ((l1.length : Int) + 1)))) = ji10 := (i64_w _).trans hji10
                by_cases c11 : 0 ≤ (ji10)
                · rw [if_pos c11] at H
                  have c11b0 := eq_true c11
                  have c11b1 : decide (0 ≤ (ji10)) = true := decide_eq_true c11
                  clear c11
                  by_cases c12 : (ji10 : Int).toNat ≤ 281474976710656
                  · rw [if_pos c12] at H
                    have c12b0 := eq_true c12
                    have c12b1 : decide ((ji10 : Int).toNat ≤ 281474976710656) = true := decide_eq_true c12
                    clear c12
                    obtain ⟨y124, hy124⟩ : ∃ y_ : List Bool, y_ = (List.replicate (ji10 : Int).toNat false) := ⟨_, rfl⟩
                    replace H : (if x23_1 < (x6_1.length : Int) then (coppicerref_Means.l1 k1 l0 l1 (wrap64 ((l1.length : Int) + 1)) (x6_1.set (x23_1 : Int).toNat y124) x23_1 0 l0 (l0.length : Int) x23_1 ((rd_T67 l0 x23_1).f0) ((rd_T67 l0 x23_1).f1) ((rd_T67 l0 x23_1).f2)) else (none)) = some r := by first | (rw [hy124]; with_reducible exact H) | (have H2_ := (Option.bind_some _ _).symm.trans H; rw [hy124]; with_reducible exact H2_) | (have H2_ := (Option.bind_some _ _).symm.trans H; with_reducible exact H2_) | with_reducible exact H | (rw [hy124]; exact H) | exact H
                    have Ny124 := Aside0.mk hy124
                    clear hy124
                    by_cases c13 : x23_1 < (x6_1.length : Int)
                    · rw [if_pos c13] at H
                      have c13b0 : decide (x23_1 < (x6_1.length : Int)) = true := decide_eq_true c13
                      clear c13
                      obtain ⟨y127, hy127⟩ : ∃ y_ : List (List Bool), y_ = (x6_1.set (x23_1 : Int).toNat y124) := ⟨_, rfl⟩
                      replace H : (coppicerref_Means.l1 k1 l0 l1 (wrap64 ((l1.length : Int) + 1)) y127 x23_1 0 l0 (l0.length : Int) x23_1 ((rd_T67 l0 x23_1).f0) ((rd_T67 l0 x23_1).f1) ((rd_T67 l0 x23_1).f2)) = some r := by first | (rw [hy127]; with_reducible exact H) | (have H2_ := (Option.bind_some _ _).symm.trans H; rw [hy127]; with_reducible exact H2_) | (have H2_ := (Option.bind_some _ _).symm.trans H; with_reducible exact H2_) | with_reducible exact H | (rw [hy127]; exact H) | exact H
                      have Ny127 := Aside0.mk hy127
                      clear hy127
                      have H' := Aside0.mk H
                      clear H
                      have p122 : 0 ≤ (x23_1 : Int) := of_decide_eq_true (by first | (with_reducible assumption) | assumption)
                      have q122 : x23_1 < (l0.length : Int) := of_decide_eq_true (by first | (with_reducible assumption) | assumption)
                      obtain ⟨ad122, e122, hx122_0, hx122_1, hx122_2⟩ := at_T67 HR0.out x23_1 p122 q122
                      cases e122
                      replace hx122_0 := (HB.out.cell (World.block_lt_of_cell? w _ hx122_0)).trans hx122_0
                      replace hx122_1 := (HB.out.cell (World.block_lt_of_cell? w _ hx122_1)).trans hx122_1
                      replace hx122_2 := (HB.out.cell (World.block_lt_of_cell? w _ hx122_2)).trans hx122_2
                      replace p122 := eq_true p122
                      replace q122 := eq_true q122
                      go_wp2_with (first | ((with_reducible refine gate_dst (N := 8) rfl ?_); (try (refine gate_guard (by rfl) ?_; dsimp only)); refine box_event ?hg (N := 8) ?hd (cs := #[.int .i64 0, .int .i64 0, .int .i64 0]) (t := 67) ?hr ?_; (case hd => rfl); (case hg => rfl); (case hr => first | (go_simp; done) | (go_simp; rfl)); intro gb123 hg w15 hbox hb; have n0_ := Aside0.mk (Kd.S_below (by (with_reducible repeat (first | apply Kd.S_alloc | apply Kd.S_drewN | apply Kd.S_drew)); exact HO_6.out) hb); have n1_ := Aside0.mk (below_step (by repeat (first | (with_reducible first | exact HB.out | apply below_alloc | apply pw_below_drewN | apply below_drew1) | exact HB.out)) hb); have n2_ := Aside0.mk (hbox); have n3_ := Aside0.mk ((by rw [hg]; exact (below_size (by repeat (first | (with_reducible first | exact HB.out | apply below_alloc | apply pw_below_drewN | apply below_drew1) | exact HB.out))) : w.heap.size ≤ gb123)); have n4_ := Aside0.mk ((by rw [hg]; exact (below_size (by repeat (first | (with_reducible first | exact HB.out | apply below_alloc | apply pw_below_drewN | apply below_drew1) | exact HB.out))) : w.heap.size ≤ gb123)); clear HO_6; clear HB; have HO_6 := n0_; have HB := n1_; have BK123 := n2_; have GW123 := n3_; have GE123 := n4_; clear n0_ n1_ n2_ n3_ n4_; clear hb hbox hg; have hcz16_0 : w15.cell? ⟨gb123, 0, none⟩ = some (.int .i64 0) := (blk_cell BK123.out 0).trans rfl; have hcz16_1 : w15.cell? ⟨gb123, 1, none⟩ = some (.int .i64 0) := (blk_cell BK123.out 1).trans rfl; have hcz16_2 : w15.cell? ⟨gb123, 2, none⟩ = some (.int .i64 0) := (blk_cell BK123.out 2).trans rfl; have hfz16_0 := blk_frozen BK123.out 0; have hfz16_1 := blk_frozen BK123.out 1; have hfz16_2 := blk_frozen BK123.out 2) | ((with_reducible refine gate_dst (N := 33) rfl ?_); (try (refine gate_guard (by rfl) ?_; dsimp only)); refine Kd.R_make Kd.bool _ 4 rfl (N := 33) rfl 69 _ _ rfl ji10 rfl rfl Try.underlying69 (.bool false) 1 info4 rfl (by decide) (by omega) false (ok := fun _ => True) (okp := fun _ => True) rfl (fun _ hk => hk) trivial (of_decide_eq_true (by first | (with_reducible assumption) | assumption)) (Nat.le_trans (Nat.mul_le_mul_right _ (of_decide_eq_true (by first | (with_reducible assumption) | assumption) : ji10.toNat ≤ 281474976710656)) (by omega)) (Below.refl _ _) (Nat.le_refl _) ?_; intro v125 w17 ho18 hb hg_ hnew_; clear hg_ hnew_; (first | rw [← Ny124.out] at ho18 | (simp only [Int.reduceToNat] at ho18; rw [← Ny124.out] at ho18)); have n0_ := Aside0.mk (Kd.S_elder' (by (with_reducible repeat (first | apply Kd.S_alloc | apply Kd.S_drewN | apply Kd.S_drew)); exact (Kd.S_mono (Kd.S_far (p := ⟨gb123, 2, none⟩) (Kd.S_far (p := ⟨gb123, 1, none⟩) (Kd.S_far (p := ⟨gb123, 0, none⟩) (Kd.S_types HO_6.out BK123.out (by decide)) (fun _ hk => hk.2) (.int .i64 ((rd_T67 l0 x23_1).f0))) (fun _ hk => hk.2) (.int .i64 ((rd_T67 l0 x23_1).f1))) (fun _ hk => hk.2) (.int .i64 ((rd_T67 l0 x23_1).f2))) (fun _ h_ => h_.1))) (Kd.R_base ho18) hb); have n1_ := Aside0.mk (Kd.R_lower ho18 (below_size (by repeat (first | (with_reducible first | exact HB.out | apply below_alloc | apply pw_below_drewN | apply below_drew1 | refine below_set ?_ GE123.out) | exact HB.out)))); have n2_ := Aside0.mk (blk_below (g := gb123) (o := .cells #[.int .i64 ((rd_T67 l0 x23_1).f0), .int .i64 ((rd_T67 l0 x23_1).f1), .int .i64 ((rd_T67 l0 x23_1).f2)] 67 (0, 0)) (by (with_reducible repeat (first | refine blk_drewN ?_ _ | refine blk_drew ?_ | refine blk_alloc ?_ _)); refine blk_put (cs := #[.int .i64 ((rd_T67 l0 x23_1).f0), .int .i64 ((rd_T67 l0 x23_1).f1), .int .i64 0]) ?_ 2 _ rfl; (with_reducible repeat (first | refine blk_drewN ?_ _ | refine blk_drew ?_ | refine blk_alloc ?_ _)); refine blk_put (cs := #[.int .i64 ((rd_T67 l0 x23_1).f0), .int .i64 0, .int .i64 0]) ?_ 1 _ rfl; (with_reducible repeat (first | refine blk_drewN ?_ _ | refine blk_drew ?_ | refine blk_alloc ?_ _)); refine blk_put (cs := #[.int .i64 0, .int .i64 0, .int .i64 0]) ?_ 0 _ rfl; (with_reducible repeat (first | refine blk_drewN ?_ _ | refine blk_drew ?_ | refine blk_alloc ?_ _)); exact BK123.out) hb); have n3_ := Aside0.mk (below_step (by repeat (first | (with_reducible first | exact HB.out | apply below_alloc | apply pw_below_drewN | apply below_drew1 | refine below_set ?_ GE123.out) | exact HB.out)) hb); clear HO_6; clear BK123; clear HB; have HO_6 := n0_; have HO126 := n1_; have BK123 := n2_; have HB := n3_; clear n0_ n1_ n2_ n3_; clear hb ho18; have p14 : 0 ≤ (x23_1 : Int) := of_decide_eq_true (by first | (with_reducible assumption) | assumption); have q14 : (x23_1 : Int) < ((x6_1.length : Int) : Int) := of_decide_eq_true (by first | (with_reducible assumption) | assumption); obtain ⟨go14, co14, eo14, gb14, gl14, cl14, HG14⟩ := Kd.S_form HO_6.out (by omega); (first | cases eo14 | (injection eo14 with ea_ en_ ec_; (first | subst ea_ | (injection ea_ with ea_; subst ea_)); subst ec_; clear en_)); have GB14 := Aside0.mk gb14; have GG14 := Aside0.mk HG14; clear gb14 gl14 HG14; obtain ⟨_, ce14, hcl14, hM14, hcc14, hfr14, _, _⟩ := Kd.S_elem HO_6.out [] (x23_1 : Int) p14 q14; obtain ⟨ve14_0, rfl, ge14_0⟩ := hM14; have hx14_0 := hcc14 0 _ rfl; have hf14_0 := hfr14 0; (try simp only [show ((Kd.slice 4 Kd.bool)).sz = 1 from rfl, Nat.mul_one, Nat.add_zero] at hx14_0); (try simp only [show ((Kd.slice 4 Kd.bool)).sz = 1 from rfl, Nat.mul_one, Nat.add_zero] at hf14_0); (try clear hcl14); (try clear hcc14); (try clear hfr14); (try clear hM14); replace p14 := eq_true p14; replace q14 := eq_true q14; have n_ := Aside0.mk (Kd.S_mono (ok' := (fun k_ => some k_ ≠ (v125 : Value).ownBlock)) HO_6.out (fun k_ hk => hk.2)); clear HO_6; have HO_6 := n_; clear n_; have HX19 := Aside0.mk (show Kd.S (Kd.slice 4 Kd.bool) 69 w17 w.heap.size (fun k_ => ((fun _ => True)) k_ ∧ ¬ ((fun k_ => some k_ = (v125 : Value).ownBlock)) k_) (.slice (some ⟨go14, 0, none⟩) x6_1.length co14) x6_1 from (by (with_reducible repeat (first | apply Kd.S_alloc | apply Kd.S_drewN | apply Kd.S_drew)); exact Kd.S_mono HO_6.out (fun k_ hk => ⟨trivial, fun e_ => hk e_⟩))); obtain ⟨oki19, ce19, hcl19, hM19, hcc19, hfr19, hoki19, hH19⟩ := Kd.S_elem HX19.out [] (x23_1 : Int) (of_decide_eq_true (by first | (with_reducible assumption) | assumption)) (by have h_ : (x23_1 : Int) < ((x6_1.length : Int) : Int) := of_decide_eq_true (by first | (with_reducible assumption) | assumption); first | exact h_ | (have e_ := (Kd.S_reads' HO_6.out).1; omega) | simpa using h_); obtain ⟨ve19_0, rfl, ge19_0⟩ := hM19; have HP19 := Kd.S_seg hH19 (of_decide_eq_true (by first | (with_reducible assumption) | assumption)) (by have h_ : (x23_1 : Int) < ((x6_1.length : Int) : Int) := of_decide_eq_true (by first | (with_reducible assumption) | assumption); first | exact h_ | (have e_ := (Kd.S_reads' HO_6.out).1; omega) | simpa using h_) (seg := [v125]) (j := 0) (show 1 ≤ 1 from by decide) (x' := y124) (Kd.M_row (Kd.R_mono (Kd.R_tight rfl (Kd.R_mono (ok' := fun k_ => ((fun _ => True)) k_ ∧ k_ ≠ go14) (Kd.R_apart' (HO126.out) (Kd.S_typed HO_6.out) (by decide)) (fun k_ hk => ⟨trivial, fun e_ => (hk.2) (by rw [e_]; rfl)⟩))) (fun _ h_ => Or.inr (h_)))) (fun _ hk => hk) (fun k_ hk_ => ((Kd.R_mono (ok' := fun k_ => ((fun _ => True)) k_ ∧ k_ ≠ go14) (Kd.R_apart' (HO126.out) (Kd.S_typed HO_6.out) (by decide)) (fun k_ hk => ⟨trivial, fun e_ => (hk.2) (by rw [e_]; rfl)⟩))).1 k_ hk_.symm); have hx19_0 := hcc19 0 _ rfl; (try simp only [show ((Kd.slice 4 Kd.bool)).sz = 1 from rfl, Nat.mul_one, Nat.add_zero] at hx19_0); have hf19_0 := hfr19 0; (try simp only [show ((Kd.slice 4 Kd.bool)).sz = 1 from rfl, Nat.mul_one, Nat.add_zero] at hf19_0); (try clear hcl19); (try clear hcc19); (try clear hfr19); (try clear hM19); (try clear hoki19); (try clear hH19); (try simp only [show ((Kd.slice 4 Kd.bool)).sz = 1 from rfl, Nat.mul_one, Nat.add_zero] at HP19)) | ((with_reducible refine gate_store (t := 69) (p := 34) rfl ?_); (try (rw [drewN_self w17]; generalize hq_ : World.drewN w17 _ = w17; (try (have nx_ := Aside0.mk (Kd.S_at hq_ HO_6.out); clear HO_6; have HO_6 := nx_; clear nx_)); (try (have nx_ := Aside0.mk (blk_at hq_ BK123.out); clear BK123; have BK123 := nx_; clear nx_)); (try (have nx_ := Aside0.mk (below_at hq_ HB.out); clear HB; have HB := nx_; clear nx_)); (try clear hq_); (try (have n_ := Aside0.mk (Kd.S_mono (ok' := (fun k_ => some k_ ≠ (v125 : Value).ownBlock)) HO_6.out (fun k_ hk => hk.2)); clear HO_6; have HO_6 := n_; clear n_)); (try (have HX19 := Aside0.mk (show Kd.S (Kd.slice 4 Kd.bool) 69 w17 w.heap.size (fun k_ => ((fun _ => True)) k_ ∧ ¬ ((fun k_ => some k_ = (v125 : Value).ownBlock)) k_) (.slice (some ⟨go14, 0, none⟩) x6_1.length co14) x6_1 from (by (with_reducible repeat (first | apply Kd.S_alloc | apply Kd.S_drewN | apply Kd.S_drew)); exact Kd.S_mono HO_6.out (fun k_ hk => ⟨trivial, fun e_ => hk e_⟩))))); (try (obtain ⟨oki19, ce19, hcl19, hM19, hcc19, hfr19, hoki19, hH19⟩ := Kd.S_elem HX19.out [] (x23_1 : Int) (of_decide_eq_true (by first | (with_reducible assumption) | assumption)) (by have h_ : (x23_1 : Int) < ((x6_1.length : Int) : Int) := of_decide_eq_true (by first | (with_reducible assumption) | assumption); first | exact h_ | (have e_ := (Kd.S_reads' HO_6.out).1; omega) | simpa using h_))); (try (obtain ⟨ve19_0, rfl, ge19_0⟩ := hM19)); (try (have HP19 := Kd.S_seg hH19 (of_decide_eq_true (by first | (with_reducible assumption) | assumption)) (by have h_ : (x23_1 : Int) < ((x6_1.length : Int) : Int) := of_decide_eq_true (by first | (with_reducible assumption) | assumption); first | exact h_ | (have e_ := (Kd.S_reads' HO_6.out).1; omega) | simpa using h_) (seg := [v125]) (j := 0) (show 1 ≤ 1 from by decide) (x' := y124) (Kd.M_row (Kd.R_mono (Kd.R_tight rfl (Kd.R_mono (ok' := fun k_ => ((fun _ => True)) k_ ∧ k_ ≠ go14) (Kd.R_apart' (HO126.out) (Kd.S_typed HO_6.out) (by decide)) (fun k_ hk => ⟨trivial, fun e_ => (hk.2) (by rw [e_]; rfl)⟩))) (fun _ h_ => Or.inr (h_)))) (fun _ hk => hk) (fun k_ hk_ => ((Kd.R_mono (ok' := fun k_ => ((fun _ => True)) k_ ∧ k_ ≠ go14) (Kd.R_apart' (HO126.out) (Kd.S_typed HO_6.out) (by decide)) (fun k_ hk => ⟨trivial, fun e_ => (hk.2) (by rw [e_]; rfl)⟩))).1 k_ hk_.symm))); (try (have hx19_0 := hcc19 0 _ rfl)); (try (try simp only [show ((Kd.slice 4 Kd.bool)).sz = 1 from rfl, Nat.mul_one, Nat.add_zero] at hx19_0)); (try (have hf19_0 := hfr19 0)); (try (try simp only [show ((Kd.slice 4 Kd.bool)).sz = 1 from rfl, Nat.mul_one, Nat.add_zero] at hf19_0)); (try (try clear hcl19); (try clear hcc19); (try clear hfr19); (try clear hM19); (try clear hoki19); (try clear hH19)); (try (try simp only [show ((Kd.slice 4 Kd.bool)).sz = 1 from rfl, Nat.mul_one, Nat.add_zero] at HP19)))); refine store_event (t := 69) (p := 34) (v := ?vo_w20) (w1 := (w17.setCell ⟨go14, (x23_1 : Int).toNat, none⟩ (v125))) ?hg ?ho ?hn ?hr ?_; (case ho => rfl); (case hg => rfl); (case hn => rfl); (case hr => first | (go_simp; done) | (go_simp; rfl) | (obtain ⟨_, _, rfl⟩ := Kd.R_slice HO126.out; (first | (go_simp; done) | (go_simp; rfl)))); intro w20 hw; have hg : w17.grownBy w20 (some go14) := (by rw [hw]; exact HP19.2); have hp_ : Kd.S (Kd.slice 4 Kd.bool) 69 w20 w.heap.size (fun _ => True) (.slice (some ⟨go14, 0, none⟩) x6_1.length co14) y127 := (by rw [hw, Ny127.out]; exact HP19.1); clear HP19; have n0_ := Aside0.mk (hp_); have n1_ := Aside0.mk (blk_grown (g := gb123) (o := .cells #[.int .i64 ((rd_T67 l0 x23_1).f0), .int .i64 ((rd_T67 l0 x23_1).f1), .int .i64 ((rd_T67 l0 x23_1).f2)] 67 (0, 0)) (by (with_reducible repeat (first | refine blk_drewN ?_ _ | refine blk_drew ?_ | refine blk_alloc ?_ _)); exact BK123.out) hg (Kd.S_ne HO_6.out BK123.out (by decide))); have n2_ := Aside0.mk ((by rw [hw]; exact below_set (HB.out) GB14.out : Below w.heap.size w w20)); clear HO_6; clear BK123; clear HB; clear HO126; have HO_6 := n0_; have BK123 := n1_; have HB := n2_; clear n0_ n1_ n2_; clear hg hw hp_))
                      repeat (go_quiet (first | ((with_reducible refine gate_dst (N := 8) rfl ?_); (try (refine gate_guard (by rfl) ?_; dsimp only)); refine box_event ?hg (N := 8) ?hd (cs := #[.int .i64 0, .int .i64 0, .int .i64 0]) (t := 67) ?hr ?_; (case hd => rfl); (case hg => rfl); (case hr => first | (go_simp; done) | (go_simp; rfl)); intro gb123 hg w15 hbox hb; have n0_ := Aside0.mk (Kd.S_below (by (with_reducible repeat (first | apply Kd.S_alloc | apply Kd.S_drewN | apply Kd.S_drew)); exact HO_6.out) hb); have n1_ := Aside0.mk (below_step (by repeat (first | (with_reducible first | exact HB.out | apply below_alloc | apply pw_below_drewN | apply below_drew1) | exact HB.out)) hb); have n2_ := Aside0.mk (hbox); have n3_ := Aside0.mk ((by rw [hg]; exact (below_size (by repeat (first | (with_reducible first | exact HB.out | apply below_alloc | apply pw_below_drewN | apply below_drew1) | exact HB.out))) : w.heap.size ≤ gb123)); have n4_ := Aside0.mk ((by rw [hg]; exact (below_size (by repeat (first | (with_reducible first | exact HB.out | apply below_alloc | apply pw_below_drewN | apply below_drew1) | exact HB.out))) : w.heap.size ≤ gb123)); clear HO_6; clear HB; have HO_6 := n0_; have HB := n1_; have BK123 := n2_; have GW123 := n3_; have GE123 := n4_; clear n0_ n1_ n2_ n3_ n4_; clear hb hbox hg; have hcz16_0 : w15.cell? ⟨gb123, 0, none⟩ = some (.int .i64 0) := (blk_cell BK123.out 0).trans rfl; have hcz16_1 : w15.cell? ⟨gb123, 1, none⟩ = some (.int .i64 0) := (blk_cell BK123.out 1).trans rfl; have hcz16_2 : w15.cell? ⟨gb123, 2, none⟩ = some (.int .i64 0) := (blk_cell BK123.out 2).trans rfl; have hfz16_0 := blk_frozen BK123.out 0; have hfz16_1 := blk_frozen BK123.out 1; have hfz16_2 := blk_frozen BK123.out 2) | ((with_reducible refine gate_dst (N := 33) rfl ?_); (try (refine gate_guard (by rfl) ?_; dsimp only)); refine Kd.R_make Kd.bool _ 4 rfl (N := 33) rfl 69 _ _ rfl ji10 rfl rfl Try.underlying69 (.bool false) 1 info4 rfl (by decide) (by omega) false (ok := fun _ => True) (okp := fun _ => True) rfl (fun _ hk => hk) trivial (of_decide_eq_true (by first | (with_reducible assumption) | assumption)) (Nat.le_trans (Nat.mul_le_mul_right _ (of_decide_eq_true (by first | (with_reducible assumption) | assumption) : ji10.toNat ≤ 281474976710656)) (by omega)) (Below.refl _ _) (Nat.le_refl _) ?_; intro v125 w17 ho18 hb hg_ hnew_; clear hg_ hnew_; (first | rw [← Ny124.out] at ho18 | (simp only [Int.reduceToNat] at ho18; rw [← Ny124.out] at ho18)); have n0_ := Aside0.mk (Kd.S_elder' (by (with_reducible repeat (first | apply Kd.S_alloc | apply Kd.S_drewN | apply Kd.S_drew)); exact (Kd.S_mono (Kd.S_far (p := ⟨gb123, 2, none⟩) (Kd.S_far (p := ⟨gb123, 1, none⟩) (Kd.S_far (p := ⟨gb123, 0, none⟩) (Kd.S_types HO_6.out BK123.out (by decide)) (fun _ hk => hk.2) (.int .i64 ((rd_T67 l0 x23_1).f0))) (fun _ hk => hk.2) (.int .i64 ((rd_T67 l0 x23_1).f1))) (fun _ hk => hk.2) (.int .i64 ((rd_T67 l0 x23_1).f2))) (fun _ h_ => h_.1))) (Kd.R_base ho18) hb); have n1_ := Aside0.mk (Kd.R_lower ho18 (below_size (by repeat (first | (with_reducible first | exact HB.out | apply below_alloc | apply pw_below_drewN | apply below_drew1 | refine below_set ?_ GE123.out) | exact HB.out)))); have n2_ := Aside0.mk (blk_below (g := gb123) (o := .cells #[.int .i64 ((rd_T67 l0 x23_1).f0), .int .i64 ((rd_T67 l0 x23_1).f1), .int .i64 ((rd_T67 l0 x23_1).f2)] 67 (0, 0)) (by (with_reducible repeat (first | refine blk_drewN ?_ _ | refine blk_drew ?_ | refine blk_alloc ?_ _)); refine blk_put (cs := #[.int .i64 ((rd_T67 l0 x23_1).f0), .int .i64 ((rd_T67 l0 x23_1).f1), .int .i64 0]) ?_ 2 _ rfl; (with_reducible repeat (first | refine blk_drewN ?_ _ | refine blk_drew ?_ | refine blk_alloc ?_ _)); refine blk_put (cs := #[.int .i64 ((rd_T67 l0 x23_1).f0), .int .i64 0, .int .i64 0]) ?_ 1 _ rfl; (with_reducible repeat (first | refine blk_drewN ?_ _ | refine blk_drew ?_ | refine blk_alloc ?_ _)); refine blk_put (cs := #[.int .i64 0, .int .i64 0, .int .i64 0]) ?_ 0 _ rfl; (with_reducible repeat (first | refine blk_drewN ?_ _ | refine blk_drew ?_ | refine blk_alloc ?_ _)); exact BK123.out) hb); have n3_ := Aside0.mk (below_step (by repeat (first | (with_reducible first | exact HB.out | apply below_alloc | apply pw_below_drewN | apply below_drew1 | refine below_set ?_ GE123.out) | exact HB.out)) hb); clear HO_6; clear BK123; clear HB; have HO_6 := n0_; have HO126 := n1_; have BK123 := n2_; have HB := n3_; clear n0_ n1_ n2_ n3_; clear hb ho18; have p14 : 0 ≤ (x23_1 : Int) := of_decide_eq_true (by first | (with_reducible assumption) | assumption); have q14 : (x23_1 : Int) < ((x6_1.length : Int) : Int) := of_decide_eq_true (by first | (with_reducible assumption) | assumption); obtain ⟨go14, co14, eo14, gb14, gl14, cl14, HG14⟩ := Kd.S_form HO_6.out (by omega); (first | cases eo14 | (injection eo14 with ea_ en_ ec_; (first | subst ea_ | (injection ea_ with ea_; subst ea_)); subst ec_; clear en_)); have GB14 := Aside0.mk gb14; have GG14 := Aside0.mk HG14; clear gb14 gl14 HG14; obtain ⟨_, ce14, hcl14, hM14, hcc14, hfr14, _, _⟩ := Kd.S_elem HO_6.out [] (x23_1 : Int) p14 q14; obtain ⟨ve14_0, rfl, ge14_0⟩ := hM14; have hx14_0 := hcc14 0 _ rfl; have hf14_0 := hfr14 0; (try simp only [show ((Kd.slice 4 Kd.bool)).sz = 1 from rfl, Nat.mul_one, Nat.add_zero] at hx14_0); (try simp only [show ((Kd.slice 4 Kd.bool)).sz = 1 from rfl, Nat.mul_one, Nat.add_zero] at hf14_0); (try clear hcl14); (try clear hcc14); (try clear hfr14); (try clear hM14); replace p14 := eq_true p14; replace q14 := eq_true q14; have n_ := Aside0.mk (Kd.S_mono (ok' := (fun k_ => some k_ ≠ (v125 : Value).ownBlock)) HO_6.out (fun k_ hk => hk.2)); clear HO_6; have HO_6 := n_; clear n_; have HX19 := Aside0.mk (show Kd.S (Kd.slice 4 Kd.bool) 69 w17 w.heap.size (fun k_ => ((fun _ => True)) k_ ∧ ¬ ((fun k_ => some k_ = (v125 : Value).ownBlock)) k_) (.slice (some ⟨go14, 0, none⟩) x6_1.length co14) x6_1 from (by (with_reducible repeat (first | apply Kd.S_alloc | apply Kd.S_drewN | apply Kd.S_drew)); exact Kd.S_mono HO_6.out (fun k_ hk => ⟨trivial, fun e_ => hk e_⟩))); obtain ⟨oki19, ce19, hcl19, hM19, hcc19, hfr19, hoki19, hH19⟩ := Kd.S_elem HX19.out [] (x23_1 : Int) (of_decide_eq_true (by first | (with_reducible assumption) | assumption)) (by have h_ : (x23_1 : Int) < ((x6_1.length : Int) : Int) := of_decide_eq_true (by first | (with_reducible assumption) | assumption); first | exact h_ | (have e_ := (Kd.S_reads' HO_6.out).1; omega) | simpa using h_); obtain ⟨ve19_0, rfl, ge19_0⟩ := hM19; have HP19 := Kd.S_seg hH19 (of_decide_eq_true (by first | (with_reducible assumption) | assumption)) (by have h_ : (x23_1 : Int) < ((x6_1.length : Int) : Int) := of_decide_eq_true (by first | (with_reducible assumption) | assumption); first | exact h_ | (have e_ := (Kd.S_reads' HO_6.out).1; omega) | simpa using h_) (seg := [v125]) (j := 0) (show 1 ≤ 1 from by decide) (x' := y124) (Kd.M_row (Kd.R_mono (Kd.R_tight rfl (Kd.R_mono (ok' := fun k_ => ((fun _ => True)) k_ ∧ k_ ≠ go14) (Kd.R_apart' (HO126.out) (Kd.S_typed HO_6.out) (by decide)) (fun k_ hk => ⟨trivial, fun e_ => (hk.2) (by rw [e_]; rfl)⟩))) (fun _ h_ => Or.inr (h_)))) (fun _ hk => hk) (fun k_ hk_ => ((Kd.R_mono (ok' := fun k_ => ((fun _ => True)) k_ ∧ k_ ≠ go14) (Kd.R_apart' (HO126.out) (Kd.S_typed HO_6.out) (by decide)) (fun k_ hk => ⟨trivial, fun e_ => (hk.2) (by rw [e_]; rfl)⟩))).1 k_ hk_.symm); have hx19_0 := hcc19 0 _ rfl; (try simp only [show ((Kd.slice 4 Kd.bool)).sz = 1 from rfl, Nat.mul_one, Nat.add_zero] at hx19_0); have hf19_0 := hfr19 0; (try simp only [show ((Kd.slice 4 Kd.bool)).sz = 1 from rfl, Nat.mul_one, Nat.add_zero] at hf19_0); (try clear hcl19); (try clear hcc19); (try clear hfr19); (try clear hM19); (try clear hoki19); (try clear hH19); (try simp only [show ((Kd.slice 4 Kd.bool)).sz = 1 from rfl, Nat.mul_one, Nat.add_zero] at HP19)) | ((with_reducible refine gate_store (t := 69) (p := 34) rfl ?_); (try (rw [drewN_self w17]; generalize hq_ : World.drewN w17 _ = w17; (try (have nx_ := Aside0.mk (Kd.S_at hq_ HO_6.out); clear HO_6; have HO_6 := nx_; clear nx_)); (try (have nx_ := Aside0.mk (blk_at hq_ BK123.out); clear BK123; have BK123 := nx_; clear nx_)); (try (have nx_ := Aside0.mk (below_at hq_ HB.out); clear HB; have HB := nx_; clear nx_)); (try clear hq_); (try (have n_ := Aside0.mk (Kd.S_mono (ok' := (fun k_ => some k_ ≠ (v125 : Value).ownBlock)) HO_6.out (fun k_ hk => hk.2)); clear HO_6; have HO_6 := n_; clear n_)); (try (have HX19 := Aside0.mk (show Kd.S (Kd.slice 4 Kd.bool) 69 w17 w.heap.size (fun k_ => ((fun _ => True)) k_ ∧ ¬ ((fun k_ => some k_ = (v125 : Value).ownBlock)) k_) (.slice (some ⟨go14, 0, none⟩) x6_1.length co14) x6_1 from (by (with_reducible repeat (first | apply Kd.S_alloc | apply Kd.S_drewN | apply Kd.S_drew)); exact Kd.S_mono HO_6.out (fun k_ hk => ⟨trivial, fun e_ => hk e_⟩))))); (try (obtain ⟨oki19, ce19, hcl19, hM19, hcc19, hfr19, hoki19, hH19⟩ := Kd.S_elem HX19.out [] (x23_1 : Int) (of_decide_eq_true (by first | (with_reducible assumption) | assumption)) (by have h_ : (x23_1 : Int) < ((x6_1.length : Int) : Int) := of_decide_eq_true (by first | (with_reducible assumption) | assumption); first | exact h_ | (have e_ := (Kd.S_reads' HO_6.out).1; omega) | simpa using h_))); (try (obtain ⟨ve19_0, rfl, ge19_0⟩ := hM19)); (try (have HP19 := Kd.S_seg hH19 (of_decide_eq_true (by first | (with_reducible assumption) | assumption)) (by have h_ : (x23_1 : Int) < ((x6_1.length : Int) : Int) := of_decide_eq_true (by first | (with_reducible assumption) | assumption); first | exact h_ | (have e_ := (Kd.S_reads' HO_6.out).1; omega) | simpa using h_) (seg := [v125]) (j := 0) (show 1 ≤ 1 from by decide) (x' := y124) (Kd.M_row (Kd.R_mono (Kd.R_tight rfl (Kd.R_mono (ok' := fun k_ => ((fun _ => True)) k_ ∧ k_ ≠ go14) (Kd.R_apart' (HO126.out) (Kd.S_typed HO_6.out) (by decide)) (fun k_ hk => ⟨trivial, fun e_ => (hk.2) (by rw [e_]; rfl)⟩))) (fun _ h_ => Or.inr (h_)))) (fun _ hk => hk) (fun k_ hk_ => ((Kd.R_mono (ok' := fun k_ => ((fun _ => True)) k_ ∧ k_ ≠ go14) (Kd.R_apart' (HO126.out) (Kd.S_typed HO_6.out) (by decide)) (fun k_ hk => ⟨trivial, fun e_ => (hk.2) (by rw [e_]; rfl)⟩))).1 k_ hk_.symm))); (try (have hx19_0 := hcc19 0 _ rfl)); (try (try simp only [show ((Kd.slice 4 Kd.bool)).sz = 1 from rfl, Nat.mul_one, Nat.add_zero] at hx19_0)); (try (have hf19_0 := hfr19 0)); (try (try simp only [show ((Kd.slice 4 Kd.bool)).sz = 1 from rfl, Nat.mul_one, Nat.add_zero] at hf19_0)); (try (try clear hcl19); (try clear hcc19); (try clear hfr19); (try clear hM19); (try clear hoki19); (try clear hH19)); (try (try simp only [show ((Kd.slice 4 Kd.bool)).sz = 1 from rfl, Nat.mul_one, Nat.add_zero] at HP19)))); refine store_event (t := 69) (p := 34) (v := ?vo_w20) (w1 := (w17.setCell ⟨go14, (x23_1 : Int).toNat, none⟩ (v125))) ?hg ?ho ?hn ?hr ?_; (case ho => rfl); (case hg => rfl); (case hn => rfl); (case hr => first | (go_simp; done) | (go_simp; rfl) | (obtain ⟨_, _, rfl⟩ := Kd.R_slice HO126.out; (first | (go_simp; done) | (go_simp; rfl)))); intro w20 hw; have hg : w17.grownBy w20 (some go14) := (by rw [hw]; exact HP19.2); have hp_ : Kd.S (Kd.slice 4 Kd.bool) 69 w20 w.heap.size (fun _ => True) (.slice (some ⟨go14, 0, none⟩) x6_1.length co14) y127 := (by rw [hw, Ny127.out]; exact HP19.1); clear HP19; have n0_ := Aside0.mk (hp_); have n1_ := Aside0.mk (blk_grown (g := gb123) (o := .cells #[.int .i64 ((rd_T67 l0 x23_1).f0), .int .i64 ((rd_T67 l0 x23_1).f1), .int .i64 ((rd_T67 l0 x23_1).f2)] 67 (0, 0)) (by (with_reducible repeat (first | refine blk_drewN ?_ _ | refine blk_drew ?_ | refine blk_alloc ?_ _)); exact BK123.out) hg (Kd.S_ne HO_6.out BK123.out (by decide))); have n2_ := Aside0.mk ((by rw [hw]; exact below_set (HB.out) GB14.out : Below w.heap.size w w20)); clear HO_6; clear BK123; clear HB; clear HO126; have HO_6 := n0_; have BK123 := n1_; have HB := n2_; clear n0_ n1_ n2_; clear hg hw hp_)); try go_wp2_with (first | ((with_reducible refine gate_dst (N := 8) rfl ?_); (try (refine gate_guard (by rfl) ?_; dsimp only)); refine box_event ?hg (N := 8) ?hd (cs := #[.int .i64 0, .int .i64 0, .int .i64 0]) (t := 67) ?hr ?_; (case hd => rfl); (case hg => rfl); (case hr => first | (go_simp; done) | (go_simp; rfl)); intro gb123 hg w15 hbox hb; have n0_ := Aside0.mk (Kd.S_below (by (with_reducible repeat (first | apply Kd.S_alloc | apply Kd.S_drewN | apply Kd.S_drew)); exact HO_6.out) hb); have n1_ := Aside0.mk (below_step (by repeat (first | (with_reducible first | exact HB.out | apply below_alloc | apply pw_below_drewN | apply below_drew1) | exact HB.out)) hb); have n2_ := Aside0.mk (hbox); have n3_ := Aside0.mk ((by rw [hg]; exact (below_size (by repeat (first | (with_reducible first | exact HB.out | apply below_alloc | apply pw_below_drewN | apply below_drew1) | exact HB.out))) : w.heap.size ≤ gb123)); have n4_ := Aside0.mk ((by rw [hg]; exact (below_size (by repeat (first | (with_reducible first | exact HB.out | apply below_alloc | apply pw_below_drewN | apply below_drew1) | exact HB.out))) : w.heap.size ≤ gb123)); clear HO_6; clear HB; have HO_6 := n0_; have HB := n1_; have BK123 := n2_; have GW123 := n3_; have GE123 := n4_; clear n0_ n1_ n2_ n3_ n4_; clear hb hbox hg; have hcz16_0 : w15.cell? ⟨gb123, 0, none⟩ = some (.int .i64 0) := (blk_cell BK123.out 0).trans rfl; have hcz16_1 : w15.cell? ⟨gb123, 1, none⟩ = some (.int .i64 0) := (blk_cell BK123.out 1).trans rfl; have hcz16_2 : w15.cell? ⟨gb123, 2, none⟩ = some (.int .i64 0) := (blk_cell BK123.out 2).trans rfl; have hfz16_0 := blk_frozen BK123.out 0; have hfz16_1 := blk_frozen BK123.out 1; have hfz16_2 := blk_frozen BK123.out 2) | ((with_reducible refine gate_dst (N := 33) rfl ?_); (try (refine gate_guard (by rfl) ?_; dsimp only)); refine Kd.R_make Kd.bool _ 4 rfl (N := 33) rfl 69 _ _ rfl ji10 rfl rfl Try.underlying69 (.bool false) 1 info4 rfl (by decide) (by omega) false (ok := fun _ => True) (okp := fun _ => True) rfl (fun _ hk => hk) trivial (of_decide_eq_true (by first | (with_reducible assumption) | assumption)) (Nat.le_trans (Nat.mul_le_mul_right _ (of_decide_eq_true (by first | (with_reducible assumption) | assumption) : ji10.toNat ≤ 281474976710656)) (by omega)) (Below.refl _ _) (Nat.le_refl _) ?_; intro v125 w17 ho18 hb hg_ hnew_; clear hg_ hnew_; (first | rw [← Ny124.out] at ho18 | (simp only [Int.reduceToNat] at ho18; rw [← Ny124.out] at ho18)); have n0_ := Aside0.mk (Kd.S_elder' (by (with_reducible repeat (first | apply Kd.S_alloc | apply Kd.S_drewN | apply Kd.S_drew)); exact (Kd.S_mono (Kd.S_far (p := ⟨gb123, 2, none⟩) (Kd.S_far (p := ⟨gb123, 1, none⟩) (Kd.S_far (p := ⟨gb123, 0, none⟩) (Kd.S_types HO_6.out BK123.out (by decide)) (fun _ hk => hk.2) (.int .i64 ((rd_T67 l0 x23_1).f0))) (fun _ hk => hk.2) (.int .i64 ((rd_T67 l0 x23_1).f1))) (fun _ hk => hk.2) (.int .i64 ((rd_T67 l0 x23_1).f2))) (fun _ h_ => h_.1))) (Kd.R_base ho18) hb); have n1_ := Aside0.mk (Kd.R_lower ho18 (below_size (by repeat (first | (with_reducible first | exact HB.out | apply below_alloc | apply pw_below_drewN | apply below_drew1 | refine below_set ?_ GE123.out) | exact HB.out)))); have n2_ := Aside0.mk (blk_below (g := gb123) (o := .cells #[.int .i64 ((rd_T67 l0 x23_1).f0), .int .i64 ((rd_T67 l0 x23_1).f1), .int .i64 ((rd_T67 l0 x23_1).f2)] 67 (0, 0)) (by (with_reducible repeat (first | refine blk_drewN ?_ _ | refine blk_drew ?_ | refine blk_alloc ?_ _)); refine blk_put (cs := #[.int .i64 ((rd_T67 l0 x23_1).f0), .int .i64 ((rd_T67 l0 x23_1).f1), .int .i64 0]) ?_ 2 _ rfl; (with_reducible repeat (first | refine blk_drewN ?_ _ | refine blk_drew ?_ | refine blk_alloc ?_ _)); refine blk_put (cs := #[.int .i64 ((rd_T67 l0 x23_1).f0), .int .i64 0, .int .i64 0]) ?_ 1 _ rfl; (with_reducible repeat (first | refine blk_drewN ?_ _ | refine blk_drew ?_ | refine blk_alloc ?_ _)); refine blk_put (cs := #[.int .i64 0, .int .i64 0, .int .i64 0]) ?_ 0 _ rfl; (with_reducible repeat (first | refine blk_drewN ?_ _ | refine blk_drew ?_ | refine blk_alloc ?_ _)); exact BK123.out) hb); have n3_ := Aside0.mk (below_step (by repeat (first | (with_reducible first | exact HB.out | apply below_alloc | apply pw_below_drewN | apply below_drew1 | refine below_set ?_ GE123.out) | exact HB.out)) hb); clear HO_6; clear BK123; clear HB; have HO_6 := n0_; have HO126 := n1_; have BK123 := n2_; have HB := n3_; clear n0_ n1_ n2_ n3_; clear hb ho18; have p14 : 0 ≤ (x23_1 : Int) := of_decide_eq_true (by first | (with_reducible assumption) | assumption); have q14 : (x23_1 : Int) < ((x6_1.length : Int) : Int) := of_decide_eq_true (by first | (with_reducible assumption) | assumption); obtain ⟨go14, co14, eo14, gb14, gl14, cl14, HG14⟩ := Kd.S_form HO_6.out (by omega); (first | cases eo14 | (injection eo14 with ea_ en_ ec_; (first | subst ea_ | (injection ea_ with ea_; subst ea_)); subst ec_; clear en_)); have GB14 := Aside0.mk gb14; have GG14 := Aside0.mk HG14; clear gb14 gl14 HG14; obtain ⟨_, ce14, hcl14, hM14, hcc14, hfr14, _, _⟩ := Kd.S_elem HO_6.out [] (x23_1 : Int) p14 q14; obtain ⟨ve14_0, rfl, ge14_0⟩ := hM14; have hx14_0 := hcc14 0 _ rfl; have hf14_0 := hfr14 0; (try simp only [show ((Kd.slice 4 Kd.bool)).sz = 1 from rfl, Nat.mul_one, Nat.add_zero] at hx14_0); (try simp only [show ((Kd.slice 4 Kd.bool)).sz = 1 from rfl, Nat.mul_one, Nat.add_zero] at hf14_0); (try clear hcl14); (try clear hcc14); (try clear hfr14); (try clear hM14); replace p14 := eq_true p14; replace q14 := eq_true q14; have n_ := Aside0.mk (Kd.S_mono (ok' := (fun k_ => some k_ ≠ (v125 : Value).ownBlock)) HO_6.out (fun k_ hk => hk.2)); clear HO_6; have HO_6 := n_; clear n_; have HX19 := Aside0.mk (show Kd.S (Kd.slice 4 Kd.bool) 69 w17 w.heap.size (fun k_ => ((fun _ => True)) k_ ∧ ¬ ((fun k_ => some k_ = (v125 : Value).ownBlock)) k_) (.slice (some ⟨go14, 0, none⟩) x6_1.length co14) x6_1 from (by (with_reducible repeat (first | apply Kd.S_alloc | apply Kd.S_drewN | apply Kd.S_drew)); exact Kd.S_mono HO_6.out (fun k_ hk => ⟨trivial, fun e_ => hk e_⟩))); obtain ⟨oki19, ce19, hcl19, hM19, hcc19, hfr19, hoki19, hH19⟩ := Kd.S_elem HX19.out [] (x23_1 : Int) (of_decide_eq_true (by first | (with_reducible assumption) | assumption)) (by have h_ : (x23_1 : Int) < ((x6_1.length : Int) : Int) := of_decide_eq_true (by first | (with_reducible assumption) | assumption); first | exact h_ | (have e_ := (Kd.S_reads' HO_6.out).1; omega) | simpa using h_); obtain ⟨ve19_0, rfl, ge19_0⟩ := hM19; have HP19 := Kd.S_seg hH19 (of_decide_eq_true (by first | (with_reducible assumption) | assumption)) (by have h_ : (x23_1 : Int) < ((x6_1.length : Int) : Int) := of_decide_eq_true (by first | (with_reducible assumption) | assumption); first | exact h_ | (have e_ := (Kd.S_reads' HO_6.out).1; omega) | simpa using h_) (seg := [v125]) (j := 0) (show 1 ≤ 1 from by decide) (x' := y124) (Kd.M_row (Kd.R_mono (Kd.R_tight rfl (Kd.R_mono (ok' := fun k_ => ((fun _ => True)) k_ ∧ k_ ≠ go14) (Kd.R_apart' (HO126.out) (Kd.S_typed HO_6.out) (by decide)) (fun k_ hk => ⟨trivial, fun e_ => (hk.2) (by rw [e_]; rfl)⟩))) (fun _ h_ => Or.inr (h_)))) (fun _ hk => hk) (fun k_ hk_ => ((Kd.R_mono (ok' := fun k_ => ((fun _ => True)) k_ ∧ k_ ≠ go14) (Kd.R_apart' (HO126.out) (Kd.S_typed HO_6.out) (by decide)) (fun k_ hk => ⟨trivial, fun e_ => (hk.2) (by rw [e_]; rfl)⟩))).1 k_ hk_.symm); have hx19_0 := hcc19 0 _ rfl; (try simp only [show ((Kd.slice 4 Kd.bool)).sz = 1 from rfl, Nat.mul_one, Nat.add_zero] at hx19_0); have hf19_0 := hfr19 0; (try simp only [show ((Kd.slice 4 Kd.bool)).sz = 1 from rfl, Nat.mul_one, Nat.add_zero] at hf19_0); (try clear hcl19); (try clear hcc19); (try clear hfr19); (try clear hM19); (try clear hoki19); (try clear hH19); (try simp only [show ((Kd.slice 4 Kd.bool)).sz = 1 from rfl, Nat.mul_one, Nat.add_zero] at HP19)) | ((with_reducible refine gate_store (t := 69) (p := 34) rfl ?_); (try (rw [drewN_self w17]; generalize hq_ : World.drewN w17 _ = w17; (try (have nx_ := Aside0.mk (Kd.S_at hq_ HO_6.out); clear HO_6; have HO_6 := nx_; clear nx_)); (try (have nx_ := Aside0.mk (blk_at hq_ BK123.out); clear BK123; have BK123 := nx_; clear nx_)); (try (have nx_ := Aside0.mk (below_at hq_ HB.out); clear HB; have HB := nx_; clear nx_)); (try clear hq_); (try (have n_ := Aside0.mk (Kd.S_mono (ok' := (fun k_ => some k_ ≠ (v125 : Value).ownBlock)) HO_6.out (fun k_ hk => hk.2)); clear HO_6; have HO_6 := n_; clear n_)); (try (have HX19 := Aside0.mk (show Kd.S (Kd.slice 4 Kd.bool) 69 w17 w.heap.size (fun k_ => ((fun _ => True)) k_ ∧ ¬ ((fun k_ => some k_ = (v125 : Value).ownBlock)) k_) (.slice (some ⟨go14, 0, none⟩) x6_1.length co14) x6_1 from (by (with_reducible repeat (first | apply Kd.S_alloc | apply Kd.S_drewN | apply Kd.S_drew)); exact Kd.S_mono HO_6.out (fun k_ hk => ⟨trivial, fun e_ => hk e_⟩))))); (try (obtain ⟨oki19, ce19, hcl19, hM19, hcc19, hfr19, hoki19, hH19⟩ := Kd.S_elem HX19.out [] (x23_1 : Int) (of_decide_eq_true (by first | (with_reducible assumption) | assumption)) (by have h_ : (x23_1 : Int) < ((x6_1.length : Int) : Int) := of_decide_eq_true (by first | (with_reducible assumption) | assumption); first | exact h_ | (have e_ := (Kd.S_reads' HO_6.out).1; omega) | simpa using h_))); (try (obtain ⟨ve19_0, rfl, ge19_0⟩ := hM19)); (try (have HP19 := Kd.S_seg hH19 (of_decide_eq_true (by first | (with_reducible assumption) | assumption)) (by have h_ : (x23_1 : Int) < ((x6_1.length : Int) : Int) := of_decide_eq_true (by first | (with_reducible assumption) | assumption); first | exact h_ | (have e_ := (Kd.S_reads' HO_6.out).1; omega) | simpa using h_) (seg := [v125]) (j := 0) (show 1 ≤ 1 from by decide) (x' := y124) (Kd.M_row (Kd.R_mono (Kd.R_tight rfl (Kd.R_mono (ok' := fun k_ => ((fun _ => True)) k_ ∧ k_ ≠ go14) (Kd.R_apart' (HO126.out) (Kd.S_typed HO_6.out) (by decide)) (fun k_ hk => ⟨trivial, fun e_ => (hk.2) (by rw [e_]; rfl)⟩))) (fun _ h_ => Or.inr (h_)))) (fun _ hk => hk) (fun k_ hk_ => ((Kd.R_mono (ok' := fun k_ => ((fun _ => True)) k_ ∧ k_ ≠ go14) (Kd.R_apart' (HO126.out) (Kd.S_typed HO_6.out) (by decide)) (fun k_ hk => ⟨trivial, fun e_ => (hk.2) (by rw [e_]; rfl)⟩))).1 k_ hk_.symm))); (try (have hx19_0 := hcc19 0 _ rfl)); (try (try simp only [show ((Kd.slice 4 Kd.bool)).sz = 1 from rfl, Nat.mul_one, Nat.add_zero] at hx19_0)); (try (have hf19_0 := hfr19 0)); (try (try simp only [show ((Kd.slice 4 Kd.bool)).sz = 1 from rfl, Nat.mul_one, Nat.add_zero] at hf19_0)); (try (try clear hcl19); (try clear hcc19); (try clear hfr19); (try clear hM19); (try clear hoki19); (try clear hH19)); (try (try simp only [show ((Kd.slice 4 Kd.bool)).sz = 1 from rfl, Nat.mul_one, Nat.add_zero] at HP19)))); refine store_event (t := 69) (p := 34) (v := ?vo_w20) (w1 := (w17.setCell ⟨go14, (x23_1 : Int).toNat, none⟩ (v125))) ?hg ?ho ?hn ?hr ?_; (case ho => rfl); (case hg => rfl); (case hn => rfl); (case hr => first | (go_simp; done) | (go_simp; rfl) | (obtain ⟨_, _, rfl⟩ := Kd.R_slice HO126.out; (first | (go_simp; done) | (go_simp; rfl)))); intro w20 hw; have hg : w17.grownBy w20 (some go14) := (by rw [hw]; exact HP19.2); have hp_ : Kd.S (Kd.slice 4 Kd.bool) 69 w20 w.heap.size (fun _ => True) (.slice (some ⟨go14, 0, none⟩) x6_1.length co14) y127 := (by rw [hw, Ny127.out]; exact HP19.1); clear HP19; have n0_ := Aside0.mk (hp_); have n1_ := Aside0.mk (blk_grown (g := gb123) (o := .cells #[.int .i64 ((rd_T67 l0 x23_1).f0), .int .i64 ((rd_T67 l0 x23_1).f1), .int .i64 ((rd_T67 l0 x23_1).f2)] 67 (0, 0)) (by (with_reducible repeat (first | refine blk_drewN ?_ _ | refine blk_drew ?_ | refine blk_alloc ?_ _)); exact BK123.out) hg (Kd.S_ne HO_6.out BK123.out (by decide))); have n2_ := Aside0.mk ((by rw [hw]; exact below_set (HB.out) GB14.out : Below w.heap.size w w20)); clear HO_6; clear BK123; clear HB; clear HO126; have HO_6 := n0_; have BK123 := n1_; have HB := n2_; clear n0_ n1_ n2_; clear hg hw hp_)))
                      go_loopg [9] k1 (fun kq v9 w' => ∃ (x6_2 : List (List Bool)) (x9_2 : Int), v9 = .int .i64 x9_2 ∧ Aside0 (coppicerref_Means.l1 kq l0 l1 (wrap64 ((l1.length : Int) + 1)) x6_2 x23_1 x9_2 l0 (l0.length : Int) x23_1 ((rd_T67 l0 x23_1).f0) ((rd_T67 l0 x23_1).f1) ((rd_T67 l0 x23_1).f2) = some r) ∧ Aside0 (kq ≤ k1) ∧ Aside0 (Kd.S (Kd.slice 4 Kd.bool) 69 w' w.heap.size (fun _ => True) (.slice (some ⟨go14, 0, none⟩) x6_1.length co14) x6_2) ∧ Aside0 (w'.heap[gb123]? = some (.cells #[.int .i64 ((rd_T67 l0 x23_1).f0), .int .i64 ((rd_T67 l0 x23_1).f1), .int .i64 ((rd_T67 l0 x23_1).f2)] 67 (0, 0))) ∧ Aside0 (Below w.heap.size w w'))
                      case atStart => exact ⟨(y127), (0), (by first | rfl | (simp; done) | (simp [*]; done)), H', ⟨Nat.le_refl _⟩, ⟨by (with_reducible repeat (first | apply Kd.S_alloc | apply Kd.S_drewN | apply Kd.S_drew)); exact HO_6.out⟩, ⟨by (with_reducible repeat (first | refine blk_drewN ?_ _ | refine blk_drew ?_ | refine blk_alloc ?_ _)); exact BK123.out⟩, ⟨by repeat (first | (with_reducible first | exact HB.out | apply below_alloc | apply pw_below_drewN | apply below_drew1 | refine below_set ?_ GE123.out) | exact HB.out)⟩⟩
                      case round =>
                        clear H'
                        try clear c1
                        try clear p1
                        try clear q1
                        try clear hx1
                        try clear p2
                        try clear c3
                        try clear c3b0
                        try clear c3b1
                        try clear c4
                        try clear c4b0
                        try clear c4b1
                        try clear p6
                        try clear c7
                        try clear c7b0
                        try clear c8
                        try clear c8b0
                        try clear c9
                        try clear c9b0
                        try clear c11
                        try clear c11b0
                        try clear c11b1
                        try clear c12
                        try clear c12b0
                        try clear c12b1
                        try clear p12
                        try clear q12
                        try clear hx12
                        try clear c13
                        try clear c13b0
                        try clear c14
                        try clear p14
                        try clear q14
                        try clear hx14
                        try clear hf14
                        try clear c15
                        try clear c19
                        try clear hx19
                        try clear hf19
                        try clear hcz16_0
                        try clear hcz16_1
                        try clear hcz16_2
                        try clear hfz16_0
                        try clear hfz16_1
                        try clear hfz16_2
                        try clear hx122_0
                        try clear hx122_1
                        try clear hx122_2
                        try clear hx14_0
                        try clear hx19_0
                        try clear p122
                        try clear p14
                        try clear p2
                        try clear p6
                        try clear q122
                        try clear q14
                        obtain ⟨x6_2, x9_2, rfl, HA, HK2, HO_6, BK123, HB⟩ := hrel
                        have hl6_2 := (Kd.S_reads' HO_6.out).1
                        rw [hl6_2] at HO_6
                        (try simp only [hl6_2])
                        (try simp only [hl6_2] at BK123)
                        cases gk with
                        | zero => exact absurd HA.out (by simp [coppicerref_Means.l1])
                        | succ k2 =>
                          have H := HA.out
                          clear HA
                          simp only [coppicerref_Means.l1] at H
                          by_cases c21 : x9_2 < (wrap64 ((l1.length : Int) + 1))
                          · rw [if_pos c21] at H
                            have c21b0 : decide (x9_2 < (wrap64 ((l1.length : Int) + 1))) = true := decide_eq_true c21
                            (try (have c21b0h := c21b0; simp only [hl6_2] at c21b0h))
                            clear c21
                            have H' := Aside0.mk H
                            clear H
                            go_wp2
                            repeat (go_quiet (fail); try go_wp2)
                            go_loopg [10] k2 (fun kq v10 w' => ∃ (x6_3 : List (List Bool)) (x10_3 : Int), v10 = .int .i64 x10_3 ∧ Aside0 (coppicerref_Means.l2 kq l0 l1 (wrap64 ((l1.length : Int) + 1)) x6_3 x23_1 x9_2 x10_3 l0 (l0.length : Int) x23_1 ((rd_T67 l0 x23_1).f0) ((rd_T67 l0 x23_1).f1) ((rd_T67 l0 x23_1).f2) = some r) ∧ Aside0 (kq ≤ k2) ∧ Aside0 (Kd.S (Kd.slice 4 Kd.bool) 69 w' w.heap.size (fun _ => True) (.slice (some ⟨go14, 0, none⟩) x6_2.length co14) x6_3) ∧ Aside0 (w'.heap[gb123]? = some (.cells #[.int .i64 ((rd_T67 l0 x23_1).f0), .int .i64 ((rd_T67 l0 x23_1).f1), .int .i64 ((rd_T67 l0 x23_1).f2)] 67 (0, 0))) ∧ Aside0 (Below w.heap.size w w'))
                            case atStart => exact ⟨(x6_2), (0), (by first | rfl | (simp; done) | (simp [*]; done)), H', ⟨Nat.le_refl _⟩, ⟨by (try simp only [hl6_2]); (with_reducible repeat (first | apply Kd.S_alloc | apply Kd.S_drewN | apply Kd.S_drew)); exact HO_6.out⟩, ⟨by (try simp only [hl6_2]); (with_reducible repeat (first | refine blk_drewN ?_ _ | refine blk_drew ?_ | refine blk_alloc ?_ _)); exact BK123.out⟩, ⟨by repeat (first | (with_reducible first | exact HB.out | apply below_alloc | apply pw_below_drewN | apply below_drew1 | refine below_set ?_ GE123.out) | exact HB.out)⟩⟩
                            case round =>
                              clear H'
                              try clear c1
                              try clear p1
                              try clear q1
                              try clear hx1
                              try clear c2
                              try clear p2
                              try clear c3
                              try clear c3b0
                              try clear c3b1
                              try clear c4
                              try clear c4b0
                              try clear c4b1
                              try clear p6
                              try clear c7
                              try clear c7b0
                              try clear c8
                              try clear c8b0
                              try clear c9
                              try clear c9b0
                              try clear c11
                              try clear c11b0
                              try clear c11b1
                              try clear c12
                              try clear c12b0
                              try clear c12b1
                              try clear p12
                              try clear q12
                              try clear hx12
                              try clear c13
                              try clear c13b0
                              try clear c14
                              try clear p14
                              try clear q14
                              try clear hx14
                              try clear hf14
                              try clear c15
                              try clear c19
                              try clear hx19
                              try clear hf19
                              try clear c21
                              try clear c21b0
                              try clear hcz16_0
                              try clear hcz16_1
                              try clear hcz16_2
                              try clear hfz16_0
                              try clear hfz16_1
                              try clear hfz16_2
                              try clear hx122_0
                              try clear hx122_1
                              try clear hx122_2
                              try clear hx14_0
                              try clear hx19_0
                              try clear p1
                              try clear p12
                              try clear p122
                              try clear p14
                              try clear p2
                              try clear p6
                              try clear q1
                              try clear q12
                              try clear q122
                              try clear q14
                              obtain ⟨x6_3, x10_3, rfl, HA, HK3, HO_6, BK123, HB⟩ := hrel
                              have hl6_3 := (Kd.S_reads' HO_6.out).1
                              rw [hl6_3] at HO_6
                              (try simp only [hl6_3])
                              (try simp only [hl6_3] at BK123)
                              cases gk with
                              | zero => exact absurd HA.out (by simp [coppicerref_Means.l2])
                              | succ k3 =>
                                have H := HA.out
                                clear HA
                                simp only [coppicerref_Means.l2] at H
                                by_cases c22 : (wrap64 (x10_3 + x9_2)) < (wrap64 ((l1.length : Int) + 1))
                                · rw [if_pos c22] at H
                                  have c22b0 : decide ((wrap64 (x10_3 + x9_2)) < (wrap64 ((l1.length : Int) + 1))) = true := decide_eq_true c22
                                  (try (have c22b0h := c22b0; simp only [hl6_2, hl6_3] at c22b0h))
                                  clear c22
                                  have HC23 := Aside0.mk H
                                  clear H
                                  have hcz24_0 : wr.cell? ⟨gb123, 0, none⟩ = some (.int .i64 ((rd_T67 l0 x23_1).f0)) := (blk_cell BK123.out 0).trans rfl
                                  have hcz24_1 : wr.cell? ⟨gb123, 1, none⟩ = some (.int .i64 ((rd_T67 l0 x23_1).f1)) := (blk_cell BK123.out 1).trans rfl
                                  have hcz24_2 : wr.cell? ⟨gb123, 2, none⟩ = some (.int .i64 ((rd_T67 l0 x23_1).f2)) := (blk_cell BK123.out 2).trans rfl
                                  have hfz24_0 := blk_frozen BK123.out 0
                                  have hfz24_1 := blk_frozen BK123.out 1
                                  have hfz24_2 := blk_frozen BK123.out 2
                                  go_upto_block 6 with (fail)
                                  repeat (go_quiet (fail); go_upto_block 6 with (fail))
                                  go_cut [12] (fun v12 wc => ∃ (kq : Nat) (x12_22 : Bool), v12 = .bool x12_22 ∧ Aside0 (coppicerref_Means.j7 kq l0 l1 (wrap64 ((l1.length : Int) + 1)) x6_3 x23_1 x9_2 x10_3 (wrap64 (x10_3 + x9_2)) x12_22 l0 (l0.length : Int) x23_1 ((rd_T67 l0 x23_1).f0) ((rd_T67 l0 x23_1).f1) ((rd_T67 l0 x23_1).f2) = some r) ∧ Aside0 (kq ≤ k3) ∧ Aside0 (Kd.S (Kd.slice 4 Kd.bool) 69 wc w.heap.size (fun _ => True) (.slice (some ⟨go14, 0, none⟩) x6_3.length co14) x6_3) ∧ Aside0 (wc.heap[gb123]? = some (.cells #[.int .i64 ((rd_T67 l0 x23_1).f0), .int .i64 ((rd_T67 l0 x23_1).f1), .int .i64 ((rd_T67 l0 x23_1).f2)] 67 (0, 0))) ∧ Aside0 (Below w.heap.size w wc))
                                  case first =>
                                    have H := HC23.out
                                    clear HC23
                                    by_cases c25 : ((rd_T67 l0 x23_1).f0) = 2
                                    · rw [if_pos c25] at H
                                      have c25b0 : (((rd_T67 l0 x23_1).f0) == 2) = true := beq_iff_eq.mpr c25
                                      have c25b1 : (((rd_T67 l0 x23_1).f0) != 2) = false := bne_eq_false_iff_eq.mpr c25
                                      clear c25
                                      (first | rw [c25b0] | (simp only [i64_w, i32_w]; rw [c25b0]) | skip)
                                      as_aux_lemma =>
                                        have H' := Aside0.mk H
                                        clear H
                                        go_wp2
                                        repeat (go_quiet (fail); try go_wp2)
                                        go_meet
                                        case rel => exact ⟨_, ((x9_2 == 0)), (by first | rfl | (simp; done) | (simp [*]; done)), H', ⟨by have := HK1.out; have := HK2.out; have := HK3.out; first | omega | exact Nat.le_refl _⟩, ⟨by (try simp only [hl6_2]); (try simp only [hl6_3]); (with_reducible repeat (first | apply Kd.S_alloc | apply Kd.S_drewN | apply Kd.S_drew)); exact HO_6.out⟩, ⟨by (try simp only [hl6_2]); (try simp only [hl6_3]); (with_reducible repeat (first | refine blk_drewN ?_ _ | refine blk_drew ?_ | refine blk_alloc ?_ _)); exact BK123.out⟩, ⟨by repeat (first | (with_reducible first | exact HB.out | apply below_alloc | apply pw_below_drewN | apply below_drew1 | refine below_set ?_ GE123.out) | exact HB.out)⟩⟩
                                    · rw [if_neg c25] at H
                                      have c25b0 : (((rd_T67 l0 x23_1).f0) == 2) = false := beq_eq_false_iff_ne.mpr c25
                                      have c25b1 : (((rd_T67 l0 x23_1).f0) != 2) = true := bne_iff_ne.mpr c25
                                      (first | rw [c25b0] | (simp only [i64_w, i32_w]; rw [c25b0]) | skip)
                                      by_cases c26 : ((rd_T67 l0 x23_1).f0) = 3
                                      · rw [if_pos c26] at H
                                        have c26b0 : (((rd_T67 l0 x23_1).f0) == 3) = true := beq_iff_eq.mpr c26
                                        have c26b1 : (((rd_T67 l0 x23_1).f0) != 3) = false := bne_eq_false_iff_eq.mpr c26
                                        clear c26
                                        by_cases c27 : x9_2 = 1
                                        · rw [if_pos c27] at H
                                          have c27b0 : (x9_2 == 1) = true := beq_iff_eq.mpr c27
                                          have c27b1 : (x9_2 != 1) = false := bne_eq_false_iff_eq.mpr c27
                                          clear c27
                                          by_cases c28 : 0 ≤ x10_3
                                          · rw [if_pos c28] at H
                                            have c28b0 : decide (0 ≤ x10_3) = true := decide_eq_true c28
                                            clear c28
                                            by_cases c29 : x10_3 < (l1.length : Int)
                                            · rw [if_pos c29] at H
                                              have c29b0 : decide (x10_3 < (l1.length : Int)) = true := decide_eq_true c29
                                              (try (have c29b0h := c29b0; simp only [hl6_2, hl6_3] at c29b0h))
                                              clear c29
                                              as_aux_lemma =>
                                                have H' := Aside0.mk H
                                                clear H
                                                have p128 : 0 ≤ (x10_3 : Int) := of_decide_eq_true (by first | (with_reducible assumption) | assumption)
                                                have q128 : x10_3 < (l1.length : Int) := of_decide_eq_true (by first | (with_reducible assumption) | assumption)
                                                obtain ⟨ad128, e128, hx128_0⟩ := Kd.at_int HR1.out x10_3 p128 q128
                                                cases e128
                                                replace hx128_0 := (HB.out.cell (World.block_lt_of_cell? w _ hx128_0)).trans hx128_0
                                                replace p128 := eq_true p128
                                                replace q128 := eq_true q128
                                                have hcz30_0 : wr.cell? ⟨gb123, 0, none⟩ = some (.int .i64 ((rd_T67 l0 x23_1).f0)) := (blk_cell BK123.out 0).trans rfl
                                                have hcz30_1 : wr.cell? ⟨gb123, 1, none⟩ = some (.int .i64 ((rd_T67 l0 x23_1).f1)) := (blk_cell BK123.out 1).trans rfl
                                                have hcz30_2 : wr.cell? ⟨gb123, 2, none⟩ = some (.int .i64 ((rd_T67 l0 x23_1).f2)) := (blk_cell BK123.out 2).trans rfl
                                                have hfz30_0 := blk_frozen BK123.out 0
                                                have hfz30_1 := blk_frozen BK123.out 1
                                                have hfz30_2 := blk_frozen BK123.out 2
                                                go_wp2
                                                repeat (go_quiet (fail); try go_wp2)
                                                go_meet
                                                case rel => exact ⟨_, (((rd l1 x10_3) == ((rd_T67 l0 x23_1).f1))), (by first | rfl | (simp; done) | (simp [*]; done)), H', ⟨by have := HK1.out; have := HK2.out; have := HK3.out; first | omega | exact Nat.le_refl _⟩, ⟨by (try simp only [hl6_2]); (try simp only [hl6_3]); (with_reducible repeat (first | apply Kd.S_alloc | apply Kd.S_drewN | apply Kd.S_drew)); exact HO_6.out⟩, ⟨by (try simp only [hl6_2]); (try simp only [hl6_3]); (with_reducible repeat (first | refine blk_drewN ?_ _ | refine blk_drew ?_ | refine blk_alloc ?_ _)); exact BK123.out⟩, ⟨by repeat (first | (with_reducible first | exact HB.out | apply below_alloc | apply pw_below_drewN | apply below_drew1 | refine below_set ?_ GE123.out) | exact HB.out)⟩⟩
                                            · rw [if_neg c29] at H
                                              exact absurd H (by simp)
                                          · rw [if_neg c28] at H
                                            exact absurd H (by simp)
                                        · rw [if_neg c27] at H
                                          have c27b0 : (x9_2 == 1) = false := beq_eq_false_iff_ne.mpr c27
                                          have c27b1 : (x9_2 != 1) = true := bne_iff_ne.mpr c27
                                          as_aux_lemma =>
                                            have H' := Aside0.mk H
                                            clear H
                                            go_wp2
                                            repeat (go_quiet (fail); try go_wp2)
                                            go_meet
                                            case rel => exact ⟨_, (false), (by first | rfl | (simp; done) | (simp [*]; done)), H', ⟨by have := HK1.out; have := HK2.out; have := HK3.out; first | omega | exact Nat.le_refl _⟩, ⟨by (try simp only [hl6_2]); (try simp only [hl6_3]); (with_reducible repeat (first | apply Kd.S_alloc | apply Kd.S_drewN | apply Kd.S_drew)); exact HO_6.out⟩, ⟨by (try simp only [hl6_2]); (try simp only [hl6_3]); (with_reducible repeat (first | refine blk_drewN ?_ _ | refine blk_drew ?_ | refine blk_alloc ?_ _)); exact BK123.out⟩, ⟨by repeat (first | (with_reducible first | exact HB.out | apply below_alloc | apply pw_below_drewN | apply below_drew1 | refine below_set ?_ GE123.out) | exact HB.out)⟩⟩
                                      · rw [if_neg c26] at H
                                        have c26b0 : (((rd_T67 l0 x23_1).f0) == 3) = false := beq_eq_false_iff_ne.mpr c26
                                        have c26b1 : (((rd_T67 l0 x23_1).f0) != 3) = true := bne_iff_ne.mpr c26
                                        by_cases c31 : ((rd_T67 l0 x23_1).f0) = 5
                                        · rw [if_pos c31] at H
                                          have c31b0 : (((rd_T67 l0 x23_1).f0) == 5) = true := beq_iff_eq.mpr c31
                                          have c31b1 : (((rd_T67 l0 x23_1).f0) != 5) = false := bne_eq_false_iff_eq.mpr c31
                                          clear c31
                                          by_cases c32 : 0 ≤ ((rd_T67 l0 x23_1).f1)
                                          · rw [if_pos c32] at H
                                            have c32b0 : decide (0 ≤ ((rd_T67 l0 x23_1).f1)) = true := decide_eq_true c32
                                            clear c32
                                            by_cases c33 : ((rd_T67 l0 x23_1).f1) < (x6_3.length : Int)
                                            · rw [if_pos c33] at H
                                              have c33b0 : decide (((rd_T67 l0 x23_1).f1) < (x6_3.length : Int)) = true := decide_eq_true c33
                                              (try (have c33b0h := c33b0; simp only [hl6_2, hl6_3] at c33b0h))
                                              clear c33
                                              obtain ⟨ji34, hji34⟩ : ∃ j_ : Int, (wrap64 ((wrap64 (x10_3 * (wrap64 ((l1.length : Int) + 1)))) + (wrap64 (x10_3 + x9_2)))) = j_ := ⟨_, rfl⟩
                                              replace H : (if 0 ≤ (ji34) then (if (ji34) < ((rd_L3 x6_3 ((rd_T67 l0 x23_1).f1)).length : Int) then (if rdOf false (rd_L3 x6_3 ((rd_T67 l0 x23_1).f1)) (ji34) = true then (coppicerref_Means.j7 k3 l0 l1 (wrap64 ((l1.length : Int) + 1)) x6_3 x23_1 x9_2 x10_3 (wrap64 (x10_3 + x9_2)) true l0 (l0.length : Int) x23_1 ((rd_T67 l0 x23_1).f0) ((rd_T67 l0 x23_1).f1) ((rd_T67 l0 x23_1).f2)) else (if 0 ≤ ((rd_T67 l0 x23_1).f2) then (if ((rd_T67 l0 x23_1).f2) < (x6_3.length : Int) then (if (ji34) < ((rd_L3 x6_3 ((rd_T67 l0 x23_1).f2)).length : Int) then (coppicerref_Means.j7 k3 l0 l1 (wrap64 ((l1.length : Int) + 1)) x6_3 x23_1 x9_2 x10_3 (wrap64 (x10_3 + x9_2)) (rdOf false (rd_L3 x6_3 ((rd_T67 l0 x23_1).f2)) (ji34)) l0 (l0.length : Int) x23_1 ((rd_T67 l0 x23_1).f0) ((rd_T67 l0 x23_1).f1) ((rd_T67 l0 x23_1).f2)) else (none)) else (none)) else (none))) else (none)) else (none)) = some r := by first | (rw [hji34] at H; exact H) | (simp only [hji34] at H ⊢; exact H)
                                              have hji34w : (IntKind.i64.wrap ((wrap64 (x10_3 * (wrap64 ((l1.length : Int) + 1)))) + (wrap64 (x10_3 + x9_2)))) = ji34 := (i64_w _).trans hji34
                                              by_cases c35 : 0 ≤ (ji34)
                                              · rw [if_pos c35] at H
                                                have c35b0 : decide (0 ≤ (ji34)) = true := decide_eq_true c35
                                                clear c35
                                                by_cases c36 : (ji34) < ((rd_L3 x6_3 ((rd_T67 l0 x23_1).f1)).length : Int)
                                                · rw [if_pos c36] at H
                                                  have c36b0 : decide ((ji34) < ((rd_L3 x6_3 ((rd_T67 l0 x23_1).f1)).length : Int)) = true := decide_eq_true c36
                                                  (try (have c36b0h := c36b0; simp only [hl6_2, hl6_3] at c36b0h))
                                                  clear c36
                                                  obtain ⟨bq37, hbq37⟩ : ∃ b_ : Bool, b_ = (rdOf false (rd_L3 x6_3 ((rd_T67 l0 x23_1).f1)) (ji34)) := ⟨_, rfl⟩
                                                  replace H : (if bq37 = true then (coppicerref_Means.j7 k3 l0 l1 (wrap64 ((l1.length : Int) + 1)) x6_3 x23_1 x9_2 x10_3 (wrap64 (x10_3 + x9_2)) true l0 (l0.length : Int) x23_1 ((rd_T67 l0 x23_1).f0) ((rd_T67 l0 x23_1).f1) ((rd_T67 l0 x23_1).f2)) else (if 0 ≤ ((rd_T67 l0 x23_1).f2) then (if ((rd_T67 l0 x23_1).f2) < (x6_3.length : Int) then (if (ji34) < ((rd_L3 x6_3 ((rd_T67 l0 x23_1).f2)).length : Int) then (coppicerref_Means.j7 k3 l0 l1 (wrap64 ((l1.length : Int) + 1)) x6_3 x23_1 x9_2 x10_3 (wrap64 (x10_3 + x9_2)) (rdOf false (rd_L3 x6_3 ((rd_T67 l0 x23_1).f2)) (ji34)) l0 (l0.length : Int) x23_1 ((rd_T67 l0 x23_1).f0) ((rd_T67 l0 x23_1).f1) ((rd_T67 l0 x23_1).f2)) else (none)) else (none)) else (none))) = some r := by rw [← hbq37] at H; exact H
                                                  have Nbq37 := Aside0.mk hbq37
                                                  clear hbq37
                                                  by_cases c38 : bq37 = true
                                                  · subst c38
                                                    have H1 : (coppicerref_Means.j7 k3 l0 l1 (wrap64 ((l1.length : Int) + 1)) x6_3 x23_1 x9_2 x10_3 (wrap64 (x10_3 + x9_2)) true l0 (l0.length : Int) x23_1 ((rd_T67 l0 x23_1).f0) ((rd_T67 l0 x23_1).f1) ((rd_T67 l0 x23_1).f2)) = some r := by rw [if_pos rfl] at H; exact H
                                                    clear H
                                                    have H := H1
                                                    clear H1
                                                    as_aux_lemma =>
                                                      have H' := Aside0.mk H
                                                      clear H
                                                      have hcz39_0 : wr.cell? ⟨gb123, 0, none⟩ = some (.int .i64 ((rd_T67 l0 x23_1).f0)) := (blk_cell BK123.out 0).trans rfl
                                                      have hcz39_1 : wr.cell? ⟨gb123, 1, none⟩ = some (.int .i64 ((rd_T67 l0 x23_1).f1)) := (blk_cell BK123.out 1).trans rfl
                                                      have hcz39_2 : wr.cell? ⟨gb123, 2, none⟩ = some (.int .i64 ((rd_T67 l0 x23_1).f2)) := (blk_cell BK123.out 2).trans rfl
                                                      have hfz39_0 := blk_frozen BK123.out 0
                                                      have hfz39_1 := blk_frozen BK123.out 1
                                                      have hfz39_2 := blk_frozen BK123.out 2
                                                      have p129 : 0 ≤ (((rd_T67 l0 x23_1).f1) : Int) := of_decide_eq_true (by first | (with_reducible assumption) | assumption)
                                                      have q129 : ((rd_T67 l0 x23_1).f1) < (x6_3.length : Int) := of_decide_eq_true (by first | (with_reducible assumption) | assumption)
                                                      obtain ⟨ad129, A129_0, c129_0, e129, hx129_0, hl129_0, hi129_0⟩ := at_L3 (Kd.S_reads' HO_6.out).2.2 ((rd_T67 l0 x23_1).f1) p129 q129
                                                      obtain rfl : (⟨go14, 0, none⟩ : Addr) = ad129 := (by injection e129)
                                                      obtain ⟨ce129, hce129, hMe129, hcc129⟩ := Kd.S_get HO_6.out [] ((rd_T67 l0 x23_1).f1) p129 (by first | exact q129 | exact of_decide_eq_true (by first | (with_reducible assumption) | assumption) | (have e_ := (Kd.S_reads' HO_6.out).1; omega))
                                                      obtain ⟨ve129_0, rfl, ge129_0⟩ := hMe129
                                                      have hv129_0 := hcc129 0 _ rfl
                                                      rw [Nat.add_zero, show ((Kd.slice 4 Kd.bool)).sz = 1 from rfl, Nat.mul_one] at hv129_0
                                                      replace hv129_0 := Option.some.inj (hv129_0.symm.trans hx129_0)
                                                      rw [hv129_0] at ge129_0
                                                      have HL129_0 := Aside0.mk (show Kd.R Kd.bool 4 _ _ _ _ (rd_L3 x6_3 ((rd_T67 l0 x23_1).f1)) from ge129_0)
                                                      clear hv129_0 ge129_0
                                                      have HX129_0 := Aside0.mk hx129_0
                                                      clear hcc129 hce129
                                                      (first | simp only [add_plain] at hx129_0 | simp only [add_at] at hx129_0 | simp only [Addr.add, Nat.zero_add] at hx129_0 | skip)
                                                      have HR129_0 := Aside0.mk hi129_0
                                                      have HC129_0 := Aside0.mk hl129_0
                                                      clear hi129_0 hl129_0
                                                      replace p129 := eq_true p129
                                                      replace q129 := eq_true q129
                                                      have p130 : 0 ≤ ((ji34) : Int) := of_decide_eq_true (by first | (with_reducible assumption) | assumption)
                                                      have q130 : (ji34) < ((rd_L3 x6_3 ((rd_T67 l0 x23_1).f1)).length : Int) := of_decide_eq_true (by first | (with_reducible assumption) | assumption)
                                                      obtain ⟨ad130, e130, hx130_0⟩ := Kd.at_bool (by repeat (first | (with_reducible exact HR129_0.out) | (with_reducible refine Kd.C_alloc ?_ _) | (with_reducible refine Kd.C_drewN ?_ _) | (with_reducible refine Kd.C_drew ?_) | exact HR129_0.out)) (ji34) p130 q130
                                                      (try rw [← Nbq37.out] at hx130_0)
                                                      cases e130
                                                      replace p130 := eq_true p130
                                                      replace q130 := eq_true q130
                                                      go_wp2
                                                      repeat (go_quiet (fail); try go_wp2)
                                                      go_meet
                                                      case rel => exact ⟨_, (true), (by first | rfl | (simp; done) | (simp [*]; done)), H', ⟨by have := HK1.out; have := HK2.out; have := HK3.out; first | omega | exact Nat.le_refl _⟩, ⟨by (try simp only [hl6_2]); (try simp only [hl6_3]); (with_reducible repeat (first | apply Kd.S_alloc | apply Kd.S_drewN | apply Kd.S_drew)); exact HO_6.out⟩, ⟨by (try simp only [hl6_2]); (try simp only [hl6_3]); (with_reducible repeat (first | refine blk_drewN ?_ _ | refine blk_drew ?_ | refine blk_alloc ?_ _)); exact BK123.out⟩, ⟨by repeat (first | (with_reducible first | exact HB.out | apply below_alloc | apply pw_below_drewN | apply below_drew1 | refine below_set ?_ GE123.out) | exact HB.out)⟩⟩
                                                  · replace c38 := Bool.eq_false_iff.mpr c38
                                                    subst c38
                                                    have H1 : (if 0 ≤ ((rd_T67 l0 x23_1).f2) then (if ((rd_T67 l0 x23_1).f2) < (x6_3.length : Int) then (if (ji34) < ((rd_L3 x6_3 ((rd_T67 l0 x23_1).f2)).length : Int) then (coppicerref_Means.j7 k3 l0 l1 (wrap64 ((l1.length : Int) + 1)) x6_3 x23_1 x9_2 x10_3 (wrap64 (x10_3 + x9_2)) (rdOf false (rd_L3 x6_3 ((rd_T67 l0 x23_1).f2)) (ji34)) l0 (l0.length : Int) x23_1 ((rd_T67 l0 x23_1).f0) ((rd_T67 l0 x23_1).f1) ((rd_T67 l0 x23_1).f2)) else (none)) else (none)) else (none)) = some r := by rw [if_neg (show ¬ (false = true) by decide)] at H; exact H
                                                    clear H
                                                    have H := H1
                                                    clear H1
                                                    by_cases c40 : 0 ≤ ((rd_T67 l0 x23_1).f2)
                                                    · rw [if_pos c40] at H
                                                      have c40b0 : decide (0 ≤ ((rd_T67 l0 x23_1).f2)) = true := decide_eq_true c40
                                                      clear c40
                                                      by_cases c41 : ((rd_T67 l0 x23_1).f2) < (x6_3.length : Int)
                                                      · rw [if_pos c41] at H
                                                        have c41b0 : decide (((rd_T67 l0 x23_1).f2) < (x6_3.length : Int)) = true := decide_eq_true c41
                                                        (try (have c41b0h := c41b0; simp only [hl6_2, hl6_3] at c41b0h))
                                                        clear c41
                                                        by_cases c42 : (ji34) < ((rd_L3 x6_3 ((rd_T67 l0 x23_1).f2)).length : Int)
                                                        · rw [if_pos c42] at H
                                                          have c42b0 : decide ((ji34) < ((rd_L3 x6_3 ((rd_T67 l0 x23_1).f2)).length : Int)) = true := decide_eq_true c42
                                                          (try (have c42b0h := c42b0; simp only [hl6_2, hl6_3] at c42b0h))
                                                          clear c42
                                                          as_aux_lemma =>
                                                            have H' := Aside0.mk H
                                                            clear H
                                                            have hcz43_0 : wr.cell? ⟨gb123, 0, none⟩ = some (.int .i64 ((rd_T67 l0 x23_1).f0)) := (blk_cell BK123.out 0).trans rfl
                                                            have hcz43_1 : wr.cell? ⟨gb123, 1, none⟩ = some (.int .i64 ((rd_T67 l0 x23_1).f1)) := (blk_cell BK123.out 1).trans rfl
                                                            have hcz43_2 : wr.cell? ⟨gb123, 2, none⟩ = some (.int .i64 ((rd_T67 l0 x23_1).f2)) := (blk_cell BK123.out 2).trans rfl
                                                            have hfz43_0 := blk_frozen BK123.out 0
                                                            have hfz43_1 := blk_frozen BK123.out 1
                                                            have hfz43_2 := blk_frozen BK123.out 2
                                                            have p129 : 0 ≤ (((rd_T67 l0 x23_1).f1) : Int) := of_decide_eq_true (by first | (with_reducible assumption) | assumption)
                                                            have q129 : ((rd_T67 l0 x23_1).f1) < (x6_3.length : Int) := of_decide_eq_true (by first | (with_reducible assumption) | assumption)
                                                            obtain ⟨ad129, A129_0, c129_0, e129, hx129_0, hl129_0, hi129_0⟩ := at_L3 (Kd.S_reads' HO_6.out).2.2 ((rd_T67 l0 x23_1).f1) p129 q129
                                                            obtain rfl : (⟨go14, 0, none⟩ : Addr) = ad129 := (by injection e129)
                                                            obtain ⟨ce129, hce129, hMe129, hcc129⟩ := Kd.S_get HO_6.out [] ((rd_T67 l0 x23_1).f1) p129 (by first | exact q129 | exact of_decide_eq_true (by first | (with_reducible assumption) | assumption) | (have e_ := (Kd.S_reads' HO_6.out).1; omega))
                                                            obtain ⟨ve129_0, rfl, ge129_0⟩ := hMe129
                                                            have hv129_0 := hcc129 0 _ rfl
                                                            rw [Nat.add_zero, show ((Kd.slice 4 Kd.bool)).sz = 1 from rfl, Nat.mul_one] at hv129_0
                                                            replace hv129_0 := Option.some.inj (hv129_0.symm.trans hx129_0)
                                                            rw [hv129_0] at ge129_0
                                                            have HL129_0 := Aside0.mk (show Kd.R Kd.bool 4 _ _ _ _ (rd_L3 x6_3 ((rd_T67 l0 x23_1).f1)) from ge129_0)
                                                            clear hv129_0 ge129_0
                                                            have HX129_0 := Aside0.mk hx129_0
                                                            clear hcc129 hce129
                                                            (first | simp only [add_plain] at hx129_0 | simp only [add_at] at hx129_0 | simp only [Addr.add, Nat.zero_add] at hx129_0 | skip)
                                                            have HR129_0 := Aside0.mk hi129_0
                                                            have HC129_0 := Aside0.mk hl129_0
                                                            clear hi129_0 hl129_0
                                                            replace p129 := eq_true p129
                                                            replace q129 := eq_true q129
                                                            have p130 : 0 ≤ ((ji34) : Int) := of_decide_eq_true (by first | (with_reducible assumption) | assumption)
                                                            have q130 : (ji34) < ((rd_L3 x6_3 ((rd_T67 l0 x23_1).f1)).length : Int) := of_decide_eq_true (by first | (with_reducible assumption) | assumption)
                                                            obtain ⟨ad130, e130, hx130_0⟩ := Kd.at_bool (by repeat (first | (with_reducible exact HR129_0.out) | (with_reducible refine Kd.C_alloc ?_ _) | (with_reducible refine Kd.C_drewN ?_ _) | (with_reducible refine Kd.C_drew ?_) | exact HR129_0.out)) (ji34) p130 q130
                                                            (try rw [← Nbq37.out] at hx130_0)
                                                            cases e130
                                                            replace p130 := eq_true p130
                                                            replace q130 := eq_true q130
                                                            have p131 : 0 ≤ (((rd_T67 l0 x23_1).f2) : Int) := of_decide_eq_true (by first | (with_reducible assumption) | assumption)
                                                            have q131 : ((rd_T67 l0 x23_1).f2) < (x6_3.length : Int) := of_decide_eq_true (by first | (with_reducible assumption) | assumption)
                                                            obtain ⟨ad131, A131_0, c131_0, e131, hx131_0, hl131_0, hi131_0⟩ := at_L3 (Kd.S_reads' HO_6.out).2.2 ((rd_T67 l0 x23_1).f2) p131 q131
                                                            obtain rfl : (⟨go14, 0, none⟩ : Addr) = ad131 := (by injection e131)
                                                            obtain ⟨ce131, hce131, hMe131, hcc131⟩ := Kd.S_get HO_6.out [] ((rd_T67 l0 x23_1).f2) p131 (by first | exact q131 | exact of_decide_eq_true (by first | (with_reducible assumption) | assumption) | (have e_ := (Kd.S_reads' HO_6.out).1; omega))
                                                            obtain ⟨ve131_0, rfl, ge131_0⟩ := hMe131
                                                            have hv131_0 := hcc131 0 _ rfl
                                                            rw [Nat.add_zero, show ((Kd.slice 4 Kd.bool)).sz = 1 from rfl, Nat.mul_one] at hv131_0
                                                            replace hv131_0 := Option.some.inj (hv131_0.symm.trans hx131_0)
                                                            rw [hv131_0] at ge131_0
                                                            have HL131_0 := Aside0.mk (show Kd.R Kd.bool 4 _ _ _ _ (rd_L3 x6_3 ((rd_T67 l0 x23_1).f2)) from ge131_0)
                                                            clear hv131_0 ge131_0
                                                            have HX131_0 := Aside0.mk hx131_0
                                                            clear hcc131 hce131
                                                            (first | simp only [add_plain] at hx131_0 | simp only [add_at] at hx131_0 | simp only [Addr.add, Nat.zero_add] at hx131_0 | skip)
                                                            have HR131_0 := Aside0.mk hi131_0
                                                            have HC131_0 := Aside0.mk hl131_0
                                                            clear hi131_0 hl131_0
                                                            replace p131 := eq_true p131
                                                            replace q131 := eq_true q131
                                                            have p132 : 0 ≤ ((ji34) : Int) := of_decide_eq_true (by first | (with_reducible assumption) | assumption)
                                                            have q132 : (ji34) < ((rd_L3 x6_3 ((rd_T67 l0 x23_1).f2)).length : Int) := of_decide_eq_true (by first | (with_reducible assumption) | assumption)
                                                            obtain ⟨ad132, e132, hx132_0⟩ := Kd.at_bool (by repeat (first | (with_reducible exact HR131_0.out) | (with_reducible refine Kd.C_alloc ?_ _) | (with_reducible refine Kd.C_drewN ?_ _) | (with_reducible refine Kd.C_drew ?_) | exact HR131_0.out)) (ji34) p132 q132
                                                            (try rw [← Nbq37.out] at hx132_0)
                                                            cases e132
                                                            replace p132 := eq_true p132
                                                            replace q132 := eq_true q132
                                                            go_wp2
                                                            repeat (go_quiet (fail); try go_wp2)
                                                            go_meet
                                                            case rel => exact ⟨_, (rdOf false (rd_L3 x6_3 ((rd_T67 l0 x23_1).f2)) (ji34)), (by first | rfl | (simp; done) | (simp only [← hji34] <;> (first | rfl | simp)) | (simp [*]; done)), H', ⟨by have := HK1.out; have := HK2.out; have := HK3.out; first | omega | exact Nat.le_refl _⟩, ⟨by (try simp only [hl6_2]); (try simp only [hl6_3]); (with_reducible repeat (first | apply Kd.S_alloc | apply Kd.S_drewN | apply Kd.S_drew)); exact HO_6.out⟩, ⟨by (try simp only [hl6_2]); (try simp only [hl6_3]); (with_reducible repeat (first | refine blk_drewN ?_ _ | refine blk_drew ?_ | refine blk_alloc ?_ _)); exact BK123.out⟩, ⟨by repeat (first | (with_reducible first | exact HB.out | apply below_alloc | apply pw_below_drewN | apply below_drew1 | refine below_set ?_ GE123.out) | exact HB.out)⟩⟩
                                                        · rw [if_neg c42] at H
                                                          exact absurd H (by simp)
                                                      · rw [if_neg c41] at H
                                                        exact absurd H (by simp)
                                                    · rw [if_neg c40] at H
                                                      exact absurd H (by simp)
                                                · rw [if_neg c36] at H
                                                  exact absurd H (by simp)
                                              · rw [if_neg c35] at H
                                                exact absurd H (by simp)
                                            · rw [if_neg c33] at H
                                              exact absurd H (by simp)
                                          · rw [if_neg c32] at H
                                            exact absurd H (by simp)
                                        · rw [if_neg c31] at H
                                          have c31b0 : (((rd_T67 l0 x23_1).f0) == 5) = false := beq_eq_false_iff_ne.mpr c31
                                          have c31b1 : (((rd_T67 l0 x23_1).f0) != 5) = true := bne_iff_ne.mpr c31
                                          by_cases c44 : ((rd_T67 l0 x23_1).f0) = 4
                                          · rw [if_pos c44] at H
                                            have c44b0 : (((rd_T67 l0 x23_1).f0) == 4) = true := beq_iff_eq.mpr c44
                                            have c44b1 : (((rd_T67 l0 x23_1).f0) != 4) = false := bne_eq_false_iff_eq.mpr c44
                                            clear c44
                                            have H' := Aside0.mk H
                                            clear H
                                            go_wp2
                                            repeat (go_quiet (fail); try go_wp2)
                                            go_loopg [12, 13] k3 (fun kq v12 v13 w' => ∃ (x12_4 : Bool) (x13_4 : Int), v12 = .bool x12_4 ∧ v13 = .int .i64 x13_4 ∧ Aside0 (coppicerref_Means.l3 kq l0 l1 (wrap64 ((l1.length : Int) + 1)) x6_3 x23_1 x9_2 x10_3 (wrap64 (x10_3 + x9_2)) x12_4 x13_4 l0 (l0.length : Int) x23_1 ((rd_T67 l0 x23_1).f0) ((rd_T67 l0 x23_1).f1) ((rd_T67 l0 x23_1).f2) = some r) ∧ Aside0 (kq ≤ k3) ∧ Aside0 (Kd.S (Kd.slice 4 Kd.bool) 69 w' w.heap.size (fun _ => True) (.slice (some ⟨go14, 0, none⟩) x6_3.length co14) x6_3) ∧ Aside0 (w'.heap[gb123]? = some (.cells #[.int .i64 ((rd_T67 l0 x23_1).f0), .int .i64 ((rd_T67 l0 x23_1).f1), .int .i64 ((rd_T67 l0 x23_1).f2)] 67 (0, 0))) ∧ Aside0 (Below w.heap.size w w'))
                                            case atStart => exact ⟨(false), (x10_3), (by first | rfl | (simp; done) | (simp [*]; done)), (by first | rfl | (simp; done) | (simp [*]; done)), H', ⟨Nat.le_refl _⟩, ⟨by (try simp only [hl6_2]); (try simp only [hl6_3]); (with_reducible repeat (first | apply Kd.S_alloc | apply Kd.S_drewN | apply Kd.S_drew)); exact HO_6.out⟩, ⟨by (try simp only [hl6_2]); (try simp only [hl6_3]); (with_reducible repeat (first | refine blk_drewN ?_ _ | refine blk_drew ?_ | refine blk_alloc ?_ _)); exact BK123.out⟩, ⟨by repeat (first | (with_reducible first | exact HB.out | apply below_alloc | apply pw_below_drewN | apply below_drew1 | refine below_set ?_ GE123.out) | exact HB.out)⟩⟩
                                            case round =>
                                              clear H'
                                              try clear c1
                                              try clear p1
                                              try clear q1
                                              try clear hx1
                                              try clear c2
                                              try clear p2
                                              try clear c3
                                              try clear c3b0
                                              try clear c3b1
                                              try clear q3
                                              try clear c4
                                              try clear c4b0
                                              try clear c4b1
                                              try clear p6
                                              try clear c7
                                              try clear c7b0
                                              try clear c8
                                              try clear c8b0
                                              try clear c9
                                              try clear c9b0
                                              try clear c11
                                              try clear c11b0
                                              try clear c11b1
                                              try clear c12
                                              try clear c12b0
                                              try clear c12b1
                                              try clear p12
                                              try clear q12
                                              try clear hx12
                                              try clear c13
                                              try clear c13b0
                                              try clear p13
                                              try clear q13
                                              try clear hx13
                                              try clear c14
                                              try clear p14
                                              try clear q14
                                              try clear hx14
                                              try clear hf14
                                              try clear c15
                                              try clear c19
                                              try clear hx19
                                              try clear hf19
                                              try clear c21
                                              try clear c21b0
                                              try clear c22
                                              try clear c22b0
                                              try clear c25
                                              try clear c25b0
                                              try clear c25b1
                                              try clear c26
                                              try clear c26b0
                                              try clear c26b1
                                              try clear c27
                                              try clear c27b0
                                              try clear c27b1
                                              try clear c28
                                              try clear c28b0
                                              try clear c29
                                              try clear c29b0
                                              try clear c31
                                              try clear c31b0
                                              try clear c31b1
                                              try clear c32
                                              try clear c32b0
                                              try clear c33
                                              try clear c33b0
                                              try clear c35
                                              try clear c35b0
                                              try clear c36
                                              try clear c36b0
                                              try clear q37
                                              try clear c38
                                              try clear c40
                                              try clear c40b0
                                              try clear c41
                                              try clear c41b0
                                              try clear c42
                                              try clear c42b0
                                              try clear c44
                                              try clear c44b0
                                              try clear c44b1
                                              try clear hcz16_0
                                              try clear hcz16_1
                                              try clear hcz16_2
                                              try clear hcz24_0
                                              try clear hcz24_1
                                              try clear hcz24_2
                                              try clear hcz30_0
                                              try clear hcz30_1
                                              try clear hcz30_2
                                              try clear hcz39_0
                                              try clear hcz39_1
                                              try clear hcz39_2
                                              try clear hcz43_0
                                              try clear hcz43_1
                                              try clear hcz43_2
                                              try clear hfz16_0
                                              try clear hfz16_1
                                              try clear hfz16_2
                                              try clear hfz24_0
                                              try clear hfz24_1
                                              try clear hfz24_2
                                              try clear hfz30_0
                                              try clear hfz30_1
                                              try clear hfz30_2
                                              try clear hfz39_0
                                              try clear hfz39_1
                                              try clear hfz39_2
                                              try clear hfz43_0
                                              try clear hfz43_1
                                              try clear hfz43_2
                                              try clear hx122_0
                                              try clear hx122_1
                                              try clear hx122_2
                                              try clear hx128_0
                                              try clear hx129_0
                                              try clear hx130_0
                                              try clear hx131_0
                                              try clear hx132_0
                                              try clear hx14_0
                                              try clear hx19_0
                                              try clear p1
                                              try clear p12
                                              try clear p122
                                              try clear p128
                                              try clear p129
                                              try clear p130
                                              try clear p131
                                              try clear p132
                                              try clear p14
                                              try clear p2
                                              try clear p6
                                              try clear q1
                                              try clear q12
                                              try clear q122
                                              try clear q128
                                              try clear q129
                                              try clear q130
                                              try clear q131
                                              try clear q132
                                              try clear q14
                                              obtain ⟨x12_4, x13_4, rfl, rfl, HA, HK4, HO_6, BK123, HB⟩ := hrel
                                              cases gk with
                                              | zero => exact absurd HA.out (by simp [coppicerref_Means.l3])
                                              | succ k4 =>
                                                have H := HA.out
                                                clear HA
                                                simp only [coppicerref_Means.l3] at H
                                                by_cases c45 : x13_4 ≤ (wrap64 (x10_3 + x9_2))
                                                · rw [if_pos c45] at H
                                                  have c45b0 : decide (x13_4 ≤ (wrap64 (x10_3 + x9_2))) = true := decide_eq_true c45
                                                  clear c45
                                                  have HC46 := Aside0.mk H
                                                  clear H
                                                  go_upto_block 8 with (fail)
                                                  repeat (go_quiet (fail); go_upto_block 8 with (fail))
                                                  go_cut [12] (fun v12 wc => ∃ (kq : Nat) (x12_45 : Bool), v12 = .bool x12_45 ∧ Aside0 (coppicerref_Means.j4 kq l0 l1 (wrap64 ((l1.length : Int) + 1)) x6_3 x23_1 x9_2 x10_3 (wrap64 (x10_3 + x9_2)) x12_45 x13_4 l0 (l0.length : Int) x23_1 ((rd_T67 l0 x23_1).f0) ((rd_T67 l0 x23_1).f1) ((rd_T67 l0 x23_1).f2) = some r) ∧ Aside0 (kq ≤ k4) ∧ Aside0 (Kd.S (Kd.slice 4 Kd.bool) 69 wc w.heap.size (fun _ => True) (.slice (some ⟨go14, 0, none⟩) x6_3.length co14) x6_3) ∧ Aside0 (wc.heap[gb123]? = some (.cells #[.int .i64 ((rd_T67 l0 x23_1).f0), .int .i64 ((rd_T67 l0 x23_1).f1), .int .i64 ((rd_T67 l0 x23_1).f2)] 67 (0, 0))) ∧ Aside0 (Below w.heap.size w wc))
                                                  case first =>
                                                    have H := HC46.out
                                                    clear HC46
                                                    by_cases c47 : x12_4 = true
                                                    · subst c47
                                                      have H1 : (coppicerref_Means.j4 k4 l0 l1 (wrap64 ((l1.length : Int) + 1)) x6_3 x23_1 x9_2 x10_3 (wrap64 (x10_3 + x9_2)) true x13_4 l0 (l0.length : Int) x23_1 ((rd_T67 l0 x23_1).f0) ((rd_T67 l0 x23_1).f1) ((rd_T67 l0 x23_1).f2)) = some r := by rw [if_pos rfl] at H; exact H
                                                      clear H
                                                      have H := H1
                                                      clear H1
                                                      as_aux_lemma =>
                                                        have H' := Aside0.mk H
                                                        clear H
                                                        go_wp2
                                                        repeat (go_quiet (fail); try go_wp2)
                                                        go_meet
                                                        case rel => exact ⟨_, (true), (by first | rfl | (simp; done) | (simp [*]; done)), H', ⟨by have := HK1.out; have := HK2.out; have := HK3.out; have := HK4.out; first | omega | exact Nat.le_refl _⟩, ⟨by (try simp only [hl6_2]); (try simp only [hl6_3]); (with_reducible repeat (first | apply Kd.S_alloc | apply Kd.S_drewN | apply Kd.S_drew)); exact HO_6.out⟩, ⟨by (try simp only [hl6_2]); (try simp only [hl6_3]); (with_reducible repeat (first | refine blk_drewN ?_ _ | refine blk_drew ?_ | refine blk_alloc ?_ _)); exact BK123.out⟩, ⟨by repeat (first | (with_reducible first | exact HB.out | apply below_alloc | apply pw_below_drewN | apply below_drew1 | refine below_set ?_ GE123.out) | exact HB.out)⟩⟩
                                                    · replace c47 := Bool.eq_false_iff.mpr c47
                                                      subst c47
                                                      have H1 : (if 0 ≤ ((rd_T67 l0 x23_1).f1) then (if ((rd_T67 l0 x23_1).f1) < (x6_3.length : Int) then (if 0 ≤ (wrap64 ((wrap64 (x10_3 * (wrap64 ((l1.length : Int) + 1)))) + x13_4)) then (if (wrap64 ((wrap64 (x10_3 * (wrap64 ((l1.length : Int) + 1)))) + x13_4)) < ((rd_L3 x6_3 ((rd_T67 l0 x23_1).f1)).length : Int) then (if rdOf false (rd_L3 x6_3 ((rd_T67 l0 x23_1).f1)) (wrap64 ((wrap64 (x10_3 * (wrap64 ((l1.length : Int) + 1)))) + x13_4)) = true then (if 0 ≤ ((rd_T67 l0 x23_1).f2) then (if ((rd_T67 l0 x23_1).f2) < (x6_3.length : Int) then (if 0 ≤ (wrap64 ((wrap64 (x13_4 * (wrap64 ((l1.length : Int) + 1)))) + (wrap64 (x10_3 + x9_2)))) then (if (wrap64 ((wrap64 (x13_4 * (wrap64 ((l1.length : Int) + 1)))) + (wrap64 (x10_3 + x9_2)))) < ((rd_L3 x6_3 ((rd_T67 l0 x23_1).f2)).length : Int) then (coppicerref_Means.j4 k4 l0 l1 (wrap64 ((l1.length : Int) + 1)) x6_3 x23_1 x9_2 x10_3 (wrap64 (x10_3 + x9_2)) (rdOf false (rd_L3 x6_3 ((rd_T67 l0 x23_1).f2)) (wrap64 ((wrap64 (x13_4 * (wrap64 ((l1.length : Int) + 1)))) + (wrap64 (x10_3 + x9_2))))) x13_4 l0 (l0.length : Int) x23_1 ((rd_T67 l0 x23_1).f0) ((rd_T67 l0 x23_1).f1) ((rd_T67 l0 x23_1).f2)) else (none)) else (none)) else (none)) else (none)) else (coppicerref_Means.j4 k4 l0 l1 (wrap64 ((l1.length : Int) + 1)) x6_3 x23_1 x9_2 x10_3 (wrap64 (x10_3 + x9_2)) false x13_4 l0 (l0.length : Int) x23_1 ((rd_T67 l0 x23_1).f0) ((rd_T67 l0 x23_1).f1) ((rd_T67 l0 x23_1).f2))) else (none)) else (none)) else (none)) else (none)) = some r := by rw [if_neg (show ¬ (false = true) by decide)] at H; exact H
                                                      clear H
                                                      have H := H1
                                                      clear H1
                                                      by_cases c48 : 0 ≤ ((rd_T67 l0 x23_1).f1)
                                                      · rw [if_pos c48] at H
                                                        have c48b0 : decide (0 ≤ ((rd_T67 l0 x23_1).f1)) = true := decide_eq_true c48
                                                        clear c48
                                                        (first | rw [c48b0] | (simp only [i64_w, i32_w]; rw [c48b0]) | skip)
                                                        by_cases c49 : ((rd_T67 l0 x23_1).f1) < (x6_3.length : Int)
                                                        · rw [if_pos c49] at H
                                                          have c49b0 : decide (((rd_T67 l0 x23_1).f1) < (x6_3.length : Int)) = true := decide_eq_true c49
                                                          (try (have c49b0h := c49b0; simp only [hl6_2, hl6_3] at c49b0h))
                                                          clear c49
                                                          obtain ⟨ji50, hji50⟩ : ∃ j_ : Int, (wrap64 ((wrap64 (x10_3 * (wrap64 ((l1.length : Int) + 1)))) + x13_4)) = j_ := ⟨_, rfl⟩
                                                          replace H : (if 0 ≤ (ji50) then (if (ji50) < ((rd_L3 x6_3 ((rd_T67 l0 x23_1).f1)).length : Int) then (if rdOf false (rd_L3 x6_3 ((rd_T67 l0 x23_1).f1)) (ji50) = true then (if 0 ≤ ((rd_T67 l0 x23_1).f2) then (if ((rd_T67 l0 x23_1).f2) < (x6_3.length : Int) then (if 0 ≤ (wrap64 ((wrap64 (x13_4 * (wrap64 ((l1.length : Int) + 1)))) + (wrap64 (x10_3 + x9_2)))) then (if (wrap64 ((wrap64 (x13_4 * (wrap64 ((l1.length : Int) + 1)))) + (wrap64 (x10_3 + x9_2)))) < ((rd_L3 x6_3 ((rd_T67 l0 x23_1).f2)).length : Int) then (coppicerref_Means.j4 k4 l0 l1 (wrap64 ((l1.length : Int) + 1)) x6_3 x23_1 x9_2 x10_3 (wrap64 (x10_3 + x9_2)) (rdOf false (rd_L3 x6_3 ((rd_T67 l0 x23_1).f2)) (wrap64 ((wrap64 (x13_4 * (wrap64 ((l1.length : Int) + 1)))) + (wrap64 (x10_3 + x9_2))))) x13_4 l0 (l0.length : Int) x23_1 ((rd_T67 l0 x23_1).f0) ((rd_T67 l0 x23_1).f1) ((rd_T67 l0 x23_1).f2)) else (none)) else (none)) else (none)) else (none)) else (coppicerref_Means.j4 k4 l0 l1 (wrap64 ((l1.length : Int) + 1)) x6_3 x23_1 x9_2 x10_3 (wrap64 (x10_3 + x9_2)) false x13_4 l0 (l0.length : Int) x23_1 ((rd_T67 l0 x23_1).f0) ((rd_T67 l0 x23_1).f1) ((rd_T67 l0 x23_1).f2))) else (none)) else (none)) = some r := by first | (rw [hji50] at H; exact H) | (simp only [hji50] at H ⊢; exact H)
                                                          have hji50w : (IntKind.i64.wrap ((wrap64 (x10_3 * (wrap64 ((l1.length : Int) + 1)))) + x13_4)) = ji50 := (i64_w _).trans hji50
                                                          by_cases c51 : 0 ≤ (ji50)
                                                          · rw [if_pos c51] at H
                                                            have c51b0 : decide (0 ≤ (ji50)) = true := decide_eq_true c51
                                                            clear c51
                                                            by_cases c52 : (ji50) < ((rd_L3 x6_3 ((rd_T67 l0 x23_1).f1)).length : Int)
                                                            · rw [if_pos c52] at H
                                                              have c52b0 : decide ((ji50) < ((rd_L3 x6_3 ((rd_T67 l0 x23_1).f1)).length : Int)) = true := decide_eq_true c52
                                                              (try (have c52b0h := c52b0; simp only [hl6_2, hl6_3] at c52b0h))
                                                              clear c52
                                                              obtain ⟨bq53, hbq53⟩ : ∃ b_ : Bool, b_ = (rdOf false (rd_L3 x6_3 ((rd_T67 l0 x23_1).f1)) (ji50)) := ⟨_, rfl⟩
                                                              replace H : (if bq53 = true then (if 0 ≤ ((rd_T67 l0 x23_1).f2) then (if ((rd_T67 l0 x23_1).f2) < (x6_3.length : Int) then (if 0 ≤ (wrap64 ((wrap64 (x13_4 * (wrap64 ((l1.length : Int) + 1)))) + (wrap64 (x10_3 + x9_2)))) then (if (wrap64 ((wrap64 (x13_4 * (wrap64 ((l1.length : Int) + 1)))) + (wrap64 (x10_3 + x9_2)))) < ((rd_L3 x6_3 ((rd_T67 l0 x23_1).f2)).length : Int) then (coppicerref_Means.j4 k4 l0 l1 (wrap64 ((l1.length : Int) + 1)) x6_3 x23_1 x9_2 x10_3 (wrap64 (x10_3 + x9_2)) (rdOf false (rd_L3 x6_3 ((rd_T67 l0 x23_1).f2)) (wrap64 ((wrap64 (x13_4 * (wrap64 ((l1.length : Int) + 1)))) + (wrap64 (x10_3 + x9_2))))) x13_4 l0 (l0.length : Int) x23_1 ((rd_T67 l0 x23_1).f0) ((rd_T67 l0 x23_1).f1) ((rd_T67 l0 x23_1).f2)) else (none)) else (none)) else (none)) else (none)) else (coppicerref_Means.j4 k4 l0 l1 (wrap64 ((l1.length : Int) + 1)) x6_3 x23_1 x9_2 x10_3 (wrap64 (x10_3 + x9_2)) false x13_4 l0 (l0.length : Int) x23_1 ((rd_T67 l0 x23_1).f0) ((rd_T67 l0 x23_1).f1) ((rd_T67 l0 x23_1).f2))) = some r := by rw [← hbq53] at H; exact H
                                                              have Nbq53 := Aside0.mk hbq53
                                                              clear hbq53
                                                              by_cases c54 : bq53 = true
                                                              · subst c54
                                                                have H1 : (if 0 ≤ ((rd_T67 l0 x23_1).f2) then (if ((rd_T67 l0 x23_1).f2) < (x6_3.length : Int) then (if 0 ≤ (wrap64 ((wrap64 (x13_4 * (wrap64 ((l1.length : Int) + 1)))) + (wrap64 (x10_3 + x9_2)))) then (if (wrap64 ((wrap64 (x13_4 * (wrap64 ((l1.length : Int) + 1)))) + (wrap64 (x10_3 + x9_2)))) < ((rd_L3 x6_3 ((rd_T67 l0 x23_1).f2)).length : Int) then (coppicerref_Means.j4 k4 l0 l1 (wrap64 ((l1.length : Int) + 1)) x6_3 x23_1 x9_2 x10_3 (wrap64 (x10_3 + x9_2)) (rdOf false (rd_L3 x6_3 ((rd_T67 l0 x23_1).f2)) (wrap64 ((wrap64 (x13_4 * (wrap64 ((l1.length : Int) + 1)))) + (wrap64 (x10_3 + x9_2))))) x13_4 l0 (l0.length : Int) x23_1 ((rd_T67 l0 x23_1).f0) ((rd_T67 l0 x23_1).f1) ((rd_T67 l0 x23_1).f2)) else (none)) else (none)) else (none)) else (none)) = some r := by rw [if_pos rfl] at H; exact H
                                                                clear H
                                                                have H := H1
                                                                clear H1
                                                                by_cases c55 : 0 ≤ ((rd_T67 l0 x23_1).f2)
                                                                · rw [if_pos c55] at H
                                                                  have c55b0 : decide (0 ≤ ((rd_T67 l0 x23_1).f2)) = true := decide_eq_true c55
                                                                  clear c55
                                                                  by_cases c56 : ((rd_T67 l0 x23_1).f2) < (x6_3.length : Int)
                                                                  · rw [if_pos c56] at H
                                                                    have c56b0 : decide (((rd_T67 l0 x23_1).f2) < (x6_3.length : Int)) = true := decide_eq_true c56
                                                                    (try (have c56b0h := c56b0; simp only [hl6_2, hl6_3] at c56b0h))
                                                                    clear c56
                                                                    obtain ⟨ji57, hji57⟩ : ∃ j_ : Int, (wrap64 ((wrap64 (x13_4 * (wrap64 ((l1.length : Int) + 1)))) + (wrap64 (x10_3 + x9_2)))) = j_ := ⟨_, rfl⟩
                                                                    replace H : (if 0 ≤ (ji57) then (if (ji57) < ((rd_L3 x6_3 ((rd_T67 l0 x23_1).f2)).length : Int) then (coppicerref_Means.j4 k4 l0 l1 (wrap64 ((l1.length : Int) + 1)) x6_3 x23_1 x9_2 x10_3 (wrap64 (x10_3 + x9_2)) (rdOf false (rd_L3 x6_3 ((rd_T67 l0 x23_1).f2)) (ji57)) x13_4 l0 (l0.length : Int) x23_1 ((rd_T67 l0 x23_1).f0) ((rd_T67 l0 x23_1).f1) ((rd_T67 l0 x23_1).f2)) else (none)) else (none)) = some r := by first | (rw [hji57] at H; exact H) | (simp only [hji57] at H ⊢; exact H)
                                                                    have hji57w : (IntKind.i64.wrap ((wrap64 (x13_4 * (wrap64 ((l1.length : Int) + 1)))) + (wrap64 (x10_3 + x9_2)))) = ji57 := (i64_w _).trans hji57
                                                                    by_cases c58 : 0 ≤ (ji57)
                                                                    · rw [if_pos c58] at H
                                                                      have c58b0 : decide (0 ≤ (ji57)) = true := decide_eq_true c58
                                                                      clear c58
                                                                      by_cases c59 : (ji57) < ((rd_L3 x6_3 ((rd_T67 l0 x23_1).f2)).length : Int)
                                                                      · rw [if_pos c59] at H
                                                                        have c59b0 : decide ((ji57) < ((rd_L3 x6_3 ((rd_T67 l0 x23_1).f2)).length : Int)) = true := decide_eq_true c59
                                                                        (try (have c59b0h := c59b0; simp only [hl6_2, hl6_3] at c59b0h))
                                                                        clear c59
                                                                        as_aux_lemma =>
                                                                          have H' := Aside0.mk H
                                                                          clear H
                                                                          have hcz60_0 : wr.cell? ⟨gb123, 0, none⟩ = some (.int .i64 ((rd_T67 l0 x23_1).f0)) := (blk_cell BK123.out 0).trans rfl
                                                                          have hcz60_1 : wr.cell? ⟨gb123, 1, none⟩ = some (.int .i64 ((rd_T67 l0 x23_1).f1)) := (blk_cell BK123.out 1).trans rfl
                                                                          have hcz60_2 : wr.cell? ⟨gb123, 2, none⟩ = some (.int .i64 ((rd_T67 l0 x23_1).f2)) := (blk_cell BK123.out 2).trans rfl
                                                                          have hfz60_0 := blk_frozen BK123.out 0
                                                                          have hfz60_1 := blk_frozen BK123.out 1
                                                                          have hfz60_2 := blk_frozen BK123.out 2
                                                                          have p133 : 0 ≤ (((rd_T67 l0 x23_1).f1) : Int) := of_decide_eq_true (by first | (with_reducible assumption) | assumption)
                                                                          have q133 : ((rd_T67 l0 x23_1).f1) < (x6_3.length : Int) := of_decide_eq_true (by first | (with_reducible assumption) | assumption)
                                                                          obtain ⟨ad133, A133_0, c133_0, e133, hx133_0, hl133_0, hi133_0⟩ := at_L3 (Kd.S_reads' HO_6.out).2.2 ((rd_T67 l0 x23_1).f1) p133 q133
                                                                          obtain rfl : (⟨go14, 0, none⟩ : Addr) = ad133 := (by injection e133)
                                                                          obtain ⟨ce133, hce133, hMe133, hcc133⟩ := Kd.S_get HO_6.out [] ((rd_T67 l0 x23_1).f1) p133 (by first | exact q133 | exact of_decide_eq_true (by first | (with_reducible assumption) | assumption) | (have e_ := (Kd.S_reads' HO_6.out).1; omega))
                                                                          obtain ⟨ve133_0, rfl, ge133_0⟩ := hMe133
                                                                          have hv133_0 := hcc133 0 _ rfl
                                                                          rw [Nat.add_zero, show ((Kd.slice 4 Kd.bool)).sz = 1 from rfl, Nat.mul_one] at hv133_0
                                                                          replace hv133_0 := Option.some.inj (hv133_0.symm.trans hx133_0)
                                                                          rw [hv133_0] at ge133_0
                                                                          have HL133_0 := Aside0.mk (show Kd.R Kd.bool 4 _ _ _ _ (rd_L3 x6_3 ((rd_T67 l0 x23_1).f1)) from ge133_0)
                                                                          clear hv133_0 ge133_0
                                                                          have HX133_0 := Aside0.mk hx133_0
                                                                          clear hcc133 hce133
                                                                          (first | simp only [add_plain] at hx133_0 | simp only [add_at] at hx133_0 | simp only [Addr.add, Nat.zero_add] at hx133_0 | skip)
                                                                          have HR133_0 := Aside0.mk hi133_0
                                                                          have HC133_0 := Aside0.mk hl133_0
                                                                          clear hi133_0 hl133_0
                                                                          replace p133 := eq_true p133
                                                                          replace q133 := eq_true q133
                                                                          have p134 : 0 ≤ ((ji50) : Int) := of_decide_eq_true (by first | (with_reducible assumption) | assumption)
                                                                          have q134 : (ji50) < ((rd_L3 x6_3 ((rd_T67 l0 x23_1).f1)).length : Int) := of_decide_eq_true (by first | (with_reducible assumption) | assumption)
                                                                          obtain ⟨ad134, e134, hx134_0⟩ := Kd.at_bool (by repeat (first | (with_reducible exact HR133_0.out) | (with_reducible refine Kd.C_alloc ?_ _) | (with_reducible refine Kd.C_drewN ?_ _) | (with_reducible refine Kd.C_drew ?_) | exact HR133_0.out)) (ji50) p134 q134
                                                                          (try rw [← Nbq53.out] at hx134_0)
                                                                          cases e134
                                                                          replace p134 := eq_true p134
                                                                          replace q134 := eq_true q134
                                                                          have p135 : 0 ≤ (((rd_T67 l0 x23_1).f2) : Int) := of_decide_eq_true (by first | (with_reducible assumption) | assumption)
                                                                          have q135 : ((rd_T67 l0 x23_1).f2) < (x6_3.length : Int) := of_decide_eq_true (by first | (with_reducible assumption) | assumption)
                                                                          obtain ⟨ad135, A135_0, c135_0, e135, hx135_0, hl135_0, hi135_0⟩ := at_L3 (Kd.S_reads' HO_6.out).2.2 ((rd_T67 l0 x23_1).f2) p135 q135
                                                                          obtain rfl : (⟨go14, 0, none⟩ : Addr) = ad135 := (by injection e135)
                                                                          obtain ⟨ce135, hce135, hMe135, hcc135⟩ := Kd.S_get HO_6.out [] ((rd_T67 l0 x23_1).f2) p135 (by first | exact q135 | exact of_decide_eq_true (by first | (with_reducible assumption) | assumption) | (have e_ := (Kd.S_reads' HO_6.out).1; omega))
                                                                          obtain ⟨ve135_0, rfl, ge135_0⟩ := hMe135
                                                                          have hv135_0 := hcc135 0 _ rfl
                                                                          rw [Nat.add_zero, show ((Kd.slice 4 Kd.bool)).sz = 1 from rfl, Nat.mul_one] at hv135_0
                                                                          replace hv135_0 := Option.some.inj (hv135_0.symm.trans hx135_0)
                                                                          rw [hv135_0] at ge135_0
                                                                          have HL135_0 := Aside0.mk (show Kd.R Kd.bool 4 _ _ _ _ (rd_L3 x6_3 ((rd_T67 l0 x23_1).f2)) from ge135_0)
                                                                          clear hv135_0 ge135_0
                                                                          have HX135_0 := Aside0.mk hx135_0
                                                                          clear hcc135 hce135
                                                                          (first | simp only [add_plain] at hx135_0 | simp only [add_at] at hx135_0 | simp only [Addr.add, Nat.zero_add] at hx135_0 | skip)
                                                                          have HR135_0 := Aside0.mk hi135_0
                                                                          have HC135_0 := Aside0.mk hl135_0
                                                                          clear hi135_0 hl135_0
                                                                          replace p135 := eq_true p135
                                                                          replace q135 := eq_true q135
                                                                          have p136 : 0 ≤ ((ji57) : Int) := of_decide_eq_true (by first | (with_reducible assumption) | assumption)
                                                                          have q136 : (ji57) < ((rd_L3 x6_3 ((rd_T67 l0 x23_1).f2)).length : Int) := of_decide_eq_true (by first | (with_reducible assumption) | assumption)
                                                                          obtain ⟨ad136, e136, hx136_0⟩ := Kd.at_bool (by repeat (first | (with_reducible exact HR135_0.out) | (with_reducible refine Kd.C_alloc ?_ _) | (with_reducible refine Kd.C_drewN ?_ _) | (with_reducible refine Kd.C_drew ?_) | exact HR135_0.out)) (ji57) p136 q136
                                                                          (try rw [← Nbq53.out] at hx136_0)
                                                                          cases e136
                                                                          replace p136 := eq_true p136
                                                                          replace q136 := eq_true q136
                                                                          go_wp2
                                                                          repeat (go_quiet (fail); try go_wp2)
                                                                          go_meet
                                                                          case rel => exact ⟨_, (rdOf false (rd_L3 x6_3 ((rd_T67 l0 x23_1).f2)) (ji57)), (by first | rfl | (simp; done) | (simp only [← hji57] <;> (first | rfl | simp)) | (simp [*]; done)), H', ⟨by have := HK1.out; have := HK2.out; have := HK3.out; have := HK4.out; first | omega | exact Nat.le_refl _⟩, ⟨by (try simp only [hl6_2]); (try simp only [hl6_3]); (with_reducible repeat (first | apply Kd.S_alloc | apply Kd.S_drewN | apply Kd.S_drew)); exact HO_6.out⟩, ⟨by (try simp only [hl6_2]); (try simp only [hl6_3]); (with_reducible repeat (first | refine blk_drewN ?_ _ | refine blk_drew ?_ | refine blk_alloc ?_ _)); exact BK123.out⟩, ⟨by repeat (first | (with_reducible first | exact HB.out | apply below_alloc | apply pw_below_drewN | apply below_drew1 | refine below_set ?_ GE123.out) | exact HB.out)⟩⟩
                                                                      · rw [if_neg c59] at H
                                                                        exact absurd H (by simp)
                                                                    · rw [if_neg c58] at H
                                                                      exact absurd H (by simp)
                                                                  · rw [if_neg c56] at H
                                                                    exact absurd H (by simp)
                                                                · rw [if_neg c55] at H
                                                                  exact absurd H (by simp)
                                                              · replace c54 := Bool.eq_false_iff.mpr c54
                                                                subst c54
                                                                have H1 : (coppicerref_Means.j4 k4 l0 l1 (wrap64 ((l1.length : Int) + 1)) x6_3 x23_1 x9_2 x10_3 (wrap64 (x10_3 + x9_2)) false x13_4 l0 (l0.length : Int) x23_1 ((rd_T67 l0 x23_1).f0) ((rd_T67 l0 x23_1).f1) ((rd_T67 l0 x23_1).f2)) = some r := by rw [if_neg (show ¬ (false = true) by decide)] at H; exact H
                                                                clear H
                                                                have H := H1
                                                                clear H1
                                                                as_aux_lemma =>
                                                                  have H' := Aside0.mk H
                                                                  clear H
                                                                  have hcz61_0 : wr.cell? ⟨gb123, 0, none⟩ = some (.int .i64 ((rd_T67 l0 x23_1).f0)) := (blk_cell BK123.out 0).trans rfl
                                                                  have hcz61_1 : wr.cell? ⟨gb123, 1, none⟩ = some (.int .i64 ((rd_T67 l0 x23_1).f1)) := (blk_cell BK123.out 1).trans rfl
                                                                  have hcz61_2 : wr.cell? ⟨gb123, 2, none⟩ = some (.int .i64 ((rd_T67 l0 x23_1).f2)) := (blk_cell BK123.out 2).trans rfl
                                                                  have hfz61_0 := blk_frozen BK123.out 0
                                                                  have hfz61_1 := blk_frozen BK123.out 1
                                                                  have hfz61_2 := blk_frozen BK123.out 2
                                                                  have p133 : 0 ≤ (((rd_T67 l0 x23_1).f1) : Int) := of_decide_eq_true (by first | (with_reducible assumption) | assumption)
                                                                  have q133 : ((rd_T67 l0 x23_1).f1) < (x6_3.length : Int) := of_decide_eq_true (by first | (with_reducible assumption) | assumption)
                                                                  obtain ⟨ad133, A133_0, c133_0, e133, hx133_0, hl133_0, hi133_0⟩ := at_L3 (Kd.S_reads' HO_6.out).2.2 ((rd_T67 l0 x23_1).f1) p133 q133
                                                                  obtain rfl : (⟨go14, 0, none⟩ : Addr) = ad133 := (by injection e133)
                                                                  obtain ⟨ce133, hce133, hMe133, hcc133⟩ := Kd.S_get HO_6.out [] ((rd_T67 l0 x23_1).f1) p133 (by first | exact q133 | exact of_decide_eq_true (by first | (with_reducible assumption) | assumption) | (have e_ := (Kd.S_reads' HO_6.out).1; omega))
                                                                  obtain ⟨ve133_0, rfl, ge133_0⟩ := hMe133
                                                                  have hv133_0 := hcc133 0 _ rfl
                                                                  rw [Nat.add_zero, show ((Kd.slice 4 Kd.bool)).sz = 1 from rfl, Nat.mul_one] at hv133_0
                                                                  replace hv133_0 := Option.some.inj (hv133_0.symm.trans hx133_0)
                                                                  rw [hv133_0] at ge133_0
                                                                  have HL133_0 := Aside0.mk (show Kd.R Kd.bool 4 _ _ _ _ (rd_L3 x6_3 ((rd_T67 l0 x23_1).f1)) from ge133_0)
                                                                  clear hv133_0 ge133_0
                                                                  have HX133_0 := Aside0.mk hx133_0
                                                                  clear hcc133 hce133
                                                                  (first | simp only [add_plain] at hx133_0 | simp only [add_at] at hx133_0 | simp only [Addr.add, Nat.zero_add] at hx133_0 | skip)
                                                                  have HR133_0 := Aside0.mk hi133_0
                                                                  have HC133_0 := Aside0.mk hl133_0
                                                                  clear hi133_0 hl133_0
                                                                  replace p133 := eq_true p133
                                                                  replace q133 := eq_true q133
                                                                  have p134 : 0 ≤ ((ji50) : Int) := of_decide_eq_true (by first | (with_reducible assumption) | assumption)
                                                                  have q134 : (ji50) < ((rd_L3 x6_3 ((rd_T67 l0 x23_1).f1)).length : Int) := of_decide_eq_true (by first | (with_reducible assumption) | assumption)
                                                                  obtain ⟨ad134, e134, hx134_0⟩ := Kd.at_bool (by repeat (first | (with_reducible exact HR133_0.out) | (with_reducible refine Kd.C_alloc ?_ _) | (with_reducible refine Kd.C_drewN ?_ _) | (with_reducible refine Kd.C_drew ?_) | exact HR133_0.out)) (ji50) p134 q134
                                                                  (try rw [← Nbq53.out] at hx134_0)
                                                                  cases e134
                                                                  replace p134 := eq_true p134
                                                                  replace q134 := eq_true q134
                                                                  go_wp2
                                                                  repeat (go_quiet (fail); try go_wp2)
                                                                  go_meet
                                                                  case rel => exact ⟨_, (false), (by first | rfl | (simp; done) | (simp [*]; done)), H', ⟨by have := HK1.out; have := HK2.out; have := HK3.out; have := HK4.out; first | omega | exact Nat.le_refl _⟩, ⟨by (try simp only [hl6_2]); (try simp only [hl6_3]); (with_reducible repeat (first | apply Kd.S_alloc | apply Kd.S_drewN | apply Kd.S_drew)); exact HO_6.out⟩, ⟨by (try simp only [hl6_2]); (try simp only [hl6_3]); (with_reducible repeat (first | refine blk_drewN ?_ _ | refine blk_drew ?_ | refine blk_alloc ?_ _)); exact BK123.out⟩, ⟨by repeat (first | (with_reducible first | exact HB.out | apply below_alloc | apply pw_below_drewN | apply below_drew1 | refine below_set ?_ GE123.out) | exact HB.out)⟩⟩
                                                            · rw [if_neg c52] at H
                                                              exact absurd H (by simp)
                                                          · rw [if_neg c51] at H
                                                            exact absurd H (by simp)
                                                        · rw [if_neg c49] at H
                                                          exact absurd H (by simp)
                                                      · rw [if_neg c48] at H
                                                        exact absurd H (by simp)
                                                  case rest =>
                                                    clear HC46
                                                    try clear c1
                                                    try clear p1
                                                    try clear q1
                                                    try clear hx1
                                                    try clear c2
                                                    try clear p2
                                                    try clear c3
                                                    try clear c3b0
                                                    try clear c3b1
                                                    try clear q3
                                                    try clear c4
                                                    try clear c4b0
                                                    try clear c4b1
                                                    try clear c5
                                                    try clear q5
                                                    try clear p6
                                                    try clear c7
                                                    try clear c7b0
                                                    try clear c8
                                                    try clear c8b0
                                                    try clear c9
                                                    try clear c9b0
                                                    try clear c11
                                                    try clear c11b0
                                                    try clear c11b1
                                                    try clear c12
                                                    try clear c12b0
                                                    try clear c12b1
                                                    try clear p12
                                                    try clear q12
                                                    try clear hx12
                                                    try clear c13
                                                    try clear c13b0
                                                    try clear p13
                                                    try clear q13
                                                    try clear hx13
                                                    try clear c14
                                                    try clear p14
                                                    try clear q14
                                                    try clear hx14
                                                    try clear hf14
                                                    try clear c15
                                                    try clear c19
                                                    try clear hx19
                                                    try clear hf19
                                                    try clear c21
                                                    try clear c21b0
                                                    try clear c22
                                                    try clear c22b0
                                                    try clear c25
                                                    try clear c25b0
                                                    try clear c25b1
                                                    try clear c26
                                                    try clear c26b0
                                                    try clear c26b1
                                                    try clear c27
                                                    try clear c27b0
                                                    try clear c27b1
                                                    try clear c28
                                                    try clear c28b0
                                                    try clear c29
                                                    try clear c29b0
                                                    try clear c31
                                                    try clear c31b0
                                                    try clear c31b1
                                                    try clear c32
                                                    try clear c32b0
                                                    try clear c33
                                                    try clear c33b0
                                                    try clear c35
                                                    try clear c35b0
                                                    try clear c36
                                                    try clear c36b0
                                                    try clear q37
                                                    try clear c38
                                                    try clear c40
                                                    try clear c40b0
                                                    try clear c41
                                                    try clear c41b0
                                                    try clear c42
                                                    try clear c42b0
                                                    try clear c44
                                                    try clear c44b0
                                                    try clear c44b1
                                                    try clear c45
                                                    try clear c45b0
                                                    try clear c47
                                                    try clear c48
                                                    try clear c48b0
                                                    try clear c49
                                                    try clear c49b0
                                                    try clear c51
                                                    try clear c51b0
                                                    try clear c52
                                                    try clear c52b0
                                                    try clear q53
                                                    try clear c54
                                                    try clear c55
                                                    try clear c55b0
                                                    try clear c56
                                                    try clear c56b0
                                                    try clear c58
                                                    try clear c58b0
                                                    try clear c59
                                                    try clear c59b0
                                                    try clear hcz16_0
                                                    try clear hcz16_1
                                                    try clear hcz16_2
                                                    try clear hcz24_0
                                                    try clear hcz24_1
                                                    try clear hcz24_2
                                                    try clear hcz30_0
                                                    try clear hcz30_1
                                                    try clear hcz30_2
                                                    try clear hcz39_0
                                                    try clear hcz39_1
                                                    try clear hcz39_2
                                                    try clear hcz43_0
                                                    try clear hcz43_1
                                                    try clear hcz43_2
                                                    try clear hcz60_0
                                                    try clear hcz60_1
                                                    try clear hcz60_2
                                                    try clear hcz61_0
                                                    try clear hcz61_1
                                                    try clear hcz61_2
                                                    try clear hfz16_0
                                                    try clear hfz16_1
                                                    try clear hfz16_2
                                                    try clear hfz24_0
                                                    try clear hfz24_1
                                                    try clear hfz24_2
                                                    try clear hfz30_0
                                                    try clear hfz30_1
                                                    try clear hfz30_2
                                                    try clear hfz39_0
                                                    try clear hfz39_1
                                                    try clear hfz39_2
                                                    try clear hfz43_0
                                                    try clear hfz43_1
                                                    try clear hfz43_2
                                                    try clear hfz60_0
                                                    try clear hfz60_1
                                                    try clear hfz60_2
                                                    try clear hfz61_0
                                                    try clear hfz61_1
                                                    try clear hfz61_2
                                                    try clear hx122_0
                                                    try clear hx122_1
                                                    try clear hx122_2
                                                    try clear hx128_0
                                                    try clear hx129_0
                                                    try clear hx130_0
                                                    try clear hx131_0
                                                    try clear hx132_0
                                                    try clear hx133_0
                                                    try clear hx134_0
                                                    try clear hx135_0
                                                    try clear hx136_0
                                                    try clear hx14_0
                                                    try clear hx19_0
                                                    try clear p1
                                                    try clear p12
                                                    try clear p122
                                                    try clear p128
                                                    try clear p129
                                                    try clear p13
                                                    try clear p130
                                                    try clear p131
                                                    try clear p132
                                                    try clear p133
                                                    try clear p134
                                                    try clear p135
                                                    try clear p136
                                                    try clear p14
                                                    try clear p2
                                                    try clear p6
                                                    try clear q1
                                                    try clear q12
                                                    try clear q122
                                                    try clear q128
                                                    try clear q129
                                                    try clear q13
                                                    try clear q130
                                                    try clear q131
                                                    try clear q132
                                                    try clear q133
                                                    try clear q134
                                                    try clear q135
                                                    try clear q136
                                                    try clear q14
                                                    try clear q3
                                                    try clear q37
                                                    obtain ⟨kq, x12_45, rfl, HA, HJ45, HO_6, BK123, HB⟩ := hcut
                                                    cases kq with
                                                    | zero => exact absurd HA.out (by simp [coppicerref_Means.j4])
                                                    | succ kj45 =>
                                                      have H := HA.out
                                                      clear HA
                                                      simp only [coppicerref_Means.j4] at H
                                                      as_aux_lemma =>
                                                        have H' := Aside0.mk H
                                                        clear H
                                                        go_wp2
                                                        repeat (go_quiet (fail); try go_wp2)
                                                        (first | go_roundg kj45 | (simp only [← hji10]; go_roundg kj45))
                                                        case measure => have := HK1.out; have := HK2.out; have := HK3.out; have := HK4.out; have := HJ45.out; omega
                                                        case rel => exact ⟨(x12_45), (wrap64 (x13_4 + 1)), (by first | rfl | (simp; done) | (simp [*]; done)), (by first | rfl | (simp; done) | (simp [*]; done)), H', ⟨by have := HK1.out; have := HK2.out; have := HK3.out; have := HK4.out; have := HJ45.out; omega⟩, ⟨by (try simp only [hl6_2]); (try simp only [hl6_3]); (with_reducible repeat (first | apply Kd.S_alloc | apply Kd.S_drewN | apply Kd.S_drew)); exact HO_6.out⟩, ⟨by (try simp only [hl6_2]); (try simp only [hl6_3]); (with_reducible repeat (first | refine blk_drewN ?_ _ | refine blk_drew ?_ | refine blk_alloc ?_ _)); exact BK123.out⟩, ⟨by repeat (first | (with_reducible first | exact HB.out | apply below_alloc | apply pw_below_drewN | apply below_drew1 | refine below_set ?_ GE123.out) | exact HB.out)⟩⟩
                                                · rw [if_neg c45] at H
                                                  have c45b0 : decide (x13_4 ≤ (wrap64 (x10_3 + x9_2))) = false := decide_eq_false c45
                                                  clear c45
                                                  as_aux_lemma =>
                                                    have H' := Aside0.mk H
                                                    clear H
                                                    go_wp2
                                                    repeat (go_quiet (fail); try go_wp2)
                                                    go_meet
                                                    case rel => exact ⟨_, (x12_4), (by first | rfl | (simp; done) | (simp [*]; done)), H', ⟨by have := HK1.out; have := HK2.out; have := HK3.out; have := HK4.out; first | omega | exact Nat.le_refl _⟩, ⟨by (try simp only [hl6_2]); (try simp only [hl6_3]); (with_reducible repeat (first | apply Kd.S_alloc | apply Kd.S_drewN | apply Kd.S_drew)); exact HO_6.out⟩, ⟨by (try simp only [hl6_2]); (try simp only [hl6_3]); (with_reducible repeat (first | refine blk_drewN ?_ _ | refine blk_drew ?_ | refine blk_alloc ?_ _)); exact BK123.out⟩, ⟨by repeat (first | (with_reducible first | exact HB.out | apply below_alloc | apply pw_below_drewN | apply below_drew1 | refine below_set ?_ GE123.out) | exact HB.out)⟩⟩
                                          · rw [if_neg c44] at H
                                            have c44b0 : (((rd_T67 l0 x23_1).f0) == 4) = false := beq_eq_false_iff_ne.mpr c44
                                            have c44b1 : (((rd_T67 l0 x23_1).f0) != 4) = true := bne_iff_ne.mpr c44
                                            by_cases c62 : ((rd_T67 l0 x23_1).f0) = 6
                                            · rw [if_pos c62] at H
                                              have c62b0 : (((rd_T67 l0 x23_1).f0) == 6) = true := beq_iff_eq.mpr c62
                                              have c62b1 : (((rd_T67 l0 x23_1).f0) != 6) = false := bne_eq_false_iff_eq.mpr c62
                                              clear c62
                                              have H' := Aside0.mk H
                                              clear H
                                              go_wp2
                                              repeat (go_quiet (fail); try go_wp2)
                                              go_loopg [12, 14] k3 (fun kq v12 v14 w' => ∃ (x12_4 : Bool) (x14_4 : Int), v12 = .bool x12_4 ∧ v14 = .int .i64 x14_4 ∧ Aside0 (coppicerref_Means.l4 kq l0 l1 (wrap64 ((l1.length : Int) + 1)) x6_3 x23_1 x9_2 x10_3 (wrap64 (x10_3 + x9_2)) x12_4 x14_4 l0 (l0.length : Int) x23_1 ((rd_T67 l0 x23_1).f0) ((rd_T67 l0 x23_1).f1) ((rd_T67 l0 x23_1).f2) = some r) ∧ Aside0 (kq ≤ k3) ∧ Aside0 (Kd.S (Kd.slice 4 Kd.bool) 69 w' w.heap.size (fun _ => True) (.slice (some ⟨go14, 0, none⟩) x6_3.length co14) x6_3) ∧ Aside0 (w'.heap[gb123]? = some (.cells #[.int .i64 ((rd_T67 l0 x23_1).f0), .int .i64 ((rd_T67 l0 x23_1).f1), .int .i64 ((rd_T67 l0 x23_1).f2)] 67 (0, 0))) ∧ Aside0 (Below w.heap.size w w'))
                                              case atStart => exact ⟨((x9_2 == 0)), (wrap64 (x10_3 + 1)), (by first | rfl | (simp; done) | (simp [*]; done)), (by first | rfl | (simp; done) | (simp [*]; done)), H', ⟨Nat.le_refl _⟩, ⟨by (try simp only [hl6_2]); (try simp only [hl6_3]); (with_reducible repeat (first | apply Kd.S_alloc | apply Kd.S_drewN | apply Kd.S_drew)); exact HO_6.out⟩, ⟨by (try simp only [hl6_2]); (try simp only [hl6_3]); (with_reducible repeat (first | refine blk_drewN ?_ _ | refine blk_drew ?_ | refine blk_alloc ?_ _)); exact BK123.out⟩, ⟨by repeat (first | (with_reducible first | exact HB.out | apply below_alloc | apply pw_below_drewN | apply below_drew1 | refine below_set ?_ GE123.out) | exact HB.out)⟩⟩
                                              case round =>
                                                clear H'
                                                try clear c1
                                                try clear p1
                                                try clear q1
                                                try clear hx1
                                                try clear c2
                                                try clear p2
                                                try clear c3
                                                try clear c3b0
                                                try clear c3b1
                                                try clear q3
                                                try clear c4
                                                try clear c4b0
                                                try clear c4b1
                                                try clear c5
                                                try clear q5
                                                try clear c6
                                                try clear p6
                                                try clear c7
                                                try clear c7b0
                                                try clear c8
                                                try clear c8b0
                                                try clear c9
                                                try clear c9b0
                                                try clear c11
                                                try clear c11b0
                                                try clear c11b1
                                                try clear c12
                                                try clear c12b0
                                                try clear c12b1
                                                try clear p12
                                                try clear q12
                                                try clear hx12
                                                try clear c13
                                                try clear c13b0
                                                try clear p13
                                                try clear q13
                                                try clear hx13
                                                try clear c14
                                                try clear p14
                                                try clear q14
                                                try clear hx14
                                                try clear hf14
                                                try clear c15
                                                try clear c19
                                                try clear hx19
                                                try clear hf19
                                                try clear c21
                                                try clear c21b0
                                                try clear c22
                                                try clear c22b0
                                                try clear c25
                                                try clear c25b0
                                                try clear c25b1
                                                try clear c26
                                                try clear c26b0
                                                try clear c26b1
                                                try clear c27
                                                try clear c27b0
                                                try clear c27b1
                                                try clear c28
                                                try clear c28b0
                                                try clear c29
                                                try clear c29b0
                                                try clear c31
                                                try clear c31b0
                                                try clear c31b1
                                                try clear c32
                                                try clear c32b0
                                                try clear c33
                                                try clear c33b0
                                                try clear c35
                                                try clear c35b0
                                                try clear c36
                                                try clear c36b0
                                                try clear q37
                                                try clear c38
                                                try clear c40
                                                try clear c40b0
                                                try clear c41
                                                try clear c41b0
                                                try clear c42
                                                try clear c42b0
                                                try clear c44
                                                try clear c44b0
                                                try clear c44b1
                                                try clear c45
                                                try clear c45b0
                                                try clear c47
                                                try clear c48
                                                try clear c48b0
                                                try clear c49
                                                try clear c49b0
                                                try clear c51
                                                try clear c51b0
                                                try clear c52
                                                try clear c52b0
                                                try clear q53
                                                try clear c54
                                                try clear c55
                                                try clear c55b0
                                                try clear c56
                                                try clear c56b0
                                                try clear c58
                                                try clear c58b0
                                                try clear c59
                                                try clear c59b0
                                                try clear c62
                                                try clear c62b0
                                                try clear c62b1
                                                try clear hcz16_0
                                                try clear hcz16_1
                                                try clear hcz16_2
                                                try clear hcz24_0
                                                try clear hcz24_1
                                                try clear hcz24_2
                                                try clear hcz30_0
                                                try clear hcz30_1
                                                try clear hcz30_2
                                                try clear hcz39_0
                                                try clear hcz39_1
                                                try clear hcz39_2
                                                try clear hcz43_0
                                                try clear hcz43_1
                                                try clear hcz43_2
                                                try clear hcz60_0
                                                try clear hcz60_1
                                                try clear hcz60_2
                                                try clear hcz61_0
                                                try clear hcz61_1
                                                try clear hcz61_2
                                                try clear hfz16_0
                                                try clear hfz16_1
                                                try clear hfz16_2
                                                try clear hfz24_0
                                                try clear hfz24_1
                                                try clear hfz24_2
                                                try clear hfz30_0
                                                try clear hfz30_1
                                                try clear hfz30_2
                                                try clear hfz39_0
                                                try clear hfz39_1
                                                try clear hfz39_2
                                                try clear hfz43_0
                                                try clear hfz43_1
                                                try clear hfz43_2
                                                try clear hfz60_0
                                                try clear hfz60_1
                                                try clear hfz60_2
                                                try clear hfz61_0
                                                try clear hfz61_1
                                                try clear hfz61_2
                                                try clear hx122_0
                                                try clear hx122_1
                                                try clear hx122_2
                                                try clear hx128_0
                                                try clear hx129_0
                                                try clear hx130_0
                                                try clear hx131_0
                                                try clear hx132_0
                                                try clear hx133_0
                                                try clear hx134_0
                                                try clear hx135_0
                                                try clear hx136_0
                                                try clear hx14_0
                                                try clear hx19_0
                                                try clear p1
                                                try clear p12
                                                try clear p122
                                                try clear p128
                                                try clear p129
                                                try clear p13
                                                try clear p130
                                                try clear p131
                                                try clear p132
                                                try clear p133
                                                try clear p134
                                                try clear p135
                                                try clear p136
                                                try clear p14
                                                try clear p2
                                                try clear p6
                                                try clear q1
                                                try clear q12
                                                try clear q122
                                                try clear q128
                                                try clear q129
                                                try clear q13
                                                try clear q130
                                                try clear q131
                                                try clear q132
                                                try clear q133
                                                try clear q134
                                                try clear q135
                                                try clear q136
                                                try clear q14
                                                try clear q3
                                                try clear q37
                                                try clear q5
                                                try clear q53
                                                obtain ⟨x12_4, x14_4, rfl, rfl, HA, HK4, HO_6, BK123, HB⟩ := hrel
                                                cases gk with
                                                | zero => exact absurd HA.out (by simp [coppicerref_Means.l4])
                                                | succ k4 =>
                                                  have H := HA.out
                                                  clear HA
                                                  simp only [coppicerref_Means.l4] at H
                                                  by_cases c63 : x14_4 ≤ (wrap64 (x10_3 + x9_2))
                                                  · rw [if_pos c63] at H
                                                    have c63b0 : decide (x14_4 ≤ (wrap64 (x10_3 + x9_2))) = true := decide_eq_true c63
                                                    clear c63
                                                    have HC64 := Aside0.mk H
                                                    clear H
                                                    go_upto_block 10 with (fail)
                                                    repeat (go_quiet (fail); go_upto_block 10 with (fail))
                                                    go_cut [12] (fun v12 wc => ∃ (kq : Nat) (x12_63 : Bool), v12 = .bool x12_63 ∧ Aside0 (coppicerref_Means.j6 kq l0 l1 (wrap64 ((l1.length : Int) + 1)) x6_3 x23_1 x9_2 x10_3 (wrap64 (x10_3 + x9_2)) x12_63 x14_4 l0 (l0.length : Int) x23_1 ((rd_T67 l0 x23_1).f0) ((rd_T67 l0 x23_1).f1) ((rd_T67 l0 x23_1).f2) = some r) ∧ Aside0 (kq ≤ k4) ∧ Aside0 (Kd.S (Kd.slice 4 Kd.bool) 69 wc w.heap.size (fun _ => True) (.slice (some ⟨go14, 0, none⟩) x6_3.length co14) x6_3) ∧ Aside0 (wc.heap[gb123]? = some (.cells #[.int .i64 ((rd_T67 l0 x23_1).f0), .int .i64 ((rd_T67 l0 x23_1).f1), .int .i64 ((rd_T67 l0 x23_1).f2)] 67 (0, 0))) ∧ Aside0 (Below w.heap.size w wc))
                                                    case first =>
                                                      have H := HC64.out
                                                      clear HC64
                                                      by_cases c65 : x12_4 = true
                                                      · subst c65
                                                        have H1 : (coppicerref_Means.j6 k4 l0 l1 (wrap64 ((l1.length : Int) + 1)) x6_3 x23_1 x9_2 x10_3 (wrap64 (x10_3 + x9_2)) true x14_4 l0 (l0.length : Int) x23_1 ((rd_T67 l0 x23_1).f0) ((rd_T67 l0 x23_1).f1) ((rd_T67 l0 x23_1).f2)) = some r := by rw [if_pos rfl] at H; exact H
                                                        clear H
                                                        have H := H1
                                                        clear H1
                                                        as_aux_lemma =>
                                                          have H' := Aside0.mk H
                                                          clear H
                                                          go_wp2
                                                          repeat (go_quiet (fail); try go_wp2)
                                                          go_meet
                                                          case rel => exact ⟨_, (true), (by first | rfl | (simp; done) | (simp [*]; done)), H', ⟨by have := HK1.out; have := HK2.out; have := HK3.out; have := HK4.out; first | omega | exact Nat.le_refl _⟩, ⟨by (try simp only [hl6_2]); (try simp only [hl6_3]); (with_reducible repeat (first | apply Kd.S_alloc | apply Kd.S_drewN | apply Kd.S_drew)); exact HO_6.out⟩, ⟨by (try simp only [hl6_2]); (try simp only [hl6_3]); (with_reducible repeat (first | refine blk_drewN ?_ _ | refine blk_drew ?_ | refine blk_alloc ?_ _)); exact BK123.out⟩, ⟨by repeat (first | (with_reducible first | exact HB.out | apply below_alloc | apply pw_below_drewN | apply below_drew1 | refine below_set ?_ GE123.out) | exact HB.out)⟩⟩
                                                      · replace c65 := Bool.eq_false_iff.mpr c65
                                                        subst c65
                                                        have H1 : (if 0 ≤ ((rd_T67 l0 x23_1).f1) then (if ((rd_T67 l0 x23_1).f1) < (x6_3.length : Int) then (if 0 ≤ (wrap64 ((wrap64 (x10_3 * (wrap64 ((l1.length : Int) + 1)))) + x14_4)) then (if (wrap64 ((wrap64 (x10_3 * (wrap64 ((l1.length : Int) + 1)))) + x14_4)) < ((rd_L3 x6_3 ((rd_T67 l0 x23_1).f1)).length : Int) then (if rdOf false (rd_L3 x6_3 ((rd_T67 l0 x23_1).f1)) (wrap64 ((wrap64 (x10_3 * (wrap64 ((l1.length : Int) + 1)))) + x14_4)) = true then (if 0 ≤ x23_1 then (if x23_1 < (x6_3.length : Int) then (if 0 ≤ (wrap64 ((wrap64 (x14_4 * (wrap64 ((l1.length : Int) + 1)))) + (wrap64 (x10_3 + x9_2)))) then (if (wrap64 ((wrap64 (x14_4 * (wrap64 ((l1.length : Int) + 1)))) + (wrap64 (x10_3 + x9_2)))) < ((rd_L3 x6_3 x23_1).length : Int) then (coppicerref_Means.j6 k4 l0 l1 (wrap64 ((l1.length : Int) + 1)) x6_3 x23_1 x9_2 x10_3 (wrap64 (x10_3 + x9_2)) (rdOf false (rd_L3 x6_3 x23_1) (wrap64 ((wrap64 (x14_4 * (wrap64 ((l1.length : Int) + 1)))) + (wrap64 (x10_3 + x9_2))))) x14_4 l0 (l0.length : Int) x23_1 ((rd_T67 l0 x23_1).f0) ((rd_T67 l0 x23_1).f1) ((rd_T67 l0 x23_1).f2)) else (none)) else (none)) else (none)) else (none)) else (coppicerref_Means.j6 k4 l0 l1 (wrap64 ((l1.length : Int) + 1)) x6_3 x23_1 x9_2 x10_3 (wrap64 (x10_3 + x9_2)) false x14_4 l0 (l0.length : Int) x23_1 ((rd_T67 l0 x23_1).f0) ((rd_T67 l0 x23_1).f1) ((rd_T67 l0 x23_1).f2))) else (none)) else (none)) else (none)) else (none)) = some r := by rw [if_neg (show ¬ (false = true) by decide)] at H; exact H
                                                        clear H
                                                        have H := H1
                                                        clear H1
                                                        by_cases c66 : 0 ≤ ((rd_T67 l0 x23_1).f1)
                                                        · rw [if_pos c66] at H
                                                          have c66b0 : decide (0 ≤ ((rd_T67 l0 x23_1).f1)) = true := decide_eq_true c66
                                                          clear c66
                                                          (first | rw [c66b0] | (simp only [i64_w, i32_w]; rw [c66b0]) | skip)
                                                          by_cases c67 : ((rd_T67 l0 x23_1).f1) < (x6_3.length : Int)
                                                          · rw [if_pos c67] at H
                                                            have c67b0 : decide (((rd_T67 l0 x23_1).f1) < (x6_3.length : Int)) = true := decide_eq_true c67
                                                            (try (have c67b0h := c67b0; simp only [hl6_2, hl6_3] at c67b0h))
                                                            clear c67
                                                            obtain ⟨ji68, hji68⟩ : ∃ j_ : Int, (wrap64 ((wrap64 (x10_3 * (wrap64 ((l1.length : Int) + 1)))) + x14_4)) = j_ := ⟨_, rfl⟩
                                                            replace H : (if 0 ≤ (ji68) then (if (ji68) < ((rd_L3 x6_3 ((rd_T67 l0 x23_1).f1)).length : Int) then (if rdOf false (rd_L3 x6_3 ((rd_T67 l0 x23_1).f1)) (ji68) = true then (if 0 ≤ x23_1 then (if x23_1 < (x6_3.length : Int) then (if 0 ≤ (wrap64 ((wrap64 (x14_4 * (wrap64 ((l1.length : Int) + 1)))) + (wrap64 (x10_3 + x9_2)))) then (if (wrap64 ((wrap64 (x14_4 * (wrap64 ((l1.length : Int) + 1)))) + (wrap64 (x10_3 + x9_2)))) < ((rd_L3 x6_3 x23_1).length : Int) then (coppicerref_Means.j6 k4 l0 l1 (wrap64 ((l1.length : Int) + 1)) x6_3 x23_1 x9_2 x10_3 (wrap64 (x10_3 + x9_2)) (rdOf false (rd_L3 x6_3 x23_1) (wrap64 ((wrap64 (x14_4 * (wrap64 ((l1.length : Int) + 1)))) + (wrap64 (x10_3 + x9_2))))) x14_4 l0 (l0.length : Int) x23_1 ((rd_T67 l0 x23_1).f0) ((rd_T67 l0 x23_1).f1) ((rd_T67 l0 x23_1).f2)) else (none)) else (none)) else (none)) else (none)) else (coppicerref_Means.j6 k4 l0 l1 (wrap64 ((l1.length : Int) + 1)) x6_3 x23_1 x9_2 x10_3 (wrap64 (x10_3 + x9_2)) false x14_4 l0 (l0.length : Int) x23_1 ((rd_T67 l0 x23_1).f0) ((rd_T67 l0 x23_1).f1) ((rd_T67 l0 x23_1).f2))) else (none)) else (none)) = some r := by first | (rw [hji68] at H; exact H) | (simp only [hji68] at H ⊢; exact H)
                                                            have hji68w : (IntKind.i64.wrap ((wrap64 (x10_3 * (wrap64 ((l1.length : Int) + 1)))) + x14_4)) = ji68 := (i64_w _).trans hji68
                                                            by_cases c69 : 0 ≤ (ji68)
                                                            · rw [if_pos c69] at H
                                                              have c69b0 : decide (0 ≤ (ji68)) = true := decide_eq_true c69
                                                              clear c69
                                                              by_cases c70 : (ji68) < ((rd_L3 x6_3 ((rd_T67 l0 x23_1).f1)).length : Int)
                                                              · rw [if_pos c70] at H
                                                                have c70b0 : decide ((ji68) < ((rd_L3 x6_3 ((rd_T67 l0 x23_1).f1)).length : Int)) = true := decide_eq_true c70
                                                                (try (have c70b0h := c70b0; simp only [hl6_2, hl6_3] at c70b0h))
                                                                clear c70
                                                                obtain ⟨bq71, hbq71⟩ : ∃ b_ : Bool, b_ = (rdOf false (rd_L3 x6_3 ((rd_T67 l0 x23_1).f1)) (ji68)) := ⟨_, rfl⟩
                                                                replace H : (if bq71 = true then (if 0 ≤ x23_1 then (if x23_1 < (x6_3.length : Int) then (if 0 ≤ (wrap64 ((wrap64 (x14_4 * (wrap64 ((l1.length : Int) + 1)))) + (wrap64 (x10_3 + x9_2)))) then (if (wrap64 ((wrap64 (x14_4 * (wrap64 ((l1.length : Int) + 1)))) + (wrap64 (x10_3 + x9_2)))) < ((rd_L3 x6_3 x23_1).length : Int) then (coppicerref_Means.j6 k4 l0 l1 (wrap64 ((l1.length : Int) + 1)) x6_3 x23_1 x9_2 x10_3 (wrap64 (x10_3 + x9_2)) (rdOf false (rd_L3 x6_3 x23_1) (wrap64 ((wrap64 (x14_4 * (wrap64 ((l1.length : Int) + 1)))) + (wrap64 (x10_3 + x9_2))))) x14_4 l0 (l0.length : Int) x23_1 ((rd_T67 l0 x23_1).f0) ((rd_T67 l0 x23_1).f1) ((rd_T67 l0 x23_1).f2)) else (none)) else (none)) else (none)) else (none)) else (coppicerref_Means.j6 k4 l0 l1 (wrap64 ((l1.length : Int) + 1)) x6_3 x23_1 x9_2 x10_3 (wrap64 (x10_3 + x9_2)) false x14_4 l0 (l0.length : Int) x23_1 ((rd_T67 l0 x23_1).f0) ((rd_T67 l0 x23_1).f1) ((rd_T67 l0 x23_1).f2))) = some r := by rw [← hbq71] at H; exact H
                                                                have Nbq71 := Aside0.mk hbq71
                                                                clear hbq71
                                                                by_cases c72 : bq71 = true
                                                                · subst c72
                                                                  have H1 : (if 0 ≤ x23_1 then (if x23_1 < (x6_3.length : Int) then (if 0 ≤ (wrap64 ((wrap64 (x14_4 * (wrap64 ((l1.length : Int) + 1)))) + (wrap64 (x10_3 + x9_2)))) then (if (wrap64 ((wrap64 (x14_4 * (wrap64 ((l1.length : Int) + 1)))) + (wrap64 (x10_3 + x9_2)))) < ((rd_L3 x6_3 x23_1).length : Int) then (coppicerref_Means.j6 k4 l0 l1 (wrap64 ((l1.length : Int) + 1)) x6_3 x23_1 x9_2 x10_3 (wrap64 (x10_3 + x9_2)) (rdOf false (rd_L3 x6_3 x23_1) (wrap64 ((wrap64 (x14_4 * (wrap64 ((l1.length : Int) + 1)))) + (wrap64 (x10_3 + x9_2))))) x14_4 l0 (l0.length : Int) x23_1 ((rd_T67 l0 x23_1).f0) ((rd_T67 l0 x23_1).f1) ((rd_T67 l0 x23_1).f2)) else (none)) else (none)) else (none)) else (none)) = some r := by rw [if_pos rfl] at H; exact H
                                                                  clear H
                                                                  have H := H1
                                                                  clear H1
                                                                  by_cases c73 : 0 ≤ x23_1
                                                                  · rw [if_pos c73] at H
                                                                    have c73b0 : decide (0 ≤ x23_1) = true := decide_eq_true c73
                                                                    clear c73
                                                                    by_cases c74 : x23_1 < (x6_3.length : Int)
                                                                    · rw [if_pos c74] at H
                                                                      have c74b0 : decide (x23_1 < (x6_3.length : Int)) = true := decide_eq_true c74
                                                                      (try (have c74b0h := c74b0; simp only [hl6_2, hl6_3] at c74b0h))
                                                                      clear c74
                                                                      obtain ⟨ji75, hji75⟩ : ∃ j_ : Int, (wrap64 ((wrap64 (x14_4 * (wrap64 ((l1.length : Int) + 1)))) + (wrap64 (x10_3 + x9_2)))) = j_ := ⟨_, rfl⟩
                                                                      replace H : (if 0 ≤ (ji75) then (if (ji75) < ((rd_L3 x6_3 x23_1).length : Int) then (coppicerref_Means.j6 k4 l0 l1 (wrap64 ((l1.length : Int) + 1)) x6_3 x23_1 x9_2 x10_3 (wrap64 (x10_3 + x9_2)) (rdOf false (rd_L3 x6_3 x23_1) (ji75)) x14_4 l0 (l0.length : Int) x23_1 ((rd_T67 l0 x23_1).f0) ((rd_T67 l0 x23_1).f1) ((rd_T67 l0 x23_1).f2)) else (none)) else (none)) = some r := by first | (rw [hji75] at H; exact H) | (simp only [hji75] at H ⊢; exact H)
                                                                      have hji75w : (IntKind.i64.wrap ((wrap64 (x14_4 * (wrap64 ((l1.length : Int) + 1)))) + (wrap64 (x10_3 + x9_2)))) = ji75 := (i64_w _).trans hji75
                                                                      by_cases c76 : 0 ≤ (ji75)
                                                                      · rw [if_pos c76] at H
                                                                        have c76b0 : decide (0 ≤ (ji75)) = true := decide_eq_true c76
                                                                        clear c76
                                                                        by_cases c77 : (ji75) < ((rd_L3 x6_3 x23_1).length : Int)
                                                                        · rw [if_pos c77] at H
                                                                          have c77b0 : decide ((ji75) < ((rd_L3 x6_3 x23_1).length : Int)) = true := decide_eq_true c77
                                                                          (try (have c77b0h := c77b0; simp only [hl6_2, hl6_3] at c77b0h))
                                                                          clear c77
                                                                          as_aux_lemma =>
                                                                            have H' := Aside0.mk H
                                                                            clear H
                                                                            have hcz78_0 : wr.cell? ⟨gb123, 0, none⟩ = some (.int .i64 ((rd_T67 l0 x23_1).f0)) := (blk_cell BK123.out 0).trans rfl
                                                                            have hcz78_1 : wr.cell? ⟨gb123, 1, none⟩ = some (.int .i64 ((rd_T67 l0 x23_1).f1)) := (blk_cell BK123.out 1).trans rfl
                                                                            have hcz78_2 : wr.cell? ⟨gb123, 2, none⟩ = some (.int .i64 ((rd_T67 l0 x23_1).f2)) := (blk_cell BK123.out 2).trans rfl
                                                                            have hfz78_0 := blk_frozen BK123.out 0
                                                                            have hfz78_1 := blk_frozen BK123.out 1
                                                                            have hfz78_2 := blk_frozen BK123.out 2
                                                                            have p137 : 0 ≤ (((rd_T67 l0 x23_1).f1) : Int) := of_decide_eq_true (by first | (with_reducible assumption) | assumption)
                                                                            have q137 : ((rd_T67 l0 x23_1).f1) < (x6_3.length : Int) := of_decide_eq_true (by first | (with_reducible assumption) | assumption)
                                                                            obtain ⟨ad137, A137_0, c137_0, e137, hx137_0, hl137_0, hi137_0⟩ := at_L3 (Kd.S_reads' HO_6.out).2.2 ((rd_T67 l0 x23_1).f1) p137 q137
                                                                            obtain rfl : (⟨go14, 0, none⟩ : Addr) = ad137 := (by injection e137)
                                                                            obtain ⟨ce137, hce137, hMe137, hcc137⟩ := Kd.S_get HO_6.out [] ((rd_T67 l0 x23_1).f1) p137 (by first | exact q137 | exact of_decide_eq_true (by first | (with_reducible assumption) | assumption) | (have e_ := (Kd.S_reads' HO_6.out).1; omega))
                                                                            obtain ⟨ve137_0, rfl, ge137_0⟩ := hMe137
                                                                            have hv137_0 := hcc137 0 _ rfl
                                                                            rw [Nat.add_zero, show ((Kd.slice 4 Kd.bool)).sz = 1 from rfl, Nat.mul_one] at hv137_0
                                                                            replace hv137_0 := Option.some.inj (hv137_0.symm.trans hx137_0)
                                                                            rw [hv137_0] at ge137_0
                                                                            have HL137_0 := Aside0.mk (show Kd.R Kd.bool 4 _ _ _ _ (rd_L3 x6_3 ((rd_T67 l0 x23_1).f1)) from ge137_0)
                                                                            clear hv137_0 ge137_0
                                                                            have HX137_0 := Aside0.mk hx137_0
                                                                            clear hcc137 hce137
                                                                            (first | simp only [add_plain] at hx137_0 | simp only [add_at] at hx137_0 | simp only [Addr.add, Nat.zero_add] at hx137_0 | skip)
                                                                            have HR137_0 := Aside0.mk hi137_0
                                                                            have HC137_0 := Aside0.mk hl137_0
                                                                            clear hi137_0 hl137_0
                                                                            replace p137 := eq_true p137
                                                                            replace q137 := eq_true q137
                                                                            have p138 : 0 ≤ ((ji68) : Int) := of_decide_eq_true (by first | (with_reducible assumption) | assumption)
                                                                            have q138 : (ji68) < ((rd_L3 x6_3 ((rd_T67 l0 x23_1).f1)).length : Int) := of_decide_eq_true (by first | (with_reducible assumption) | assumption)
                                                                            obtain ⟨ad138, e138, hx138_0⟩ := Kd.at_bool (by repeat (first | (with_reducible exact HR137_0.out) | (with_reducible refine Kd.C_alloc ?_ _) | (with_reducible refine Kd.C_drewN ?_ _) | (with_reducible refine Kd.C_drew ?_) | exact HR137_0.out)) (ji68) p138 q138
                                                                            (try rw [← Nbq71.out] at hx138_0)
                                                                            cases e138
                                                                            replace p138 := eq_true p138
                                                                            replace q138 := eq_true q138
                                                                            have p139 : 0 ≤ (x23_1 : Int) := of_decide_eq_true (by first | (with_reducible assumption) | assumption)
                                                                            have q139 : x23_1 < (x6_3.length : Int) := of_decide_eq_true (by first | (with_reducible assumption) | assumption)
                                                                            obtain ⟨ad139, A139_0, c139_0, e139, hx139_0, hl139_0, hi139_0⟩ := at_L3 (Kd.S_reads' HO_6.out).2.2 x23_1 p139 q139
                                                                            obtain rfl : (⟨go14, 0, none⟩ : Addr) = ad139 := (by injection e139)
                                                                            obtain ⟨ce139, hce139, hMe139, hcc139⟩ := Kd.S_get HO_6.out [] x23_1 p139 (by first | exact q139 | exact of_decide_eq_true (by first | (with_reducible assumption) | assumption) | (have e_ := (Kd.S_reads' HO_6.out).1; omega))
                                                                            obtain ⟨ve139_0, rfl, ge139_0⟩ := hMe139
                                                                            have hv139_0 := hcc139 0 _ rfl
                                                                            rw [Nat.add_zero, show ((Kd.slice 4 Kd.bool)).sz = 1 from rfl, Nat.mul_one] at hv139_0
                                                                            replace hv139_0 := Option.some.inj (hv139_0.symm.trans hx139_0)
                                                                            rw [hv139_0] at ge139_0
                                                                            have HL139_0 := Aside0.mk (show Kd.R Kd.bool 4 _ _ _ _ (rd_L3 x6_3 x23_1) from ge139_0)
                                                                            clear hv139_0 ge139_0
                                                                            have HX139_0 := Aside0.mk hx139_0
                                                                            clear hcc139 hce139
                                                                            (first | simp only [add_plain] at hx139_0 | simp only [add_at] at hx139_0 | simp only [Addr.add, Nat.zero_add] at hx139_0 | skip)
                                                                            have HR139_0 := Aside0.mk hi139_0
                                                                            have HC139_0 := Aside0.mk hl139_0
                                                                            clear hi139_0 hl139_0
                                                                            replace p139 := eq_true p139
                                                                            replace q139 := eq_true q139
                                                                            have p140 : 0 ≤ ((ji75) : Int) := of_decide_eq_true (by first | (with_reducible assumption) | assumption)
                                                                            have q140 : (ji75) < ((rd_L3 x6_3 x23_1).length : Int) := of_decide_eq_true (by first | (with_reducible assumption) | assumption)
                                                                            obtain ⟨ad140, e140, hx140_0⟩ := Kd.at_bool (by repeat (first | (with_reducible exact HR139_0.out) | (with_reducible refine Kd.C_alloc ?_ _) | (with_reducible refine Kd.C_drewN ?_ _) | (with_reducible refine Kd.C_drew ?_) | exact HR139_0.out)) (ji75) p140 q140
                                                                            (try rw [← Nbq71.out] at hx140_0)
                                                                            cases e140
                                                                            replace p140 := eq_true p140
                                                                            replace q140 := eq_true q140
                                                                            go_wp2
                                                                            repeat (go_quiet (fail); try go_wp2)
                                                                            go_meet
                                                                            case rel => exact ⟨_, (rdOf false (rd_L3 x6_3 x23_1) (ji75)), (by first | rfl | (simp; done) | (simp only [← hji75] <;> (first | rfl | simp)) | (simp [*]; done)), H', ⟨by have := HK1.out; have := HK2.out; have := HK3.out; have := HK4.out; first | omega | exact Nat.le_refl _⟩, ⟨by (try simp only [hl6_2]); (try simp only [hl6_3]); (with_reducible repeat (first | apply Kd.S_alloc | apply Kd.S_drewN | apply Kd.S_drew)); exact HO_6.out⟩, ⟨by (try simp only [hl6_2]); (try simp only [hl6_3]); (with_reducible repeat (first | refine blk_drewN ?_ _ | refine blk_drew ?_ | refine blk_alloc ?_ _)); exact BK123.out⟩, ⟨by repeat (first | (with_reducible first | exact HB.out | apply below_alloc | apply pw_below_drewN | apply below_drew1 | refine below_set ?_ GE123.out) | exact HB.out)⟩⟩
                                                                        · rw [if_neg c77] at H
                                                                          exact absurd H (by simp)
                                                                      · rw [if_neg c76] at H
                                                                        exact absurd H (by simp)
                                                                    · rw [if_neg c74] at H
                                                                      exact absurd H (by simp)
                                                                  · rw [if_neg c73] at H
                                                                    exact absurd H (by simp)
                                                                · replace c72 := Bool.eq_false_iff.mpr c72
                                                                  subst c72
                                                                  have H1 : (coppicerref_Means.j6 k4 l0 l1 (wrap64 ((l1.length : Int) + 1)) x6_3 x23_1 x9_2 x10_3 (wrap64 (x10_3 + x9_2)) false x14_4 l0 (l0.length : Int) x23_1 ((rd_T67 l0 x23_1).f0) ((rd_T67 l0 x23_1).f1) ((rd_T67 l0 x23_1).f2)) = some r := by rw [if_neg (show ¬ (false = true) by decide)] at H; exact H
                                                                  clear H
                                                                  have H := H1
                                                                  clear H1
                                                                  as_aux_lemma =>
                                                                    have H' := Aside0.mk H
                                                                    clear H
                                                                    have hcz79_0 : wr.cell? ⟨gb123, 0, none⟩ = some (.int .i64 ((rd_T67 l0 x23_1).f0)) := (blk_cell BK123.out 0).trans rfl
                                                                    have hcz79_1 : wr.cell? ⟨gb123, 1, none⟩ = some (.int .i64 ((rd_T67 l0 x23_1).f1)) := (blk_cell BK123.out 1).trans rfl
                                                                    have hcz79_2 : wr.cell? ⟨gb123, 2, none⟩ = some (.int .i64 ((rd_T67 l0 x23_1).f2)) := (blk_cell BK123.out 2).trans rfl
                                                                    have hfz79_0 := blk_frozen BK123.out 0
                                                                    have hfz79_1 := blk_frozen BK123.out 1
                                                                    have hfz79_2 := blk_frozen BK123.out 2
                                                                    have p137 : 0 ≤ (((rd_T67 l0 x23_1).f1) : Int) := of_decide_eq_true (by first | (with_reducible assumption) | assumption)
                                                                    have q137 : ((rd_T67 l0 x23_1).f1) < (x6_3.length : Int) := of_decide_eq_true (by first | (with_reducible assumption) | assumption)
                                                                    obtain ⟨ad137, A137_0, c137_0, e137, hx137_0, hl137_0, hi137_0⟩ := at_L3 (Kd.S_reads' HO_6.out).2.2 ((rd_T67 l0 x23_1).f1) p137 q137
                                                                    obtain rfl : (⟨go14, 0, none⟩ : Addr) = ad137 := (by injection e137)
                                                                    obtain ⟨ce137, hce137, hMe137, hcc137⟩ := Kd.S_get HO_6.out [] ((rd_T67 l0 x23_1).f1) p137 (by first | exact q137 | exact of_decide_eq_true (by first | (with_reducible assumption) | assumption) | (have e_ := (Kd.S_reads' HO_6.out).1; omega))
                                                                    obtain ⟨ve137_0, rfl, ge137_0⟩ := hMe137
                                                                    have hv137_0 := hcc137 0 _ rfl
                                                                    rw [Nat.add_zero, show ((Kd.slice 4 Kd.bool)).sz = 1 from rfl, Nat.mul_one] at hv137_0
                                                                    replace hv137_0 := Option.some.inj (hv137_0.symm.trans hx137_0)
                                                                    rw [hv137_0] at ge137_0
                                                                    have HL137_0 := Aside0.mk (show Kd.R Kd.bool 4 _ _ _ _ (rd_L3 x6_3 ((rd_T67 l0 x23_1).f1)) from ge137_0)
                                                                    clear hv137_0 ge137_0
                                                                    have HX137_0 := Aside0.mk hx137_0
                                                                    clear hcc137 hce137
                                                                    (first | simp only [add_plain] at hx137_0 | simp only [add_at] at hx137_0 | simp only [Addr.add, Nat.zero_add] at hx137_0 | skip)
                                                                    have HR137_0 := Aside0.mk hi137_0
                                                                    have HC137_0 := Aside0.mk hl137_0
                                                                    clear hi137_0 hl137_0
                                                                    replace p137 := eq_true p137
                                                                    replace q137 := eq_true q137
                                                                    have p138 : 0 ≤ ((ji68) : Int) := of_decide_eq_true (by first | (with_reducible assumption) | assumption)
                                                                    have q138 : (ji68) < ((rd_L3 x6_3 ((rd_T67 l0 x23_1).f1)).length : Int) := of_decide_eq_true (by first | (with_reducible assumption) | assumption)
                                                                    obtain ⟨ad138, e138, hx138_0⟩ := Kd.at_bool (by repeat (first | (with_reducible exact HR137_0.out) | (with_reducible refine Kd.C_alloc ?_ _) | (with_reducible refine Kd.C_drewN ?_ _) | (with_reducible refine Kd.C_drew ?_) | exact HR137_0.out)) (ji68) p138 q138
                                                                    (try rw [← Nbq71.out] at hx138_0)
                                                                    cases e138
                                                                    replace p138 := eq_true p138
                                                                    replace q138 := eq_true q138
                                                                    go_wp2
                                                                    repeat (go_quiet (fail); try go_wp2)
                                                                    go_meet
                                                                    case rel => exact ⟨_, (false), (by first | rfl | (simp; done) | (simp [*]; done)), H', ⟨by have := HK1.out; have := HK2.out; have := HK3.out; have := HK4.out; first | omega | exact Nat.le_refl _⟩, ⟨by (try simp only [hl6_2]); (try simp only [hl6_3]); (with_reducible repeat (first | apply Kd.S_alloc | apply Kd.S_drewN | apply Kd.S_drew)); exact HO_6.out⟩, ⟨by (try simp only [hl6_2]); (try simp only [hl6_3]); (with_reducible repeat (first | refine blk_drewN ?_ _ | refine blk_drew ?_ | refine blk_alloc ?_ _)); exact BK123.out⟩, ⟨by repeat (first | (with_reducible first | exact HB.out | apply below_alloc | apply pw_below_drewN | apply below_drew1 | refine below_set ?_ GE123.out) | exact HB.out)⟩⟩
                                                              · rw [if_neg c70] at H
                                                                exact absurd H (by simp)
                                                            · rw [if_neg c69] at H
                                                              exact absurd H (by simp)
                                                          · rw [if_neg c67] at H
                                                            exact absurd H (by simp)
                                                        · rw [if_neg c66] at H
                                                          exact absurd H (by simp)
                                                    case rest =>
                                                      clear HC64
                                                      try clear c1
                                                      try clear p1
                                                      try clear q1
                                                      try clear hx1
                                                      try clear c2
                                                      try clear p2
                                                      try clear c3
                                                      try clear c3b0
                                                      try clear c3b1
                                                      try clear q3
                                                      try clear c4
                                                      try clear c4b0
                                                      try clear c4b1
                                                      try clear c5
                                                      try clear q5
                                                      try clear c6
                                                      try clear p6
                                                      try clear c7
                                                      try clear c7b0
                                                      try clear q7
                                                      try clear c8
                                                      try clear c8b0
                                                      try clear c9
                                                      try clear c9b0
                                                      try clear c11
                                                      try clear c11b0
                                                      try clear c11b1
                                                      try clear c12
                                                      try clear c12b0
                                                      try clear c12b1
                                                      try clear p12
                                                      try clear q12
                                                      try clear hx12
                                                      try clear c13
                                                      try clear c13b0
                                                      try clear p13
                                                      try clear q13
                                                      try clear hx13
                                                      try clear c14
                                                      try clear p14
                                                      try clear q14
                                                      try clear hx14
                                                      try clear hf14
                                                      try clear c15
                                                      try clear c19
                                                      try clear hx19
                                                      try clear hf19
                                                      try clear c21
                                                      try clear c21b0
                                                      try clear c22
                                                      try clear c22b0
                                                      try clear c25
                                                      try clear c25b0
                                                      try clear c25b1
                                                      try clear c26
                                                      try clear c26b0
                                                      try clear c26b1
                                                      try clear c27
                                                      try clear c27b0
                                                      try clear c27b1
                                                      try clear c28
                                                      try clear c28b0
                                                      try clear c29
                                                      try clear c29b0
                                                      try clear c31
                                                      try clear c31b0
                                                      try clear c31b1
                                                      try clear c32
                                                      try clear c32b0
                                                      try clear c33
                                                      try clear c33b0
                                                      try clear c35
                                                      try clear c35b0
                                                      try clear c36
                                                      try clear c36b0
                                                      try clear q37
                                                      try clear c38
                                                      try clear c40
                                                      try clear c40b0
                                                      try clear c41
                                                      try clear c41b0
                                                      try clear c42
                                                      try clear c42b0
                                                      try clear c44
                                                      try clear c44b0
                                                      try clear c44b1
                                                      try clear c45
                                                      try clear c45b0
                                                      try clear c47
                                                      try clear c48
                                                      try clear c48b0
                                                      try clear c49
                                                      try clear c49b0
                                                      try clear c51
                                                      try clear c51b0
                                                      try clear c52
                                                      try clear c52b0
                                                      try clear q53
                                                      try clear c54
                                                      try clear c55
                                                      try clear c55b0
                                                      try clear c56
                                                      try clear c56b0
                                                      try clear c58
                                                      try clear c58b0
                                                      try clear c59
                                                      try clear c59b0
                                                      try clear c62
                                                      try clear c62b0
                                                      try clear c62b1
                                                      try clear c63
                                                      try clear c63b0
                                                      try clear p64
                                                      try clear c65
                                                      try clear c66
                                                      try clear c66b0
                                                      try clear c67
                                                      try clear c67b0
                                                      try clear c69
                                                      try clear c69b0
                                                      try clear c70
                                                      try clear c70b0
                                                      try clear q71
                                                      try clear c72
                                                      try clear c73
                                                      try clear c73b0
                                                      try clear c74
                                                      try clear c74b0
                                                      try clear c76
                                                      try clear c76b0
                                                      try clear c77
                                                      try clear c77b0
                                                      try clear hcz16_0
                                                      try clear hcz16_1
                                                      try clear hcz16_2
                                                      try clear hcz24_0
                                                      try clear hcz24_1
                                                      try clear hcz24_2
                                                      try clear hcz30_0
                                                      try clear hcz30_1
                                                      try clear hcz30_2
                                                      try clear hcz39_0
                                                      try clear hcz39_1
                                                      try clear hcz39_2
                                                      try clear hcz43_0
                                                      try clear hcz43_1
                                                      try clear hcz43_2
                                                      try clear hcz60_0
                                                      try clear hcz60_1
                                                      try clear hcz60_2
                                                      try clear hcz61_0
                                                      try clear hcz61_1
                                                      try clear hcz61_2
                                                      try clear hcz78_0
                                                      try clear hcz78_1
                                                      try clear hcz78_2
                                                      try clear hcz79_0
                                                      try clear hcz79_1
                                                      try clear hcz79_2
                                                      try clear hfz16_0
                                                      try clear hfz16_1
                                                      try clear hfz16_2
                                                      try clear hfz24_0
                                                      try clear hfz24_1
                                                      try clear hfz24_2
                                                      try clear hfz30_0
                                                      try clear hfz30_1
                                                      try clear hfz30_2
                                                      try clear hfz39_0
                                                      try clear hfz39_1
                                                      try clear hfz39_2
                                                      try clear hfz43_0
                                                      try clear hfz43_1
                                                      try clear hfz43_2
                                                      try clear hfz60_0
                                                      try clear hfz60_1
                                                      try clear hfz60_2
                                                      try clear hfz61_0
                                                      try clear hfz61_1
                                                      try clear hfz61_2
                                                      try clear hfz78_0
                                                      try clear hfz78_1
                                                      try clear hfz78_2
                                                      try clear hfz79_0
                                                      try clear hfz79_1
                                                      try clear hfz79_2
                                                      try clear hx122_0
                                                      try clear hx122_1
                                                      try clear hx122_2
                                                      try clear hx128_0
                                                      try clear hx129_0
                                                      try clear hx130_0
                                                      try clear hx131_0
                                                      try clear hx132_0
                                                      try clear hx133_0
                                                      try clear hx134_0
                                                      try clear hx135_0
                                                      try clear hx136_0
                                                      try clear hx137_0
                                                      try clear hx138_0
                                                      try clear hx139_0
                                                      try clear hx140_0
                                                      try clear hx14_0
                                                      try clear hx19_0
                                                      try clear p1
                                                      try clear p12
                                                      try clear p122
                                                      try clear p128
                                                      try clear p129
                                                      try clear p13
                                                      try clear p130
                                                      try clear p131
                                                      try clear p132
                                                      try clear p133
                                                      try clear p134
                                                      try clear p135
                                                      try clear p136
                                                      try clear p137
                                                      try clear p138
                                                      try clear p139
                                                      try clear p14
                                                      try clear p140
                                                      try clear p2
                                                      try clear p6
                                                      try clear q1
                                                      try clear q12
                                                      try clear q122
                                                      try clear q128
                                                      try clear q129
                                                      try clear q13
                                                      try clear q130
                                                      try clear q131
                                                      try clear q132
                                                      try clear q133
                                                      try clear q134
                                                      try clear q135
                                                      try clear q136
                                                      try clear q137
                                                      try clear q138
                                                      try clear q139
                                                      try clear q14
                                                      try clear q140
                                                      try clear q3
                                                      try clear q37
                                                      try clear q5
                                                      try clear q53
                                                      obtain ⟨kq, x12_63, rfl, HA, HJ63, HO_6, BK123, HB⟩ := hcut
                                                      cases kq with
                                                      | zero => exact absurd HA.out (by simp [coppicerref_Means.j6])
                                                      | succ kj63 =>
                                                        have H := HA.out
                                                        clear HA
                                                        simp only [coppicerref_Means.j6] at H
                                                        as_aux_lemma =>
                                                          have H' := Aside0.mk H
                                                          clear H
                                                          go_wp2
                                                          repeat (go_quiet (fail); try go_wp2)
                                                          (first | go_roundg kj63 | (simp only [← hji10]; go_roundg kj63))
                                                          case measure => have := HK1.out; have := HK2.out; have := HK3.out; have := HK4.out; have := HJ63.out; omega
                                                          case rel => exact ⟨(x12_63), (wrap64 (x14_4 + 1)), (by first | rfl | (simp; done) | (simp [*]; done)), (by first | rfl | (simp; done) | (simp [*]; done)), H', ⟨by have := HK1.out; have := HK2.out; have := HK3.out; have := HK4.out; have := HJ63.out; omega⟩, ⟨by (try simp only [hl6_2]); (try simp only [hl6_3]); (with_reducible repeat (first | apply Kd.S_alloc | apply Kd.S_drewN | apply Kd.S_drew)); exact HO_6.out⟩, ⟨by (try simp only [hl6_2]); (try simp only [hl6_3]); (with_reducible repeat (first | refine blk_drewN ?_ _ | refine blk_drew ?_ | refine blk_alloc ?_ _)); exact BK123.out⟩, ⟨by repeat (first | (with_reducible first | exact HB.out | apply below_alloc | apply pw_below_drewN | apply below_drew1 | refine below_set ?_ GE123.out) | exact HB.out)⟩⟩
                                                  · rw [if_neg c63] at H
                                                    have c63b0 : decide (x14_4 ≤ (wrap64 (x10_3 + x9_2))) = false := decide_eq_false c63
                                                    clear c63
                                                    as_aux_lemma =>
                                                      have H' := Aside0.mk H
                                                      clear H
                                                      go_wp2
                                                      repeat (go_quiet (fail); try go_wp2)
                                                      go_meet
                                                      case rel => exact ⟨_, (x12_4), (by first | rfl | (simp; done) | (simp [*]; done)), H', ⟨by have := HK1.out; have := HK2.out; have := HK3.out; have := HK4.out; first | omega | exact Nat.le_refl _⟩, ⟨by (try simp only [hl6_2]); (try simp only [hl6_3]); (with_reducible repeat (first | apply Kd.S_alloc | apply Kd.S_drewN | apply Kd.S_drew)); exact HO_6.out⟩, ⟨by (try simp only [hl6_2]); (try simp only [hl6_3]); (with_reducible repeat (first | refine blk_drewN ?_ _ | refine blk_drew ?_ | refine blk_alloc ?_ _)); exact BK123.out⟩, ⟨by repeat (first | (with_reducible first | exact HB.out | apply below_alloc | apply pw_below_drewN | apply below_drew1 | refine below_set ?_ GE123.out) | exact HB.out)⟩⟩
                                            · rw [if_neg c62] at H
                                              have c62b0 : (((rd_T67 l0 x23_1).f0) == 6) = false := beq_eq_false_iff_ne.mpr c62
                                              have c62b1 : (((rd_T67 l0 x23_1).f0) != 6) = true := bne_iff_ne.mpr c62
                                              as_aux_lemma =>
                                                have H' := Aside0.mk H
                                                clear H
                                                go_wp2
                                                repeat (go_quiet (fail); try go_wp2)
                                                go_meet
                                                case rel => exact ⟨_, (false), (by first | rfl | (simp; done) | (simp [*]; done)), H', ⟨by have := HK1.out; have := HK2.out; have := HK3.out; first | omega | exact Nat.le_refl _⟩, ⟨by (try simp only [hl6_2]); (try simp only [hl6_3]); (with_reducible repeat (first | apply Kd.S_alloc | apply Kd.S_drewN | apply Kd.S_drew)); exact HO_6.out⟩, ⟨by (try simp only [hl6_2]); (try simp only [hl6_3]); (with_reducible repeat (first | refine blk_drewN ?_ _ | refine blk_drew ?_ | refine blk_alloc ?_ _)); exact BK123.out⟩, ⟨by repeat (first | (with_reducible first | exact HB.out | apply below_alloc | apply pw_below_drewN | apply below_drew1 | refine below_set ?_ GE123.out) | exact HB.out)⟩⟩
                                  case rest =>
                                    clear HC23
                                    try clear c1
                                    try clear p1
                                    try clear q1
                                    try clear hx1
                                    try clear c2
                                    try clear p2
                                    try clear c3
                                    try clear c3b0
                                    try clear c3b1
                                    try clear q3
                                    try clear c4
                                    try clear c4b0
                                    try clear c4b1
                                    try clear c5
                                    try clear q5
                                    try clear c6
                                    try clear p6
                                    try clear c7
                                    try clear c7b0
                                    try clear q7
                                    try clear c8
                                    try clear c8b0
                                    try clear c9
                                    try clear c9b0
                                    try clear c11
                                    try clear c11b0
                                    try clear c11b1
                                    try clear c12
                                    try clear c12b0
                                    try clear c12b1
                                    try clear p12
                                    try clear q12
                                    try clear hx12
                                    try clear c13
                                    try clear c13b0
                                    try clear p13
                                    try clear q13
                                    try clear hx13
                                    try clear c14
                                    try clear p14
                                    try clear q14
                                    try clear hx14
                                    try clear hf14
                                    try clear c15
                                    try clear c19
                                    try clear hx19
                                    try clear hf19
                                    try clear c21
                                    try clear c21b0
                                    try clear c22
                                    try clear c22b0
                                    try clear c25
                                    try clear c25b0
                                    try clear c25b1
                                    try clear c26
                                    try clear c26b0
                                    try clear c26b1
                                    try clear c27
                                    try clear c27b0
                                    try clear c27b1
                                    try clear c28
                                    try clear c28b0
                                    try clear c29
                                    try clear c29b0
                                    try clear c31
                                    try clear c31b0
                                    try clear c31b1
                                    try clear c32
                                    try clear c32b0
                                    try clear c33
                                    try clear c33b0
                                    try clear c35
                                    try clear c35b0
                                    try clear c36
                                    try clear c36b0
                                    try clear q37
                                    try clear c38
                                    try clear c40
                                    try clear c40b0
                                    try clear c41
                                    try clear c41b0
                                    try clear c42
                                    try clear c42b0
                                    try clear c44
                                    try clear c44b0
                                    try clear c44b1
                                    try clear c45
                                    try clear c45b0
                                    try clear c47
                                    try clear c48
                                    try clear c48b0
                                    try clear c49
                                    try clear c49b0
                                    try clear c51
                                    try clear c51b0
                                    try clear c52
                                    try clear c52b0
                                    try clear q53
                                    try clear c54
                                    try clear c55
                                    try clear c55b0
                                    try clear c56
                                    try clear c56b0
                                    try clear c58
                                    try clear c58b0
                                    try clear c59
                                    try clear c59b0
                                    try clear c62
                                    try clear c62b0
                                    try clear c62b1
                                    try clear c63
                                    try clear c63b0
                                    try clear p64
                                    try clear c65
                                    try clear c66
                                    try clear c66b0
                                    try clear c67
                                    try clear c67b0
                                    try clear c69
                                    try clear c69b0
                                    try clear c70
                                    try clear c70b0
                                    try clear q71
                                    try clear c72
                                    try clear c73
                                    try clear c73b0
                                    try clear c74
                                    try clear c74b0
                                    try clear c76
                                    try clear c76b0
                                    try clear c77
                                    try clear c77b0
                                    try clear hcz16_0
                                    try clear hcz16_1
                                    try clear hcz16_2
                                    try clear hcz24_0
                                    try clear hcz24_1
                                    try clear hcz24_2
                                    try clear hcz30_0
                                    try clear hcz30_1
                                    try clear hcz30_2
                                    try clear hcz39_0
                                    try clear hcz39_1
                                    try clear hcz39_2
                                    try clear hcz43_0
                                    try clear hcz43_1
                                    try clear hcz43_2
                                    try clear hcz60_0
                                    try clear hcz60_1
                                    try clear hcz60_2
                                    try clear hcz61_0
                                    try clear hcz61_1
                                    try clear hcz61_2
                                    try clear hcz78_0
                                    try clear hcz78_1
                                    try clear hcz78_2
                                    try clear hcz79_0
                                    try clear hcz79_1
                                    try clear hcz79_2
                                    try clear hfz16_0
                                    try clear hfz16_1
                                    try clear hfz16_2
                                    try clear hfz24_0
                                    try clear hfz24_1
                                    try clear hfz24_2
                                    try clear hfz30_0
                                    try clear hfz30_1
                                    try clear hfz30_2
                                    try clear hfz39_0
                                    try clear hfz39_1
                                    try clear hfz39_2
                                    try clear hfz43_0
                                    try clear hfz43_1
                                    try clear hfz43_2
                                    try clear hfz60_0
                                    try clear hfz60_1
                                    try clear hfz60_2
                                    try clear hfz61_0
                                    try clear hfz61_1
                                    try clear hfz61_2
                                    try clear hfz78_0
                                    try clear hfz78_1
                                    try clear hfz78_2
                                    try clear hfz79_0
                                    try clear hfz79_1
                                    try clear hfz79_2
                                    try clear hx122_0
                                    try clear hx122_1
                                    try clear hx122_2
                                    try clear hx128_0
                                    try clear hx129_0
                                    try clear hx130_0
                                    try clear hx131_0
                                    try clear hx132_0
                                    try clear hx133_0
                                    try clear hx134_0
                                    try clear hx135_0
                                    try clear hx136_0
                                    try clear hx137_0
                                    try clear hx138_0
                                    try clear hx139_0
                                    try clear hx140_0
                                    try clear hx14_0
                                    try clear hx19_0
                                    try clear p1
                                    try clear p12
                                    try clear p122
                                    try clear p128
                                    try clear p129
                                    try clear p13
                                    try clear p130
                                    try clear p131
                                    try clear p132
                                    try clear p133
                                    try clear p134
                                    try clear p135
                                    try clear p136
                                    try clear p137
                                    try clear p138
                                    try clear p139
                                    try clear p14
                                    try clear p140
                                    try clear p2
                                    try clear p6
                                    try clear p64
                                    try clear q1
                                    try clear q12
                                    try clear q122
                                    try clear q128
                                    try clear q129
                                    try clear q13
                                    try clear q130
                                    try clear q131
                                    try clear q132
                                    try clear q133
                                    try clear q134
                                    try clear q135
                                    try clear q136
                                    try clear q137
                                    try clear q138
                                    try clear q139
                                    try clear q14
                                    try clear q140
                                    try clear q3
                                    try clear q37
                                    try clear q5
                                    try clear q53
                                    try clear q7
                                    try clear q71
                                    obtain ⟨kq, x12_22, rfl, HA, HJ22, HO_6, BK123, HB⟩ := hcut
                                    cases kq with
                                    | zero => exact absurd HA.out (by simp [coppicerref_Means.j7])
                                    | succ kj22 =>
                                      have H := HA.out
                                      clear HA
                                      simp only [coppicerref_Means.j7] at H
                                      by_cases c80 : 0 ≤ x23_1
                                      · rw [if_pos c80] at H
                                        have c80b0 : decide (0 ≤ x23_1) = true := decide_eq_true c80
                                        clear c80
                                        by_cases c81 : x23_1 < (x6_3.length : Int)
                                        · rw [if_pos c81] at H
                                          have c81b0 : decide (x23_1 < (x6_3.length : Int)) = true := decide_eq_true c81
                                          (try (have c81b0h := c81b0; simp only [hl6_2, hl6_3] at c81b0h))
                                          clear c81
                                          obtain ⟨ji82, hji82⟩ : ∃ j_ : Int, (wrap64 ((wrap64 (x10_3 * (wrap64 ((l1.length : Int) + 1)))) + (wrap64 (x10_3 + x9_2)))) = j_ := ⟨_, rfl⟩
                                          replace H : (if 0 ≤ (ji82) then (if (ji82) < ((rd_L3 x6_3 x23_1).length : Int) then (coppicerref_Means.l2 kj22 l0 l1 (wrap64 ((l1.length : Int) + 1)) (x6_3.set (x23_1 : Int).toNat ((rd_L3 x6_3 x23_1).set ((ji82) : Int).toNat x12_22)) x23_1 x9_2 (wrap64 (x10_3 + 1)) l0 (l0.length : Int) x23_1 ((rd_T67 l0 x23_1).f0) ((rd_T67 l0 x23_1).f1) ((rd_T67 l0 x23_1).f2)) else (none)) else (none)) = some r := by first | (rw [hji82] at H; exact H) | (simp only [hji82] at H ⊢; exact H)
                                          have hji82w : (IntKind.i64.wrap ((wrap64 (x10_3 * (wrap64 ((l1.length : Int) + 1)))) + (wrap64 (x10_3 + x9_2)))) = ji82 := (i64_w _).trans hji82
                                          by_cases c83 : 0 ≤ (ji82)
                                          · rw [if_pos c83] at H
                                            have c83b0 : decide (0 ≤ (ji82)) = true := decide_eq_true c83
                                            clear c83
                                            by_cases c84 : (ji82) < ((rd_L3 x6_3 x23_1).length : Int)
                                            · rw [if_pos c84] at H
                                              have c84b0 : decide ((ji82) < ((rd_L3 x6_3 x23_1).length : Int)) = true := decide_eq_true c84
                                              (try (have c84b0h := c84b0; simp only [hl6_2, hl6_3] at c84b0h))
                                              clear c84
                                              obtain ⟨y142, hy142⟩ : ∃ y_ : List Bool, y_ = ((rd_L3 x6_3 x23_1).set ((ji82) : Int).toNat x12_22) := ⟨_, rfl⟩
                                              replace H : (coppicerref_Means.l2 kj22 l0 l1 (wrap64 ((l1.length : Int) + 1)) (x6_3.set (x23_1 : Int).toNat y142) x23_1 x9_2 (wrap64 (x10_3 + 1)) l0 (l0.length : Int) x23_1 ((rd_T67 l0 x23_1).f0) ((rd_T67 l0 x23_1).f1) ((rd_T67 l0 x23_1).f2)) = some r := by first | (rw [hy142]; with_reducible exact H) | (have H2_ := (Option.bind_some _ _).symm.trans H; rw [hy142]; with_reducible exact H2_) | (have H2_ := (Option.bind_some _ _).symm.trans H; with_reducible exact H2_) | with_reducible exact H | (rw [hy142]; exact H) | exact H
                                              have Ny142 := Aside0.mk hy142
                                              clear hy142
                                              obtain ⟨y144, hy144⟩ : ∃ y_ : List (List Bool), y_ = (x6_3.set (x23_1 : Int).toNat y142) := ⟨_, rfl⟩
                                              replace H : (coppicerref_Means.l2 kj22 l0 l1 (wrap64 ((l1.length : Int) + 1)) y144 x23_1 x9_2 (wrap64 (x10_3 + 1)) l0 (l0.length : Int) x23_1 ((rd_T67 l0 x23_1).f0) ((rd_T67 l0 x23_1).f1) ((rd_T67 l0 x23_1).f2)) = some r := by first | (rw [hy144]; with_reducible exact H) | (have H2_ := (Option.bind_some _ _).symm.trans H; rw [hy144]; with_reducible exact H2_) | (have H2_ := (Option.bind_some _ _).symm.trans H; with_reducible exact H2_) | with_reducible exact H | (rw [hy144]; exact H) | exact H
                                              have Ny144 := Aside0.mk hy144
                                              clear hy144
                                              as_aux_lemma =>
                                                have H' := Aside0.mk H
                                                clear H
                                                have p141 : 0 ≤ (x23_1 : Int) := of_decide_eq_true (by first | (with_reducible assumption) | assumption)
                                                have q141 : x23_1 < (x6_3.length : Int) := of_decide_eq_true (by first | (with_reducible assumption) | assumption)
                                                obtain ⟨ad141, A141_0, c141_0, e141, hx141_0, hl141_0, hi141_0⟩ := at_L3 (Kd.S_reads' HO_6.out).2.2 x23_1 p141 q141
                                                obtain rfl : (⟨go14, 0, none⟩ : Addr) = ad141 := (by injection e141)
                                                obtain ⟨ce141, hce141, hMe141, hcc141⟩ := Kd.S_get HO_6.out [] x23_1 p141 (by first | exact q141 | exact of_decide_eq_true (by first | (with_reducible assumption) | assumption) | (have e_ := (Kd.S_reads' HO_6.out).1; omega))
                                                obtain ⟨ve141_0, rfl, ge141_0⟩ := hMe141
                                                have hv141_0 := hcc141 0 _ rfl
                                                rw [Nat.add_zero, show ((Kd.slice 4 Kd.bool)).sz = 1 from rfl, Nat.mul_one] at hv141_0
                                                replace hv141_0 := Option.some.inj (hv141_0.symm.trans hx141_0)
                                                rw [hv141_0] at ge141_0
                                                have HL141_0 := Aside0.mk (show Kd.R Kd.bool 4 _ _ _ _ (rd_L3 x6_3 x23_1) from ge141_0)
                                                clear hv141_0 ge141_0
                                                have HX141_0 := Aside0.mk hx141_0
                                                clear hcc141 hce141
                                                (first | simp only [add_plain] at hx141_0 | simp only [add_at] at hx141_0 | simp only [Addr.add, Nat.zero_add] at hx141_0 | skip)
                                                have HR141_0 := Aside0.mk hi141_0
                                                have HC141_0 := Aside0.mk hl141_0
                                                clear hi141_0 hl141_0
                                                replace p141 := eq_true p141
                                                replace q141 := eq_true q141
                                                have p85 : 0 ≤ ((ji82) : Int) := of_decide_eq_true (by first | (with_reducible assumption) | assumption)
                                                have q85 : ((ji82) : Int) < (((rd_L3 x6_3 x23_1).length : Int) : Int) := of_decide_eq_true (by first | (with_reducible assumption) | assumption)
                                                obtain ⟨go85, co85, eo85, gb85, gl85, cl85, HG85⟩ := Kd.R_form HL141_0.out (by omega)
                                                (first | cases eo85 | (injection eo85 with ea_ en_ ec_; (first | subst ea_ | (injection ea_ with ea_; subst ea_)); subst ec_; clear en_))
                                                have GB85 := Aside0.mk gb85
                                                have GG85 := Aside0.mk HG85
                                                clear gb85 gl85 HG85
                                                obtain ⟨hx85_0, hf85_0⟩ := Kd.R_celln false HL141_0.out ((ji82) : Int) p85 q85
                                                replace p85 := eq_true p85
                                                replace q85 := eq_true q85
                                                have hq86 : (x23_1 : Int) < (x6_3.length : Int) := (by have h_ : (x23_1 : Int) < ((x6_3.length : Int) : Int) := of_decide_eq_true (by first | (with_reducible assumption) | assumption); first | exact h_ | (have e_ := (Kd.S_reads' HO_6.out).1; omega) | simpa only [List.length_set, List.length_set] using h_)
                                                obtain ⟨oki86, ce86, hcl86, hM86, hcc86, hok86, hbk86⟩ := Kd.S_borrow HO_6.out [] (x23_1 : Int) (of_decide_eq_true (by first | (with_reducible assumption) | assumption)) hq86
                                                obtain ⟨ve86_0, rfl, ge86_0⟩ := hM86
                                                have hv86 := hcc86 0 _ rfl
                                                rw [Nat.add_zero, show ((Kd.slice 4 Kd.bool)).sz = 1 from rfl, Nat.mul_one] at hv86
                                                replace hv86 := Option.some.inj (hv86.symm.trans HX141_0.out)
                                                subst hv86
                                                clear hcc86 hcl86
                                                replace ge86_0 := (show Kd.R Kd.bool 4 _ _ _ _ (rd_L3 x6_3 x23_1) from ge86_0)
                                                (try (obtain ⟨hy86_, hz86_⟩ := Kd.R_celln false ge86_0 ((ji82) : Int) (of_decide_eq_true (by first | (with_reducible assumption) | assumption)) (by have h_ : ((ji82) : Int) < (((rd_L3 x6_3 x23_1).length : Int) : Int) := of_decide_eq_true (by first | (with_reducible assumption) | assumption); first | exact h_ | (have e_ := (Kd.R_reads' HR141_0.out).1; omega) | simpa using h_)))
                                                have HP86 := Kd.R_putg ge86_0 ((ji82) : Int) x12_22
                                                go_wp2_with (first | ((with_reducible refine gate_store (t := 4) (p := 183) rfl ?_); (try (rw [drewN_self wc]; generalize hq_ : World.drewN wc _ = wc; (try (have nx_ := Aside0.mk (cell_at hq_ HX141_0.out); clear HX141_0; have HX141_0 := nx_; clear nx_)); (try (have nx_ := Aside0.mk (Kd.S_at hq_ HO_6.out); clear HO_6; have HO_6 := nx_; clear nx_)); (try (have nx_ := Aside0.mk (Kd.R_at hq_ HL147.out); clear HL147; have HL147 := nx_; clear nx_)); (try (have nx_ := Aside0.mk (blk_at hq_ BK123.out); clear BK123; have BK123 := nx_; clear nx_)); (try (have nx_ := Aside0.mk (below_at hq_ HB.out); clear HB; have HB := nx_; clear nx_)); (try (have nx_ := Aside0.mk (Kd.R_at hq_ HL141_0.out); clear HL141_0; have HL141_0 := nx_; clear nx_)); (try clear hq_); (try (have hq86 : (x23_1 : Int) < (x6_3.length : Int) := (by have h_ : (x23_1 : Int) < ((x6_3.length : Int) : Int) := of_decide_eq_true (by first | (with_reducible assumption) | assumption); first | exact h_ | (have e_ := (Kd.S_reads' HO_6.out).1; omega) | simpa only [List.length_set, List.length_set] using h_))); (try (obtain ⟨oki86, ce86, hcl86, hM86, hcc86, hok86, hbk86⟩ := Kd.S_borrow HO_6.out [] (x23_1 : Int) (of_decide_eq_true (by first | (with_reducible assumption) | assumption)) hq86)); (try (obtain ⟨ve86_0, rfl, ge86_0⟩ := hM86)); (try (have hv86 := hcc86 0 _ rfl)); (try (rw [Nat.add_zero, show ((Kd.slice 4 Kd.bool)).sz = 1 from rfl, Nat.mul_one] at hv86)); (try (replace hv86 := Option.some.inj (hv86.symm.trans HX141_0.out))); (try (subst hv86)); (try (clear hcc86 hcl86)); (try (replace ge86_0 := (show Kd.R Kd.bool 4 _ _ _ _ (rd_L3 x6_3 x23_1) from ge86_0))); (try (try (obtain ⟨hy86_, hz86_⟩ := Kd.R_celln false ge86_0 ((ji82) : Int) (of_decide_eq_true (by first | (with_reducible assumption) | assumption)) (by have h_ : ((ji82) : Int) < (((rd_L3 x6_3 x23_1).length : Int) : Int) := of_decide_eq_true (by first | (with_reducible assumption) | assumption); first | exact h_ | (have e_ := (Kd.R_reads' HR141_0.out).1; omega) | simpa using h_)))); (try (have HP86 := Kd.R_putg ge86_0 ((ji82) : Int) x12_22)))); refine store_event (t := 4) (p := 183) (v := ?vo_w87) (w1 := (wc.setCell ⟨go85, ((ji82) : Int).toNat, none⟩ (.bool x12_22))) ?hg ?ho ?hn ?hr ?_; (case ho => rfl); (case hg => rfl); (case hn => rfl); (case hr => first | (go_simp; done) | (go_simp; rfl)); intro w87 hw; have hg : wc.grownBy w87 (some go85) := (by rw [hw]; exact HP86.2); have hz_ : Kd.R Kd.bool 4 w87 w.heap.size oki86 (.slice (some ⟨go85, 0, none⟩) (rd_L3 x6_3 x23_1).length c141_0) y142 := (by rw [hw, Ny142.out]; exact HP86.1); have hp_ : Kd.S (Kd.slice 4 Kd.bool) 69 w87 w.heap.size (fun _ => True) (.slice (some ⟨go14, 0, none⟩) x6_3.length co14) y144 := (by rw [Ny144.out]; exact hbk86 hg (fun k_ e_ => by injection e_ with e_; subst e_; exact ge86_0.1 _ rfl) (Kd.M_row hz_)); have hm_ := Kd.R_mono hz_ hok86; clear HP86 hbk86; have n0_ := Aside0.mk (hp_); have n1_ := Aside0.mk (blk_grown (g := gb123) (o := .cells #[.int .i64 ((rd_T67 l0 x23_1).f0), .int .i64 ((rd_T67 l0 x23_1).f1), .int .i64 ((rd_T67 l0 x23_1).f2)] 67 (0, 0)) (by (with_reducible repeat (first | refine blk_drewN ?_ _ | refine blk_drew ?_ | refine blk_alloc ?_ _)); exact BK123.out) hg (Kd.R_ne HL141_0.out BK123.out (by decide))); have n2_ := Aside0.mk ((by rw [hw]; exact below_set (HB.out) GB85.out : Below w.heap.size w w87)); have n3_ := Aside0.mk (hm_); have n4_ := Aside0.mk ((Kd.R_reads' hm_).2.1); clear HO_6; clear BK123; clear HB; clear HL141_0; have HO_6 := n0_; have BK123 := n1_; have HB := n2_; have HL147 := n3_; have HC143 := n4_; clear n0_ n1_ n2_ n3_ n4_; clear hg hw hp_ hz_ hm_ hok86))
                                                repeat (go_quiet (first | ((with_reducible refine gate_store (t := 4) (p := 183) rfl ?_); (try (rw [drewN_self wc]; generalize hq_ : World.drewN wc _ = wc; (try (have nx_ := Aside0.mk (cell_at hq_ HX141_0.out); clear HX141_0; have HX141_0 := nx_; clear nx_)); (try (have nx_ := Aside0.mk (Kd.S_at hq_ HO_6.out); clear HO_6; have HO_6 := nx_; clear nx_)); (try (have nx_ := Aside0.mk (Kd.R_at hq_ HL147.out); clear HL147; have HL147 := nx_; clear nx_)); (try (have nx_ := Aside0.mk (blk_at hq_ BK123.out); clear BK123; have BK123 := nx_; clear nx_)); (try (have nx_ := Aside0.mk (below_at hq_ HB.out); clear HB; have HB := nx_; clear nx_)); (try (have nx_ := Aside0.mk (Kd.R_at hq_ HL141_0.out); clear HL141_0; have HL141_0 := nx_; clear nx_)); (try clear hq_); (try (have hq86 : (x23_1 : Int) < (x6_3.length : Int) := (by have h_ : (x23_1 : Int) < ((x6_3.length : Int) : Int) := of_decide_eq_true (by first | (with_reducible assumption) | assumption); first | exact h_ | (have e_ := (Kd.S_reads' HO_6.out).1; omega) | simpa only [List.length_set, List.length_set] using h_))); (try (obtain ⟨oki86, ce86, hcl86, hM86, hcc86, hok86, hbk86⟩ := Kd.S_borrow HO_6.out [] (x23_1 : Int) (of_decide_eq_true (by first | (with_reducible assumption) | assumption)) hq86)); (try (obtain ⟨ve86_0, rfl, ge86_0⟩ := hM86)); (try (have hv86 := hcc86 0 _ rfl)); (try (rw [Nat.add_zero, show ((Kd.slice 4 Kd.bool)).sz = 1 from rfl, Nat.mul_one] at hv86)); (try (replace hv86 := Option.some.inj (hv86.symm.trans HX141_0.out))); (try (subst hv86)); (try (clear hcc86 hcl86)); (try (replace ge86_0 := (show Kd.R Kd.bool 4 _ _ _ _ (rd_L3 x6_3 x23_1) from ge86_0))); (try (try (obtain ⟨hy86_, hz86_⟩ := Kd.R_celln false ge86_0 ((ji82) : Int) (of_decide_eq_true (by first | (with_reducible assumption) | assumption)) (by have h_ : ((ji82) : Int) < (((rd_L3 x6_3 x23_1).length : Int) : Int) := of_decide_eq_true (by first | (with_reducible assumption) | assumption); first | exact h_ | (have e_ := (Kd.R_reads' HR141_0.out).1; omega) | simpa using h_)))); (try (have HP86 := Kd.R_putg ge86_0 ((ji82) : Int) x12_22)))); refine store_event (t := 4) (p := 183) (v := ?vo_w87) (w1 := (wc.setCell ⟨go85, ((ji82) : Int).toNat, none⟩ (.bool x12_22))) ?hg ?ho ?hn ?hr ?_; (case ho => rfl); (case hg => rfl); (case hn => rfl); (case hr => first | (go_simp; done) | (go_simp; rfl)); intro w87 hw; have hg : wc.grownBy w87 (some go85) := (by rw [hw]; exact HP86.2); have hz_ : Kd.R Kd.bool 4 w87 w.heap.size oki86 (.slice (some ⟨go85, 0, none⟩) (rd_L3 x6_3 x23_1).length c141_0) y142 := (by rw [hw, Ny142.out]; exact HP86.1); have hp_ : Kd.S (Kd.slice 4 Kd.bool) 69 w87 w.heap.size (fun _ => True) (.slice (some ⟨go14, 0, none⟩) x6_3.length co14) y144 := (by rw [Ny144.out]; exact hbk86 hg (fun k_ e_ => by injection e_ with e_; subst e_; exact ge86_0.1 _ rfl) (Kd.M_row hz_)); have hm_ := Kd.R_mono hz_ hok86; clear HP86 hbk86; have n0_ := Aside0.mk (hp_); have n1_ := Aside0.mk (blk_grown (g := gb123) (o := .cells #[.int .i64 ((rd_T67 l0 x23_1).f0), .int .i64 ((rd_T67 l0 x23_1).f1), .int .i64 ((rd_T67 l0 x23_1).f2)] 67 (0, 0)) (by (with_reducible repeat (first | refine blk_drewN ?_ _ | refine blk_drew ?_ | refine blk_alloc ?_ _)); exact BK123.out) hg (Kd.R_ne HL141_0.out BK123.out (by decide))); have n2_ := Aside0.mk ((by rw [hw]; exact below_set (HB.out) GB85.out : Below w.heap.size w w87)); have n3_ := Aside0.mk (hm_); have n4_ := Aside0.mk ((Kd.R_reads' hm_).2.1); clear HO_6; clear BK123; clear HB; clear HL141_0; have HO_6 := n0_; have BK123 := n1_; have HB := n2_; have HL147 := n3_; have HC143 := n4_; clear n0_ n1_ n2_ n3_ n4_; clear hg hw hp_ hz_ hm_ hok86)); try go_wp2_with (first | ((with_reducible refine gate_store (t := 4) (p := 183) rfl ?_); (try (rw [drewN_self wc]; generalize hq_ : World.drewN wc _ = wc; (try (have nx_ := Aside0.mk (cell_at hq_ HX141_0.out); clear HX141_0; have HX141_0 := nx_; clear nx_)); (try (have nx_ := Aside0.mk (Kd.S_at hq_ HO_6.out); clear HO_6; have HO_6 := nx_; clear nx_)); (try (have nx_ := Aside0.mk (Kd.R_at hq_ HL147.out); clear HL147; have HL147 := nx_; clear nx_)); (try (have nx_ := Aside0.mk (blk_at hq_ BK123.out); clear BK123; have BK123 := nx_; clear nx_)); (try (have nx_ := Aside0.mk (below_at hq_ HB.out); clear HB; have HB := nx_; clear nx_)); (try (have nx_ := Aside0.mk (Kd.R_at hq_ HL141_0.out); clear HL141_0; have HL141_0 := nx_; clear nx_)); (try clear hq_); (try (have hq86 : (x23_1 : Int) < (x6_3.length : Int) := (by have h_ : (x23_1 : Int) < ((x6_3.length : Int) : Int) := of_decide_eq_true (by first | (with_reducible assumption) | assumption); first | exact h_ | (have e_ := (Kd.S_reads' HO_6.out).1; omega) | simpa only [List.length_set, List.length_set] using h_))); (try (obtain ⟨oki86, ce86, hcl86, hM86, hcc86, hok86, hbk86⟩ := Kd.S_borrow HO_6.out [] (x23_1 : Int) (of_decide_eq_true (by first | (with_reducible assumption) | assumption)) hq86)); (try (obtain ⟨ve86_0, rfl, ge86_0⟩ := hM86)); (try (have hv86 := hcc86 0 _ rfl)); (try (rw [Nat.add_zero, show ((Kd.slice 4 Kd.bool)).sz = 1 from rfl, Nat.mul_one] at hv86)); (try (replace hv86 := Option.some.inj (hv86.symm.trans HX141_0.out))); (try (subst hv86)); (try (clear hcc86 hcl86)); (try (replace ge86_0 := (show Kd.R Kd.bool 4 _ _ _ _ (rd_L3 x6_3 x23_1) from ge86_0))); (try (try (obtain ⟨hy86_, hz86_⟩ := Kd.R_celln false ge86_0 ((ji82) : Int) (of_decide_eq_true (by first | (with_reducible assumption) | assumption)) (by have h_ : ((ji82) : Int) < (((rd_L3 x6_3 x23_1).length : Int) : Int) := of_decide_eq_true (by first | (with_reducible assumption) | assumption); first | exact h_ | (have e_ := (Kd.R_reads' HR141_0.out).1; omega) | simpa using h_)))); (try (have HP86 := Kd.R_putg ge86_0 ((ji82) : Int) x12_22)))); refine store_event (t := 4) (p := 183) (v := ?vo_w87) (w1 := (wc.setCell ⟨go85, ((ji82) : Int).toNat, none⟩ (.bool x12_22))) ?hg ?ho ?hn ?hr ?_; (case ho => rfl); (case hg => rfl); (case hn => rfl); (case hr => first | (go_simp; done) | (go_simp; rfl)); intro w87 hw; have hg : wc.grownBy w87 (some go85) := (by rw [hw]; exact HP86.2); have hz_ : Kd.R Kd.bool 4 w87 w.heap.size oki86 (.slice (some ⟨go85, 0, none⟩) (rd_L3 x6_3 x23_1).length c141_0) y142 := (by rw [hw, Ny142.out]; exact HP86.1); have hp_ : Kd.S (Kd.slice 4 Kd.bool) 69 w87 w.heap.size (fun _ => True) (.slice (some ⟨go14, 0, none⟩) x6_3.length co14) y144 := (by rw [Ny144.out]; exact hbk86 hg (fun k_ e_ => by injection e_ with e_; subst e_; exact ge86_0.1 _ rfl) (Kd.M_row hz_)); have hm_ := Kd.R_mono hz_ hok86; clear HP86 hbk86; have n0_ := Aside0.mk (hp_); have n1_ := Aside0.mk (blk_grown (g := gb123) (o := .cells #[.int .i64 ((rd_T67 l0 x23_1).f0), .int .i64 ((rd_T67 l0 x23_1).f1), .int .i64 ((rd_T67 l0 x23_1).f2)] 67 (0, 0)) (by (with_reducible repeat (first | refine blk_drewN ?_ _ | refine blk_drew ?_ | refine blk_alloc ?_ _)); exact BK123.out) hg (Kd.R_ne HL141_0.out BK123.out (by decide))); have n2_ := Aside0.mk ((by rw [hw]; exact below_set (HB.out) GB85.out : Below w.heap.size w w87)); have n3_ := Aside0.mk (hm_); have n4_ := Aside0.mk ((Kd.R_reads' hm_).2.1); clear HO_6; clear BK123; clear HB; clear HL141_0; have HO_6 := n0_; have BK123 := n1_; have HB := n2_; have HL147 := n3_; have HC143 := n4_; clear n0_ n1_ n2_ n3_ n4_; clear hg hw hp_ hz_ hm_ hok86)))
                                                (try simp only [← hl6_3])
                                                (first | go_roundg kj22 | (simp only [← hji82]; go_roundg kj22) | (simp only [← hji10, ← hji82]; go_roundg kj22))
                                                case measure => have := HK1.out; have := HK2.out; have := HK3.out; have := HJ22.out; omega
                                                case rel => exact ⟨(y144), (wrap64 (x10_3 + 1)), (by first | rfl | (simp; done) | (simp [*]; done)), H', ⟨by have := HK1.out; have := HK2.out; have := HK3.out; have := HJ22.out; omega⟩, ⟨by (try simp only [hl6_2]); (try simp only [hl6_3]); (with_reducible repeat (first | apply Kd.S_alloc | apply Kd.S_drewN | apply Kd.S_drew)); exact HO_6.out⟩, ⟨by (try simp only [hl6_2]); (try simp only [hl6_3]); (with_reducible repeat (first | refine blk_drewN ?_ _ | refine blk_drew ?_ | refine blk_alloc ?_ _)); exact BK123.out⟩, ⟨by repeat (first | (with_reducible first | exact HB.out | apply below_alloc | apply pw_below_drewN | apply below_drew1 | refine below_set ?_ GE123.out) | exact HB.out)⟩⟩
                                            · rw [if_neg c84] at H
                                              exact absurd H (by simp)
                                          · rw [if_neg c83] at H
                                            exact absurd H (by simp)
                                        · rw [if_neg c81] at H
                                          exact absurd H (by simp)
                                      · rw [if_neg c80] at H
                                        exact absurd H (by simp)
                                · rw [if_neg c22] at H
                                  have c22b0 : decide ((wrap64 (x10_3 + x9_2)) < (wrap64 ((l1.length : Int) + 1))) = false := decide_eq_false c22
                                  (try (have c22b0h := c22b0; simp only [hl6_2, hl6_3] at c22b0h))
                                  clear c22
                                  as_aux_lemma =>
                                    have H' := Aside0.mk H
                                    clear H
                                    go_wp2
                                    repeat (go_quiet (fail); try go_wp2)
                                    (try simp only [← hl6_2, ← hl6_3])
                                    (first | go_roundg k3 | (simp only [← hji10]; go_roundg k3))
                                    case measure => have := HK1.out; have := HK2.out; have := HK3.out; omega
                                    case rel => exact ⟨(x6_3), (wrap64 (x9_2 + 1)), (by first | rfl | (simp; done) | (simp [*]; done)), H', ⟨by have := HK1.out; have := HK2.out; have := HK3.out; omega⟩, ⟨by (try simp only [hl6_2]); (try simp only [hl6_3]); (with_reducible repeat (first | apply Kd.S_alloc | apply Kd.S_drewN | apply Kd.S_drew)); exact HO_6.out⟩, ⟨by (try simp only [hl6_2]); (try simp only [hl6_3]); (with_reducible repeat (first | refine blk_drewN ?_ _ | refine blk_drew ?_ | refine blk_alloc ?_ _)); exact BK123.out⟩, ⟨by repeat (first | (with_reducible first | exact HB.out | apply below_alloc | apply pw_below_drewN | apply below_drew1 | refine below_set ?_ GE123.out) | exact HB.out)⟩⟩
                          · rw [if_neg c21] at H
                            have c21b0 : decide (x9_2 < (wrap64 ((l1.length : Int) + 1))) = false := decide_eq_false c21
                            (try (have c21b0h := c21b0; simp only [hl6_2] at c21b0h))
                            clear c21
                            as_aux_lemma =>
                              have H' := Aside0.mk H
                              clear H
                              go_wp2
                              repeat (go_quiet (fail); try go_wp2)
                              (try simp only [← hl6_2])
                              (first | go_roundg k2 | (simp only [← hji10]; go_roundg k2))
                              case measure => have := HK1.out; have := HK2.out; omega
                              case rel => exact ⟨(x6_2), (wrap64 (x23_1 + 1)), (by first | rfl | (simp; done) | (simp [*]; done)), H', ⟨by have := HK1.out; have := HK2.out; omega⟩, ⟨by (try simp only [hl6_2]); (with_reducible repeat (first | apply Kd.S_alloc | apply Kd.S_drewN | apply Kd.S_drew)); exact HO_6.out⟩, ⟨by repeat (first | (with_reducible first | exact HB.out | apply below_alloc | apply pw_below_drewN | apply below_drew1 | refine below_set ?_ GE123.out) | exact HB.out)⟩⟩
                    · rw [if_neg c13] at H
                      exact absurd H (by simp)
                  · rw [if_neg c12] at H
                    exact absurd H (by simp)
                · rw [if_neg c11] at H
                  exact absurd H (by simp)
              · rw [if_neg c9] at H
                exact absurd H (by simp)
            · rw [if_neg c8] at H
              exact absurd H (by simp)
          · rw [if_neg c7] at H
            have c7b0 : decide (x23_1 < (l0.length : Int)) = false := decide_eq_false c7
            clear c7
            by_cases c88 : (l0.length : Int) > 0
            · rw [if_pos c88] at H
              have c88b0 : decide (0 < (l0.length : Int)) = true := decide_eq_true c88
              have c88b1 : decide (0 < l0.length) = true := decide_eq_true (by omega)
              clear c88
              obtain ⟨ji89, hji89⟩ : ∃ j_ : Int, (wrap64 ((l0.length : Int) - 1)) = j_ := ⟨_, rfl⟩
              replace H : (if 0 ≤ (ji89) then (if (ji89) < (x6_1.length : Int) then (if 0 ≤ (wrap64 ((wrap64 ((l1.length : Int) + 1)) - 1)) then (if (wrap64 ((wrap64 ((l1.length : Int) + 1)) - 1)) < ((rd_L3 x6_1 (ji89)).length : Int) then (some (rdOf false (rd_L3 x6_1 (ji89)) (wrap64 ((wrap64 ((l1.length : Int) + 1)) - 1)))) else (none)) else (none)) else (none)) else (none)) = some r := by first | (rw [hji89] at H; exact H) | (simp only [hji89] at H ⊢; exact H)
              have hji89w : (IntKind.i64.wrap ((l0.length : Int) - 1)) = ji89 := (i64_w _).trans hji89
              by_cases c90 : 0 ≤ (ji89)
              · rw [if_pos c90] at H
                have c90b0 : decide (0 ≤ (ji89)) = true := decide_eq_true c90
                clear c90
                by_cases c91 : (ji89) < (x6_1.length : Int)
                · rw [if_pos c91] at H
                  have c91b0 : decide ((ji89) < (x6_1.length : Int)) = true := decide_eq_true c91
                  clear c91
                  obtain ⟨ji92, hji92⟩ : ∃ j_ : Int, (wrap64 ((wrap64 ((l1.length : Int) + 1)) - 1)) = j_ := ⟨_, rfl⟩
                  replace H : (if 0 ≤ (ji92) then (if (ji92) < ((rd_L3 x6_1 (ji89)).length : Int) then (some (rdOf false (rd_L3 x6_1 (ji89)) (ji92))) else (none)) else (none)) = some r := by first | (rw [hji92] at H; exact H) | (simp only [hji92] at H ⊢; exact H)
                  have hji92w : (IntKind.i64.wrap ((wrap64 ((l1.length : Int) + 1)) - 1)) = ji92 := (i64_w _).trans hji92
                  by_cases c93 : 0 ≤ (ji92)
                  · rw [if_pos c93] at H
                    have c93b0 : decide (0 ≤ (ji92)) = true := decide_eq_true c93
                    clear c93
                    by_cases c94 : (ji92) < ((rd_L3 x6_1 (ji89)).length : Int)
                    · rw [if_pos c94] at H
                      have c94b0 : decide ((ji92) < ((rd_L3 x6_1 (ji89)).length : Int)) = true := decide_eq_true c94
                      clear c94
                      as_aux_lemma =>
                        obtain rfl := Option.some.inj H
                        obtain ⟨Ao95, co95, eo95⟩ := Kd.S_slice HO_6.out
                        subst eo95
                        have p145 : 0 ≤ ((ji89) : Int) := of_decide_eq_true (by first | (with_reducible assumption) | assumption)
                        have q145 : (ji89) < (x6_1.length : Int) := of_decide_eq_true (by first | (with_reducible assumption) | assumption)
                        obtain ⟨ad145, A145_0, c145_0, e145, hx145_0, hl145_0, hi145_0⟩ := at_L3 (Kd.S_reads' HO_6.out).2.2 (ji89) p145 q145
                        cases e145
                        obtain ⟨ce145, hce145, hMe145, hcc145⟩ := Kd.S_get HO_6.out [] (ji89) p145 (by first | exact q145 | exact of_decide_eq_true (by first | (with_reducible assumption) | assumption) | (have e_ := (Kd.S_reads' HO_6.out).1; omega))
                        obtain ⟨ve145_0, rfl, ge145_0⟩ := hMe145
                        have hv145_0 := hcc145 0 _ rfl
                        rw [Nat.add_zero, show ((Kd.slice 4 Kd.bool)).sz = 1 from rfl, Nat.mul_one] at hv145_0
                        replace hv145_0 := Option.some.inj (hv145_0.symm.trans hx145_0)
                        rw [hv145_0] at ge145_0
                        have HL145_0 := Aside0.mk (show Kd.R Kd.bool 4 _ _ _ _ (rd_L3 x6_1 (ji89)) from ge145_0)
                        clear hv145_0 ge145_0
                        have HX145_0 := Aside0.mk hx145_0
                        clear hcc145 hce145
                        have HR145_0 := Aside0.mk hi145_0
                        have HC145_0 := Aside0.mk hl145_0
                        clear hi145_0 hl145_0
                        replace p145 := eq_true p145
                        replace q145 := eq_true q145
                        have p146 : 0 ≤ ((ji92) : Int) := of_decide_eq_true (by first | (with_reducible assumption) | assumption)
                        have q146 : (ji92) < ((rd_L3 x6_1 (ji89)).length : Int) := of_decide_eq_true (by first | (with_reducible assumption) | assumption)
                        obtain ⟨ad146, e146, hx146_0⟩ := Kd.at_bool (by repeat (first | (with_reducible exact HR145_0.out) | (with_reducible refine Kd.C_alloc ?_ _) | (with_reducible refine Kd.C_drewN ?_ _) | (with_reducible refine Kd.C_drew ?_) | exact HR145_0.out)) (ji92) p146 q146
                        cases e146
                        replace p146 := eq_true p146
                        replace q146 := eq_true q146
                        go_wp2
                        repeat (go_quiet (fail); try go_wp2)
                        go_ret
                        exact ⟨by first | rfl | (simp [errW_none, errW_some] <;> rfl) | (simp only [← hji89, ← hji92]; first | rfl | (simp [errW_none, errW_some] <;> rfl)) | (simp [*, errW_none, errW_some] <;> rfl), by repeat (first | (with_reducible first | exact HB.out | apply below_alloc | apply pw_below_drewN | apply below_drew1) | exact HB.out)⟩
                    · rw [if_neg c94] at H
                      exact absurd H (by simp)
                  · rw [if_neg c93] at H
                    exact absurd H (by simp)
                · rw [if_neg c91] at H
                  exact absurd H (by simp)
              · rw [if_neg c90] at H
                exact absurd H (by simp)
            · rw [if_neg c88] at H
              have c88b0 : decide (0 < (l0.length : Int)) = false := decide_eq_false c88
              have c88b1 : decide (0 < l0.length) = false := decide_eq_false (by omega)
              clear c88
              as_aux_lemma =>
                obtain rfl := Option.some.inj H
                go_wp2
                repeat (go_quiet (fail); try go_wp2)
                go_ret
                exact ⟨by first | rfl | (simp [errW_none, errW_some] <;> rfl) | (simp [*, errW_none, errW_some] <;> rfl), by repeat (first | (with_reducible first | exact HB.out | apply below_alloc | apply pw_below_drewN | apply below_drew1) | exact HB.out)⟩
    · rw [if_neg c4] at H
      exact absurd H (by simp)
  · rw [if_neg c3] at H
    exact absurd H (by simp)

end Go.Proofs.Ytmfdfffedkejjaa.PSentenceBacks
