-- Printed by a turn of a template of the kit, and shortened: remarks and what nothing here uses are left out.
import Derived.Test.YtnjfcbhbebokeaaQPAheadFollowsx0
import Derived.Test.YtnjfcbhbebokeaaQPAheadFollowsx5
import Derived.Test.YtnjfcbhbebokeaaQPAheadFollowsx6
namespace Go.Proofs.Ytnjfcbhbebokeaa.PAheadFollows
open Go.RowKit Go.Proofs.YtnjfcbhbebokeaaW.PrintWords Go.Proofs.YtnjfcbhbebokeaaW.PrintLast Go.Proofs.YtnjfcbhbebokeaaW.PrintMore
attribute [local go_sem] max2_int min2_int max_two min_two max_three min_three max_four min_four
set_option linter.unusedVariables false
set_option linter.unusedSimpArgs false
mutual
def ahead_follows.l0 : Nat → List Int → Int → Int → List Int → Bool → Int → Int → Int → List (S38) → Option (List Int)
  | 0, _, _, _, _, _, _, _, _, _ => none
  | k + 1, x1, x2, x7, x9, x10, x145000, x145001, x145002, x145003 => if x10 = true then (ahead_follows.l1 k x1 x2 x7 x9 false x145003 (x145003.length : Int) 0 x145000 x145001 x145002 x145003) else (some x9)
def ahead_follows.l1 : Nat → List Int → Int → Int → List Int → Bool → List (S38) → Int → Int → Int → Int → Int → List (S38) → Option (List Int)
  | 0, _, _, _, _, _, _, _, _, _, _, _, _ => none
  | k + 1, x1, x2, x7, x9, x10, x34, x35, x36, x145000, x145001, x145002, x145003 => if x36 < x35 then (if 0 ≤ x36 then (if x36 < (x34.length : Int) then (if 0 ≤ ((rd_T38 x34 x36).f0) then (if (Go.bits .and .u32 (shr .u32 x7 ((rd_T38 x34 x36).f0)) 1) = 0 then (ahead_follows.l1 k x1 x2 x7 x9 x10 x34 x35 (wrap64 (x36 + 1)) x145000 x145001 x145002 x145003) else (ahead_follows.l2 k x1 x2 x7 x9 x10 x34 x35 x36 ((rd_T38 x34 x36).f1) (((rd_T38 x34 x36).f1).length : Int) 0 x145000 x145001 x145002 x145003 ((rd_T38 x34 x36).f0) ((rd_T38 x34 x36).f1))) else (none)) else (none)) else (none)) else (ahead_follows.l0 k x1 x2 x7 x9 x10 x145000 x145001 x145002 x145003)
def ahead_follows.l2 : Nat → List Int → Int → Int → List Int → Bool → List (S38) → Int → Int → List Int → Int → Int → Int → Int → Int → List (S38) → Int → List Int → Option (List Int)
  | 0, _, _, _, _, _, _, _, _, _, _, _, _, _, _, _, _, _ => none
  | k + 1, x1, x2, x7, x9, x10, x34, x35, x36, x47, x48, x49, x145000, x145001, x145002, x145003, x153000, x153001 => if x49 < x48 then (if 0 ≤ x49 then (if x49 < (x47.length : Int) then (if (rd x47 x49) < x145000 then (ahead_follows.l2 k x1 x2 x7 x9 x10 x34 x35 x36 x47 x48 (wrap64 (x49 + 1)) x145000 x145001 x145002 x145003 x153000 x153001) else (if 0 ≤ (wrap64 (x49 + 1)) then (if (wrap64 (x49 + 1)) ≤ (x153001.length : Int) then ((ahead_begin.f k x145000 x145001 x145002 x145003 x1 x2 (x153001.drop ((wrap64 (x49 + 1)) : Int).toNat)).bind fun bt158 => (if bt158.2 = true then (if 0 ≤ x153000 then (if x153000 < (x9.length : Int) then (if x10 = true then (if 0 ≤ (wrap64 ((rd x47 x49) - x145000)) then (if (wrap64 ((rd x47 x49) - x145000)) < (x9.length : Int) then (ahead_follows.l2 k x1 x2 x7 (x9.set ((wrap64 ((rd x47 x49) - x145000)) : Int).toNat (Go.bits .or .u32 (rd x9 (wrap64 ((rd x47 x49) - x145000))) (Go.bits .or .u32 bt158.1 (rd x9 x153000)))) true x34 x35 x36 x47 x48 (wrap64 (x49 + 1)) x145000 x145001 x145002 x145003 x153000 x153001) else (none)) else (none)) else (if 0 ≤ (wrap64 ((rd x47 x49) - x145000)) then (if (wrap64 ((rd x47 x49) - x145000)) < (x9.length : Int) then (ahead_follows.l2 k x1 x2 x7 (x9.set ((wrap64 ((rd x47 x49) - x145000)) : Int).toNat (Go.bits .or .u32 (rd x9 (wrap64 ((rd x47 x49) - x145000))) (Go.bits .or .u32 bt158.1 (rd x9 x153000)))) ((Go.bits .andNot .u32 (Go.bits .or .u32 bt158.1 (rd x9 x153000)) (rd x9 (wrap64 ((rd x47 x49) - x145000)))) != 0) x34 x35 x36 x47 x48 (wrap64 (x49 + 1)) x145000 x145001 x145002 x145003 x153000 x153001) else (none)) else (none))) else (none)) else (none)) else (if x10 = true then (if 0 ≤ (wrap64 ((rd x47 x49) - x145000)) then (if (wrap64 ((rd x47 x49) - x145000)) < (x9.length : Int) then (ahead_follows.l2 k x1 x2 x7 (x9.set ((wrap64 ((rd x47 x49) - x145000)) : Int).toNat (Go.bits .or .u32 (rd x9 (wrap64 ((rd x47 x49) - x145000))) bt158.1)) true x34 x35 x36 x47 x48 (wrap64 (x49 + 1)) x145000 x145001 x145002 x145003 x153000 x153001) else (none)) else (none)) else (if 0 ≤ (wrap64 ((rd x47 x49) - x145000)) then (if (wrap64 ((rd x47 x49) - x145000)) < (x9.length : Int) then (ahead_follows.l2 k x1 x2 x7 (x9.set ((wrap64 ((rd x47 x49) - x145000)) : Int).toNat (Go.bits .or .u32 (rd x9 (wrap64 ((rd x47 x49) - x145000))) bt158.1)) ((Go.bits .andNot .u32 bt158.1 (rd x9 (wrap64 ((rd x47 x49) - x145000)))) != 0) x34 x35 x36 x47 x48 (wrap64 (x49 + 1)) x145000 x145001 x145002 x145003 x153000 x153001) else (none)) else (none))))) else (none)) else (none))) else (none)) else (none)) else (ahead_follows.l1 k x1 x2 x7 x9 x10 x34 x35 (wrap64 (x36 + 1)) x145000 x145001 x145002 x145003)
end
def ahead_follows.f (k : Nat) (a0_0 : Int) (a0_1 : Int) (a0_2 : Int) (l0_3 : List (S38)) (l1 : List Int) (a2 : Int) : Option (List Int) := (grammar_Comes.f k a0_0 a0_1 a0_2 l0_3).bind fun bt145 => (if 0 ≤ a0_1 then (if (a0_1 : Int).toNat ≤ 70368744177664 then ((some (List.replicate (a0_1 : Int).toNat 0 : List Int)).bind fun y147 => (if 0 ≤ a0_0 then (if 0 ≤ a0_2 then (if a0_2 < (y147.length : Int) then (ahead_follows.l0 k l1 a2 bt145.1 (y147.set (a0_2 : Int).toNat (shl .u32 1 a0_0)) true a0_0 a0_1 a0_2 l0_3) else (none)) else (none)) else (none))) else (none)) else (none))
theorem ahead_follows.mono_l : ∀ k, (∀ y0 y1 y2 y3 y4 y5 y6 y7 y8, LeO (ahead_follows.l0 k y0 y1 y2 y3 y4 y5 y6 y7 y8) (ahead_follows.l0 (k + 1) y0 y1 y2 y3 y4 y5 y6 y7 y8)) ∧ (∀ y0 y1 y2 y3 y4 y5 y6 y7 y8 y9 y10 y11, LeO (ahead_follows.l1 k y0 y1 y2 y3 y4 y5 y6 y7 y8 y9 y10 y11) (ahead_follows.l1 (k + 1) y0 y1 y2 y3 y4 y5 y6 y7 y8 y9 y10 y11)) ∧ (∀ y0 y1 y2 y3 y4 y5 y6 y7 y8 y9 y10 y11 y12 y13 y14 y15 y16, LeO (ahead_follows.l2 k y0 y1 y2 y3 y4 y5 y6 y7 y8 y9 y10 y11 y12 y13 y14 y15 y16) (ahead_follows.l2 (k + 1) y0 y1 y2 y3 y4 y5 y6 y7 y8 y9 y10 y11 y12 y13 y14 y15 y16))
  | 0 => ⟨fun _ _ _ _ _ _ _ _ _ r h => by simp [ahead_follows.l0] at h, fun _ _ _ _ _ _ _ _ _ _ _ _ r h => by simp [ahead_follows.l1] at h, fun _ _ _ _ _ _ _ _ _ _ _ _ _ _ _ _ _ r h => by simp [ahead_follows.l2] at h⟩
  | k + 1 => by
    obtain ⟨ih0, ih1, ih2⟩ := ahead_follows.mono_l k
    refine ⟨?_, ?_, ?_⟩
    · intro y0 y1 y2 y3 y4 y5 y6 y7 y8
      unfold ahead_follows.l0
      repeat' first
      | (with_reducible exact ih0 _ _ _ _ _ _ _ _ _)
      | (with_reducible exact ih1 _ _ _ _ _ _ _ _ _ _ _ _)
      | (with_reducible exact ih2 _ _ _ _ _ _ _ _ _ _ _ _ _ _ _ _ _)
      | (with_reducible exact ahead_begin.mono _ _ _ _ _ _ _ _)
      | (with_reducible exact grammar_Comes.mono _ _ _ _ _)
      | (with_reducible exact LeO.refl _)
      | (with_reducible exact LeO.none _)
      | (with_reducible refine LeO.ite ?_ ?_)
      | (with_reducible refine LeO.bind ?_ (fun _ => ?_))
      | exact ih0 _ _ _ _ _ _ _ _ _
      | exact ih1 _ _ _ _ _ _ _ _ _ _ _ _
      | exact ih2 _ _ _ _ _ _ _ _ _ _ _ _ _ _ _ _ _
      | exact ahead_begin.mono _ _ _ _ _ _ _ _
      | exact grammar_Comes.mono _ _ _ _ _
      | exact LeO.none _
      | refine LeO.ite ?_ ?_
      | refine LeO.bind ?_ (fun _ => ?_)
    · intro y0 y1 y2 y3 y4 y5 y6 y7 y8 y9 y10 y11
      unfold ahead_follows.l1
      repeat' first
      | (with_reducible exact ih0 _ _ _ _ _ _ _ _ _)
      | (with_reducible exact ih1 _ _ _ _ _ _ _ _ _ _ _ _)
      | (with_reducible exact ih2 _ _ _ _ _ _ _ _ _ _ _ _ _ _ _ _ _)
      | (with_reducible exact ahead_begin.mono _ _ _ _ _ _ _ _)
      | (with_reducible exact grammar_Comes.mono _ _ _ _ _)
      | (with_reducible exact LeO.refl _)
      | (with_reducible exact LeO.none _)
      | (with_reducible refine LeO.ite ?_ ?_)
      | (with_reducible refine LeO.bind ?_ (fun _ => ?_))
      | exact ih0 _ _ _ _ _ _ _ _ _
      | exact ih1 _ _ _ _ _ _ _ _ _ _ _ _
      | exact ih2 _ _ _ _ _ _ _ _ _ _ _ _ _ _ _ _ _
      | exact ahead_begin.mono _ _ _ _ _ _ _ _
      | exact grammar_Comes.mono _ _ _ _ _
      | exact LeO.none _
      | refine LeO.ite ?_ ?_
      | refine LeO.bind ?_ (fun _ => ?_)
    · intro y0 y1 y2 y3 y4 y5 y6 y7 y8 y9 y10 y11 y12 y13 y14 y15 y16
      unfold ahead_follows.l2
      repeat' first
      | (with_reducible exact ih0 _ _ _ _ _ _ _ _ _)
      | (with_reducible exact ih1 _ _ _ _ _ _ _ _ _ _ _ _)
      | (with_reducible exact ih2 _ _ _ _ _ _ _ _ _ _ _ _ _ _ _ _ _)
      | (with_reducible exact ahead_begin.mono _ _ _ _ _ _ _ _)
      | (with_reducible exact grammar_Comes.mono _ _ _ _ _)
      | (with_reducible exact LeO.refl _)
      | (with_reducible exact LeO.none _)
      | (with_reducible refine LeO.ite ?_ ?_)
      | (with_reducible refine LeO.bind ?_ (fun _ => ?_))
      | exact ih0 _ _ _ _ _ _ _ _ _
      | exact ih1 _ _ _ _ _ _ _ _ _ _ _ _
      | exact ih2 _ _ _ _ _ _ _ _ _ _ _ _ _ _ _ _ _
      | exact ahead_begin.mono _ _ _ _ _ _ _ _
      | exact grammar_Comes.mono _ _ _ _ _
      | exact LeO.none _
      | refine LeO.ite ?_ ?_
      | refine LeO.bind ?_ (fun _ => ?_)
theorem ahead_follows.mono : ∀ a0 a1 a2 a3 a4 a5 k, LeO (ahead_follows.f k a0 a1 a2 a3 a4 a5) (ahead_follows.f (k + 1) a0 a1 a2 a3 a4 a5) := by
  intro a0 a1 a2 a3 a4 a5 k
  obtain ⟨ih0, ih1, ih2⟩ := ahead_follows.mono_l k
  unfold ahead_follows.f
  repeat' first
      | (with_reducible exact ih0 _ _ _ _ _ _ _ _ _)
      | (with_reducible exact ih1 _ _ _ _ _ _ _ _ _ _ _ _)
      | (with_reducible exact ih2 _ _ _ _ _ _ _ _ _ _ _ _ _ _ _ _ _)
      | (with_reducible exact ahead_begin.mono _ _ _ _ _ _ _ _)
      | (with_reducible exact grammar_Comes.mono _ _ _ _ _)
      | (with_reducible exact LeO.refl _)
      | (with_reducible exact LeO.none _)
      | (with_reducible refine LeO.ite ?_ ?_)
      | (with_reducible refine LeO.bind ?_ (fun _ => ?_))
      | exact ih0 _ _ _ _ _ _ _ _ _
      | exact ih1 _ _ _ _ _ _ _ _ _ _ _ _
      | exact ih2 _ _ _ _ _ _ _ _ _ _ _ _ _ _ _ _ _
      | exact ahead_begin.mono _ _ _ _ _ _ _ _
      | exact grammar_Comes.mono _ _ _ _ _
      | exact LeO.none _
      | refine LeO.ite ?_ ?_
      | refine LeO.bind ?_ (fun _ => ?_)
def ahead_follows.T3 : Bool × List (List Nat × List Nat) := (true, [([], []), ([], []), ([1], [1]), ([], []), ([3], [3]), ([4], [4]), ([0, 2, 0, 1, 2, 3, 4, 5], [0, 2]), ([6, 5, 0, 1, 2, 3, 4, 5], [5, 6])])
def ahead_follows.B3 : List Nat := [0, 0, 2, 0, 8, 24, 63, 127]
theorem ahead_follows.tab3 : rtab .any (opsOf Try.f61 3) = ahead_follows.T3 := by kernel_rfl
theorem ahead_follows.bits3 : waitsOk ahead_follows.T3.2 ahead_follows.B3 = true := by kernel_rfl
def ahead_follows.T15 : Bool × List (List Nat × List Nat) := (true, [([], []), ([], []), ([], []), ([], []), ([3], [3]), ([], []), ([5], [5]), ([4, 6], [4, 6]), ([0, 1, 2, 7], [0, 1, 2, 7]), ([8], [8]), ([9], [9]), ([9], [9]), ([10, 8, 0, 1, 2, 3, 4, 5, 6, 7, 8, 9, 10], [10]), ([11, 12, 0, 1, 2, 3, 4, 5, 6, 7, 8, 9, 10, 11, 12], [11])])
def ahead_follows.B15 : List Nat := [0, 0, 0, 0, 8, 0, 32, 120, 255, 511, 1023, 1023, 2047, 8191]
theorem ahead_follows.tab15 : rtab .any (opsOf Try.f61 15) = ahead_follows.T15 := by kernel_rfl
theorem ahead_follows.bits15 : waitsOk ahead_follows.T15.2 ahead_follows.B15 = true := by kernel_rfl
set_option maxHeartbeats 8000000 in
set_option maxRecDepth 100000 in
theorem ahead_follows.calls (k : Nat) (a0_0 : Int) (a0_1 : Int) (a0_2 : Int) (A0_3 : Option Addr) (c0_3 : Nat) (l0_3 : List (S38)) (A1 : Option Addr) (c1 : Nat) (l1 : List Int) (a2 : Int) (r : List Int) (w : World) (hr0_3 : Kd.C k38 w A0_3 l0_3.length l0_3) (hc0_3 : l0_3.length ≤ c0_3) (hr1 : Kd.C (Kd.int .u32) w A1 l1.length l1) (hc1 : l1.length ≤ c1) (h : ahead_follows.f k a0_0 a0_1 a0_2 l0_3 l1 a2 = some r) :
    Calls Try.prog 61 #[.agg #[.int .i64 a0_0, .int .i64 a0_1, .int .i64 a0_2, .slice A0_3 l0_3.length c0_3], .slice A1 l1.length c1, .int .u32 a2] w fun e w' => ∃ v0_ : Value, e = .returned (v0_) ∧ Kd.R (Kd.int .u32) 28 w' w.heap.size (fun _ => True) v0_ r ∧ Below w.heap.size w w' := by
  (have hu24 := Try.underlying24); (have hu28 := Try.underlying28); (have hu38 := Try.underlying38); (have HR0_3 := Aside0.mk hr0_3); (have HC0_3 := Aside0.mk hc0_3); (clear hr0_3 hc0_3); (have HR1 := Aside0.mk hr1); (have HC1 := Aside0.mk hc1); (clear hr1 hc1); (have HB := Aside0.mk (Below.refl w.heap.size w)); (have H : ((grammar_Comes.f k a0_0 a0_1 a0_2 l0_3).bind fun bt145 => (if 0 ≤ a0_1 then (if (a0_1 : Int).toNat ≤ 70368744177664 then ((some (List.replicate (a0_1 : Int).toNat 0 : List Int)).bind fun y147 => (if 0 ≤ a0_0 then (if 0 ≤ a0_2 then (if a0_2 < (y147.length : Int) then (ahead_follows.l0 k l1 a2 bt145.1 (y147.set (a0_2 : Int).toNat (shl .u32 1 a0_0)) true a0_0 a0_1 a0_2 l0_3) else (none)) else (none)) else (none))) else (none)) else (none))) = some r := h); (clear h); (replace H := Option.bind_eq_some_iff.mp H); (obtain ⟨⟨t145, t146⟩, A40, H⟩ := H); (replace H : (if 0 ≤ a0_1 then (if (a0_1 : Int).toNat ≤ 70368744177664 then ((some (List.replicate (a0_1 : Int).toNat 0 : List Int)).bind fun y147 => (if 0 ≤ a0_0 then (if 0 ≤ a0_2 then (if a0_2 < (y147.length : Int) then (ahead_follows.l0 k l1 a2 t145 (y147.set (a0_2 : Int).toNat (shl .u32 1 a0_0)) true a0_0 a0_1 a0_2 l0_3) else (none)) else (none)) else (none))) else (none)) else (none)) = some r := H); (have A4 := Aside0.mk A40); (clear A40)
  by_cases c5 : 0 ≤ a0_1
  rotate_left
  · rw [if_neg c5] at H
    exact absurd H (by simp)
  (rw [if_pos c5] at H); (have c5b0 := eq_true c5); (have c5b1 : decide (0 ≤ a0_1) = true := decide_eq_true c5); (clear c5)
  by_cases c6 : (a0_1 : Int).toNat ≤ 70368744177664
  rotate_left
  · rw [if_neg c6] at H
    exact absurd H (by simp)
  (rw [if_pos c6] at H); (have c6b0 := eq_true c6); (have c6b1 : decide ((a0_1 : Int).toNat ≤ 70368744177664) = true := decide_eq_true c6); (clear c6); (obtain ⟨y147, hy147⟩ : ∃ y_ : List Int, y_ = (List.replicate (a0_1 : Int).toNat 0) := ⟨_, rfl⟩); (replace H : (if 0 ≤ a0_0 then (if 0 ≤ a0_2 then (if a0_2 < (y147.length : Int) then (ahead_follows.l0 k l1 a2 t145 (y147.set (a0_2 : Int).toNat (shl .u32 1 a0_0)) true a0_0 a0_1 a0_2 l0_3) else (none)) else (none)) else (none)) = some r := by first | (rw [hy147]; with_reducible exact H) | (have H2_ := (Option.bind_some _ _).symm.trans H; rw [hy147]; with_reducible exact H2_) | (have H2_ := (Option.bind_some _ _).symm.trans H; with_reducible exact H2_) | with_reducible exact H | (rw [hy147]; exact H) | exact H); (have Ny147 := Aside0.mk hy147); (clear hy147)
  by_cases c7 : 0 ≤ a0_0
  rotate_left
  · rw [if_neg c7] at H
    exact absurd H (by simp)
  (rw [if_pos c7] at H); (have c7b0 := eq_true c7); (have c7b1 : decide (0 ≤ a0_0) = true := decide_eq_true c7); (clear c7); (obtain ⟨ji8, hji8⟩ : ∃ j_ : Int, (shl .u32 1 a0_0) = j_ := ⟨_, rfl⟩); (replace H : (if 0 ≤ a0_2 then (if a0_2 < (y147.length : Int) then (ahead_follows.l0 k l1 a2 t145 (y147.set (a0_2 : Int).toNat (ji8)) true a0_0 a0_1 a0_2 l0_3) else (none)) else (none)) = some r := by first | (rw [hji8] at H; exact H) | (simp only [hji8] at H ⊢; exact H)); ((try rw [hji8] at A4)); (have hji8_ : (IntKind.u32.wrap (1 * 2 ^ min a0_0.toNat 32)) = ji8 := hji8); (have hji8z : a0_0 ≤ 32 → (IntKind.u32.wrap (1 * 2 ^ a0_0.toNat)) = ji8 := shl_small hji8); (have hji8u : (IntKind.u32.wrap (2 ^ min a0_0.toNat 32)) = ji8 := by have h_ := hji8_; rw [Int.one_mul] at h_; exact h_); (have hji8v : a0_0 ≤ 32 → (IntKind.u32.wrap (2 ^ a0_0.toNat)) = ji8 := fun hle_ => by have h_ := hji8z hle_; rw [Int.one_mul] at h_; exact h_)
  by_cases c9 : 0 ≤ a0_2
  rotate_left
  · rw [if_neg c9] at H
    exact absurd H (by simp)
  (rw [if_pos c9] at H); (have c9b0 : decide (0 ≤ a0_2) = true := decide_eq_true c9); (clear c9)
  by_cases c10 : a0_2 < (y147.length : Int)
  rotate_left
  · rw [if_neg c10] at H
    exact absurd H (by simp)
  (rw [if_pos c10] at H); (have c10b0 : decide (a0_2 < (y147.length : Int)) = true := decide_eq_true c10); (clear c10); (obtain ⟨y150, hy150⟩ : ∃ y_ : List Int, y_ = (y147.set (a0_2 : Int).toNat (ji8)) := ⟨_, rfl⟩); (replace H : (ahead_follows.l0 k l1 a2 t145 y150 true a0_0 a0_1 a0_2 l0_3) = some r := by first | (rw [hy150]; with_reducible exact H) | (have H2_ := (Option.bind_some _ _).symm.trans H; rw [hy150]; with_reducible exact H2_) | (have H2_ := (Option.bind_some _ _).symm.trans H; with_reducible exact H2_) | with_reducible exact H | (rw [hy150]; exact H) | exact H); (have Ny150 := Aside0.mk hy150); (clear hy150); (have H' := Aside0.mk H); (clear H)
  go_enter Try.func61, Try.ntmps61
  try go_wp2_with (first | ((with_reducible refine gate_dst (N := 3) rfl ?_); refine box_event ?hg (N := 3) ?hd (cs := #[.int .i64 a0_0, .int .i64 a0_1, .int .i64 a0_2, .slice A0_3 l0_3.length c0_3]) (t := 24) ?hr ?_; (case hd => rfl); (case hg => rfl); (case hr => first | (go_simp; done) | (go_simp; rfl)); intro gb144 hg w12 hbox hb; have n0_ := Aside0.mk (below_step (by repeat (first | (with_reducible first | exact HB.out | apply below_alloc | apply pw_below_drewN | apply below_drew1) | exact HB.out)) hb); have n1_ := Aside0.mk (hbox); have n2_ := Aside0.mk ((by rw [hg]; exact (below_size (by repeat (first | (with_reducible first | exact HB.out | apply below_alloc | apply pw_below_drewN | apply below_drew1) | exact HB.out))) : w.heap.size ≤ gb144)); have n3_ := Aside0.mk ((by rw [hg]; exact (below_size (by repeat (first | (with_reducible first | exact HB.out | apply below_alloc | apply pw_below_drewN | apply below_drew1) | exact HB.out))) : w.heap.size ≤ gb144)); clear HB; have HB := n0_; have BK144 := n1_; have GW144 := n2_; have GE144 := n3_; clear n0_ n1_ n2_ n3_; clear hb hbox hg; have hcz13_0 : w12.cell? ⟨gb144, 0, none⟩ = some (.int .i64 a0_0) := (blk_cell BK144.out 0).trans rfl; have hcz13_1 : w12.cell? ⟨gb144, 1, none⟩ = some (.int .i64 a0_1) := (blk_cell BK144.out 1).trans rfl; have hcz13_2 : w12.cell? ⟨gb144, 2, none⟩ = some (.int .i64 a0_2) := (blk_cell BK144.out 2).trans rfl; have hcz13_3 : w12.cell? ⟨gb144, 3, none⟩ = some (.slice A0_3 l0_3.length c0_3) := (blk_cell BK144.out 3).trans rfl; have hfz13_0 := blk_frozen BK144.out 0; have hfz13_1 := blk_frozen BK144.out 1; have hfz13_2 := blk_frozen BK144.out 2; have hfz13_3 := blk_frozen BK144.out 3) | ((with_reducible refine gate_callee (f := 17) rfl ?_); refine goesL_ (some 19) rfl rfl Try.func17 (by kernel_rfl) rfl #[.agg #[.int .i64 a0_0, .int .i64 a0_1, .int .i64 a0_2, .slice A0_3 l0_3.length c0_3]] rfl (by (try simp only [List.map_toArray, List.map_cons, List.map_nil]); first | done | rfl | (simp only [List.length_drop, List.length_take]; rfl)) ?_; (with_reducible refine (grammar_Comes.calls k a0_0 a0_1 a0_2 _ _ l0_3 t145 t146 _ ?side1 ?side2 A4.out).mono ?_); (case side1 => repeat (first | exact (Kd.C_below HR0_3.out HB.out) | (with_reducible refine Kd.C_alloc ?_ _) | (with_reducible refine Kd.C_drewN ?_ _) | (with_reducible refine Kd.C_drew ?_))); (case side2 => exact HC0_3.out); rintro e w14 ⟨rfl, hb⟩; refine ⟨_, rfl, ?_⟩; have n0_ := Aside0.mk (blk_below (g := gb144) (o := .cells #[.int .i64 a0_0, .int .i64 a0_1, .int .i64 a0_2, .slice A0_3 l0_3.length c0_3] 24 (0, 0)) (by (with_reducible repeat (first | refine blk_drewN ?_ _ | refine blk_drew ?_ | refine blk_alloc ?_ _)); exact BK144.out) hb); have n1_ := Aside0.mk (below_step (by repeat (first | (with_reducible first | exact HB.out | apply below_alloc | apply pw_below_drewN | apply below_drew1 | refine below_set ?_ GE144.out) | exact HB.out)) hb); clear BK144; clear HB; have BK144 := n0_; have HB := n1_; clear n0_ n1_; (try clear hb); (try clear hb2); (try clear hk); (try clear hi); have hcz15_0 : w14.cell? ⟨gb144, 0, none⟩ = some (.int .i64 a0_0) := (blk_cell BK144.out 0).trans rfl; have hcz15_1 : w14.cell? ⟨gb144, 1, none⟩ = some (.int .i64 a0_1) := (blk_cell BK144.out 1).trans rfl; have hcz15_2 : w14.cell? ⟨gb144, 2, none⟩ = some (.int .i64 a0_2) := (blk_cell BK144.out 2).trans rfl; have hcz15_3 : w14.cell? ⟨gb144, 3, none⟩ = some (.slice A0_3 l0_3.length c0_3) := (blk_cell BK144.out 3).trans rfl; have hfz15_0 := blk_frozen BK144.out 0; have hfz15_1 := blk_frozen BK144.out 1; have hfz15_2 := blk_frozen BK144.out 2; have hfz15_3 := blk_frozen BK144.out 3) | ((with_reducible refine gate_dst (N := 24) rfl ?_); refine Kd.R_make (Kd.int .u32) _ 28 rfl (N := 24) rfl 56 _ _ rfl a0_1 rfl rfl Try.underlying56 (.int .u32 0) 4 info28 rfl (by decide) (by omega) 0 (ok := fun _ => True) (okp := fun _ => True) rfl (fun _ hk => hk) trivial (of_decide_eq_true (by assumption)) (Nat.le_trans (Nat.mul_le_mul_right _ (of_decide_eq_true (by assumption) : a0_1.toNat ≤ 70368744177664)) (by omega)) (Below.refl _ _) (Nat.le_refl _) ?_; intro v148 w16 ho17 hb hg_ hnew_; clear hg_ hnew_; (first | rw [← Ny147.out] at ho17 | (simp only [Int.reduceToNat] at ho17; rw [← Ny147.out] at ho17)); have n0_ := Aside0.mk (Kd.R_lower ho17 (below_size (by repeat (first | (with_reducible first | exact HB.out | apply below_alloc | apply pw_below_drewN | apply below_drew1 | refine below_set ?_ GE144.out) | exact HB.out)))); have n1_ := Aside0.mk (blk_below (g := gb144) (o := .cells #[.int .i64 a0_0, .int .i64 a0_1, .int .i64 a0_2, .slice A0_3 l0_3.length c0_3] 24 (0, 0)) (by (with_reducible repeat (first | refine blk_drewN ?_ _ | refine blk_drew ?_ | refine blk_alloc ?_ _)); exact BK144.out) hb); have n2_ := Aside0.mk (below_step (by repeat (first | (with_reducible first | exact HB.out | apply below_alloc | apply pw_below_drewN | apply below_drew1 | refine below_set ?_ GE144.out) | exact HB.out)) hb); clear BK144; clear HB; have HO149 := n0_; have BK144 := n1_; have HB := n2_; clear n0_ n1_ n2_; clear hb ho17))
  (have n0_ := Aside0.mk (Kd.R_drew HO149.out)); (have n1_ := Aside0.mk (blk_drew BK144.out)); (have n2_ := Aside0.mk (below_drew1 HB.out)); (clear HO149); (clear BK144); (clear HB); (have HO149 := n0_); (have BK144 := n1_); (have HB := n2_); (clear n0_ n1_ n2_); (have p11 : 0 ≤ (a0_2 : Int) := of_decide_eq_true (by assumption)); (have q11 : (a0_2 : Int) < ((y147.length : Int) : Int) := of_decide_eq_true (by assumption)); (obtain ⟨go11, co11, eo11, gb11, gl11, cl11, HG11⟩ := Kd.R_form HO149.out (by omega))
  (first | cases eo11 | (injection eo11 with ea_ en_ ec_; (first | subst ea_ | (injection ea_ with ea_; subst ea_)); subst ec_; clear en_))
  (have GB11 := Aside0.mk gb11); (have GG11 := Aside0.mk HG11); (clear gb11 gl11 HG11); (obtain ⟨hx11_0, hf11_0⟩ := Kd.R_celln 0 HO149.out (a0_2 : Int) p11 q11); (replace p11 := eq_true p11); (replace q11 := eq_true q11); (have HP19 := Kd.R_putn HO149.out (a0_2 : Int) ji8); (rw [← Ny150.out] at HP19); (have HQ19 := Aside0.mk HP19); (clear HP19)
  refine start_ (n := 8) (S := fun w' => w'.cell? ⟨gb144, 0, none⟩ = some (.int .i64 a0_0) ∧ w'.cell? ⟨gb144, 1, none⟩ = some (.int .i64 a0_1) ∧ w'.cell? ⟨gb144, 2, none⟩ = some (.int .i64 a0_2) ∧ w'.cell? ⟨gb144, 3, none⟩ = some (.slice A0_3 l0_3.length c0_3)) (ds := [7]) #[false, false, false, false, false, false, false, false] (by kernel_rfl) rfl rfl ⟨(blk_cell BK144.out 0).trans rfl, (blk_cell BK144.out 1).trans rfl, (blk_cell BK144.out 2).trans rfl, (blk_cell BK144.out 3).trans rfl⟩ (fun hHeld => ?_); refine with_tabW ahead_follows.tab3 ahead_follows.bits3 (fun HT_ HW_ => ?_)
  generalize w16.drew = w18 at HO149 BK144 HB GG11 HQ19 hf11_0 hx11_0 hHeld ⊢
  refine pure_ (i := 0) (N := some 25) (v := ?_) (a' := ?_) #[true, false, false, false, false, false, false, false] rfl rfl (any_of HT_.out (by kernel_rfl)) (fun _ _ _ h => h) (Or.inl ⟨by rfl, ?_⟩) ?_ ?_
  rotate_left
  · intro w'
    go_simp
    with_reducible rfl
  rotate_left
  · simp only [Act.put, List.setIfInBounds_toArray, List.set_cons_zero, List.set_cons_succ, i64_w, i32_w]
    rfl
  refine pure_ (i := 1) (N := some 26) (v := ?_) (a' := ?_) #[true, true, false, false, false, false, false, false] rfl rfl (any_of HT_.out (by kernel_rfl)) (fun _ _ _ h => h) (Or.inl ⟨by rfl, ?_⟩) ?_ ?_
  rotate_left
  · intro w'
    go_simp
    with_reducible rfl
  rotate_left
  · simp only [Act.put, List.setIfInBounds_toArray, List.set_cons_zero, List.set_cons_succ, i64_w, i32_w]
    rfl
  refine pure_ (i := 3) (N := some 28) (v := ?_) (a' := ?_) #[true, true, false, true, false, false, false, false] rfl rfl (any_of HT_.out (by kernel_rfl)) (fun _ _ _ h => h) (Or.inl ⟨by rfl, ?_⟩) ?_ ?_
  rotate_left
  · intro w'
    go_simp
    with_reducible rfl
  rotate_left
  · simp only [Act.put, List.setIfInBounds_toArray, List.set_cons_zero, List.set_cons_succ, i64_w, i32_w]
    rfl
  refine take_ (i := 2) (N := some 27) (v := ?_) (a' := ?_) #[true, true, true, true, false, false, false, false] rfl rfl (take_ofW HT_.out HW_.out (by kernel_rfl)) (fun _ _ _ h => h) (Or.inl ⟨by rfl, ?_⟩) hHeld ?_ ?_
  rotate_left
  · rintro w' ⟨s0, s1, s2, s3⟩
    go_simp
    with_reducible rfl
  rotate_left
  · simp only [Act.put, List.setIfInBounds_toArray, List.set_cons_zero, List.set_cons_succ, i64_w, i32_w]
    rfl
  refine take_ (i := 4) (N := some 29) (v := ?_) (a' := ?_) #[true, true, true, true, true, false, false, false] rfl rfl (take_ofW HT_.out HW_.out (by kernel_rfl)) (fun _ _ _ h => h) (Or.inl ⟨by rfl, ?_⟩) hHeld ?_ ?_
  rotate_left
  · rintro w' ⟨s0, s1, s2, s3⟩
    go_simp
    with_reducible rfl
  rotate_left
  · simp only [Act.put, List.setIfInBounds_toArray, List.set_cons_zero, List.set_cons_succ, i64_w, i32_w]
    rfl
  refine pure_ (i := 5) (N := some 30) (v := ?_) (a' := ?_) #[true, true, true, true, true, true, false, false] rfl rfl (any_of HT_.out (by kernel_rfl)) (fun _ _ _ h => h) (Or.inl ⟨by rfl, ?_⟩) ?_ ?_
  rotate_left
  · intro w'
    go_simp
    with_reducible rfl
  rotate_left
  · simp only [Act.put, List.setIfInBounds_toArray, List.set_cons_zero, List.set_cons_succ, i64_w, i32_w]
    rfl
  refine pure_ (i := 6) (N := some 31) (v := ?_) (a' := ?_) #[true, true, true, true, true, true, true, false] rfl rfl (any_of HT_.out (by kernel_rfl)) (fun _ _ _ h => h) (Or.inl ⟨by rfl, ?_⟩) ?_ ?_
  rotate_left
  · intro w'
    go_simp
    with_reducible rfl
  rotate_left
  · simp only [Act.put, List.setIfInBounds_toArray, List.set_cons_zero, List.set_cons_succ, i64_w, i32_w]
    rfl
  refine last_ (i := 7) (N := none) #[true, true, true, true, true, true, true, true] rfl rfl (one_of HT_.out (by kernel_rfl)) (by decide) (fun K hK => ?_)
  refine skip_ (w1 := ?_) (by rfl) rfl ?_ ?_
  rotate_left
  · go_simp
    rfl
  refine hK.out _ _ ?_
  clear hK K
  refine done_ (done_of HT_.out (by kernel_rfl)) ?_
  try go_wp2
  go_loopg [10] k (fun kq v10 w' => ∃ (x9_1 : List Int) (x10_1 : Bool), v10 = .bool x10_1 ∧ Aside0 (ahead_follows.l0 kq l1 a2 t145 x9_1 x10_1 a0_0 a0_1 a0_2 l0_3 = some r) ∧ Aside0 (kq ≤ k) ∧ Aside0 (Kd.R (Kd.int .u32) 28 w' w.heap.size (fun _ => True) (.slice (some ⟨go11, 0, none⟩) y147.length co11) x9_1) ∧ Aside0 (w'.heap[gb144]? = some (.cells #[.int .i64 a0_0, .int .i64 a0_1, .int .i64 a0_2, (.slice A0_3 l0_3.length c0_3)] 24 (0, 0))) ∧ Aside0 (Below w.heap.size w w'))
  case atStart => exact ⟨(y150), (true), (by first | rfl | (simp; done) | (simp [*]; done)), H', ⟨Nat.le_refl _⟩, ⟨by (with_reducible repeat (first | apply Kd.R_alloc | apply Kd.R_drewN | apply Kd.R_drew)); exact HQ19.out⟩, ⟨by (with_reducible repeat (first | refine blk_drewN ?_ _ | refine blk_drew ?_ | refine blk_alloc ?_ _)); refine blk_far ?_ (by have h_ := Kd.R_ne HO149.out BK144.out (by decide); intro e_; exact h_ (by rw [e_]; rfl)) _; (with_reducible repeat (first | refine blk_drewN ?_ _ | refine blk_drew ?_ | refine blk_alloc ?_ _)); exact BK144.out⟩, ⟨by repeat (first | (with_reducible first | exact HB.out | apply below_alloc | apply pw_below_drewN | apply below_drew1 | refine below_set ?_ GB11.out | refine below_set ?_ GE144.out) | exact HB.out)⟩⟩
  case round =>
    (clear H'); (try clear c1); (try clear p1); (try clear q1); (try clear hx1); (try clear p2); (try clear c5); (try clear c5b0); (try clear c5b1); (try clear c6); (try clear c6b0); (try clear c6b1); (try clear c7); (try clear c7b0); (try clear c7b1); (try clear c9); (try clear c9b0); (try clear c10); (try clear c10b0); (try clear p11); (try clear q11); (try clear hx11); (try clear hf11); (try clear c17); (try clear hcz13_0); (try clear hcz13_1); (try clear hcz13_2); (try clear hcz13_3); (try clear hcz15_0); (try clear hcz15_1); (try clear hcz15_2); (try clear hcz15_3); (try clear hfz13_0); (try clear hfz13_1); (try clear hfz13_2); (try clear hfz13_3); (try clear hfz15_0); (try clear hfz15_1); (try clear hfz15_2); (try clear hfz15_3); (try clear hx11_0); (try clear p11); (try clear q11); (obtain ⟨x9_1, x10_1, rfl, HA, HK1, HO_9, BK144, HB⟩ := hrel); (have hl9_1 := (Kd.R_reads' HO_9.out).1); (rw [hl9_1] at HO_9); ((try simp only [hl9_1])); ((try simp only [hl9_1] at BK144))
    cases gk with
    | zero => exact absurd HA.out (by simp [ahead_follows.l0])
    | succ k1 =>
      (have H := HA.out); (clear HA); (simp only [ahead_follows.l0] at H)
      by_cases c20 : x10_1 = true
      rotate_left
      · replace c20 := Bool.eq_false_iff.mpr c20
        (subst c20); (have H1 : (some x9_1) = some r := by rw [if_neg (show ¬ (false = true) by decide)] at H; exact H); (clear H); (have H := H1); (clear H1); (obtain rfl := Option.some.inj H)
        go_wp2
        go_ret
        exact ⟨_, by first | rfl | (simp [errW_none, errW_some] <;> rfl) | (simp only [← hji8]; first | rfl | (simp [errW_none, errW_some] <;> rfl)) | (simp [*, errW_none, errW_some] <;> rfl), by (with_reducible repeat (first | apply Kd.R_alloc | apply Kd.R_drewN | apply Kd.R_drew)); exact HO_9.out, by repeat (first | (with_reducible first | exact HB.out | apply below_alloc | apply pw_below_drewN | apply below_drew1 | refine below_set ?_ GE144.out) | exact HB.out)⟩
      (subst c20); (have H1 : (ahead_follows.l1 k1 l1 a2 t145 x9_1 false l0_3 (l0_3.length : Int) 0 a0_0 a0_1 a0_2 l0_3) = some r := by rw [if_pos rfl] at H; exact H); (clear H); (have H := H1); (clear H1); (have H' := Aside0.mk H); (clear H); (have hcz21_0 : wr.cell? ⟨gb144, 0, none⟩ = some (.int .i64 a0_0) := (blk_cell BK144.out 0).trans rfl); (have hcz21_1 : wr.cell? ⟨gb144, 1, none⟩ = some (.int .i64 a0_1) := (blk_cell BK144.out 1).trans rfl); (have hcz21_2 : wr.cell? ⟨gb144, 2, none⟩ = some (.int .i64 a0_2) := (blk_cell BK144.out 2).trans rfl); (have hcz21_3 : wr.cell? ⟨gb144, 3, none⟩ = some (.slice A0_3 l0_3.length c0_3) := (blk_cell BK144.out 3).trans rfl); (have hfz21_0 := blk_frozen BK144.out 0); (have hfz21_1 := blk_frozen BK144.out 1); (have hfz21_2 := blk_frozen BK144.out 2); (have hfz21_3 := blk_frozen BK144.out 3)
      go_wp2
      go_loopg [10, 36] k1 (fun kq v10 v36 w' => ∃ (x9_2 : List Int) (x10_2 : Bool) (x36_2 : Int), v10 = .bool x10_2 ∧ v36 = .int .i64 x36_2 ∧ Aside0 (ahead_follows.l1 kq l1 a2 t145 x9_2 x10_2 l0_3 (l0_3.length : Int) x36_2 a0_0 a0_1 a0_2 l0_3 = some r) ∧ Aside0 (kq ≤ k1) ∧ Aside0 (Kd.R (Kd.int .u32) 28 w' w.heap.size (fun _ => True) (.slice (some ⟨go11, 0, none⟩) x9_1.length co11) x9_2) ∧ Aside0 (w'.heap[gb144]? = some (.cells #[.int .i64 a0_0, .int .i64 a0_1, .int .i64 a0_2, (.slice A0_3 l0_3.length c0_3)] 24 (0, 0))) ∧ Aside0 (Below w.heap.size w w'))
      case atStart => exact ⟨(x9_1), (false), (0), (by first | rfl | (simp; done) | (simp [*]; done)), (by first | rfl | (simp; done) | (simp [*]; done)), H', ⟨Nat.le_refl _⟩, ⟨by (try simp only [hl9_1]); (with_reducible repeat (first | apply Kd.R_alloc | apply Kd.R_drewN | apply Kd.R_drew)); exact HO_9.out⟩, ⟨by (try simp only [hl9_1]); (with_reducible repeat (first | refine blk_drewN ?_ _ | refine blk_drew ?_ | refine blk_alloc ?_ _)); exact BK144.out⟩, ⟨by repeat (first | (with_reducible first | exact HB.out | apply below_alloc | apply pw_below_drewN | apply below_drew1 | refine below_set ?_ GE144.out) | exact HB.out)⟩⟩
      case round =>
        (clear H'); (try clear c1); (try clear p1); (try clear q1); (try clear hx1); (try clear c2); (try clear p2); (try clear c5); (try clear c5b0); (try clear c5b1); (try clear c6); (try clear c6b0); (try clear c6b1); (try clear c7); (try clear c7b0); (try clear c7b1); (try clear c9); (try clear c9b0); (try clear c10); (try clear c10b0); (try clear p11); (try clear q11); (try clear hx11); (try clear hf11); (try clear c17); (try clear c20); (try clear hcz13_0); (try clear hcz13_1); (try clear hcz13_2); (try clear hcz13_3); (try clear hcz15_0); (try clear hcz15_1); (try clear hcz15_2); (try clear hcz15_3); (try clear hcz21_0); (try clear hcz21_1); (try clear hcz21_2); (try clear hcz21_3); (try clear hfz13_0); (try clear hfz13_1); (try clear hfz13_2); (try clear hfz13_3); (try clear hfz15_0); (try clear hfz15_1); (try clear hfz15_2); (try clear hfz15_3); (try clear hfz21_0); (try clear hfz21_1); (try clear hfz21_2); (try clear hfz21_3); (try clear hx11_0); (try clear p1); (try clear p11); (try clear p2); (try clear q1); (try clear q11); (obtain ⟨x9_2, x10_2, x36_2, rfl, rfl, HA, HK2, HO_9, BK144, HB⟩ := hrel); (have hl9_2 := (Kd.R_reads' HO_9.out).1); (rw [hl9_2] at HO_9); ((try simp only [hl9_2])); ((try simp only [hl9_2] at BK144))
        cases gk with
        | zero => exact absurd HA.out (by simp [ahead_follows.l1])
        | succ k2 =>
          (have H := HA.out); (clear HA); (simp only [ahead_follows.l1] at H)
          by_cases c22 : x36_2 < (l0_3.length : Int)
          rotate_left
          · rw [if_neg c22] at H
            (have c22b0 : decide (x36_2 < (l0_3.length : Int)) = false := decide_eq_false c22); ((try (have c22b0h := c22b0; simp only [hl9_1, hl9_2] at c22b0h))); (clear c22); (have H' := Aside0.mk H); (clear H)
            go_wp2
            (try simp only [← hl9_1, ← hl9_2])
            (first | go_roundg k2 | (simp only [← hji8]; go_roundg k2))
            case measure => have := HK1.out; have := HK2.out; omega
            case rel => exact ⟨(x9_2), (x10_2), (by first | rfl | (simp; done) | (simp [*]; done)), H', ⟨by have := HK1.out; have := HK2.out; omega⟩, ⟨by (try simp only [hl9_1]); (try simp only [hl9_2]); (with_reducible repeat (first | apply Kd.R_alloc | apply Kd.R_drewN | apply Kd.R_drew)); exact HO_9.out⟩, ⟨by (try simp only [hl9_1]); (try simp only [hl9_2]); (with_reducible repeat (first | refine blk_drewN ?_ _ | refine blk_drew ?_ | refine blk_alloc ?_ _)); exact BK144.out⟩, ⟨by repeat (first | (with_reducible first | exact HB.out | apply below_alloc | apply pw_below_drewN | apply below_drew1 | refine below_set ?_ GE144.out) | exact HB.out)⟩⟩
          (rw [if_pos c22] at H); (have c22b0 : decide (x36_2 < (l0_3.length : Int)) = true := decide_eq_true c22); ((try (have c22b0h := c22b0; simp only [hl9_1, hl9_2] at c22b0h))); (clear c22)
          by_cases c23 : 0 ≤ x36_2
          rotate_left
          · rw [if_neg c23] at H
            exact absurd H (by simp)
          (rw [if_pos c23] at H); (have c23b0 : decide (0 ≤ x36_2) = true := decide_eq_true c23); (clear c23)
          by_cases c24 : x36_2 < (l0_3.length : Int)
          rotate_left
          · rw [if_neg c24] at H
            exact absurd H (by simp)
          (rw [if_pos c24] at H); (have c24b0 : decide (x36_2 < (l0_3.length : Int)) = true := decide_eq_true c24); ((try (have c24b0h := c24b0; simp only [hl9_1, hl9_2] at c24b0h))); (clear c24)
          by_cases c25 : 0 ≤ ((rd_T38 l0_3 x36_2).f0)
          rotate_left
          · rw [if_neg c25] at H
            exact absurd H (by simp)
          (rw [if_pos c25] at H); (have c25b0 := eq_true c25); (have c25b1 : decide (0 ≤ ((rd_T38 l0_3 x36_2).f0)) = true := decide_eq_true c25); (clear c25); (obtain ⟨ji26, hji26⟩ : ∃ j_ : Int, (shr .u32 t145 ((rd_T38 l0_3 x36_2).f0)) = j_ := ⟨_, rfl⟩); (replace H : (if (Go.bits .and .u32 (ji26) 1) = 0 then (ahead_follows.l1 k2 l1 a2 t145 x9_2 x10_2 l0_3 (l0_3.length : Int) (wrap64 (x36_2 + 1)) a0_0 a0_1 a0_2 l0_3) else (ahead_follows.l2 k2 l1 a2 t145 x9_2 x10_2 l0_3 (l0_3.length : Int) x36_2 ((rd_T38 l0_3 x36_2).f1) (((rd_T38 l0_3 x36_2).f1).length : Int) 0 a0_0 a0_1 a0_2 l0_3 ((rd_T38 l0_3 x36_2).f0) ((rd_T38 l0_3 x36_2).f1))) = some r := by first | (rw [hji26] at H; exact H) | (simp only [hji26] at H ⊢; exact H)); (have hji26_ : (t145 / 2 ^ min ((rd_T38 l0_3 x36_2).f0).toNat 32) = ji26 := hji26); (have hji26z : ((rd_T38 l0_3 x36_2).f0) ≤ 32 → (t145 / 2 ^ ((rd_T38 l0_3 x36_2).f0).toNat) = ji26 := shr_small hji26)
          by_cases c27 : (Go.bits .and .u32 (ji26) 1) = 0
          · rw [if_pos c27] at H
            (have c27b0 : ((Go.bits .and .u32 (ji26) 1) == 0) = true := beq_iff_eq.mpr c27); (have c27b1 : ((Go.bits .and .u32 (ji26) 1) != 0) = false := bne_eq_false_iff_eq.mpr c27); (clear c27); (have H' := Aside0.mk H); (clear H); (have p151 : 0 ≤ (x36_2 : Int) := of_decide_eq_true (by assumption)); (have q151 : x36_2 < (l0_3.length : Int) := of_decide_eq_true (by assumption)); (obtain ⟨ad151, A151_1, c151_1, e151, hx151_0, hx151_1, hl151_1, hi151_1⟩ := at_T38 HR0_3.out x36_2 p151 q151); (cases e151); (replace hx151_0 := (HB.out.cell (World.block_lt_of_cell? w _ hx151_0)).trans hx151_0); (replace hx151_1 := (HB.out.cell (World.block_lt_of_cell? w _ hx151_1)).trans hx151_1); (have HR151_1 := Aside0.mk hi151_1); (have HC151_1 := Aside0.mk hl151_1); (clear hi151_1 hl151_1); (replace p151 := eq_true p151); (replace q151 := eq_true q151)
            go_wp2_with (first | ((with_reducible refine gate_dst (N := 12) rfl ?_); refine box_event ?hg (N := 12) ?hd (cs := #[.int .i64 0, .slice none 0 0]) (t := 38) ?hr ?_; (case hd => rfl); (case hg => rfl); (case hr => first | (go_simp; done) | (go_simp; rfl)); intro gb152 hg w28 hbox hb; have n0_ := Aside0.mk (Kd.R_below (by (with_reducible repeat (first | apply Kd.R_alloc | apply Kd.R_drewN | apply Kd.R_drew)); exact HO_9.out) hb); have n1_ := Aside0.mk (blk_below (g := gb144) (o := .cells #[.int .i64 a0_0, .int .i64 a0_1, .int .i64 a0_2, .slice (some ad151) l0_3.length c0_3] 24 (0, 0)) (by (with_reducible repeat (first | refine blk_drewN ?_ _ | refine blk_drew ?_ | refine blk_alloc ?_ _)); exact BK144.out) hb); have n2_ := Aside0.mk (below_step (by repeat (first | (with_reducible first | exact HB.out | apply below_alloc | apply pw_below_drewN | apply below_drew1 | refine below_set ?_ GE144.out) | exact HB.out)) hb); have n3_ := Aside0.mk (hbox); have n4_ := Aside0.mk ((by rw [hg]; exact (below_size (by repeat (first | (with_reducible first | exact HB.out | apply below_alloc | apply pw_below_drewN | apply below_drew1 | refine below_set ?_ GE144.out) | exact HB.out))) : w.heap.size ≤ gb152)); have n5_ := Aside0.mk ((by rw [hg]; exact (below_size (by repeat (first | (with_reducible first | exact HB.out | apply below_alloc | apply pw_below_drewN | apply below_drew1 | refine below_set ?_ GE144.out) | exact HB.out))) : w.heap.size ≤ gb152)); have n6_ := Aside0.mk ((by rw [hg]; exact Nat.ne_of_lt (blk_lt (g := gb144) (o := .cells #[.int .i64 a0_0, .int .i64 a0_1, .int .i64 a0_2, .slice (some ad151) l0_3.length c0_3] 24 (0, 0)) (by (with_reducible repeat (first | refine blk_drewN ?_ _ | refine blk_drew ?_ | refine blk_alloc ?_ _)); exact BK144.out)) : gb144 ≠ gb152)); have n7_ := Aside0.mk ((by rw [hg]; exact Nat.ne_of_gt (blk_lt (g := gb144) (o := .cells #[.int .i64 a0_0, .int .i64 a0_1, .int .i64 a0_2, .slice (some ad151) l0_3.length c0_3] 24 (0, 0)) (by (with_reducible repeat (first | refine blk_drewN ?_ _ | refine blk_drew ?_ | refine blk_alloc ?_ _)); exact BK144.out)) : gb152 ≠ gb144)); clear HO_9; clear BK144; clear HB; have HO_9 := n0_; have BK144 := n1_; have HB := n2_; have BK152 := n3_; have GW152 := n4_; have GE152 := n5_; have NB144_152 := n6_; have NB152_144 := n7_; clear n0_ n1_ n2_ n3_ n4_ n5_ n6_ n7_; clear hb hbox hg; have hnb29 := NB152_144.out; have hnc29 := NB144_152.out; have hcz30_0 : w28.cell? ⟨gb152, 0, none⟩ = some (.int .i64 0) := (blk_cell BK152.out 0).trans rfl; have hcz30_1 : w28.cell? ⟨gb152, 1, none⟩ = some (.slice none 0 0) := (blk_cell BK152.out 1).trans rfl; have hfz30_0 := blk_frozen BK152.out 0; have hfz30_1 := blk_frozen BK152.out 1))
            (try simp only [← hl9_2])
            (first | go_roundg k2 | (simp only [← hji26]; go_roundg k2) | (simp only [← hji8, ← hji26]; go_roundg k2))
            case measure => have := HK1.out; have := HK2.out; omega
            case rel => exact ⟨(x9_2), (x10_2), (wrap64 (x36_2 + 1)), (by first | rfl | (simp; done) | (simp [*]; done)), (by first | rfl | (simp; done) | (simp [*]; done)), H', ⟨by have := HK1.out; have := HK2.out; omega⟩, ⟨by (try simp only [hl9_1]); (try simp only [hl9_2]); (with_reducible repeat (first | apply Kd.R_alloc | apply Kd.R_drewN | apply Kd.R_drew)); exact Kd.R_mono (Kd.R_far (p := ⟨gb152, 1, none⟩) (Kd.R_far (p := ⟨gb152, 0, none⟩) (Kd.R_types HO_9.out BK152.out (by decide)) (fun _ hk => hk.2) (.int .i64 ((rd_T38 l0_3 x36_2).f0))) (fun _ hk => hk.2) (.slice A151_1 ((rd_T38 l0_3 x36_2).f1).length c151_1)) (fun _ hk => trivial)⟩, ⟨by (try simp only [hl9_1]); (try simp only [hl9_2]); (with_reducible repeat (first | refine blk_drewN ?_ _ | refine blk_drew ?_ | refine blk_alloc ?_ _)); refine blk_far ?_ NB144_152.out _; (with_reducible repeat (first | refine blk_drewN ?_ _ | refine blk_drew ?_ | refine blk_alloc ?_ _)); refine blk_far ?_ NB144_152.out _; (with_reducible repeat (first | refine blk_drewN ?_ _ | refine blk_drew ?_ | refine blk_alloc ?_ _)); exact BK144.out⟩, ⟨by repeat (first | (with_reducible first | exact HB.out | apply below_alloc | apply pw_below_drewN | apply below_drew1 | refine below_set ?_ GE144.out | refine below_set ?_ GE152.out) | exact HB.out)⟩⟩
          (rw [if_neg c27] at H); (have c27b0 : ((Go.bits .and .u32 (ji26) 1) == 0) = false := beq_eq_false_iff_ne.mpr c27); (have c27b1 : ((Go.bits .and .u32 (ji26) 1) != 0) = true := bne_iff_ne.mpr c27); (have H' := Aside0.mk H); (clear H); (have p151 : 0 ≤ (x36_2 : Int) := of_decide_eq_true (by assumption)); (have q151 : x36_2 < (l0_3.length : Int) := of_decide_eq_true (by assumption)); (obtain ⟨ad151, A151_1, c151_1, e151, hx151_0, hx151_1, hl151_1, hi151_1⟩ := at_T38 HR0_3.out x36_2 p151 q151); (cases e151); (replace hx151_0 := (HB.out.cell (World.block_lt_of_cell? w _ hx151_0)).trans hx151_0); (replace hx151_1 := (HB.out.cell (World.block_lt_of_cell? w _ hx151_1)).trans hx151_1); (have HR151_1 := Aside0.mk hi151_1); (have HC151_1 := Aside0.mk hl151_1); (clear hi151_1 hl151_1); (replace p151 := eq_true p151); (replace q151 := eq_true q151)
          go_wp2_with (first | ((with_reducible refine gate_dst (N := 12) rfl ?_); refine box_event ?hg (N := 12) ?hd (cs := #[.int .i64 0, .slice none 0 0]) (t := 38) ?hr ?_; (case hd => rfl); (case hg => rfl); (case hr => first | (go_simp; done) | (go_simp; rfl)); intro gb152 hg w31 hbox hb; have n0_ := Aside0.mk (Kd.R_below (by (with_reducible repeat (first | apply Kd.R_alloc | apply Kd.R_drewN | apply Kd.R_drew)); exact HO_9.out) hb); have n1_ := Aside0.mk (blk_below (g := gb144) (o := .cells #[.int .i64 a0_0, .int .i64 a0_1, .int .i64 a0_2, .slice (some ad151) l0_3.length c0_3] 24 (0, 0)) (by (with_reducible repeat (first | refine blk_drewN ?_ _ | refine blk_drew ?_ | refine blk_alloc ?_ _)); exact BK144.out) hb); have n2_ := Aside0.mk (below_step (by repeat (first | (with_reducible first | exact HB.out | apply below_alloc | apply pw_below_drewN | apply below_drew1 | refine below_set ?_ GE144.out) | exact HB.out)) hb); have n3_ := Aside0.mk (hbox); have n4_ := Aside0.mk ((by rw [hg]; exact (below_size (by repeat (first | (with_reducible first | exact HB.out | apply below_alloc | apply pw_below_drewN | apply below_drew1 | refine below_set ?_ GE144.out) | exact HB.out))) : w.heap.size ≤ gb152)); have n5_ := Aside0.mk ((by rw [hg]; exact (below_size (by repeat (first | (with_reducible first | exact HB.out | apply below_alloc | apply pw_below_drewN | apply below_drew1 | refine below_set ?_ GE144.out) | exact HB.out))) : w.heap.size ≤ gb152)); have n6_ := Aside0.mk ((by rw [hg]; exact Nat.ne_of_lt (blk_lt (g := gb144) (o := .cells #[.int .i64 a0_0, .int .i64 a0_1, .int .i64 a0_2, .slice (some ad151) l0_3.length c0_3] 24 (0, 0)) (by (with_reducible repeat (first | refine blk_drewN ?_ _ | refine blk_drew ?_ | refine blk_alloc ?_ _)); exact BK144.out)) : gb144 ≠ gb152)); have n7_ := Aside0.mk ((by rw [hg]; exact Nat.ne_of_gt (blk_lt (g := gb144) (o := .cells #[.int .i64 a0_0, .int .i64 a0_1, .int .i64 a0_2, .slice (some ad151) l0_3.length c0_3] 24 (0, 0)) (by (with_reducible repeat (first | refine blk_drewN ?_ _ | refine blk_drew ?_ | refine blk_alloc ?_ _)); exact BK144.out)) : gb152 ≠ gb144)); clear HO_9; clear BK144; clear HB; have HO_9 := n0_; have BK144 := n1_; have HB := n2_; have BK152 := n3_; have GW152 := n4_; have GE152 := n5_; have NB144_152 := n6_; have NB152_144 := n7_; clear n0_ n1_ n2_ n3_ n4_ n5_ n6_ n7_; clear hb hbox hg; have hnb32 := NB152_144.out; have hnc32 := NB144_152.out; have hcz33_0 : w31.cell? ⟨gb152, 0, none⟩ = some (.int .i64 0) := (blk_cell BK152.out 0).trans rfl; have hcz33_1 : w31.cell? ⟨gb152, 1, none⟩ = some (.slice none 0 0) := (blk_cell BK152.out 1).trans rfl; have hfz33_0 := blk_frozen BK152.out 0; have hfz33_1 := blk_frozen BK152.out 1))
          go_loopg [10, 49] k2 (fun kq v10 v49 w' => ∃ (x9_3 : List Int) (x10_3 : Bool) (x49_3 : Int), v10 = .bool x10_3 ∧ v49 = .int .i64 x49_3 ∧ Aside0 (ahead_follows.l2 kq l1 a2 t145 x9_3 x10_3 l0_3 (l0_3.length : Int) x36_2 ((rd_T38 l0_3 x36_2).f1) (((rd_T38 l0_3 x36_2).f1).length : Int) x49_3 a0_0 a0_1 a0_2 l0_3 ((rd_T38 l0_3 x36_2).f0) ((rd_T38 l0_3 x36_2).f1) = some r) ∧ Aside0 (kq ≤ k2) ∧ Aside0 (Kd.R (Kd.int .u32) 28 w' w.heap.size (fun _ => True) (.slice (some ⟨go11, 0, none⟩) x9_2.length co11) x9_3) ∧ Aside0 (w'.heap[gb144]? = some (.cells #[.int .i64 a0_0, .int .i64 a0_1, .int .i64 a0_2, (.slice (some ad151) l0_3.length c0_3)] 24 (0, 0))) ∧ Aside0 (w'.heap[gb152]? = some (.cells #[.int .i64 ((rd_T38 l0_3 x36_2).f0), (.slice A151_1 ((rd_T38 l0_3 x36_2).f1).length c151_1)] 38 (0, 0))) ∧ Aside0 (Below w.heap.size w w'))
          case atStart => exact ⟨(x9_2), (x10_2), (0), (by first | rfl | (simp; done) | (simp [*]; done)), (by first | rfl | (simp; done) | (simp [*]; done)), H', ⟨Nat.le_refl _⟩, ⟨by (try simp only [hl9_1]); (try simp only [hl9_2]); (with_reducible repeat (first | apply Kd.R_alloc | apply Kd.R_drewN | apply Kd.R_drew)); exact Kd.R_mono (Kd.R_far (p := ⟨gb152, 1, none⟩) (Kd.R_far (p := ⟨gb152, 0, none⟩) (Kd.R_types HO_9.out BK152.out (by decide)) (fun _ hk => hk.2) (.int .i64 ((rd_T38 l0_3 x36_2).f0))) (fun _ hk => hk.2) (.slice A151_1 ((rd_T38 l0_3 x36_2).f1).length c151_1)) (fun _ hk => trivial)⟩, ⟨by (try simp only [hl9_1]); (try simp only [hl9_2]); (with_reducible repeat (first | refine blk_drewN ?_ _ | refine blk_drew ?_ | refine blk_alloc ?_ _)); refine blk_far ?_ NB144_152.out _; (with_reducible repeat (first | refine blk_drewN ?_ _ | refine blk_drew ?_ | refine blk_alloc ?_ _)); refine blk_far ?_ NB144_152.out _; (with_reducible repeat (first | refine blk_drewN ?_ _ | refine blk_drew ?_ | refine blk_alloc ?_ _)); exact BK144.out⟩, ⟨by (try simp only [hl9_1]); (try simp only [hl9_2]); (with_reducible repeat (first | refine blk_drewN ?_ _ | refine blk_drew ?_ | refine blk_alloc ?_ _)); refine blk_put (cs := #[.int .i64 ((rd_T38 l0_3 x36_2).f0), .slice none 0 0]) ?_ 1 _ rfl; (with_reducible repeat (first | refine blk_drewN ?_ _ | refine blk_drew ?_ | refine blk_alloc ?_ _)); refine blk_put (cs := #[.int .i64 0, .slice none 0 0]) ?_ 0 _ rfl; (with_reducible repeat (first | refine blk_drewN ?_ _ | refine blk_drew ?_ | refine blk_alloc ?_ _)); exact BK152.out⟩, ⟨by repeat (first | (with_reducible first | exact HB.out | apply below_alloc | apply pw_below_drewN | apply below_drew1 | refine below_set ?_ GE144.out | refine below_set ?_ GE152.out) | exact HB.out)⟩⟩
          case round =>
            (clear H'); (try clear c1); (try clear p1); (try clear q1); (try clear hx1); (try clear c2); (try clear p2); (try clear c3); (try clear c5); (try clear c5b0); (try clear c5b1); (try clear c6); (try clear c6b0); (try clear c6b1); (try clear p6); (try clear c7); (try clear c7b0); (try clear c7b1); (try clear c9); (try clear c9b0); (try clear c10); (try clear c10b0); (try clear p11); (try clear q11); (try clear hx11); (try clear hf11); (try clear c15); (try clear p15); (try clear q15); (try clear hx15); (try clear c17); (try clear c20); (try clear c22); (try clear c22b0); (try clear c23); (try clear c23b0); (try clear c24); (try clear c24b0); (try clear c25); (try clear c25b0); (try clear c25b1); (try clear c27); (try clear c27b0); (try clear c27b1); (try clear c29); (try clear c32); (try clear hcz13_0); (try clear hcz13_1); (try clear hcz13_2); (try clear hcz13_3); (try clear hcz15_0); (try clear hcz15_1); (try clear hcz15_2); (try clear hcz15_3); (try clear hcz21_0); (try clear hcz21_1); (try clear hcz21_2); (try clear hcz21_3); (try clear hcz30_0); (try clear hcz30_1); (try clear hcz33_0); (try clear hcz33_1); (try clear hfz13_0); (try clear hfz13_1); (try clear hfz13_2); (try clear hfz13_3); (try clear hfz15_0); (try clear hfz15_1); (try clear hfz15_2); (try clear hfz15_3); (try clear hfz21_0); (try clear hfz21_1); (try clear hfz21_2); (try clear hfz21_3); (try clear hfz30_0); (try clear hfz30_1); (try clear hfz33_0); (try clear hfz33_1); (try clear hx11_0); (try clear hx151_0); (try clear hx151_1); (try clear p1); (try clear p11); (try clear p151); (try clear p2); (try clear q1); (try clear q11); (try clear q151); (obtain ⟨x9_3, x10_3, x49_3, rfl, rfl, HA, HK3, HO_9, BK144, BK152, HB⟩ := hrel); (have hl9_3 := (Kd.R_reads' HO_9.out).1); (rw [hl9_3] at HO_9); ((try simp only [hl9_3])); ((try simp only [hl9_3] at BK144)); ((try simp only [hl9_3] at BK152))
            cases gk with
            | zero => exact absurd HA.out (by simp [ahead_follows.l2])
            | succ k3 =>
              (have H := HA.out); (clear HA); (simp only [ahead_follows.l2] at H)
              by_cases c34 : x49_3 < (((rd_T38 l0_3 x36_2).f1).length : Int)
              rotate_left
              · rw [if_neg c34] at H
                (have c34b0 : decide (x49_3 < (((rd_T38 l0_3 x36_2).f1).length : Int)) = false := decide_eq_false c34); ((try (have c34b0h := c34b0; simp only [hl9_1, hl9_2, hl9_3] at c34b0h))); (clear c34); (have H' := Aside0.mk H); (clear H)
                go_wp2
                (try simp only [← hl9_2, ← hl9_3])
                (first | go_roundg k3 | (simp only [← hji26]; go_roundg k3) | (simp only [← hji8, ← hji26]; go_roundg k3))
                case measure => have := HK1.out; have := HK2.out; have := HK3.out; omega
                case rel => exact ⟨(x9_3), (x10_3), (wrap64 (x36_2 + 1)), (by first | rfl | (simp; done) | (simp [*]; done)), (by first | rfl | (simp; done) | (simp [*]; done)), H', ⟨by have := HK1.out; have := HK2.out; have := HK3.out; omega⟩, ⟨by (try simp only [hl9_1]); (try simp only [hl9_2]); (try simp only [hl9_3]); (with_reducible repeat (first | apply Kd.R_alloc | apply Kd.R_drewN | apply Kd.R_drew)); exact HO_9.out⟩, ⟨by (try simp only [hl9_1]); (try simp only [hl9_2]); (try simp only [hl9_3]); (with_reducible repeat (first | refine blk_drewN ?_ _ | refine blk_drew ?_ | refine blk_alloc ?_ _)); exact BK144.out⟩, ⟨by repeat (first | (with_reducible first | exact HB.out | apply below_alloc | apply pw_below_drewN | apply below_drew1 | refine below_set ?_ GE144.out | refine below_set ?_ GE152.out) | exact HB.out)⟩⟩
              (rw [if_pos c34] at H); (have c34b0 : decide (x49_3 < (((rd_T38 l0_3 x36_2).f1).length : Int)) = true := decide_eq_true c34); ((try (have c34b0h := c34b0; simp only [hl9_1, hl9_2, hl9_3] at c34b0h))); (clear c34)
              by_cases c35 : 0 ≤ x49_3
              rotate_left
              · rw [if_neg c35] at H
                exact absurd H (by simp)
              (rw [if_pos c35] at H); (have c35b0 : decide (0 ≤ x49_3) = true := decide_eq_true c35); (clear c35)
              by_cases c36 : x49_3 < (((rd_T38 l0_3 x36_2).f1).length : Int)
              rotate_left
              · rw [if_neg c36] at H
                exact absurd H (by simp)
              (rw [if_pos c36] at H); (have c36b0 : decide (x49_3 < (((rd_T38 l0_3 x36_2).f1).length : Int)) = true := decide_eq_true c36); ((try (have c36b0h := c36b0; simp only [hl9_1, hl9_2, hl9_3] at c36b0h))); (clear c36)
              by_cases c37 : (rd ((rd_T38 l0_3 x36_2).f1) x49_3) < a0_0
              · rw [if_pos c37] at H
                (have c37b0 : decide ((rd ((rd_T38 l0_3 x36_2).f1) x49_3) < a0_0) = true := decide_eq_true c37); (clear c37); (have H' := Aside0.mk H); (clear H); (have p153 : 0 ≤ (x49_3 : Int) := of_decide_eq_true (by assumption)); (have q153 : x49_3 < (((rd_T38 l0_3 x36_2).f1).length : Int) := of_decide_eq_true (by assumption)); (obtain ⟨ad153, e153, hx153_0⟩ := Kd.at_int HR151_1.out x49_3 p153 q153); (cases e153); (replace hx153_0 := (HB.out.cell (World.block_lt_of_cell? w _ hx153_0)).trans hx153_0); (replace p153 := eq_true p153); (replace q153 := eq_true q153); (have hnb38 := NB144_152.out); (have hnc38 := NB152_144.out); (have hcz39_0 : wr.cell? ⟨gb144, 0, none⟩ = some (.int .i64 a0_0) := (blk_cell BK144.out 0).trans rfl); (have hcz39_1 : wr.cell? ⟨gb144, 1, none⟩ = some (.int .i64 a0_1) := (blk_cell BK144.out 1).trans rfl); (have hcz39_2 : wr.cell? ⟨gb144, 2, none⟩ = some (.int .i64 a0_2) := (blk_cell BK144.out 2).trans rfl); (have hcz39_3 : wr.cell? ⟨gb144, 3, none⟩ = some (.slice (some ad151) l0_3.length c0_3) := (blk_cell BK144.out 3).trans rfl); (have hfz39_0 := blk_frozen BK144.out 0); (have hfz39_1 := blk_frozen BK144.out 1); (have hfz39_2 := blk_frozen BK144.out 2); (have hfz39_3 := blk_frozen BK144.out 3)
                go_wp2
                (try simp only [← hl9_3])
                (first | go_roundg k3 | (simp only [← hji26]; go_roundg k3) | (simp only [← hji8, ← hji26]; go_roundg k3))
                case measure => have := HK1.out; have := HK2.out; have := HK3.out; omega
                case rel => exact ⟨(x9_3), (x10_3), (wrap64 (x49_3 + 1)), (by first | rfl | (simp; done) | (simp [*]; done)), (by first | rfl | (simp; done) | (simp [*]; done)), H', ⟨by have := HK1.out; have := HK2.out; have := HK3.out; omega⟩, ⟨by (try simp only [hl9_1]); (try simp only [hl9_2]); (try simp only [hl9_3]); (with_reducible repeat (first | apply Kd.R_alloc | apply Kd.R_drewN | apply Kd.R_drew)); exact HO_9.out⟩, ⟨by (try simp only [hl9_1]); (try simp only [hl9_2]); (try simp only [hl9_3]); (with_reducible repeat (first | refine blk_drewN ?_ _ | refine blk_drew ?_ | refine blk_alloc ?_ _)); exact BK144.out⟩, ⟨by (try simp only [hl9_1]); (try simp only [hl9_2]); (try simp only [hl9_3]); (with_reducible repeat (first | refine blk_drewN ?_ _ | refine blk_drew ?_ | refine blk_alloc ?_ _)); exact BK152.out⟩, ⟨by repeat (first | (with_reducible first | exact HB.out | apply below_alloc | apply pw_below_drewN | apply below_drew1 | refine below_set ?_ GE144.out | refine below_set ?_ GE152.out) | exact HB.out)⟩⟩
              (rw [if_neg c37] at H); (have c37b0 : decide ((rd ((rd_T38 l0_3 x36_2).f1) x49_3) < a0_0) = false := decide_eq_false c37); (clear c37); (obtain ⟨ji40, hji40⟩ : ∃ j_ : Int, (wrap64 (x49_3 + 1)) = j_ := ⟨_, rfl⟩); (replace H : (if 0 ≤ (ji40) then (if (ji40) ≤ (((rd_T38 l0_3 x36_2).f1).length : Int) then ((ahead_begin.f k3 a0_0 a0_1 a0_2 l0_3 l1 a2 (((rd_T38 l0_3 x36_2).f1).drop ((ji40) : Int).toNat)).bind fun bt158 => (if bt158.2 = true then (if 0 ≤ ((rd_T38 l0_3 x36_2).f0) then (if ((rd_T38 l0_3 x36_2).f0) < (x9_3.length : Int) then (if x10_3 = true then (if 0 ≤ (wrap64 ((rd ((rd_T38 l0_3 x36_2).f1) x49_3) - a0_0)) then (if (wrap64 ((rd ((rd_T38 l0_3 x36_2).f1) x49_3) - a0_0)) < (x9_3.length : Int) then (ahead_follows.l2 k3 l1 a2 t145 (x9_3.set ((wrap64 ((rd ((rd_T38 l0_3 x36_2).f1) x49_3) - a0_0)) : Int).toNat (Go.bits .or .u32 (rd x9_3 (wrap64 ((rd ((rd_T38 l0_3 x36_2).f1) x49_3) - a0_0))) (Go.bits .or .u32 bt158.1 (rd x9_3 ((rd_T38 l0_3 x36_2).f0))))) true l0_3 (l0_3.length : Int) x36_2 ((rd_T38 l0_3 x36_2).f1) (((rd_T38 l0_3 x36_2).f1).length : Int) ji40 a0_0 a0_1 a0_2 l0_3 ((rd_T38 l0_3 x36_2).f0) ((rd_T38 l0_3 x36_2).f1)) else (none)) else (none)) else (if 0 ≤ (wrap64 ((rd ((rd_T38 l0_3 x36_2).f1) x49_3) - a0_0)) then (if (wrap64 ((rd ((rd_T38 l0_3 x36_2).f1) x49_3) - a0_0)) < (x9_3.length : Int) then (ahead_follows.l2 k3 l1 a2 t145 (x9_3.set ((wrap64 ((rd ((rd_T38 l0_3 x36_2).f1) x49_3) - a0_0)) : Int).toNat (Go.bits .or .u32 (rd x9_3 (wrap64 ((rd ((rd_T38 l0_3 x36_2).f1) x49_3) - a0_0))) (Go.bits .or .u32 bt158.1 (rd x9_3 ((rd_T38 l0_3 x36_2).f0))))) ((Go.bits .andNot .u32 (Go.bits .or .u32 bt158.1 (rd x9_3 ((rd_T38 l0_3 x36_2).f0))) (rd x9_3 (wrap64 ((rd ((rd_T38 l0_3 x36_2).f1) x49_3) - a0_0)))) != 0) l0_3 (l0_3.length : Int) x36_2 ((rd_T38 l0_3 x36_2).f1) (((rd_T38 l0_3 x36_2).f1).length : Int) ji40 a0_0 a0_1 a0_2 l0_3 ((rd_T38 l0_3 x36_2).f0) ((rd_T38 l0_3 x36_2).f1)) else (none)) else (none))) else (none)) else (none)) else (if x10_3 = true then (if 0 ≤ (wrap64 ((rd ((rd_T38 l0_3 x36_2).f1) x49_3) - a0_0)) then (if (wrap64 ((rd ((rd_T38 l0_3 x36_2).f1) x49_3) - a0_0)) < (x9_3.length : Int) then (ahead_follows.l2 k3 l1 a2 t145 (x9_3.set ((wrap64 ((rd ((rd_T38 l0_3 x36_2).f1) x49_3) - a0_0)) : Int).toNat (Go.bits .or .u32 (rd x9_3 (wrap64 ((rd ((rd_T38 l0_3 x36_2).f1) x49_3) - a0_0))) bt158.1)) true l0_3 (l0_3.length : Int) x36_2 ((rd_T38 l0_3 x36_2).f1) (((rd_T38 l0_3 x36_2).f1).length : Int) ji40 a0_0 a0_1 a0_2 l0_3 ((rd_T38 l0_3 x36_2).f0) ((rd_T38 l0_3 x36_2).f1)) else (none)) else (none)) else (if 0 ≤ (wrap64 ((rd ((rd_T38 l0_3 x36_2).f1) x49_3) - a0_0)) then (if (wrap64 ((rd ((rd_T38 l0_3 x36_2).f1) x49_3) - a0_0)) < (x9_3.length : Int) then (ahead_follows.l2 k3 l1 a2 t145 (x9_3.set ((wrap64 ((rd ((rd_T38 l0_3 x36_2).f1) x49_3) - a0_0)) : Int).toNat (Go.bits .or .u32 (rd x9_3 (wrap64 ((rd ((rd_T38 l0_3 x36_2).f1) x49_3) - a0_0))) bt158.1)) ((Go.bits .andNot .u32 bt158.1 (rd x9_3 (wrap64 ((rd ((rd_T38 l0_3 x36_2).f1) x49_3) - a0_0)))) != 0) l0_3 (l0_3.length : Int) x36_2 ((rd_T38 l0_3 x36_2).f1) (((rd_T38 l0_3 x36_2).f1).length : Int) ji40 a0_0 a0_1 a0_2 l0_3 ((rd_T38 l0_3 x36_2).f0) ((rd_T38 l0_3 x36_2).f1)) else (none)) else (none))))) else (none)) else (none)) = some r := by first | (rw [hji40] at H; exact H) | (simp only [hji40] at H ⊢; exact H))
              have hji40w : (IntKind.i64.wrap (x49_3 + 1)) = ji40 := (i64_w _).trans hji40
              by_cases c41 : 0 ≤ (ji40)
              rotate_left
              · rw [if_neg c41] at H
                exact absurd H (by simp)
              (rw [if_pos c41] at H); (have c41b0 := eq_true c41); (have c41b1 : decide (0 ≤ (ji40)) = true := decide_eq_true c41); (clear c41)
              by_cases c42 : (ji40) ≤ (((rd_T38 l0_3 x36_2).f1).length : Int)
              rotate_left
              · rw [if_neg c42] at H
                exact absurd H (by simp)
              (rw [if_pos c42] at H); (have c42b0 := eq_true c42); (have c42b1 : decide ((ji40) ≤ (((rd_T38 l0_3 x36_2).f1).length : Int)) = true := decide_eq_true c42); (clear c42); (obtain ⟨y154, hy154⟩ : ∃ y_ : List Int, y_ = (((rd_T38 l0_3 x36_2).f1).drop ((ji40) : Int).toNat) := ⟨_, rfl⟩); (replace H : ((ahead_begin.f k3 a0_0 a0_1 a0_2 l0_3 l1 a2 y154).bind fun bt158 => (if bt158.2 = true then (if 0 ≤ ((rd_T38 l0_3 x36_2).f0) then (if ((rd_T38 l0_3 x36_2).f0) < (x9_3.length : Int) then (if x10_3 = true then (if 0 ≤ (wrap64 ((rd ((rd_T38 l0_3 x36_2).f1) x49_3) - a0_0)) then (if (wrap64 ((rd ((rd_T38 l0_3 x36_2).f1) x49_3) - a0_0)) < (x9_3.length : Int) then (ahead_follows.l2 k3 l1 a2 t145 (x9_3.set ((wrap64 ((rd ((rd_T38 l0_3 x36_2).f1) x49_3) - a0_0)) : Int).toNat (Go.bits .or .u32 (rd x9_3 (wrap64 ((rd ((rd_T38 l0_3 x36_2).f1) x49_3) - a0_0))) (Go.bits .or .u32 bt158.1 (rd x9_3 ((rd_T38 l0_3 x36_2).f0))))) true l0_3 (l0_3.length : Int) x36_2 ((rd_T38 l0_3 x36_2).f1) (((rd_T38 l0_3 x36_2).f1).length : Int) ji40 a0_0 a0_1 a0_2 l0_3 ((rd_T38 l0_3 x36_2).f0) ((rd_T38 l0_3 x36_2).f1)) else (none)) else (none)) else (if 0 ≤ (wrap64 ((rd ((rd_T38 l0_3 x36_2).f1) x49_3) - a0_0)) then (if (wrap64 ((rd ((rd_T38 l0_3 x36_2).f1) x49_3) - a0_0)) < (x9_3.length : Int) then (ahead_follows.l2 k3 l1 a2 t145 (x9_3.set ((wrap64 ((rd ((rd_T38 l0_3 x36_2).f1) x49_3) - a0_0)) : Int).toNat (Go.bits .or .u32 (rd x9_3 (wrap64 ((rd ((rd_T38 l0_3 x36_2).f1) x49_3) - a0_0))) (Go.bits .or .u32 bt158.1 (rd x9_3 ((rd_T38 l0_3 x36_2).f0))))) ((Go.bits .andNot .u32 (Go.bits .or .u32 bt158.1 (rd x9_3 ((rd_T38 l0_3 x36_2).f0))) (rd x9_3 (wrap64 ((rd ((rd_T38 l0_3 x36_2).f1) x49_3) - a0_0)))) != 0) l0_3 (l0_3.length : Int) x36_2 ((rd_T38 l0_3 x36_2).f1) (((rd_T38 l0_3 x36_2).f1).length : Int) ji40 a0_0 a0_1 a0_2 l0_3 ((rd_T38 l0_3 x36_2).f0) ((rd_T38 l0_3 x36_2).f1)) else (none)) else (none))) else (none)) else (none)) else (if x10_3 = true then (if 0 ≤ (wrap64 ((rd ((rd_T38 l0_3 x36_2).f1) x49_3) - a0_0)) then (if (wrap64 ((rd ((rd_T38 l0_3 x36_2).f1) x49_3) - a0_0)) < (x9_3.length : Int) then (ahead_follows.l2 k3 l1 a2 t145 (x9_3.set ((wrap64 ((rd ((rd_T38 l0_3 x36_2).f1) x49_3) - a0_0)) : Int).toNat (Go.bits .or .u32 (rd x9_3 (wrap64 ((rd ((rd_T38 l0_3 x36_2).f1) x49_3) - a0_0))) bt158.1)) true l0_3 (l0_3.length : Int) x36_2 ((rd_T38 l0_3 x36_2).f1) (((rd_T38 l0_3 x36_2).f1).length : Int) ji40 a0_0 a0_1 a0_2 l0_3 ((rd_T38 l0_3 x36_2).f0) ((rd_T38 l0_3 x36_2).f1)) else (none)) else (none)) else (if 0 ≤ (wrap64 ((rd ((rd_T38 l0_3 x36_2).f1) x49_3) - a0_0)) then (if (wrap64 ((rd ((rd_T38 l0_3 x36_2).f1) x49_3) - a0_0)) < (x9_3.length : Int) then (ahead_follows.l2 k3 l1 a2 t145 (x9_3.set ((wrap64 ((rd ((rd_T38 l0_3 x36_2).f1) x49_3) - a0_0)) : Int).toNat (Go.bits .or .u32 (rd x9_3 (wrap64 ((rd ((rd_T38 l0_3 x36_2).f1) x49_3) - a0_0))) bt158.1)) ((Go.bits .andNot .u32 bt158.1 (rd x9_3 (wrap64 ((rd ((rd_T38 l0_3 x36_2).f1) x49_3) - a0_0)))) != 0) l0_3 (l0_3.length : Int) x36_2 ((rd_T38 l0_3 x36_2).f1) (((rd_T38 l0_3 x36_2).f1).length : Int) ji40 a0_0 a0_1 a0_2 l0_3 ((rd_T38 l0_3 x36_2).f0) ((rd_T38 l0_3 x36_2).f1)) else (none)) else (none))))) = some r := by first | (rw [hy154]; with_reducible exact H) | (have H2_ := (Option.bind_some _ _).symm.trans H; rw [hy154]; with_reducible exact H2_) | (have H2_ := (Option.bind_some _ _).symm.trans H; with_reducible exact H2_) | with_reducible exact H | (rw [hy154]; exact H) | exact H)
              (have Ny154 := Aside0.mk hy154); (clear hy154); (replace H := Option.bind_eq_some_iff.mp H); (obtain ⟨⟨t158, t159⟩, A430, H⟩ := H); (replace H : (if t159 = true then (if 0 ≤ ((rd_T38 l0_3 x36_2).f0) then (if ((rd_T38 l0_3 x36_2).f0) < (x9_3.length : Int) then (if x10_3 = true then (if 0 ≤ (wrap64 ((rd ((rd_T38 l0_3 x36_2).f1) x49_3) - a0_0)) then (if (wrap64 ((rd ((rd_T38 l0_3 x36_2).f1) x49_3) - a0_0)) < (x9_3.length : Int) then (ahead_follows.l2 k3 l1 a2 t145 (x9_3.set ((wrap64 ((rd ((rd_T38 l0_3 x36_2).f1) x49_3) - a0_0)) : Int).toNat (Go.bits .or .u32 (rd x9_3 (wrap64 ((rd ((rd_T38 l0_3 x36_2).f1) x49_3) - a0_0))) (Go.bits .or .u32 t158 (rd x9_3 ((rd_T38 l0_3 x36_2).f0))))) true l0_3 (l0_3.length : Int) x36_2 ((rd_T38 l0_3 x36_2).f1) (((rd_T38 l0_3 x36_2).f1).length : Int) ji40 a0_0 a0_1 a0_2 l0_3 ((rd_T38 l0_3 x36_2).f0) ((rd_T38 l0_3 x36_2).f1)) else (none)) else (none)) else (if 0 ≤ (wrap64 ((rd ((rd_T38 l0_3 x36_2).f1) x49_3) - a0_0)) then (if (wrap64 ((rd ((rd_T38 l0_3 x36_2).f1) x49_3) - a0_0)) < (x9_3.length : Int) then (ahead_follows.l2 k3 l1 a2 t145 (x9_3.set ((wrap64 ((rd ((rd_T38 l0_3 x36_2).f1) x49_3) - a0_0)) : Int).toNat (Go.bits .or .u32 (rd x9_3 (wrap64 ((rd ((rd_T38 l0_3 x36_2).f1) x49_3) - a0_0))) (Go.bits .or .u32 t158 (rd x9_3 ((rd_T38 l0_3 x36_2).f0))))) ((Go.bits .andNot .u32 (Go.bits .or .u32 t158 (rd x9_3 ((rd_T38 l0_3 x36_2).f0))) (rd x9_3 (wrap64 ((rd ((rd_T38 l0_3 x36_2).f1) x49_3) - a0_0)))) != 0) l0_3 (l0_3.length : Int) x36_2 ((rd_T38 l0_3 x36_2).f1) (((rd_T38 l0_3 x36_2).f1).length : Int) ji40 a0_0 a0_1 a0_2 l0_3 ((rd_T38 l0_3 x36_2).f0) ((rd_T38 l0_3 x36_2).f1)) else (none)) else (none))) else (none)) else (none)) else (if x10_3 = true then (if 0 ≤ (wrap64 ((rd ((rd_T38 l0_3 x36_2).f1) x49_3) - a0_0)) then (if (wrap64 ((rd ((rd_T38 l0_3 x36_2).f1) x49_3) - a0_0)) < (x9_3.length : Int) then (ahead_follows.l2 k3 l1 a2 t145 (x9_3.set ((wrap64 ((rd ((rd_T38 l0_3 x36_2).f1) x49_3) - a0_0)) : Int).toNat (Go.bits .or .u32 (rd x9_3 (wrap64 ((rd ((rd_T38 l0_3 x36_2).f1) x49_3) - a0_0))) t158)) true l0_3 (l0_3.length : Int) x36_2 ((rd_T38 l0_3 x36_2).f1) (((rd_T38 l0_3 x36_2).f1).length : Int) ji40 a0_0 a0_1 a0_2 l0_3 ((rd_T38 l0_3 x36_2).f0) ((rd_T38 l0_3 x36_2).f1)) else (none)) else (none)) else (if 0 ≤ (wrap64 ((rd ((rd_T38 l0_3 x36_2).f1) x49_3) - a0_0)) then (if (wrap64 ((rd ((rd_T38 l0_3 x36_2).f1) x49_3) - a0_0)) < (x9_3.length : Int) then (ahead_follows.l2 k3 l1 a2 t145 (x9_3.set ((wrap64 ((rd ((rd_T38 l0_3 x36_2).f1) x49_3) - a0_0)) : Int).toNat (Go.bits .or .u32 (rd x9_3 (wrap64 ((rd ((rd_T38 l0_3 x36_2).f1) x49_3) - a0_0))) t158)) ((Go.bits .andNot .u32 t158 (rd x9_3 (wrap64 ((rd ((rd_T38 l0_3 x36_2).f1) x49_3) - a0_0)))) != 0) l0_3 (l0_3.length : Int) x36_2 ((rd_T38 l0_3 x36_2).f1) (((rd_T38 l0_3 x36_2).f1).length : Int) ji40 a0_0 a0_1 a0_2 l0_3 ((rd_T38 l0_3 x36_2).f0) ((rd_T38 l0_3 x36_2).f1)) else (none)) else (none)))) = some r := H)
              (have A43 := Aside0.mk A430); (clear A430)
              by_cases c44 : t159 = true
              rotate_left
              · replace c44 := Bool.eq_false_iff.mpr c44
                (subst c44); (have H1 : (if x10_3 = true then (if 0 ≤ (wrap64 ((rd ((rd_T38 l0_3 x36_2).f1) x49_3) - a0_0)) then (if (wrap64 ((rd ((rd_T38 l0_3 x36_2).f1) x49_3) - a0_0)) < (x9_3.length : Int) then (ahead_follows.l2 k3 l1 a2 t145 (x9_3.set ((wrap64 ((rd ((rd_T38 l0_3 x36_2).f1) x49_3) - a0_0)) : Int).toNat (Go.bits .or .u32 (rd x9_3 (wrap64 ((rd ((rd_T38 l0_3 x36_2).f1) x49_3) - a0_0))) t158)) true l0_3 (l0_3.length : Int) x36_2 ((rd_T38 l0_3 x36_2).f1) (((rd_T38 l0_3 x36_2).f1).length : Int) ji40 a0_0 a0_1 a0_2 l0_3 ((rd_T38 l0_3 x36_2).f0) ((rd_T38 l0_3 x36_2).f1)) else (none)) else (none)) else (if 0 ≤ (wrap64 ((rd ((rd_T38 l0_3 x36_2).f1) x49_3) - a0_0)) then (if (wrap64 ((rd ((rd_T38 l0_3 x36_2).f1) x49_3) - a0_0)) < (x9_3.length : Int) then (ahead_follows.l2 k3 l1 a2 t145 (x9_3.set ((wrap64 ((rd ((rd_T38 l0_3 x36_2).f1) x49_3) - a0_0)) : Int).toNat (Go.bits .or .u32 (rd x9_3 (wrap64 ((rd ((rd_T38 l0_3 x36_2).f1) x49_3) - a0_0))) t158)) ((Go.bits .andNot .u32 t158 (rd x9_3 (wrap64 ((rd ((rd_T38 l0_3 x36_2).f1) x49_3) - a0_0)))) != 0) l0_3 (l0_3.length : Int) x36_2 ((rd_T38 l0_3 x36_2).f1) (((rd_T38 l0_3 x36_2).f1).length : Int) ji40 a0_0 a0_1 a0_2 l0_3 ((rd_T38 l0_3 x36_2).f0) ((rd_T38 l0_3 x36_2).f1)) else (none)) else (none))) = some r := by rw [if_neg (show ¬ (false = true) by decide)] at H; exact H); (clear H); (have H := H1); (clear H1)
                by_cases c74 : x10_3 = true
                · subst c74
                  (have H1 : (if 0 ≤ (wrap64 ((rd ((rd_T38 l0_3 x36_2).f1) x49_3) - a0_0)) then (if (wrap64 ((rd ((rd_T38 l0_3 x36_2).f1) x49_3) - a0_0)) < (x9_3.length : Int) then (ahead_follows.l2 k3 l1 a2 t145 (x9_3.set ((wrap64 ((rd ((rd_T38 l0_3 x36_2).f1) x49_3) - a0_0)) : Int).toNat (Go.bits .or .u32 (rd x9_3 (wrap64 ((rd ((rd_T38 l0_3 x36_2).f1) x49_3) - a0_0))) t158)) true l0_3 (l0_3.length : Int) x36_2 ((rd_T38 l0_3 x36_2).f1) (((rd_T38 l0_3 x36_2).f1).length : Int) ji40 a0_0 a0_1 a0_2 l0_3 ((rd_T38 l0_3 x36_2).f0) ((rd_T38 l0_3 x36_2).f1)) else (none)) else (none)) = some r := by rw [if_pos rfl] at H; exact H); (clear H); (have H := H1); (clear H1); (obtain ⟨ji75, hji75⟩ : ∃ j_ : Int, (wrap64 ((rd ((rd_T38 l0_3 x36_2).f1) x49_3) - a0_0)) = j_ := ⟨_, rfl⟩); (replace H : (if 0 ≤ (ji75) then (if (ji75) < (x9_3.length : Int) then (ahead_follows.l2 k3 l1 a2 t145 (x9_3.set ((ji75) : Int).toNat (Go.bits .or .u32 (rd x9_3 (ji75)) t158)) true l0_3 (l0_3.length : Int) x36_2 ((rd_T38 l0_3 x36_2).f1) (((rd_T38 l0_3 x36_2).f1).length : Int) ji40 a0_0 a0_1 a0_2 l0_3 ((rd_T38 l0_3 x36_2).f0) ((rd_T38 l0_3 x36_2).f1)) else (none)) else (none)) = some r := by first | (rw [hji75] at H; exact H) | (simp only [hji75] at H ⊢; exact H)); ((try rw [hji75] at A43)); (have hji75w : (IntKind.i64.wrap ((rd ((rd_T38 l0_3 x36_2).f1) x49_3) - a0_0)) = ji75 := (i64_w _).trans hji75)
                  by_cases c76 : 0 ≤ (ji75)
                  rotate_left
                  · rw [if_neg c76] at H
                    exact absurd H (by simp)
                  (rw [if_pos c76] at H); (have c76b0 : decide (0 ≤ (ji75)) = true := decide_eq_true c76); (clear c76)
                  by_cases c77 : (ji75) < (x9_3.length : Int)
                  rotate_left
                  · rw [if_neg c77] at H
                    exact absurd H (by simp)
                  (rw [if_pos c77] at H); (have c77b0 : decide ((ji75) < (x9_3.length : Int)) = true := decide_eq_true c77); ((try (have c77b0h := c77b0; simp only [hl9_1, hl9_2, hl9_3] at c77b0h))); (clear c77); (obtain ⟨y167, hy167⟩ : ∃ y_ : List Int, y_ = (x9_3.set ((ji75) : Int).toNat (Go.bits .or .u32 (rd x9_3 (ji75)) t158)) := ⟨_, rfl⟩); (replace H : (ahead_follows.l2 k3 l1 a2 t145 y167 true l0_3 (l0_3.length : Int) x36_2 ((rd_T38 l0_3 x36_2).f1) (((rd_T38 l0_3 x36_2).f1).length : Int) ji40 a0_0 a0_1 a0_2 l0_3 ((rd_T38 l0_3 x36_2).f0) ((rd_T38 l0_3 x36_2).f1)) = some r := by first | (rw [hy167]; with_reducible exact H) | (have H2_ := (Option.bind_some _ _).symm.trans H; rw [hy167]; with_reducible exact H2_) | (have H2_ := (Option.bind_some _ _).symm.trans H; with_reducible exact H2_) | with_reducible exact H | (rw [hy167]; exact H) | exact H); (have Ny167 := Aside0.mk hy167); (clear hy167); (have H' := Aside0.mk H); (clear H); (have p153 : 0 ≤ (x49_3 : Int) := of_decide_eq_true (by assumption)); (have q153 : x49_3 < (((rd_T38 l0_3 x36_2).f1).length : Int) := of_decide_eq_true (by assumption)); (obtain ⟨ad153, e153, hx153_0⟩ := Kd.at_int HR151_1.out x49_3 p153 q153); (cases e153); (replace hx153_0 := (HB.out.cell (World.block_lt_of_cell? w _ hx153_0)).trans hx153_0); (replace p153 := eq_true p153); (replace q153 := eq_true q153); (have hnb79 := NB144_152.out); (have hnc79 := NB152_144.out); (have hcz80_0 : wr.cell? ⟨gb144, 0, none⟩ = some (.int .i64 a0_0) := (blk_cell BK144.out 0).trans rfl); (have hcz80_1 : wr.cell? ⟨gb144, 1, none⟩ = some (.int .i64 a0_1) := (blk_cell BK144.out 1).trans rfl)
                  (have hcz80_2 : wr.cell? ⟨gb144, 2, none⟩ = some (.int .i64 a0_2) := (blk_cell BK144.out 2).trans rfl); (have hcz80_3 : wr.cell? ⟨gb144, 3, none⟩ = some (.slice (some ad151) l0_3.length c0_3) := (blk_cell BK144.out 3).trans rfl); (have hfz80_0 := blk_frozen BK144.out 0); (have hfz80_1 := blk_frozen BK144.out 1); (have hfz80_2 := blk_frozen BK144.out 2); (have hfz80_3 := blk_frozen BK144.out 3)
                  try go_wp2
                  (have n0_ := Aside0.mk (Kd.R_drew HO_9.out)); (have n1_ := Aside0.mk (blk_drew BK144.out)); (have n2_ := Aside0.mk (blk_drew BK152.out)); (have n3_ := Aside0.mk (below_drew1 HB.out)); (clear HO_9); (clear BK144); (clear BK152); (clear HB); (have HO_9 := n0_); (have BK144 := n1_); (have BK152 := n2_); (have HB := n3_); (clear n0_ n1_ n2_ n3_); (have q82 : ((ji40) : Int) ≤ ((((rd_T38 l0_3 x36_2).f1).length : Int) : Int) := of_decide_eq_true (by assumption)); (obtain ⟨i082, hi082, _, hsz82, _⟩ := info_parts info3); (have hroom82 : ((rd_T38 l0_3 x36_2).f1).length ≤ c151_1 := HC151_1.out); (have hC82 : Kd.C (Kd.int .i64) _ (some ad153) ((rd_T38 l0_3 x36_2).f1).length ((rd_T38 l0_3 x36_2).f1) := HR151_1.out); (have q082 : (0 : Int) ≤ ((ji40) : Int) := of_decide_eq_true (by assumption)); (have hcut82 := cut_from (P := Try.prog) 33 3 .i64 Try.underlying33 hi082 1 hsz82 (some ad153) ((rd_T38 l0_3 x36_2).f1).length c151_1 (ji40) q082 q82); (have hr82 := Kd.C_drop (m := ((ji40) : Int).toNat) (c := c151_1) hC82 (by omega) hroom82); (obtain ⟨A82, hA82⟩ : ∃ Aq_, Aq_ = (if c151_1 = ((ji40) : Int).toNat then (some ad153) else ((some ad153) : Option Addr).map (·.add (((ji40) : Int).toNat * 1))) := ⟨_, rfl⟩); (obtain ⟨c82, hc82⟩ : ∃ cq_, cq_ = c151_1 - ((ji40) : Int).toNat := ⟨_, rfl⟩); (have hy82 : y154.length = ((rd_T38 l0_3 x36_2).f1).length - ((ji40) : Int).toNat := (by rw [Ny154.out, List.length_drop] <;> omega)); (rw [show (((rd_T38 l0_3 x36_2).f1)).drop ((ji40) : Int).toNat = y154 from Ny154.out.symm] at hr82); (replace hr82 : Kd.C (Kd.int .i64) _ A82 y154.length y154 := (by rw [hA82]; exact hr82))
                  (rw [← hy82, ← hA82, ← hc82] at hcut82); (have HR157 := Aside0.mk hr82); (have HC157 := Aside0.mk (show y154.length ≤ c82 from by rw [hy82, hc82]; exact Nat.sub_le_sub_right hroom82 _)); (clear hr82 hC82 hroom82 hi082 hsz82 hc82); (have KY82 := Aside0.mk hy82); (have KA82 := Aside0.mk hA82); (clear hy82 hA82); (replace q82 := eq_true q82)
                  refine start_ (n := 14) (S := fun w' => w'.cell? ⟨gb144, 0, none⟩ = some (.int .i64 a0_0) ∧ w'.cell? ⟨gb144, 1, none⟩ = some (.int .i64 a0_1) ∧ w'.cell? ⟨gb144, 2, none⟩ = some (.int .i64 a0_2) ∧ w'.cell? ⟨gb144, 3, none⟩ = some (.slice (some ad151) l0_3.length c0_3) ∧ w'.cell? ⟨gb152, 0, none⟩ = some (.int .i64 ((rd_T38 l0_3 x36_2).f0)) ∧ w'.cell? ⟨gb152, 1, none⟩ = some (.slice (some ad153) ((rd_T38 l0_3 x36_2).f1).length c151_1)) (ds := []) #[false, false, false, false, false, false, false, false, false, false, false, false, false, false] (by kernel_rfl) rfl rfl ⟨(blk_cell BK144.out 0).trans rfl, (blk_cell BK144.out 1).trans rfl, (blk_cell BK144.out 2).trans rfl, (blk_cell BK144.out 3).trans rfl, (blk_cell BK152.out 0).trans rfl, (blk_cell BK152.out 1).trans rfl⟩ (fun hHeld => ?_); refine with_tabW ahead_follows.tab15 ahead_follows.bits15 (fun HT_ HW_ => ?_)
                  generalize wr.drew = w81 at HO_9 BK144 BK152 HB HR157 hHeld ⊢
                  refine pure_ (i := 1) (N := some 60) (v := ?_) (a' := ?_) #[false, true, false, false, false, false, false, false, false, false, false, false, false, false] rfl rfl (any_of HT_.out (by kernel_rfl)) (fun _ _ _ h => h) (Or.inl ⟨by rfl, ?_⟩) ?_ ?_
                  rotate_left
                  · intro w'
                    go_simp
                    with_reducible rfl
                  rotate_left
                  · simp only [Act.put, List.setIfInBounds_toArray, List.set_cons_zero, List.set_cons_succ, i64_w, i32_w]
                    rfl
                  refine pure_ (i := 2) (N := some 61) (v := ?_) (a' := ?_) #[false, true, true, false, false, false, false, false, false, false, false, false, false, false] rfl rfl (any_of HT_.out (by kernel_rfl)) (fun _ _ _ h => h) (Or.inl ⟨by rfl, ?_⟩) ?_ ?_
                  rotate_left
                  · intro w'
                    go_simp
                    with_reducible rfl
                  rotate_left
                  · simp only [Act.put, List.setIfInBounds_toArray, List.set_cons_zero, List.set_cons_succ, i64_w, i32_w]
                    rfl
                  refine pure_ (i := 3) (N := some 62) (v := ?_) (a' := ?_) #[false, true, true, true, false, false, false, false, false, false, false, false, false, false] rfl rfl (any_of HT_.out (by kernel_rfl)) (fun _ _ _ h => h) (Or.inl ⟨by rfl, ?_⟩) ?_ ?_
                  rotate_left
                  · intro w'
                    go_simp
                    with_reducible rfl
                  rotate_left
                  · simp only [Act.put, List.setIfInBounds_toArray, List.set_cons_zero, List.set_cons_succ, i64_w, i32_w]
                    rfl
                  refine pure_ (i := 5) (N := some 64) (v := ?_) (a' := ?_) #[false, true, true, true, false, true, false, false, false, false, false, false, false, false] rfl rfl (any_of HT_.out (by kernel_rfl)) (fun _ _ _ h => h) (Or.inl ⟨by rfl, ?_⟩) ?_ ?_
                  rotate_left
                  · intro w'
                    go_simp
                    with_reducible rfl
                  rotate_left
                  · simp only [Act.put, List.setIfInBounds_toArray, List.set_cons_zero, List.set_cons_succ, i64_w, i32_w]
                    rfl
                  refine pure_ (i := 6) (N := some 65) (v := ?_) (a' := ?_) #[false, true, true, true, false, true, true, false, false, false, false, false, false, false] rfl rfl (any_of HT_.out (by kernel_rfl)) (fun _ _ _ h => h) (Or.inl ⟨by rfl, ?_⟩) ?_ ?_
                  rotate_left
                  · intro w'
                    go_simp
                    with_reducible rfl
                  rotate_left
                  · simp only [Act.put, List.setIfInBounds_toArray, List.set_cons_zero, List.set_cons_succ, i64_w, i32_w]
                    rfl
                  refine take_ (i := 0) (N := some 59) (v := ?_) (a' := ?_) #[true, true, true, true, false, true, true, false, false, false, false, false, false, false] rfl rfl (take_ofW HT_.out HW_.out (by kernel_rfl)) (fun _ _ _ h => h) (Or.inl ⟨by rfl, ?_⟩) hHeld ?_ ?_
                  rotate_left
                  · rintro w' ⟨s0, s1, s2, s3, s4, s5⟩
                    go_simp
                    with_reducible rfl
                  rotate_left
                  · simp only [Act.put, List.setIfInBounds_toArray, List.set_cons_zero, List.set_cons_succ, i64_w, i32_w]
                    rfl
                  refine take_ (i := 4) (N := some 63) (v := ?_) (a' := ?_) #[true, true, true, true, true, true, true, false, false, false, false, false, false, false] rfl rfl (take_ofW HT_.out HW_.out (by kernel_rfl)) (fun _ _ _ h => h) (Or.inl ⟨by rfl, ?_⟩) hHeld ?_ ?_
                  rotate_left
                  · rintro w' ⟨s0, s1, s2, s3, s4, s5⟩
                    go_simp
                    with_reducible rfl
                  rotate_left
                  · simp only [Act.put, List.setIfInBounds_toArray, List.set_cons_zero, List.set_cons_succ, i64_w, i32_w]
                    rfl
                  refine pure_ (i := 7) (N := some 66) (v := ?_) (a' := ?_) #[true, true, true, true, true, true, true, true, false, false, false, false, false, false] rfl rfl (any_of HT_.out (by kernel_rfl)) (fun _ _ _ h => h) (Or.inl ⟨by rfl, ?_⟩) ?_ ?_
                  rotate_left
                  · intro w'
                    go_simp
                    with_reducible rfl
                  rotate_left
                  · simp only [Act.put, List.setIfInBounds_toArray, List.set_cons_zero, List.set_cons_succ, i64_w, i32_w]
                    rfl
                  refine one_ (i := 8) (N := some 67) #[true, true, true, true, true, true, true, true, true, false, false, false, false, false] rfl rfl (one_of HT_.out (by kernel_rfl)) (by decide) (fun K hK => ?_)
                  refine goes_ Try.func77 (by kernel_rfl) rfl #[.agg #[.int .i64 a0_0, .int .i64 a0_1, .int .i64 a0_2, .slice (some ad151) l0_3.length c0_3], .slice A1 l1.length c1, .int .u32 a2, .slice A82 y154.length c82] (by rfl) rfl rfl (by (try simp only [List.map_toArray, List.map_cons, List.map_nil]); first | done | rfl | (simp only [List.length_drop, List.length_take]; rfl)) ?_
                  with_reducible refine (ahead_begin.calls k3 a0_0 a0_1 a0_2 _ _ l0_3 _ _ l1 a2 _ _ y154 t158 false _ ?side1 ?side2 ?side3 ?side4 ?side5 ?side6 A43.out).mono ?_
                  (case side1 => repeat (first | exact (Kd.C_below HR0_3.out HB.out) | (with_reducible refine Kd.C_alloc ?_ _) | (with_reducible refine Kd.C_drewN ?_ _) | (with_reducible refine Kd.C_drew ?_)))
                  (case side2 => exact HC0_3.out)
                  (case side3 => repeat (first | exact (Kd.C_below HR1.out HB.out) | (with_reducible refine Kd.C_alloc ?_ _) | (with_reducible refine Kd.C_drewN ?_ _) | (with_reducible refine Kd.C_drew ?_)))
                  (case side4 => exact HC1.out)
                  (case side5 => repeat (first | exact (Kd.C_below HR157.out HB.out) | (with_reducible refine Kd.C_alloc ?_ _) | (with_reducible refine Kd.C_drewN ?_ _) | (with_reducible refine Kd.C_drew ?_)))
                  (case side6 => exact HC157.out)
                  rintro e w83 ⟨rfl, hb⟩
                  refine ⟨_, rfl, ?_⟩
                  (have n0_ := Aside0.mk (Kd.R_below (by (with_reducible repeat (first | apply Kd.R_alloc | apply Kd.R_drewN | apply Kd.R_drew)); exact HO_9.out) hb)); (have n1_ := Aside0.mk (blk_below (g := gb144) (o := .cells #[.int .i64 a0_0, .int .i64 a0_1, .int .i64 a0_2, .slice (some ad151) l0_3.length c0_3] 24 (0, 0)) (by (with_reducible repeat (first | refine blk_drewN ?_ _ | refine blk_drew ?_ | refine blk_alloc ?_ _)); exact BK144.out) hb)); (have n2_ := Aside0.mk (blk_below (g := gb152) (o := .cells #[.int .i64 ((rd_T38 l0_3 x36_2).f0), .slice (some ad153) ((rd_T38 l0_3 x36_2).f1).length c151_1] 38 (0, 0)) (by (with_reducible repeat (first | refine blk_drewN ?_ _ | refine blk_drew ?_ | refine blk_alloc ?_ _)); exact BK152.out) hb)); (have n3_ := Aside0.mk (below_step (by repeat (first | (with_reducible first | exact HB.out | apply below_alloc | apply pw_below_drewN | apply below_drew1 | refine below_set ?_ GE144.out | refine below_set ?_ GE152.out) | exact HB.out)) hb)); (clear HO_9); (clear BK144); (clear BK152); (clear HB); (have HO_9 := n0_); (have BK144 := n1_); (have BK152 := n2_); (have HB := n3_); (clear n0_ n1_ n2_ n3_); ((try clear hb)); ((try clear hb2)); ((try clear hk)); ((try clear hi))
                  refine hK.out _ _ ⟨(blk_cell BK144.out 0).trans rfl, (blk_cell BK144.out 1).trans rfl, (blk_cell BK144.out 2).trans rfl, (blk_cell BK144.out 3).trans rfl, (blk_cell BK152.out 0).trans rfl, (blk_cell BK152.out 1).trans rfl⟩ (fun hHeld => ?_)
                  clear hK K
                  refine norm_ (a' := ?_) ?_ ?_
                  rotate_left
                  · show Act.put _ (some 67) _ = _
                    simp only [Act.put, List.setIfInBounds_toArray, List.set_cons_zero, List.set_cons_succ, i64_w, i32_w]
                    rfl
                  refine pure_ (i := 9) (N := some 58) (v := ?_) (a' := ?_) #[true, true, true, true, true, true, true, true, true, true, false, false, false, false] rfl rfl (any_of HT_.out (by kernel_rfl)) (fun _ _ _ h => h) (Or.inl ⟨by rfl, ?_⟩) ?_ ?_
                  rotate_left
                  · intro w'
                    go_simp
                    with_reducible rfl
                  rotate_left
                  · simp only [Act.put, List.setIfInBounds_toArray, List.set_cons_zero, List.set_cons_succ, i64_w, i32_w]
                    rfl
                  refine pure_ (i := 10) (N := some 68) (v := ?_) (a' := ?_) #[true, true, true, true, true, true, true, true, true, true, true, false, false, false] rfl rfl (any_of HT_.out (by kernel_rfl)) (fun _ _ _ h => h) (Or.inl ⟨by rfl, ?_⟩) ?_ ?_
                  rotate_left
                  · intro w'
                    go_simp
                    with_reducible rfl
                  rotate_left
                  · simp only [Act.put, List.setIfInBounds_toArray, List.set_cons_zero, List.set_cons_succ, i64_w, i32_w]
                    rfl
                  refine pure_ (i := 11) (N := some 69) (v := ?_) (a' := ?_) #[true, true, true, true, true, true, true, true, true, true, true, true, false, false] rfl rfl (any_of HT_.out (by kernel_rfl)) (fun _ _ _ h => h) (Or.inl ⟨by rfl, ?_⟩) ?_ ?_
                  rotate_left
                  · intro w'
                    go_simp
                    with_reducible rfl
                  rotate_left
                  · simp only [Act.put, List.setIfInBounds_toArray, List.set_cons_zero, List.set_cons_succ, i64_w, i32_w]
                    rfl
                  refine pure_ (i := 12) (N := some 15) (v := ?_) (a' := ?_) #[true, true, true, true, true, true, true, true, true, true, true, true, true, false] rfl rfl (any_of HT_.out (by kernel_rfl)) (fun _ _ _ h => h) (Or.inl ⟨by rfl, ?_⟩) ?_ ?_
                  rotate_left
                  · intro w'
                    go_simp
                    with_reducible rfl
                  rotate_left
                  · simp only [Act.put, List.setIfInBounds_toArray, List.set_cons_zero, List.set_cons_succ, i64_w, i32_w]
                    rfl
                  refine pure_ (i := 13) (N := some 16) (v := ?_) (a' := ?_) #[true, true, true, true, true, true, true, true, true, true, true, true, true, true] rfl rfl (any_of HT_.out (by kernel_rfl)) (fun _ _ _ h => h) (Or.inl ⟨by rfl, ?_⟩) ?_ ?_
                  rotate_left
                  · intro w'
                    go_simp
                    with_reducible rfl
                  rotate_left
                  · simp only [Act.put, List.setIfInBounds_toArray, List.set_cons_zero, List.set_cons_succ, i64_w, i32_w]
                    rfl
                  refine done_ (done_of HT_.out (by kernel_rfl)) ?_
                  (have hcz84_0 : w83.cell? ⟨gb144, 0, none⟩ = some (.int .i64 a0_0) := (blk_cell BK144.out 0).trans rfl); (have hcz84_1 : w83.cell? ⟨gb144, 1, none⟩ = some (.int .i64 a0_1) := (blk_cell BK144.out 1).trans rfl); (have hcz84_2 : w83.cell? ⟨gb144, 2, none⟩ = some (.int .i64 a0_2) := (blk_cell BK144.out 2).trans rfl); (have hcz84_3 : w83.cell? ⟨gb144, 3, none⟩ = some (.slice (some ad151) l0_3.length c0_3) := (blk_cell BK144.out 3).trans rfl); (have hfz84_0 := blk_frozen BK144.out 0); (have hfz84_1 := blk_frozen BK144.out 1); (have hfz84_2 := blk_frozen BK144.out 2); (have hfz84_3 := blk_frozen BK144.out 3); (have p166 : 0 ≤ ((ji75) : Int) := of_decide_eq_true (by assumption)); (have q166 : (ji75) < (x9_3.length : Int) := of_decide_eq_true (by assumption)); (obtain ⟨ad166, e166, hx166_0⟩ := Kd.at_int (Kd.R_reads' HO_9.out).2.2 (ji75) p166 q166); (obtain rfl : (⟨go11, 0, none⟩ : Addr) = ad166 := (by injection e166))
                  (first | simp only [add_plain] at hx166_0 | simp only [add_at] at hx166_0 | simp only [Addr.add, Nat.zero_add] at hx166_0 | skip)
                  (replace p166 := eq_true p166); (replace q166 := eq_true q166); (have p78 : 0 ≤ ((ji75) : Int) := of_decide_eq_true (by assumption)); (have q78 : ((ji75) : Int) < ((x9_3.length : Int) : Int) := of_decide_eq_true (by assumption)); (obtain ⟨hx78_0, hf78_0⟩ := Kd.R_celln 0 HO_9.out ((ji75) : Int) p78 q78); (replace p78 := eq_true p78); (replace q78 := eq_true q78); (obtain ⟨hy85_, hz85_⟩ := Kd.R_celln 0 HO_9.out ((ji75) : Int) (of_decide_eq_true (by assumption)) (of_decide_eq_true (by assumption))); (have HP85 := Kd.R_putg HO_9.out ((ji75) : Int) (Go.bits .or .u32 (rd x9_3 (ji75)) t158))
                  try go_wp2_with (first | ((with_reducible refine gate_store (t := 28) (p := 100) rfl ?_); refine store_event (t := 28) (p := 100) (v := ?vo_w86) (w1 := (w83.setCell ⟨go11, ((ji75) : Int).toNat, none⟩ (.int .u32 (Go.bits .or .u32 (rd x9_3 (ji75)) t158)))) ?hg ?ho ?hn ?hr ?_; (case ho => rfl); (case hg => rfl); (case hn => rfl); (case hr => first | (go_simp; done) | (go_simp; rfl)); intro w86 hw; have hg : w83.grownBy w86 (some go11) := (by rw [hw]; exact HP85.2); have hp_ : Kd.R (Kd.int .u32) 28 w86 w.heap.size (fun _ => True) (.slice (some ⟨go11, 0, none⟩) x9_3.length co11) y167 := (by rw [hw, Ny167.out]; exact HP85.1); clear HP85; have n0_ := Aside0.mk (hp_); have n1_ := Aside0.mk (blk_grown (g := gb144) (o := .cells #[.int .i64 a0_0, .int .i64 a0_1, .int .i64 a0_2, .slice (some ad151) l0_3.length c0_3] 24 (0, 0)) (by (with_reducible repeat (first | refine blk_drewN ?_ _ | refine blk_drew ?_ | refine blk_alloc ?_ _)); exact BK144.out) hg (Kd.R_ne HO_9.out BK144.out (by decide))); have n2_ := Aside0.mk (blk_grown (g := gb152) (o := .cells #[.int .i64 ((rd_T38 l0_3 x36_2).f0), .slice (some ad153) ((rd_T38 l0_3 x36_2).f1).length c151_1] 38 (0, 0)) (by (with_reducible repeat (first | refine blk_drewN ?_ _ | refine blk_drew ?_ | refine blk_alloc ?_ _)); exact BK152.out) hg (Kd.R_ne HO_9.out BK152.out (by decide))); have n3_ := Aside0.mk ((by rw [hw]; exact below_set (HB.out) GB11.out : Below w.heap.size w w86)); clear HO_9; clear BK144; clear BK152; clear HB; have HO_9 := n0_; have BK144 := n1_; have BK152 := n2_; have HB := n3_; clear n0_ n1_ n2_ n3_; clear hg hw hp_))
                  (try simp only [← hl9_3])
                  (first | go_roundg k3 | (simp only [← hji75]; go_roundg k3) | (simp only [← hji40, ← hji75]; go_roundg k3) | (simp only [← hji26, ← hji40, ← hji75]; go_roundg k3) | (simp only [← hji8, ← hji26, ← hji40, ← hji75]; go_roundg k3))
                  case measure => have := HK1.out; have := HK2.out; have := HK3.out; omega
                  case rel => exact ⟨(y167), (true), (ji40), (by first | rfl | (simp; done) | (simp [*]; done)), (by first | rfl | (simp; done) | (simp only [← hji40] <;> (first | rfl | simp)) | (simp [*]; done)), H', ⟨by have := HK1.out; have := HK2.out; have := HK3.out; omega⟩, ⟨by (try simp only [hl9_1]); (try simp only [hl9_2]); (try simp only [hl9_3]); (with_reducible repeat (first | apply Kd.R_alloc | apply Kd.R_drewN | apply Kd.R_drew)); exact HO_9.out⟩, ⟨by (try simp only [hl9_1]); (try simp only [hl9_2]); (try simp only [hl9_3]); (with_reducible repeat (first | refine blk_drewN ?_ _ | refine blk_drew ?_ | refine blk_alloc ?_ _)); exact BK144.out⟩, ⟨by (try simp only [hl9_1]); (try simp only [hl9_2]); (try simp only [hl9_3]); (with_reducible repeat (first | refine blk_drewN ?_ _ | refine blk_drew ?_ | refine blk_alloc ?_ _)); exact BK152.out⟩, ⟨by repeat (first | (with_reducible first | exact HB.out | apply below_alloc | apply pw_below_drewN | apply below_drew1 | refine below_set ?_ GE144.out | refine below_set ?_ GE152.out) | exact HB.out)⟩⟩
                (replace c74 := Bool.eq_false_iff.mpr c74); (subst c74); (have H1 : (if 0 ≤ (wrap64 ((rd ((rd_T38 l0_3 x36_2).f1) x49_3) - a0_0)) then (if (wrap64 ((rd ((rd_T38 l0_3 x36_2).f1) x49_3) - a0_0)) < (x9_3.length : Int) then (ahead_follows.l2 k3 l1 a2 t145 (x9_3.set ((wrap64 ((rd ((rd_T38 l0_3 x36_2).f1) x49_3) - a0_0)) : Int).toNat (Go.bits .or .u32 (rd x9_3 (wrap64 ((rd ((rd_T38 l0_3 x36_2).f1) x49_3) - a0_0))) t158)) ((Go.bits .andNot .u32 t158 (rd x9_3 (wrap64 ((rd ((rd_T38 l0_3 x36_2).f1) x49_3) - a0_0)))) != 0) l0_3 (l0_3.length : Int) x36_2 ((rd_T38 l0_3 x36_2).f1) (((rd_T38 l0_3 x36_2).f1).length : Int) ji40 a0_0 a0_1 a0_2 l0_3 ((rd_T38 l0_3 x36_2).f0) ((rd_T38 l0_3 x36_2).f1)) else (none)) else (none)) = some r := by rw [if_neg (show ¬ (false = true) by decide)] at H; exact H); (clear H); (have H := H1); (clear H1); (obtain ⟨ji87, hji87⟩ : ∃ j_ : Int, (wrap64 ((rd ((rd_T38 l0_3 x36_2).f1) x49_3) - a0_0)) = j_ := ⟨_, rfl⟩); (replace H : (if 0 ≤ (ji87) then (if (ji87) < (x9_3.length : Int) then (ahead_follows.l2 k3 l1 a2 t145 (x9_3.set ((ji87) : Int).toNat (Go.bits .or .u32 (rd x9_3 (ji87)) t158)) ((Go.bits .andNot .u32 t158 (rd x9_3 (ji87))) != 0) l0_3 (l0_3.length : Int) x36_2 ((rd_T38 l0_3 x36_2).f1) (((rd_T38 l0_3 x36_2).f1).length : Int) ji40 a0_0 a0_1 a0_2 l0_3 ((rd_T38 l0_3 x36_2).f0) ((rd_T38 l0_3 x36_2).f1)) else (none)) else (none)) = some r := by first | (rw [hji87] at H; exact H) | (simp only [hji87] at H ⊢; exact H)); ((try rw [hji87] at A43)); (have hji87w : (IntKind.i64.wrap ((rd ((rd_T38 l0_3 x36_2).f1) x49_3) - a0_0)) = ji87 := (i64_w _).trans hji87)
                by_cases c88 : 0 ≤ (ji87)
                rotate_left
                · rw [if_neg c88] at H
                  exact absurd H (by simp)
                (rw [if_pos c88] at H); (have c88b0 : decide (0 ≤ (ji87)) = true := decide_eq_true c88); (clear c88)
                by_cases c89 : (ji87) < (x9_3.length : Int)
                rotate_left
                · rw [if_neg c89] at H
                  exact absurd H (by simp)
                (rw [if_pos c89] at H); (have c89b0 : decide ((ji87) < (x9_3.length : Int)) = true := decide_eq_true c89); ((try (have c89b0h := c89b0; simp only [hl9_1, hl9_2, hl9_3] at c89b0h))); (clear c89); (obtain ⟨y170, hy170⟩ : ∃ y_ : List Int, y_ = (x9_3.set ((ji87) : Int).toNat (Go.bits .or .u32 (rd x9_3 (ji87)) t158)) := ⟨_, rfl⟩); (replace H : (ahead_follows.l2 k3 l1 a2 t145 y170 ((Go.bits .andNot .u32 t158 (rd x9_3 (ji87))) != 0) l0_3 (l0_3.length : Int) x36_2 ((rd_T38 l0_3 x36_2).f1) (((rd_T38 l0_3 x36_2).f1).length : Int) ji40 a0_0 a0_1 a0_2 l0_3 ((rd_T38 l0_3 x36_2).f0) ((rd_T38 l0_3 x36_2).f1)) = some r := by first | (rw [hy170]; with_reducible exact H) | (have H2_ := (Option.bind_some _ _).symm.trans H; rw [hy170]; with_reducible exact H2_) | (have H2_ := (Option.bind_some _ _).symm.trans H; with_reducible exact H2_) | with_reducible exact H | (rw [hy170]; exact H) | exact H); (have Ny170 := Aside0.mk hy170); (clear hy170); (have H' := Aside0.mk H); (clear H); (have p153 : 0 ≤ (x49_3 : Int) := of_decide_eq_true (by assumption)); (have q153 : x49_3 < (((rd_T38 l0_3 x36_2).f1).length : Int) := of_decide_eq_true (by assumption)); (obtain ⟨ad153, e153, hx153_0⟩ := Kd.at_int HR151_1.out x49_3 p153 q153); (cases e153); (replace hx153_0 := (HB.out.cell (World.block_lt_of_cell? w _ hx153_0)).trans hx153_0); (replace p153 := eq_true p153); (replace q153 := eq_true q153); (have hnb91 := NB144_152.out); (have hnc91 := NB152_144.out); (have hcz92_0 : wr.cell? ⟨gb144, 0, none⟩ = some (.int .i64 a0_0) := (blk_cell BK144.out 0).trans rfl); (have hcz92_1 : wr.cell? ⟨gb144, 1, none⟩ = some (.int .i64 a0_1) := (blk_cell BK144.out 1).trans rfl)
                (have hcz92_2 : wr.cell? ⟨gb144, 2, none⟩ = some (.int .i64 a0_2) := (blk_cell BK144.out 2).trans rfl); (have hcz92_3 : wr.cell? ⟨gb144, 3, none⟩ = some (.slice (some ad151) l0_3.length c0_3) := (blk_cell BK144.out 3).trans rfl); (have hfz92_0 := blk_frozen BK144.out 0); (have hfz92_1 := blk_frozen BK144.out 1); (have hfz92_2 := blk_frozen BK144.out 2); (have hfz92_3 := blk_frozen BK144.out 3)
                try go_wp2
                (have n0_ := Aside0.mk (Kd.R_drew HO_9.out)); (have n1_ := Aside0.mk (blk_drew BK144.out)); (have n2_ := Aside0.mk (blk_drew BK152.out)); (have n3_ := Aside0.mk (below_drew1 HB.out)); (clear HO_9); (clear BK144); (clear BK152); (clear HB); (have HO_9 := n0_); (have BK144 := n1_); (have BK152 := n2_); (have HB := n3_); (clear n0_ n1_ n2_ n3_); (have q94 : ((ji40) : Int) ≤ ((((rd_T38 l0_3 x36_2).f1).length : Int) : Int) := of_decide_eq_true (by assumption)); (obtain ⟨i094, hi094, _, hsz94, _⟩ := info_parts info3); (have hroom94 : ((rd_T38 l0_3 x36_2).f1).length ≤ c151_1 := HC151_1.out); (have hC94 : Kd.C (Kd.int .i64) _ (some ad153) ((rd_T38 l0_3 x36_2).f1).length ((rd_T38 l0_3 x36_2).f1) := HR151_1.out); (have q094 : (0 : Int) ≤ ((ji40) : Int) := of_decide_eq_true (by assumption)); (have hcut94 := cut_from (P := Try.prog) 33 3 .i64 Try.underlying33 hi094 1 hsz94 (some ad153) ((rd_T38 l0_3 x36_2).f1).length c151_1 (ji40) q094 q94); (have hr94 := Kd.C_drop (m := ((ji40) : Int).toNat) (c := c151_1) hC94 (by omega) hroom94); (obtain ⟨A94, hA94⟩ : ∃ Aq_, Aq_ = (if c151_1 = ((ji40) : Int).toNat then (some ad153) else ((some ad153) : Option Addr).map (·.add (((ji40) : Int).toNat * 1))) := ⟨_, rfl⟩); (obtain ⟨c94, hc94⟩ : ∃ cq_, cq_ = c151_1 - ((ji40) : Int).toNat := ⟨_, rfl⟩); (have hy94 : y154.length = ((rd_T38 l0_3 x36_2).f1).length - ((ji40) : Int).toNat := (by rw [Ny154.out, List.length_drop] <;> omega)); (rw [show (((rd_T38 l0_3 x36_2).f1)).drop ((ji40) : Int).toNat = y154 from Ny154.out.symm] at hr94); (replace hr94 : Kd.C (Kd.int .i64) _ A94 y154.length y154 := (by rw [hA94]; exact hr94))
                (rw [← hy94, ← hA94, ← hc94] at hcut94); (have HR157 := Aside0.mk hr94); (have HC157 := Aside0.mk (show y154.length ≤ c94 from by rw [hy94, hc94]; exact Nat.sub_le_sub_right hroom94 _)); (clear hr94 hC94 hroom94 hi094 hsz94 hc94); (have KY94 := Aside0.mk hy94); (have KA94 := Aside0.mk hA94); (clear hy94 hA94); (replace q94 := eq_true q94)
                refine start_ (n := 14) (S := fun w' => w'.cell? ⟨gb144, 0, none⟩ = some (.int .i64 a0_0) ∧ w'.cell? ⟨gb144, 1, none⟩ = some (.int .i64 a0_1) ∧ w'.cell? ⟨gb144, 2, none⟩ = some (.int .i64 a0_2) ∧ w'.cell? ⟨gb144, 3, none⟩ = some (.slice (some ad151) l0_3.length c0_3) ∧ w'.cell? ⟨gb152, 0, none⟩ = some (.int .i64 ((rd_T38 l0_3 x36_2).f0)) ∧ w'.cell? ⟨gb152, 1, none⟩ = some (.slice (some ad153) ((rd_T38 l0_3 x36_2).f1).length c151_1)) (ds := []) #[false, false, false, false, false, false, false, false, false, false, false, false, false, false] (by kernel_rfl) rfl rfl ⟨(blk_cell BK144.out 0).trans rfl, (blk_cell BK144.out 1).trans rfl, (blk_cell BK144.out 2).trans rfl, (blk_cell BK144.out 3).trans rfl, (blk_cell BK152.out 0).trans rfl, (blk_cell BK152.out 1).trans rfl⟩ (fun hHeld => ?_); refine with_tabW ahead_follows.tab15 ahead_follows.bits15 (fun HT_ HW_ => ?_)
                generalize wr.drew = w93 at HO_9 BK144 BK152 HB HR157 hHeld ⊢
                refine pure_ (i := 1) (N := some 60) (v := ?_) (a' := ?_) #[false, true, false, false, false, false, false, false, false, false, false, false, false, false] rfl rfl (any_of HT_.out (by kernel_rfl)) (fun _ _ _ h => h) (Or.inl ⟨by rfl, ?_⟩) ?_ ?_
                rotate_left
                · intro w'
                  go_simp
                  with_reducible rfl
                rotate_left
                · simp only [Act.put, List.setIfInBounds_toArray, List.set_cons_zero, List.set_cons_succ, i64_w, i32_w]
                  rfl
                refine pure_ (i := 2) (N := some 61) (v := ?_) (a' := ?_) #[false, true, true, false, false, false, false, false, false, false, false, false, false, false] rfl rfl (any_of HT_.out (by kernel_rfl)) (fun _ _ _ h => h) (Or.inl ⟨by rfl, ?_⟩) ?_ ?_
                rotate_left
                · intro w'
                  go_simp
                  with_reducible rfl
                rotate_left
                · simp only [Act.put, List.setIfInBounds_toArray, List.set_cons_zero, List.set_cons_succ, i64_w, i32_w]
                  rfl
                refine pure_ (i := 3) (N := some 62) (v := ?_) (a' := ?_) #[false, true, true, true, false, false, false, false, false, false, false, false, false, false] rfl rfl (any_of HT_.out (by kernel_rfl)) (fun _ _ _ h => h) (Or.inl ⟨by rfl, ?_⟩) ?_ ?_
                rotate_left
                · intro w'
                  go_simp
                  with_reducible rfl
                rotate_left
                · simp only [Act.put, List.setIfInBounds_toArray, List.set_cons_zero, List.set_cons_succ, i64_w, i32_w]
                  rfl
                refine pure_ (i := 5) (N := some 64) (v := ?_) (a' := ?_) #[false, true, true, true, false, true, false, false, false, false, false, false, false, false] rfl rfl (any_of HT_.out (by kernel_rfl)) (fun _ _ _ h => h) (Or.inl ⟨by rfl, ?_⟩) ?_ ?_
                rotate_left
                · intro w'
                  go_simp
                  with_reducible rfl
                rotate_left
                · simp only [Act.put, List.setIfInBounds_toArray, List.set_cons_zero, List.set_cons_succ, i64_w, i32_w]
                  rfl
                refine pure_ (i := 6) (N := some 65) (v := ?_) (a' := ?_) #[false, true, true, true, false, true, true, false, false, false, false, false, false, false] rfl rfl (any_of HT_.out (by kernel_rfl)) (fun _ _ _ h => h) (Or.inl ⟨by rfl, ?_⟩) ?_ ?_
                rotate_left
                · intro w'
                  go_simp
                  with_reducible rfl
                rotate_left
                · simp only [Act.put, List.setIfInBounds_toArray, List.set_cons_zero, List.set_cons_succ, i64_w, i32_w]
                  rfl
                refine take_ (i := 0) (N := some 59) (v := ?_) (a' := ?_) #[true, true, true, true, false, true, true, false, false, false, false, false, false, false] rfl rfl (take_ofW HT_.out HW_.out (by kernel_rfl)) (fun _ _ _ h => h) (Or.inl ⟨by rfl, ?_⟩) hHeld ?_ ?_
                rotate_left
                · rintro w' ⟨s0, s1, s2, s3, s4, s5⟩
                  go_simp
                  with_reducible rfl
                rotate_left
                · simp only [Act.put, List.setIfInBounds_toArray, List.set_cons_zero, List.set_cons_succ, i64_w, i32_w]
                  rfl
                refine take_ (i := 4) (N := some 63) (v := ?_) (a' := ?_) #[true, true, true, true, true, true, true, false, false, false, false, false, false, false] rfl rfl (take_ofW HT_.out HW_.out (by kernel_rfl)) (fun _ _ _ h => h) (Or.inl ⟨by rfl, ?_⟩) hHeld ?_ ?_
                rotate_left
                · rintro w' ⟨s0, s1, s2, s3, s4, s5⟩
                  go_simp
                  with_reducible rfl
                rotate_left
                · simp only [Act.put, List.setIfInBounds_toArray, List.set_cons_zero, List.set_cons_succ, i64_w, i32_w]
                  rfl
                refine pure_ (i := 7) (N := some 66) (v := ?_) (a' := ?_) #[true, true, true, true, true, true, true, true, false, false, false, false, false, false] rfl rfl (any_of HT_.out (by kernel_rfl)) (fun _ _ _ h => h) (Or.inl ⟨by rfl, ?_⟩) ?_ ?_
                rotate_left
                · intro w'
                  go_simp
                  with_reducible rfl
                rotate_left
                · simp only [Act.put, List.setIfInBounds_toArray, List.set_cons_zero, List.set_cons_succ, i64_w, i32_w]
                  rfl
                refine one_ (i := 8) (N := some 67) #[true, true, true, true, true, true, true, true, true, false, false, false, false, false] rfl rfl (one_of HT_.out (by kernel_rfl)) (by decide) (fun K hK => ?_)
                refine goes_ Try.func77 (by kernel_rfl) rfl #[.agg #[.int .i64 a0_0, .int .i64 a0_1, .int .i64 a0_2, .slice (some ad151) l0_3.length c0_3], .slice A1 l1.length c1, .int .u32 a2, .slice A94 y154.length c94] (by rfl) rfl rfl (by (try simp only [List.map_toArray, List.map_cons, List.map_nil]); first | done | rfl | (simp only [List.length_drop, List.length_take]; rfl)) ?_
                with_reducible refine (ahead_begin.calls k3 a0_0 a0_1 a0_2 _ _ l0_3 _ _ l1 a2 _ _ y154 t158 false _ ?side1 ?side2 ?side3 ?side4 ?side5 ?side6 A43.out).mono ?_
                (case side1 => repeat (first | exact (Kd.C_below HR0_3.out HB.out) | (with_reducible refine Kd.C_alloc ?_ _) | (with_reducible refine Kd.C_drewN ?_ _) | (with_reducible refine Kd.C_drew ?_)))
                (case side2 => exact HC0_3.out)
                (case side3 => repeat (first | exact (Kd.C_below HR1.out HB.out) | (with_reducible refine Kd.C_alloc ?_ _) | (with_reducible refine Kd.C_drewN ?_ _) | (with_reducible refine Kd.C_drew ?_)))
                (case side4 => exact HC1.out)
                (case side5 => repeat (first | exact (Kd.C_below HR157.out HB.out) | (with_reducible refine Kd.C_alloc ?_ _) | (with_reducible refine Kd.C_drewN ?_ _) | (with_reducible refine Kd.C_drew ?_)))
                (case side6 => exact HC157.out)
                rintro e w95 ⟨rfl, hb⟩
                refine ⟨_, rfl, ?_⟩
                (have n0_ := Aside0.mk (Kd.R_below (by (with_reducible repeat (first | apply Kd.R_alloc | apply Kd.R_drewN | apply Kd.R_drew)); exact HO_9.out) hb)); (have n1_ := Aside0.mk (blk_below (g := gb144) (o := .cells #[.int .i64 a0_0, .int .i64 a0_1, .int .i64 a0_2, .slice (some ad151) l0_3.length c0_3] 24 (0, 0)) (by (with_reducible repeat (first | refine blk_drewN ?_ _ | refine blk_drew ?_ | refine blk_alloc ?_ _)); exact BK144.out) hb)); (have n2_ := Aside0.mk (blk_below (g := gb152) (o := .cells #[.int .i64 ((rd_T38 l0_3 x36_2).f0), .slice (some ad153) ((rd_T38 l0_3 x36_2).f1).length c151_1] 38 (0, 0)) (by (with_reducible repeat (first | refine blk_drewN ?_ _ | refine blk_drew ?_ | refine blk_alloc ?_ _)); exact BK152.out) hb)); (have n3_ := Aside0.mk (below_step (by repeat (first | (with_reducible first | exact HB.out | apply below_alloc | apply pw_below_drewN | apply below_drew1 | refine below_set ?_ GE144.out | refine below_set ?_ GE152.out) | exact HB.out)) hb)); (clear HO_9); (clear BK144); (clear BK152); (clear HB); (have HO_9 := n0_); (have BK144 := n1_); (have BK152 := n2_); (have HB := n3_); (clear n0_ n1_ n2_ n3_); ((try clear hb)); ((try clear hb2)); ((try clear hk)); ((try clear hi))
                refine hK.out _ _ ⟨(blk_cell BK144.out 0).trans rfl, (blk_cell BK144.out 1).trans rfl, (blk_cell BK144.out 2).trans rfl, (blk_cell BK144.out 3).trans rfl, (blk_cell BK152.out 0).trans rfl, (blk_cell BK152.out 1).trans rfl⟩ (fun hHeld => ?_)
                clear hK K
                refine norm_ (a' := ?_) ?_ ?_
                rotate_left
                · show Act.put _ (some 67) _ = _
                  simp only [Act.put, List.setIfInBounds_toArray, List.set_cons_zero, List.set_cons_succ, i64_w, i32_w]
                  rfl
                refine pure_ (i := 9) (N := some 58) (v := ?_) (a' := ?_) #[true, true, true, true, true, true, true, true, true, true, false, false, false, false] rfl rfl (any_of HT_.out (by kernel_rfl)) (fun _ _ _ h => h) (Or.inl ⟨by rfl, ?_⟩) ?_ ?_
                rotate_left
                · intro w'
                  go_simp
                  with_reducible rfl
                rotate_left
                · simp only [Act.put, List.setIfInBounds_toArray, List.set_cons_zero, List.set_cons_succ, i64_w, i32_w]
                  rfl
                refine pure_ (i := 10) (N := some 68) (v := ?_) (a' := ?_) #[true, true, true, true, true, true, true, true, true, true, true, false, false, false] rfl rfl (any_of HT_.out (by kernel_rfl)) (fun _ _ _ h => h) (Or.inl ⟨by rfl, ?_⟩) ?_ ?_
                rotate_left
                · intro w'
                  go_simp
                  with_reducible rfl
                rotate_left
                · simp only [Act.put, List.setIfInBounds_toArray, List.set_cons_zero, List.set_cons_succ, i64_w, i32_w]
                  rfl
                refine pure_ (i := 11) (N := some 69) (v := ?_) (a' := ?_) #[true, true, true, true, true, true, true, true, true, true, true, true, false, false] rfl rfl (any_of HT_.out (by kernel_rfl)) (fun _ _ _ h => h) (Or.inl ⟨by rfl, ?_⟩) ?_ ?_
                rotate_left
                · intro w'
                  go_simp
                  with_reducible rfl
                rotate_left
                · simp only [Act.put, List.setIfInBounds_toArray, List.set_cons_zero, List.set_cons_succ, i64_w, i32_w]
                  rfl
                refine pure_ (i := 12) (N := some 15) (v := ?_) (a' := ?_) #[true, true, true, true, true, true, true, true, true, true, true, true, true, false] rfl rfl (any_of HT_.out (by kernel_rfl)) (fun _ _ _ h => h) (Or.inl ⟨by rfl, ?_⟩) ?_ ?_
                rotate_left
                · intro w'
                  go_simp
                  with_reducible rfl
                rotate_left
                · simp only [Act.put, List.setIfInBounds_toArray, List.set_cons_zero, List.set_cons_succ, i64_w, i32_w]
                  rfl
                refine pure_ (i := 13) (N := some 16) (v := ?_) (a' := ?_) #[true, true, true, true, true, true, true, true, true, true, true, true, true, true] rfl rfl (any_of HT_.out (by kernel_rfl)) (fun _ _ _ h => h) (Or.inl ⟨by rfl, ?_⟩) ?_ ?_
                rotate_left
                · intro w'
                  go_simp
                  with_reducible rfl
                rotate_left
                · simp only [Act.put, List.setIfInBounds_toArray, List.set_cons_zero, List.set_cons_succ, i64_w, i32_w]
                  rfl
                refine done_ (done_of HT_.out (by kernel_rfl)) ?_
                (have hcz96_0 : w95.cell? ⟨gb144, 0, none⟩ = some (.int .i64 a0_0) := (blk_cell BK144.out 0).trans rfl); (have hcz96_1 : w95.cell? ⟨gb144, 1, none⟩ = some (.int .i64 a0_1) := (blk_cell BK144.out 1).trans rfl); (have hcz96_2 : w95.cell? ⟨gb144, 2, none⟩ = some (.int .i64 a0_2) := (blk_cell BK144.out 2).trans rfl); (have hcz96_3 : w95.cell? ⟨gb144, 3, none⟩ = some (.slice (some ad151) l0_3.length c0_3) := (blk_cell BK144.out 3).trans rfl); (have hfz96_0 := blk_frozen BK144.out 0); (have hfz96_1 := blk_frozen BK144.out 1); (have hfz96_2 := blk_frozen BK144.out 2); (have hfz96_3 := blk_frozen BK144.out 3); (have p168 : 0 ≤ ((ji87) : Int) := of_decide_eq_true (by assumption)); (have q168 : (ji87) < (x9_3.length : Int) := of_decide_eq_true (by assumption)); (obtain ⟨ad168, e168, hx168_0⟩ := Kd.at_int (Kd.R_reads' HO_9.out).2.2 (ji87) p168 q168); (obtain rfl : (⟨go11, 0, none⟩ : Addr) = ad168 := (by injection e168))
                (first | simp only [add_plain] at hx168_0 | simp only [add_at] at hx168_0 | simp only [Addr.add, Nat.zero_add] at hx168_0 | skip)
                (replace p168 := eq_true p168); (replace q168 := eq_true q168); (have p169 : 0 ≤ ((ji87) : Int) := of_decide_eq_true (by assumption)); (have q169 : (ji87) < (x9_3.length : Int) := of_decide_eq_true (by assumption)); (obtain ⟨ad169, e169, hx169_0⟩ := Kd.at_int (Kd.R_reads' HO_9.out).2.2 (ji87) p169 q169); (obtain rfl : (⟨go11, 0, none⟩ : Addr) = ad169 := (by injection e169))
                (first | simp only [add_plain] at hx169_0 | simp only [add_at] at hx169_0 | simp only [Addr.add, Nat.zero_add] at hx169_0 | skip)
                (replace p169 := eq_true p169); (replace q169 := eq_true q169); (have p90 : 0 ≤ ((ji87) : Int) := of_decide_eq_true (by assumption)); (have q90 : ((ji87) : Int) < ((x9_3.length : Int) : Int) := of_decide_eq_true (by assumption)); (obtain ⟨hx90_0, hf90_0⟩ := Kd.R_celln 0 HO_9.out ((ji87) : Int) p90 q90); (replace p90 := eq_true p90); (replace q90 := eq_true q90); (obtain ⟨hy97_, hz97_⟩ := Kd.R_celln 0 HO_9.out ((ji87) : Int) (of_decide_eq_true (by assumption)) (of_decide_eq_true (by assumption))); (have HP97 := Kd.R_putg HO_9.out ((ji87) : Int) (Go.bits .or .u32 (rd x9_3 (ji87)) t158))
                try go_wp2_with (first | ((with_reducible refine gate_store (t := 28) (p := 100) rfl ?_); refine store_event (t := 28) (p := 100) (v := ?vo_w98) (w1 := (w95.setCell ⟨go11, ((ji87) : Int).toNat, none⟩ (.int .u32 (Go.bits .or .u32 (rd x9_3 (ji87)) t158)))) ?hg ?ho ?hn ?hr ?_; (case ho => rfl); (case hg => rfl); (case hn => rfl); (case hr => first | (go_simp; done) | (go_simp; rfl)); intro w98 hw; have hg : w95.grownBy w98 (some go11) := (by rw [hw]; exact HP97.2); have hp_ : Kd.R (Kd.int .u32) 28 w98 w.heap.size (fun _ => True) (.slice (some ⟨go11, 0, none⟩) x9_3.length co11) y170 := (by rw [hw, Ny170.out]; exact HP97.1); clear HP97; have n0_ := Aside0.mk (hp_); have n1_ := Aside0.mk (blk_grown (g := gb144) (o := .cells #[.int .i64 a0_0, .int .i64 a0_1, .int .i64 a0_2, .slice (some ad151) l0_3.length c0_3] 24 (0, 0)) (by (with_reducible repeat (first | refine blk_drewN ?_ _ | refine blk_drew ?_ | refine blk_alloc ?_ _)); exact BK144.out) hg (Kd.R_ne HO_9.out BK144.out (by decide))); have n2_ := Aside0.mk (blk_grown (g := gb152) (o := .cells #[.int .i64 ((rd_T38 l0_3 x36_2).f0), .slice (some ad153) ((rd_T38 l0_3 x36_2).f1).length c151_1] 38 (0, 0)) (by (with_reducible repeat (first | refine blk_drewN ?_ _ | refine blk_drew ?_ | refine blk_alloc ?_ _)); exact BK152.out) hg (Kd.R_ne HO_9.out BK152.out (by decide))); have n3_ := Aside0.mk ((by rw [hw]; exact below_set (HB.out) GB11.out : Below w.heap.size w w98)); clear HO_9; clear BK144; clear BK152; clear HB; have HO_9 := n0_; have BK144 := n1_; have BK152 := n2_; have HB := n3_; clear n0_ n1_ n2_ n3_; clear hg hw hp_))
                (try simp only [← hl9_3])
                (first | go_roundg k3 | (simp only [← hji87]; go_roundg k3) | (simp only [← hji40, ← hji87]; go_roundg k3) | (simp only [← hji26, ← hji40, ← hji87]; go_roundg k3) | (simp only [← hji8, ← hji26, ← hji40, ← hji87]; go_roundg k3))
                case measure => have := HK1.out; have := HK2.out; have := HK3.out; omega
                case rel => exact ⟨(y170), (((Go.bits .andNot .u32 t158 (rd x9_3 (ji87))) != 0)), (ji40), (by first | rfl | (simp; done) | (simp only [← hji87] <;> (first | rfl | simp)) | (simp [*]; done)), (by first | rfl | (simp; done) | (simp only [← hji40] <;> (first | rfl | simp)) | (simp [*]; done)), H', ⟨by have := HK1.out; have := HK2.out; have := HK3.out; omega⟩, ⟨by (try simp only [hl9_1]); (try simp only [hl9_2]); (try simp only [hl9_3]); (with_reducible repeat (first | apply Kd.R_alloc | apply Kd.R_drewN | apply Kd.R_drew)); exact HO_9.out⟩, ⟨by (try simp only [hl9_1]); (try simp only [hl9_2]); (try simp only [hl9_3]); (with_reducible repeat (first | refine blk_drewN ?_ _ | refine blk_drew ?_ | refine blk_alloc ?_ _)); exact BK144.out⟩, ⟨by (try simp only [hl9_1]); (try simp only [hl9_2]); (try simp only [hl9_3]); (with_reducible repeat (first | refine blk_drewN ?_ _ | refine blk_drew ?_ | refine blk_alloc ?_ _)); exact BK152.out⟩, ⟨by repeat (first | (with_reducible first | exact HB.out | apply below_alloc | apply pw_below_drewN | apply below_drew1 | refine below_set ?_ GE144.out | refine below_set ?_ GE152.out) | exact HB.out)⟩⟩
              (subst c44); (have H1 : (if 0 ≤ ((rd_T38 l0_3 x36_2).f0) then (if ((rd_T38 l0_3 x36_2).f0) < (x9_3.length : Int) then (if x10_3 = true then (if 0 ≤ (wrap64 ((rd ((rd_T38 l0_3 x36_2).f1) x49_3) - a0_0)) then (if (wrap64 ((rd ((rd_T38 l0_3 x36_2).f1) x49_3) - a0_0)) < (x9_3.length : Int) then (ahead_follows.l2 k3 l1 a2 t145 (x9_3.set ((wrap64 ((rd ((rd_T38 l0_3 x36_2).f1) x49_3) - a0_0)) : Int).toNat (Go.bits .or .u32 (rd x9_3 (wrap64 ((rd ((rd_T38 l0_3 x36_2).f1) x49_3) - a0_0))) (Go.bits .or .u32 t158 (rd x9_3 ((rd_T38 l0_3 x36_2).f0))))) true l0_3 (l0_3.length : Int) x36_2 ((rd_T38 l0_3 x36_2).f1) (((rd_T38 l0_3 x36_2).f1).length : Int) ji40 a0_0 a0_1 a0_2 l0_3 ((rd_T38 l0_3 x36_2).f0) ((rd_T38 l0_3 x36_2).f1)) else (none)) else (none)) else (if 0 ≤ (wrap64 ((rd ((rd_T38 l0_3 x36_2).f1) x49_3) - a0_0)) then (if (wrap64 ((rd ((rd_T38 l0_3 x36_2).f1) x49_3) - a0_0)) < (x9_3.length : Int) then (ahead_follows.l2 k3 l1 a2 t145 (x9_3.set ((wrap64 ((rd ((rd_T38 l0_3 x36_2).f1) x49_3) - a0_0)) : Int).toNat (Go.bits .or .u32 (rd x9_3 (wrap64 ((rd ((rd_T38 l0_3 x36_2).f1) x49_3) - a0_0))) (Go.bits .or .u32 t158 (rd x9_3 ((rd_T38 l0_3 x36_2).f0))))) ((Go.bits .andNot .u32 (Go.bits .or .u32 t158 (rd x9_3 ((rd_T38 l0_3 x36_2).f0))) (rd x9_3 (wrap64 ((rd ((rd_T38 l0_3 x36_2).f1) x49_3) - a0_0)))) != 0) l0_3 (l0_3.length : Int) x36_2 ((rd_T38 l0_3 x36_2).f1) (((rd_T38 l0_3 x36_2).f1).length : Int) ji40 a0_0 a0_1 a0_2 l0_3 ((rd_T38 l0_3 x36_2).f0) ((rd_T38 l0_3 x36_2).f1)) else (none)) else (none))) else (none)) else (none)) = some r := by rw [if_pos rfl] at H; exact H)
              (clear H); (have H := H1); (clear H1)
              by_cases c45 : 0 ≤ ((rd_T38 l0_3 x36_2).f0)
              rotate_left
              · rw [if_neg c45] at H
                exact absurd H (by simp)
              (rw [if_pos c45] at H); (have c45b0 : decide (0 ≤ ((rd_T38 l0_3 x36_2).f0)) = true := decide_eq_true c45); (clear c45)
              by_cases c46 : ((rd_T38 l0_3 x36_2).f0) < (x9_3.length : Int)
              rotate_left
              · rw [if_neg c46] at H
                exact absurd H (by simp)
              (rw [if_pos c46] at H); (have c46b0 : decide (((rd_T38 l0_3 x36_2).f0) < (x9_3.length : Int)) = true := decide_eq_true c46); ((try (have c46b0h := c46b0; simp only [hl9_1, hl9_2, hl9_3] at c46b0h))); (clear c46)
              by_cases c47 : x10_3 = true
              · subst c47
                (have H1 : (if 0 ≤ (wrap64 ((rd ((rd_T38 l0_3 x36_2).f1) x49_3) - a0_0)) then (if (wrap64 ((rd ((rd_T38 l0_3 x36_2).f1) x49_3) - a0_0)) < (x9_3.length : Int) then (ahead_follows.l2 k3 l1 a2 t145 (x9_3.set ((wrap64 ((rd ((rd_T38 l0_3 x36_2).f1) x49_3) - a0_0)) : Int).toNat (Go.bits .or .u32 (rd x9_3 (wrap64 ((rd ((rd_T38 l0_3 x36_2).f1) x49_3) - a0_0))) (Go.bits .or .u32 t158 (rd x9_3 ((rd_T38 l0_3 x36_2).f0))))) true l0_3 (l0_3.length : Int) x36_2 ((rd_T38 l0_3 x36_2).f1) (((rd_T38 l0_3 x36_2).f1).length : Int) ji40 a0_0 a0_1 a0_2 l0_3 ((rd_T38 l0_3 x36_2).f0) ((rd_T38 l0_3 x36_2).f1)) else (none)) else (none)) = some r := by rw [if_pos rfl] at H; exact H); (clear H); (have H := H1); (clear H1); (obtain ⟨ji48, hji48⟩ : ∃ j_ : Int, (wrap64 ((rd ((rd_T38 l0_3 x36_2).f1) x49_3) - a0_0)) = j_ := ⟨_, rfl⟩); (replace H : (if 0 ≤ (ji48) then (if (ji48) < (x9_3.length : Int) then (ahead_follows.l2 k3 l1 a2 t145 (x9_3.set ((ji48) : Int).toNat (Go.bits .or .u32 (rd x9_3 (ji48)) (Go.bits .or .u32 t158 (rd x9_3 ((rd_T38 l0_3 x36_2).f0))))) true l0_3 (l0_3.length : Int) x36_2 ((rd_T38 l0_3 x36_2).f1) (((rd_T38 l0_3 x36_2).f1).length : Int) ji40 a0_0 a0_1 a0_2 l0_3 ((rd_T38 l0_3 x36_2).f0) ((rd_T38 l0_3 x36_2).f1)) else (none)) else (none)) = some r := by first | (rw [hji48] at H; exact H) | (simp only [hji48] at H ⊢; exact H)); ((try rw [hji48] at A43)); (have hji48w : (IntKind.i64.wrap ((rd ((rd_T38 l0_3 x36_2).f1) x49_3) - a0_0)) = ji48 := (i64_w _).trans hji48)
                by_cases c49 : 0 ≤ (ji48)
                rotate_left
                · rw [if_neg c49] at H
                  exact absurd H (by simp)
                (rw [if_pos c49] at H); (have c49b0 : decide (0 ≤ (ji48)) = true := decide_eq_true c49); (clear c49)
                by_cases c50 : (ji48) < (x9_3.length : Int)
                rotate_left
                · rw [if_neg c50] at H
                  exact absurd H (by simp)
                (rw [if_pos c50] at H); (have c50b0 : decide ((ji48) < (x9_3.length : Int)) = true := decide_eq_true c50); ((try (have c50b0h := c50b0; simp only [hl9_1, hl9_2, hl9_3] at c50b0h))); (clear c50); (obtain ⟨y162, hy162⟩ : ∃ y_ : List Int, y_ = (x9_3.set ((ji48) : Int).toNat (Go.bits .or .u32 (rd x9_3 (ji48)) (Go.bits .or .u32 t158 (rd x9_3 ((rd_T38 l0_3 x36_2).f0))))) := ⟨_, rfl⟩); (replace H : (ahead_follows.l2 k3 l1 a2 t145 y162 true l0_3 (l0_3.length : Int) x36_2 ((rd_T38 l0_3 x36_2).f1) (((rd_T38 l0_3 x36_2).f1).length : Int) ji40 a0_0 a0_1 a0_2 l0_3 ((rd_T38 l0_3 x36_2).f0) ((rd_T38 l0_3 x36_2).f1)) = some r := by first | (rw [hy162]; with_reducible exact H) | (have H2_ := (Option.bind_some _ _).symm.trans H; rw [hy162]; with_reducible exact H2_) | (have H2_ := (Option.bind_some _ _).symm.trans H; with_reducible exact H2_) | with_reducible exact H | (rw [hy162]; exact H) | exact H); (have Ny162 := Aside0.mk hy162); (clear hy162); (have H' := Aside0.mk H); (clear H); (have p153 : 0 ≤ (x49_3 : Int) := of_decide_eq_true (by assumption)); (have q153 : x49_3 < (((rd_T38 l0_3 x36_2).f1).length : Int) := of_decide_eq_true (by assumption)); (obtain ⟨ad153, e153, hx153_0⟩ := Kd.at_int HR151_1.out x49_3 p153 q153); (cases e153); (replace hx153_0 := (HB.out.cell (World.block_lt_of_cell? w _ hx153_0)).trans hx153_0); (replace p153 := eq_true p153); (replace q153 := eq_true q153); (have hnb52 := NB144_152.out); (have hnc52 := NB152_144.out); (have hcz53_0 : wr.cell? ⟨gb144, 0, none⟩ = some (.int .i64 a0_0) := (blk_cell BK144.out 0).trans rfl); (have hcz53_1 : wr.cell? ⟨gb144, 1, none⟩ = some (.int .i64 a0_1) := (blk_cell BK144.out 1).trans rfl)
                (have hcz53_2 : wr.cell? ⟨gb144, 2, none⟩ = some (.int .i64 a0_2) := (blk_cell BK144.out 2).trans rfl); (have hcz53_3 : wr.cell? ⟨gb144, 3, none⟩ = some (.slice (some ad151) l0_3.length c0_3) := (blk_cell BK144.out 3).trans rfl); (have hfz53_0 := blk_frozen BK144.out 0); (have hfz53_1 := blk_frozen BK144.out 1); (have hfz53_2 := blk_frozen BK144.out 2); (have hfz53_3 := blk_frozen BK144.out 3)
                try go_wp2
                (have n0_ := Aside0.mk (Kd.R_drew HO_9.out)); (have n1_ := Aside0.mk (blk_drew BK144.out)); (have n2_ := Aside0.mk (blk_drew BK152.out)); (have n3_ := Aside0.mk (below_drew1 HB.out)); (clear HO_9); (clear BK144); (clear BK152); (clear HB); (have HO_9 := n0_); (have BK144 := n1_); (have BK152 := n2_); (have HB := n3_); (clear n0_ n1_ n2_ n3_); (have q55 : ((ji40) : Int) ≤ ((((rd_T38 l0_3 x36_2).f1).length : Int) : Int) := of_decide_eq_true (by assumption)); (obtain ⟨i055, hi055, _, hsz55, _⟩ := info_parts info3); (have hroom55 : ((rd_T38 l0_3 x36_2).f1).length ≤ c151_1 := HC151_1.out); (have hC55 : Kd.C (Kd.int .i64) _ (some ad153) ((rd_T38 l0_3 x36_2).f1).length ((rd_T38 l0_3 x36_2).f1) := HR151_1.out); (have q055 : (0 : Int) ≤ ((ji40) : Int) := of_decide_eq_true (by assumption)); (have hcut55 := cut_from (P := Try.prog) 33 3 .i64 Try.underlying33 hi055 1 hsz55 (some ad153) ((rd_T38 l0_3 x36_2).f1).length c151_1 (ji40) q055 q55); (have hr55 := Kd.C_drop (m := ((ji40) : Int).toNat) (c := c151_1) hC55 (by omega) hroom55); (obtain ⟨A55, hA55⟩ : ∃ Aq_, Aq_ = (if c151_1 = ((ji40) : Int).toNat then (some ad153) else ((some ad153) : Option Addr).map (·.add (((ji40) : Int).toNat * 1))) := ⟨_, rfl⟩); (obtain ⟨c55, hc55⟩ : ∃ cq_, cq_ = c151_1 - ((ji40) : Int).toNat := ⟨_, rfl⟩); (have hy55 : y154.length = ((rd_T38 l0_3 x36_2).f1).length - ((ji40) : Int).toNat := (by rw [Ny154.out, List.length_drop] <;> omega)); (rw [show (((rd_T38 l0_3 x36_2).f1)).drop ((ji40) : Int).toNat = y154 from Ny154.out.symm] at hr55); (replace hr55 : Kd.C (Kd.int .i64) _ A55 y154.length y154 := (by rw [hA55]; exact hr55))
                (rw [← hy55, ← hA55, ← hc55] at hcut55); (have HR157 := Aside0.mk hr55); (have HC157 := Aside0.mk (show y154.length ≤ c55 from by rw [hy55, hc55]; exact Nat.sub_le_sub_right hroom55 _)); (clear hr55 hC55 hroom55 hi055 hsz55 hc55); (have KY55 := Aside0.mk hy55); (have KA55 := Aside0.mk hA55); (clear hy55 hA55); (replace q55 := eq_true q55)
                refine start_ (n := 14) (S := fun w' => w'.cell? ⟨gb144, 0, none⟩ = some (.int .i64 a0_0) ∧ w'.cell? ⟨gb144, 1, none⟩ = some (.int .i64 a0_1) ∧ w'.cell? ⟨gb144, 2, none⟩ = some (.int .i64 a0_2) ∧ w'.cell? ⟨gb144, 3, none⟩ = some (.slice (some ad151) l0_3.length c0_3) ∧ w'.cell? ⟨gb152, 0, none⟩ = some (.int .i64 ((rd_T38 l0_3 x36_2).f0)) ∧ w'.cell? ⟨gb152, 1, none⟩ = some (.slice (some ad153) ((rd_T38 l0_3 x36_2).f1).length c151_1)) (ds := []) #[false, false, false, false, false, false, false, false, false, false, false, false, false, false] (by kernel_rfl) rfl rfl ⟨(blk_cell BK144.out 0).trans rfl, (blk_cell BK144.out 1).trans rfl, (blk_cell BK144.out 2).trans rfl, (blk_cell BK144.out 3).trans rfl, (blk_cell BK152.out 0).trans rfl, (blk_cell BK152.out 1).trans rfl⟩ (fun hHeld => ?_); refine with_tabW ahead_follows.tab15 ahead_follows.bits15 (fun HT_ HW_ => ?_)
                generalize wr.drew = w54 at HO_9 BK144 BK152 HB HR157 hHeld ⊢
                refine pure_ (i := 1) (N := some 60) (v := ?_) (a' := ?_) #[false, true, false, false, false, false, false, false, false, false, false, false, false, false] rfl rfl (any_of HT_.out (by kernel_rfl)) (fun _ _ _ h => h) (Or.inl ⟨by rfl, ?_⟩) ?_ ?_
                rotate_left
                · intro w'
                  go_simp
                  with_reducible rfl
                rotate_left
                · simp only [Act.put, List.setIfInBounds_toArray, List.set_cons_zero, List.set_cons_succ, i64_w, i32_w]
                  rfl
                refine pure_ (i := 2) (N := some 61) (v := ?_) (a' := ?_) #[false, true, true, false, false, false, false, false, false, false, false, false, false, false] rfl rfl (any_of HT_.out (by kernel_rfl)) (fun _ _ _ h => h) (Or.inl ⟨by rfl, ?_⟩) ?_ ?_
                rotate_left
                · intro w'
                  go_simp
                  with_reducible rfl
                rotate_left
                · simp only [Act.put, List.setIfInBounds_toArray, List.set_cons_zero, List.set_cons_succ, i64_w, i32_w]
                  rfl
                refine pure_ (i := 3) (N := some 62) (v := ?_) (a' := ?_) #[false, true, true, true, false, false, false, false, false, false, false, false, false, false] rfl rfl (any_of HT_.out (by kernel_rfl)) (fun _ _ _ h => h) (Or.inl ⟨by rfl, ?_⟩) ?_ ?_
                rotate_left
                · intro w'
                  go_simp
                  with_reducible rfl
                rotate_left
                · simp only [Act.put, List.setIfInBounds_toArray, List.set_cons_zero, List.set_cons_succ, i64_w, i32_w]
                  rfl
                refine pure_ (i := 5) (N := some 64) (v := ?_) (a' := ?_) #[false, true, true, true, false, true, false, false, false, false, false, false, false, false] rfl rfl (any_of HT_.out (by kernel_rfl)) (fun _ _ _ h => h) (Or.inl ⟨by rfl, ?_⟩) ?_ ?_
                rotate_left
                · intro w'
                  go_simp
                  with_reducible rfl
                rotate_left
                · simp only [Act.put, List.setIfInBounds_toArray, List.set_cons_zero, List.set_cons_succ, i64_w, i32_w]
                  rfl
                refine pure_ (i := 6) (N := some 65) (v := ?_) (a' := ?_) #[false, true, true, true, false, true, true, false, false, false, false, false, false, false] rfl rfl (any_of HT_.out (by kernel_rfl)) (fun _ _ _ h => h) (Or.inl ⟨by rfl, ?_⟩) ?_ ?_
                rotate_left
                · intro w'
                  go_simp
                  with_reducible rfl
                rotate_left
                · simp only [Act.put, List.setIfInBounds_toArray, List.set_cons_zero, List.set_cons_succ, i64_w, i32_w]
                  rfl
                refine take_ (i := 0) (N := some 59) (v := ?_) (a' := ?_) #[true, true, true, true, false, true, true, false, false, false, false, false, false, false] rfl rfl (take_ofW HT_.out HW_.out (by kernel_rfl)) (fun _ _ _ h => h) (Or.inl ⟨by rfl, ?_⟩) hHeld ?_ ?_
                rotate_left
                · rintro w' ⟨s0, s1, s2, s3, s4, s5⟩
                  go_simp
                  with_reducible rfl
                rotate_left
                · simp only [Act.put, List.setIfInBounds_toArray, List.set_cons_zero, List.set_cons_succ, i64_w, i32_w]
                  rfl
                refine take_ (i := 4) (N := some 63) (v := ?_) (a' := ?_) #[true, true, true, true, true, true, true, false, false, false, false, false, false, false] rfl rfl (take_ofW HT_.out HW_.out (by kernel_rfl)) (fun _ _ _ h => h) (Or.inl ⟨by rfl, ?_⟩) hHeld ?_ ?_
                rotate_left
                · rintro w' ⟨s0, s1, s2, s3, s4, s5⟩
                  go_simp
                  with_reducible rfl
                rotate_left
                · simp only [Act.put, List.setIfInBounds_toArray, List.set_cons_zero, List.set_cons_succ, i64_w, i32_w]
                  rfl
                refine pure_ (i := 7) (N := some 66) (v := ?_) (a' := ?_) #[true, true, true, true, true, true, true, true, false, false, false, false, false, false] rfl rfl (any_of HT_.out (by kernel_rfl)) (fun _ _ _ h => h) (Or.inl ⟨by rfl, ?_⟩) ?_ ?_
                rotate_left
                · intro w'
                  go_simp
                  with_reducible rfl
                rotate_left
                · simp only [Act.put, List.setIfInBounds_toArray, List.set_cons_zero, List.set_cons_succ, i64_w, i32_w]
                  rfl
                refine one_ (i := 8) (N := some 67) #[true, true, true, true, true, true, true, true, true, false, false, false, false, false] rfl rfl (one_of HT_.out (by kernel_rfl)) (by decide) (fun K hK => ?_)
                refine goes_ Try.func77 (by kernel_rfl) rfl #[.agg #[.int .i64 a0_0, .int .i64 a0_1, .int .i64 a0_2, .slice (some ad151) l0_3.length c0_3], .slice A1 l1.length c1, .int .u32 a2, .slice A55 y154.length c55] (by rfl) rfl rfl (by (try simp only [List.map_toArray, List.map_cons, List.map_nil]); first | done | rfl | (simp only [List.length_drop, List.length_take]; rfl)) ?_
                with_reducible refine (ahead_begin.calls k3 a0_0 a0_1 a0_2 _ _ l0_3 _ _ l1 a2 _ _ y154 t158 true _ ?side1 ?side2 ?side3 ?side4 ?side5 ?side6 A43.out).mono ?_
                (case side1 => repeat (first | exact (Kd.C_below HR0_3.out HB.out) | (with_reducible refine Kd.C_alloc ?_ _) | (with_reducible refine Kd.C_drewN ?_ _) | (with_reducible refine Kd.C_drew ?_)))
                (case side2 => exact HC0_3.out)
                (case side3 => repeat (first | exact (Kd.C_below HR1.out HB.out) | (with_reducible refine Kd.C_alloc ?_ _) | (with_reducible refine Kd.C_drewN ?_ _) | (with_reducible refine Kd.C_drew ?_)))
                (case side4 => exact HC1.out)
                (case side5 => repeat (first | exact (Kd.C_below HR157.out HB.out) | (with_reducible refine Kd.C_alloc ?_ _) | (with_reducible refine Kd.C_drewN ?_ _) | (with_reducible refine Kd.C_drew ?_)))
                (case side6 => exact HC157.out)
                rintro e w56 ⟨rfl, hb⟩
                refine ⟨_, rfl, ?_⟩
                (have n0_ := Aside0.mk (Kd.R_below (by (with_reducible repeat (first | apply Kd.R_alloc | apply Kd.R_drewN | apply Kd.R_drew)); exact HO_9.out) hb)); (have n1_ := Aside0.mk (blk_below (g := gb144) (o := .cells #[.int .i64 a0_0, .int .i64 a0_1, .int .i64 a0_2, .slice (some ad151) l0_3.length c0_3] 24 (0, 0)) (by (with_reducible repeat (first | refine blk_drewN ?_ _ | refine blk_drew ?_ | refine blk_alloc ?_ _)); exact BK144.out) hb)); (have n2_ := Aside0.mk (blk_below (g := gb152) (o := .cells #[.int .i64 ((rd_T38 l0_3 x36_2).f0), .slice (some ad153) ((rd_T38 l0_3 x36_2).f1).length c151_1] 38 (0, 0)) (by (with_reducible repeat (first | refine blk_drewN ?_ _ | refine blk_drew ?_ | refine blk_alloc ?_ _)); exact BK152.out) hb)); (have n3_ := Aside0.mk (below_step (by repeat (first | (with_reducible first | exact HB.out | apply below_alloc | apply pw_below_drewN | apply below_drew1 | refine below_set ?_ GE144.out | refine below_set ?_ GE152.out) | exact HB.out)) hb)); (clear HO_9); (clear BK144); (clear BK152); (clear HB); (have HO_9 := n0_); (have BK144 := n1_); (have BK152 := n2_); (have HB := n3_); (clear n0_ n1_ n2_ n3_); ((try clear hb)); ((try clear hb2)); ((try clear hk)); ((try clear hi))
                refine hK.out _ _ ⟨(blk_cell BK144.out 0).trans rfl, (blk_cell BK144.out 1).trans rfl, (blk_cell BK144.out 2).trans rfl, (blk_cell BK144.out 3).trans rfl, (blk_cell BK152.out 0).trans rfl, (blk_cell BK152.out 1).trans rfl⟩ (fun hHeld => ?_)
                clear hK K
                refine norm_ (a' := ?_) ?_ ?_
                rotate_left
                · show Act.put _ (some 67) _ = _
                  simp only [Act.put, List.setIfInBounds_toArray, List.set_cons_zero, List.set_cons_succ, i64_w, i32_w]
                  rfl
                refine pure_ (i := 9) (N := some 58) (v := ?_) (a' := ?_) #[true, true, true, true, true, true, true, true, true, true, false, false, false, false] rfl rfl (any_of HT_.out (by kernel_rfl)) (fun _ _ _ h => h) (Or.inl ⟨by rfl, ?_⟩) ?_ ?_
                rotate_left
                · intro w'
                  go_simp
                  with_reducible rfl
                rotate_left
                · simp only [Act.put, List.setIfInBounds_toArray, List.set_cons_zero, List.set_cons_succ, i64_w, i32_w]
                  rfl
                refine pure_ (i := 10) (N := some 68) (v := ?_) (a' := ?_) #[true, true, true, true, true, true, true, true, true, true, true, false, false, false] rfl rfl (any_of HT_.out (by kernel_rfl)) (fun _ _ _ h => h) (Or.inl ⟨by rfl, ?_⟩) ?_ ?_
                rotate_left
                · intro w'
                  go_simp
                  with_reducible rfl
                rotate_left
                · simp only [Act.put, List.setIfInBounds_toArray, List.set_cons_zero, List.set_cons_succ, i64_w, i32_w]
                  rfl
                refine pure_ (i := 11) (N := some 69) (v := ?_) (a' := ?_) #[true, true, true, true, true, true, true, true, true, true, true, true, false, false] rfl rfl (any_of HT_.out (by kernel_rfl)) (fun _ _ _ h => h) (Or.inl ⟨by rfl, ?_⟩) ?_ ?_
                rotate_left
                · intro w'
                  go_simp
                  with_reducible rfl
                rotate_left
                · simp only [Act.put, List.setIfInBounds_toArray, List.set_cons_zero, List.set_cons_succ, i64_w, i32_w]
                  rfl
                refine pure_ (i := 12) (N := some 15) (v := ?_) (a' := ?_) #[true, true, true, true, true, true, true, true, true, true, true, true, true, false] rfl rfl (any_of HT_.out (by kernel_rfl)) (fun _ _ _ h => h) (Or.inl ⟨by rfl, ?_⟩) ?_ ?_
                rotate_left
                · intro w'
                  go_simp
                  with_reducible rfl
                rotate_left
                · simp only [Act.put, List.setIfInBounds_toArray, List.set_cons_zero, List.set_cons_succ, i64_w, i32_w]
                  rfl
                refine pure_ (i := 13) (N := some 16) (v := ?_) (a' := ?_) #[true, true, true, true, true, true, true, true, true, true, true, true, true, true] rfl rfl (any_of HT_.out (by kernel_rfl)) (fun _ _ _ h => h) (Or.inl ⟨by rfl, ?_⟩) ?_ ?_
                rotate_left
                · intro w'
                  go_simp
                  with_reducible rfl
                rotate_left
                · simp only [Act.put, List.setIfInBounds_toArray, List.set_cons_zero, List.set_cons_succ, i64_w, i32_w]
                  rfl
                refine done_ (done_of HT_.out (by kernel_rfl)) ?_
                (have hcz57_0 : w56.cell? ⟨gb152, 0, none⟩ = some (.int .i64 ((rd_T38 l0_3 x36_2).f0)) := (blk_cell BK152.out 0).trans rfl); (have hcz57_1 : w56.cell? ⟨gb152, 1, none⟩ = some (.slice (some ad153) ((rd_T38 l0_3 x36_2).f1).length c151_1) := (blk_cell BK152.out 1).trans rfl); (have hfz57_0 := blk_frozen BK152.out 0); (have hfz57_1 := blk_frozen BK152.out 1); (have p160 : 0 ≤ (((rd_T38 l0_3 x36_2).f0) : Int) := of_decide_eq_true (by assumption)); (have q160 : ((rd_T38 l0_3 x36_2).f0) < (x9_3.length : Int) := of_decide_eq_true (by assumption)); (obtain ⟨ad160, e160, hx160_0⟩ := Kd.at_int (Kd.R_reads' HO_9.out).2.2 ((rd_T38 l0_3 x36_2).f0) p160 q160); (obtain rfl : (⟨go11, 0, none⟩ : Addr) = ad160 := (by injection e160))
                (first | simp only [add_plain] at hx160_0 | simp only [add_at] at hx160_0 | simp only [Addr.add, Nat.zero_add] at hx160_0 | skip)
                (replace p160 := eq_true p160); (replace q160 := eq_true q160); (have hcz58_0 : w56.cell? ⟨gb144, 0, none⟩ = some (.int .i64 a0_0) := (blk_cell BK144.out 0).trans rfl); (have hcz58_1 : w56.cell? ⟨gb144, 1, none⟩ = some (.int .i64 a0_1) := (blk_cell BK144.out 1).trans rfl); (have hcz58_2 : w56.cell? ⟨gb144, 2, none⟩ = some (.int .i64 a0_2) := (blk_cell BK144.out 2).trans rfl); (have hcz58_3 : w56.cell? ⟨gb144, 3, none⟩ = some (.slice (some ad151) l0_3.length c0_3) := (blk_cell BK144.out 3).trans rfl); (have hfz58_0 := blk_frozen BK144.out 0); (have hfz58_1 := blk_frozen BK144.out 1); (have hfz58_2 := blk_frozen BK144.out 2); (have hfz58_3 := blk_frozen BK144.out 3); (have p161 : 0 ≤ ((ji48) : Int) := of_decide_eq_true (by assumption)); (have q161 : (ji48) < (x9_3.length : Int) := of_decide_eq_true (by assumption)); (obtain ⟨ad161, e161, hx161_0⟩ := Kd.at_int (Kd.R_reads' HO_9.out).2.2 (ji48) p161 q161); (obtain rfl : (⟨go11, 0, none⟩ : Addr) = ad161 := (by injection e161))
                (first | simp only [add_plain] at hx161_0 | simp only [add_at] at hx161_0 | simp only [Addr.add, Nat.zero_add] at hx161_0 | skip)
                (replace p161 := eq_true p161); (replace q161 := eq_true q161); (have p51 : 0 ≤ ((ji48) : Int) := of_decide_eq_true (by assumption)); (have q51 : ((ji48) : Int) < ((x9_3.length : Int) : Int) := of_decide_eq_true (by assumption)); (obtain ⟨hx51_0, hf51_0⟩ := Kd.R_celln 0 HO_9.out ((ji48) : Int) p51 q51); (replace p51 := eq_true p51); (replace q51 := eq_true q51); (obtain ⟨hy59_, hz59_⟩ := Kd.R_celln 0 HO_9.out ((ji48) : Int) (of_decide_eq_true (by assumption)) (of_decide_eq_true (by assumption))); (have HP59 := Kd.R_putg HO_9.out ((ji48) : Int) (Go.bits .or .u32 (rd x9_3 (ji48)) (Go.bits .or .u32 t158 (rd x9_3 ((rd_T38 l0_3 x36_2).f0)))))
                try go_wp2_with (first | ((with_reducible refine gate_store (t := 28) (p := 100) rfl ?_); refine store_event (t := 28) (p := 100) (v := ?vo_w60) (w1 := (w56.setCell ⟨go11, ((ji48) : Int).toNat, none⟩ (.int .u32 (Go.bits .or .u32 (rd x9_3 (ji48)) (Go.bits .or .u32 t158 (rd x9_3 ((rd_T38 l0_3 x36_2).f0))))))) ?hg ?ho ?hn ?hr ?_; (case ho => rfl); (case hg => rfl); (case hn => rfl); (case hr => first | (go_simp; done) | (go_simp; rfl)); intro w60 hw; have hg : w56.grownBy w60 (some go11) := (by rw [hw]; exact HP59.2); have hp_ : Kd.R (Kd.int .u32) 28 w60 w.heap.size (fun _ => True) (.slice (some ⟨go11, 0, none⟩) x9_3.length co11) y162 := (by rw [hw, Ny162.out]; exact HP59.1); clear HP59; have n0_ := Aside0.mk (hp_); have n1_ := Aside0.mk (blk_grown (g := gb144) (o := .cells #[.int .i64 a0_0, .int .i64 a0_1, .int .i64 a0_2, .slice (some ad151) l0_3.length c0_3] 24 (0, 0)) (by (with_reducible repeat (first | refine blk_drewN ?_ _ | refine blk_drew ?_ | refine blk_alloc ?_ _)); exact BK144.out) hg (Kd.R_ne HO_9.out BK144.out (by decide))); have n2_ := Aside0.mk (blk_grown (g := gb152) (o := .cells #[.int .i64 ((rd_T38 l0_3 x36_2).f0), .slice (some ad153) ((rd_T38 l0_3 x36_2).f1).length c151_1] 38 (0, 0)) (by (with_reducible repeat (first | refine blk_drewN ?_ _ | refine blk_drew ?_ | refine blk_alloc ?_ _)); exact BK152.out) hg (Kd.R_ne HO_9.out BK152.out (by decide))); have n3_ := Aside0.mk ((by rw [hw]; exact below_set (HB.out) GB11.out : Below w.heap.size w w60)); clear HO_9; clear BK144; clear BK152; clear HB; have HO_9 := n0_; have BK144 := n1_; have BK152 := n2_; have HB := n3_; clear n0_ n1_ n2_ n3_; clear hg hw hp_))
                (try simp only [← hl9_3])
                (first | go_roundg k3 | (simp only [← hji48]; go_roundg k3) | (simp only [← hji40, ← hji48]; go_roundg k3) | (simp only [← hji26, ← hji40, ← hji48]; go_roundg k3) | (simp only [← hji8, ← hji26, ← hji40, ← hji48]; go_roundg k3))
                case measure => have := HK1.out; have := HK2.out; have := HK3.out; omega
                case rel => exact ⟨(y162), (true), (ji40), (by first | rfl | (simp; done) | (simp [*]; done)), (by first | rfl | (simp; done) | (simp only [← hji40] <;> (first | rfl | simp)) | (simp [*]; done)), H', ⟨by have := HK1.out; have := HK2.out; have := HK3.out; omega⟩, ⟨by (try simp only [hl9_1]); (try simp only [hl9_2]); (try simp only [hl9_3]); (with_reducible repeat (first | apply Kd.R_alloc | apply Kd.R_drewN | apply Kd.R_drew)); exact HO_9.out⟩, ⟨by (try simp only [hl9_1]); (try simp only [hl9_2]); (try simp only [hl9_3]); (with_reducible repeat (first | refine blk_drewN ?_ _ | refine blk_drew ?_ | refine blk_alloc ?_ _)); exact BK144.out⟩, ⟨by (try simp only [hl9_1]); (try simp only [hl9_2]); (try simp only [hl9_3]); (with_reducible repeat (first | refine blk_drewN ?_ _ | refine blk_drew ?_ | refine blk_alloc ?_ _)); exact BK152.out⟩, ⟨by repeat (first | (with_reducible first | exact HB.out | apply below_alloc | apply pw_below_drewN | apply below_drew1 | refine below_set ?_ GE144.out | refine below_set ?_ GE152.out) | exact HB.out)⟩⟩
              (replace c47 := Bool.eq_false_iff.mpr c47); (subst c47); (have H1 : (if 0 ≤ (wrap64 ((rd ((rd_T38 l0_3 x36_2).f1) x49_3) - a0_0)) then (if (wrap64 ((rd ((rd_T38 l0_3 x36_2).f1) x49_3) - a0_0)) < (x9_3.length : Int) then (ahead_follows.l2 k3 l1 a2 t145 (x9_3.set ((wrap64 ((rd ((rd_T38 l0_3 x36_2).f1) x49_3) - a0_0)) : Int).toNat (Go.bits .or .u32 (rd x9_3 (wrap64 ((rd ((rd_T38 l0_3 x36_2).f1) x49_3) - a0_0))) (Go.bits .or .u32 t158 (rd x9_3 ((rd_T38 l0_3 x36_2).f0))))) ((Go.bits .andNot .u32 (Go.bits .or .u32 t158 (rd x9_3 ((rd_T38 l0_3 x36_2).f0))) (rd x9_3 (wrap64 ((rd ((rd_T38 l0_3 x36_2).f1) x49_3) - a0_0)))) != 0) l0_3 (l0_3.length : Int) x36_2 ((rd_T38 l0_3 x36_2).f1) (((rd_T38 l0_3 x36_2).f1).length : Int) ji40 a0_0 a0_1 a0_2 l0_3 ((rd_T38 l0_3 x36_2).f0) ((rd_T38 l0_3 x36_2).f1)) else (none)) else (none)) = some r := by rw [if_neg (show ¬ (false = true) by decide)] at H; exact H); (clear H); (have H := H1); (clear H1); (obtain ⟨ji61, hji61⟩ : ∃ j_ : Int, (wrap64 ((rd ((rd_T38 l0_3 x36_2).f1) x49_3) - a0_0)) = j_ := ⟨_, rfl⟩); (replace H : (if 0 ≤ (ji61) then (if (ji61) < (x9_3.length : Int) then (ahead_follows.l2 k3 l1 a2 t145 (x9_3.set ((ji61) : Int).toNat (Go.bits .or .u32 (rd x9_3 (ji61)) (Go.bits .or .u32 t158 (rd x9_3 ((rd_T38 l0_3 x36_2).f0))))) ((Go.bits .andNot .u32 (Go.bits .or .u32 t158 (rd x9_3 ((rd_T38 l0_3 x36_2).f0))) (rd x9_3 (ji61))) != 0) l0_3 (l0_3.length : Int) x36_2 ((rd_T38 l0_3 x36_2).f1) (((rd_T38 l0_3 x36_2).f1).length : Int) ji40 a0_0 a0_1 a0_2 l0_3 ((rd_T38 l0_3 x36_2).f0) ((rd_T38 l0_3 x36_2).f1)) else (none)) else (none)) = some r := by first | (rw [hji61] at H; exact H) | (simp only [hji61] at H ⊢; exact H))
              ((try rw [hji61] at A43)); (have hji61w : (IntKind.i64.wrap ((rd ((rd_T38 l0_3 x36_2).f1) x49_3) - a0_0)) = ji61 := (i64_w _).trans hji61)
              by_cases c62 : 0 ≤ (ji61)
              rotate_left
              · rw [if_neg c62] at H
                exact absurd H (by simp)
              (rw [if_pos c62] at H); (have c62b0 : decide (0 ≤ (ji61)) = true := decide_eq_true c62); (clear c62)
              by_cases c63 : (ji61) < (x9_3.length : Int)
              rotate_left
              · rw [if_neg c63] at H
                exact absurd H (by simp)
              (rw [if_pos c63] at H); (have c63b0 : decide ((ji61) < (x9_3.length : Int)) = true := decide_eq_true c63); ((try (have c63b0h := c63b0; simp only [hl9_1, hl9_2, hl9_3] at c63b0h))); (clear c63); (obtain ⟨y165, hy165⟩ : ∃ y_ : List Int, y_ = (x9_3.set ((ji61) : Int).toNat (Go.bits .or .u32 (rd x9_3 (ji61)) (Go.bits .or .u32 t158 (rd x9_3 ((rd_T38 l0_3 x36_2).f0))))) := ⟨_, rfl⟩); (replace H : (ahead_follows.l2 k3 l1 a2 t145 y165 ((Go.bits .andNot .u32 (Go.bits .or .u32 t158 (rd x9_3 ((rd_T38 l0_3 x36_2).f0))) (rd x9_3 (ji61))) != 0) l0_3 (l0_3.length : Int) x36_2 ((rd_T38 l0_3 x36_2).f1) (((rd_T38 l0_3 x36_2).f1).length : Int) ji40 a0_0 a0_1 a0_2 l0_3 ((rd_T38 l0_3 x36_2).f0) ((rd_T38 l0_3 x36_2).f1)) = some r := by first | (rw [hy165]; with_reducible exact H) | (have H2_ := (Option.bind_some _ _).symm.trans H; rw [hy165]; with_reducible exact H2_) | (have H2_ := (Option.bind_some _ _).symm.trans H; with_reducible exact H2_) | with_reducible exact H | (rw [hy165]; exact H) | exact H); (have Ny165 := Aside0.mk hy165); (clear hy165); (have H' := Aside0.mk H); (clear H); (have p153 : 0 ≤ (x49_3 : Int) := of_decide_eq_true (by assumption)); (have q153 : x49_3 < (((rd_T38 l0_3 x36_2).f1).length : Int) := of_decide_eq_true (by assumption)); (obtain ⟨ad153, e153, hx153_0⟩ := Kd.at_int HR151_1.out x49_3 p153 q153); (cases e153); (replace hx153_0 := (HB.out.cell (World.block_lt_of_cell? w _ hx153_0)).trans hx153_0); (replace p153 := eq_true p153); (replace q153 := eq_true q153); (have hnb65 := NB144_152.out); (have hnc65 := NB152_144.out); (have hcz66_0 : wr.cell? ⟨gb144, 0, none⟩ = some (.int .i64 a0_0) := (blk_cell BK144.out 0).trans rfl)
              (have hcz66_1 : wr.cell? ⟨gb144, 1, none⟩ = some (.int .i64 a0_1) := (blk_cell BK144.out 1).trans rfl); (have hcz66_2 : wr.cell? ⟨gb144, 2, none⟩ = some (.int .i64 a0_2) := (blk_cell BK144.out 2).trans rfl); (have hcz66_3 : wr.cell? ⟨gb144, 3, none⟩ = some (.slice (some ad151) l0_3.length c0_3) := (blk_cell BK144.out 3).trans rfl); (have hfz66_0 := blk_frozen BK144.out 0); (have hfz66_1 := blk_frozen BK144.out 1); (have hfz66_2 := blk_frozen BK144.out 2); (have hfz66_3 := blk_frozen BK144.out 3)
              try go_wp2
              (have n0_ := Aside0.mk (Kd.R_drew HO_9.out)); (have n1_ := Aside0.mk (blk_drew BK144.out)); (have n2_ := Aside0.mk (blk_drew BK152.out)); (have n3_ := Aside0.mk (below_drew1 HB.out)); (clear HO_9); (clear BK144); (clear BK152); (clear HB); (have HO_9 := n0_); (have BK144 := n1_); (have BK152 := n2_); (have HB := n3_); (clear n0_ n1_ n2_ n3_); (have q68 : ((ji40) : Int) ≤ ((((rd_T38 l0_3 x36_2).f1).length : Int) : Int) := of_decide_eq_true (by assumption)); (obtain ⟨i068, hi068, _, hsz68, _⟩ := info_parts info3); (have hroom68 : ((rd_T38 l0_3 x36_2).f1).length ≤ c151_1 := HC151_1.out); (have hC68 : Kd.C (Kd.int .i64) _ (some ad153) ((rd_T38 l0_3 x36_2).f1).length ((rd_T38 l0_3 x36_2).f1) := HR151_1.out); (have q068 : (0 : Int) ≤ ((ji40) : Int) := of_decide_eq_true (by assumption)); (have hcut68 := cut_from (P := Try.prog) 33 3 .i64 Try.underlying33 hi068 1 hsz68 (some ad153) ((rd_T38 l0_3 x36_2).f1).length c151_1 (ji40) q068 q68); (have hr68 := Kd.C_drop (m := ((ji40) : Int).toNat) (c := c151_1) hC68 (by omega) hroom68); (obtain ⟨A68, hA68⟩ : ∃ Aq_, Aq_ = (if c151_1 = ((ji40) : Int).toNat then (some ad153) else ((some ad153) : Option Addr).map (·.add (((ji40) : Int).toNat * 1))) := ⟨_, rfl⟩); (obtain ⟨c68, hc68⟩ : ∃ cq_, cq_ = c151_1 - ((ji40) : Int).toNat := ⟨_, rfl⟩); (have hy68 : y154.length = ((rd_T38 l0_3 x36_2).f1).length - ((ji40) : Int).toNat := (by rw [Ny154.out, List.length_drop] <;> omega)); (rw [show (((rd_T38 l0_3 x36_2).f1)).drop ((ji40) : Int).toNat = y154 from Ny154.out.symm] at hr68); (replace hr68 : Kd.C (Kd.int .i64) _ A68 y154.length y154 := (by rw [hA68]; exact hr68))
              (rw [← hy68, ← hA68, ← hc68] at hcut68); (have HR157 := Aside0.mk hr68); (have HC157 := Aside0.mk (show y154.length ≤ c68 from by rw [hy68, hc68]; exact Nat.sub_le_sub_right hroom68 _)); (clear hr68 hC68 hroom68 hi068 hsz68 hc68); (have KY68 := Aside0.mk hy68); (have KA68 := Aside0.mk hA68); (clear hy68 hA68); (replace q68 := eq_true q68)
              refine start_ (n := 14) (S := fun w' => w'.cell? ⟨gb144, 0, none⟩ = some (.int .i64 a0_0) ∧ w'.cell? ⟨gb144, 1, none⟩ = some (.int .i64 a0_1) ∧ w'.cell? ⟨gb144, 2, none⟩ = some (.int .i64 a0_2) ∧ w'.cell? ⟨gb144, 3, none⟩ = some (.slice (some ad151) l0_3.length c0_3) ∧ w'.cell? ⟨gb152, 0, none⟩ = some (.int .i64 ((rd_T38 l0_3 x36_2).f0)) ∧ w'.cell? ⟨gb152, 1, none⟩ = some (.slice (some ad153) ((rd_T38 l0_3 x36_2).f1).length c151_1)) (ds := []) #[false, false, false, false, false, false, false, false, false, false, false, false, false, false] (by kernel_rfl) rfl rfl ⟨(blk_cell BK144.out 0).trans rfl, (blk_cell BK144.out 1).trans rfl, (blk_cell BK144.out 2).trans rfl, (blk_cell BK144.out 3).trans rfl, (blk_cell BK152.out 0).trans rfl, (blk_cell BK152.out 1).trans rfl⟩ (fun hHeld => ?_); refine with_tabW ahead_follows.tab15 ahead_follows.bits15 (fun HT_ HW_ => ?_)
              generalize wr.drew = w67 at HO_9 BK144 BK152 HB HR157 hHeld ⊢
              refine pure_ (i := 1) (N := some 60) (v := ?_) (a' := ?_) #[false, true, false, false, false, false, false, false, false, false, false, false, false, false] rfl rfl (any_of HT_.out (by kernel_rfl)) (fun _ _ _ h => h) (Or.inl ⟨by rfl, ?_⟩) ?_ ?_
              rotate_left
              · intro w'
                go_simp
                with_reducible rfl
              rotate_left
              · simp only [Act.put, List.setIfInBounds_toArray, List.set_cons_zero, List.set_cons_succ, i64_w, i32_w]
                rfl
              refine pure_ (i := 2) (N := some 61) (v := ?_) (a' := ?_) #[false, true, true, false, false, false, false, false, false, false, false, false, false, false] rfl rfl (any_of HT_.out (by kernel_rfl)) (fun _ _ _ h => h) (Or.inl ⟨by rfl, ?_⟩) ?_ ?_
              rotate_left
              · intro w'
                go_simp
                with_reducible rfl
              rotate_left
              · simp only [Act.put, List.setIfInBounds_toArray, List.set_cons_zero, List.set_cons_succ, i64_w, i32_w]
                rfl
              refine pure_ (i := 3) (N := some 62) (v := ?_) (a' := ?_) #[false, true, true, true, false, false, false, false, false, false, false, false, false, false] rfl rfl (any_of HT_.out (by kernel_rfl)) (fun _ _ _ h => h) (Or.inl ⟨by rfl, ?_⟩) ?_ ?_
              rotate_left
              · intro w'
                go_simp
                with_reducible rfl
              rotate_left
              · simp only [Act.put, List.setIfInBounds_toArray, List.set_cons_zero, List.set_cons_succ, i64_w, i32_w]
                rfl
              refine pure_ (i := 5) (N := some 64) (v := ?_) (a' := ?_) #[false, true, true, true, false, true, false, false, false, false, false, false, false, false] rfl rfl (any_of HT_.out (by kernel_rfl)) (fun _ _ _ h => h) (Or.inl ⟨by rfl, ?_⟩) ?_ ?_
              rotate_left
              · intro w'
                go_simp
                with_reducible rfl
              rotate_left
              · simp only [Act.put, List.setIfInBounds_toArray, List.set_cons_zero, List.set_cons_succ, i64_w, i32_w]
                rfl
              refine pure_ (i := 6) (N := some 65) (v := ?_) (a' := ?_) #[false, true, true, true, false, true, true, false, false, false, false, false, false, false] rfl rfl (any_of HT_.out (by kernel_rfl)) (fun _ _ _ h => h) (Or.inl ⟨by rfl, ?_⟩) ?_ ?_
              rotate_left
              · intro w'
                go_simp
                with_reducible rfl
              rotate_left
              · simp only [Act.put, List.setIfInBounds_toArray, List.set_cons_zero, List.set_cons_succ, i64_w, i32_w]
                rfl
              refine take_ (i := 0) (N := some 59) (v := ?_) (a' := ?_) #[true, true, true, true, false, true, true, false, false, false, false, false, false, false] rfl rfl (take_ofW HT_.out HW_.out (by kernel_rfl)) (fun _ _ _ h => h) (Or.inl ⟨by rfl, ?_⟩) hHeld ?_ ?_
              rotate_left
              · rintro w' ⟨s0, s1, s2, s3, s4, s5⟩
                go_simp
                with_reducible rfl
              rotate_left
              · simp only [Act.put, List.setIfInBounds_toArray, List.set_cons_zero, List.set_cons_succ, i64_w, i32_w]
                rfl
              refine take_ (i := 4) (N := some 63) (v := ?_) (a' := ?_) #[true, true, true, true, true, true, true, false, false, false, false, false, false, false] rfl rfl (take_ofW HT_.out HW_.out (by kernel_rfl)) (fun _ _ _ h => h) (Or.inl ⟨by rfl, ?_⟩) hHeld ?_ ?_
              rotate_left
              · rintro w' ⟨s0, s1, s2, s3, s4, s5⟩
                go_simp
                with_reducible rfl
              rotate_left
              · simp only [Act.put, List.setIfInBounds_toArray, List.set_cons_zero, List.set_cons_succ, i64_w, i32_w]
                rfl
              refine pure_ (i := 7) (N := some 66) (v := ?_) (a' := ?_) #[true, true, true, true, true, true, true, true, false, false, false, false, false, false] rfl rfl (any_of HT_.out (by kernel_rfl)) (fun _ _ _ h => h) (Or.inl ⟨by rfl, ?_⟩) ?_ ?_
              rotate_left
              · intro w'
                go_simp
                with_reducible rfl
              rotate_left
              · simp only [Act.put, List.setIfInBounds_toArray, List.set_cons_zero, List.set_cons_succ, i64_w, i32_w]
                rfl
              refine one_ (i := 8) (N := some 67) #[true, true, true, true, true, true, true, true, true, false, false, false, false, false] rfl rfl (one_of HT_.out (by kernel_rfl)) (by decide) (fun K hK => ?_)
              refine goes_ Try.func77 (by kernel_rfl) rfl #[.agg #[.int .i64 a0_0, .int .i64 a0_1, .int .i64 a0_2, .slice (some ad151) l0_3.length c0_3], .slice A1 l1.length c1, .int .u32 a2, .slice A68 y154.length c68] (by rfl) rfl rfl (by (try simp only [List.map_toArray, List.map_cons, List.map_nil]); first | done | rfl | (simp only [List.length_drop, List.length_take]; rfl)) ?_
              with_reducible refine (ahead_begin.calls k3 a0_0 a0_1 a0_2 _ _ l0_3 _ _ l1 a2 _ _ y154 t158 true _ ?side1 ?side2 ?side3 ?side4 ?side5 ?side6 A43.out).mono ?_
              (case side1 => repeat (first | exact (Kd.C_below HR0_3.out HB.out) | (with_reducible refine Kd.C_alloc ?_ _) | (with_reducible refine Kd.C_drewN ?_ _) | (with_reducible refine Kd.C_drew ?_)))
              (case side2 => exact HC0_3.out)
              (case side3 => repeat (first | exact (Kd.C_below HR1.out HB.out) | (with_reducible refine Kd.C_alloc ?_ _) | (with_reducible refine Kd.C_drewN ?_ _) | (with_reducible refine Kd.C_drew ?_)))
              (case side4 => exact HC1.out)
              (case side5 => repeat (first | exact (Kd.C_below HR157.out HB.out) | (with_reducible refine Kd.C_alloc ?_ _) | (with_reducible refine Kd.C_drewN ?_ _) | (with_reducible refine Kd.C_drew ?_)))
              (case side6 => exact HC157.out)
              rintro e w69 ⟨rfl, hb⟩
              refine ⟨_, rfl, ?_⟩
              (have n0_ := Aside0.mk (Kd.R_below (by (with_reducible repeat (first | apply Kd.R_alloc | apply Kd.R_drewN | apply Kd.R_drew)); exact HO_9.out) hb)); (have n1_ := Aside0.mk (blk_below (g := gb144) (o := .cells #[.int .i64 a0_0, .int .i64 a0_1, .int .i64 a0_2, .slice (some ad151) l0_3.length c0_3] 24 (0, 0)) (by (with_reducible repeat (first | refine blk_drewN ?_ _ | refine blk_drew ?_ | refine blk_alloc ?_ _)); exact BK144.out) hb)); (have n2_ := Aside0.mk (blk_below (g := gb152) (o := .cells #[.int .i64 ((rd_T38 l0_3 x36_2).f0), .slice (some ad153) ((rd_T38 l0_3 x36_2).f1).length c151_1] 38 (0, 0)) (by (with_reducible repeat (first | refine blk_drewN ?_ _ | refine blk_drew ?_ | refine blk_alloc ?_ _)); exact BK152.out) hb)); (have n3_ := Aside0.mk (below_step (by repeat (first | (with_reducible first | exact HB.out | apply below_alloc | apply pw_below_drewN | apply below_drew1 | refine below_set ?_ GE144.out | refine below_set ?_ GE152.out) | exact HB.out)) hb)); (clear HO_9); (clear BK144); (clear BK152); (clear HB); (have HO_9 := n0_); (have BK144 := n1_); (have BK152 := n2_); (have HB := n3_); (clear n0_ n1_ n2_ n3_); ((try clear hb)); ((try clear hb2)); ((try clear hk)); ((try clear hi))
              refine hK.out _ _ ⟨(blk_cell BK144.out 0).trans rfl, (blk_cell BK144.out 1).trans rfl, (blk_cell BK144.out 2).trans rfl, (blk_cell BK144.out 3).trans rfl, (blk_cell BK152.out 0).trans rfl, (blk_cell BK152.out 1).trans rfl⟩ (fun hHeld => ?_)
              clear hK K
              refine norm_ (a' := ?_) ?_ ?_
              rotate_left
              · show Act.put _ (some 67) _ = _
                simp only [Act.put, List.setIfInBounds_toArray, List.set_cons_zero, List.set_cons_succ, i64_w, i32_w]
                rfl
              refine pure_ (i := 9) (N := some 58) (v := ?_) (a' := ?_) #[true, true, true, true, true, true, true, true, true, true, false, false, false, false] rfl rfl (any_of HT_.out (by kernel_rfl)) (fun _ _ _ h => h) (Or.inl ⟨by rfl, ?_⟩) ?_ ?_
              rotate_left
              · intro w'
                go_simp
                with_reducible rfl
              rotate_left
              · simp only [Act.put, List.setIfInBounds_toArray, List.set_cons_zero, List.set_cons_succ, i64_w, i32_w]
                rfl
              refine pure_ (i := 10) (N := some 68) (v := ?_) (a' := ?_) #[true, true, true, true, true, true, true, true, true, true, true, false, false, false] rfl rfl (any_of HT_.out (by kernel_rfl)) (fun _ _ _ h => h) (Or.inl ⟨by rfl, ?_⟩) ?_ ?_
              rotate_left
              · intro w'
                go_simp
                with_reducible rfl
              rotate_left
              · simp only [Act.put, List.setIfInBounds_toArray, List.set_cons_zero, List.set_cons_succ, i64_w, i32_w]
                rfl
              refine pure_ (i := 11) (N := some 69) (v := ?_) (a' := ?_) #[true, true, true, true, true, true, true, true, true, true, true, true, false, false] rfl rfl (any_of HT_.out (by kernel_rfl)) (fun _ _ _ h => h) (Or.inl ⟨by rfl, ?_⟩) ?_ ?_
              rotate_left
              · intro w'
                go_simp
                with_reducible rfl
              rotate_left
              · simp only [Act.put, List.setIfInBounds_toArray, List.set_cons_zero, List.set_cons_succ, i64_w, i32_w]
                rfl
              refine pure_ (i := 12) (N := some 15) (v := ?_) (a' := ?_) #[true, true, true, true, true, true, true, true, true, true, true, true, true, false] rfl rfl (any_of HT_.out (by kernel_rfl)) (fun _ _ _ h => h) (Or.inl ⟨by rfl, ?_⟩) ?_ ?_
              rotate_left
              · intro w'
                go_simp
                with_reducible rfl
              rotate_left
              · simp only [Act.put, List.setIfInBounds_toArray, List.set_cons_zero, List.set_cons_succ, i64_w, i32_w]
                rfl
              refine pure_ (i := 13) (N := some 16) (v := ?_) (a' := ?_) #[true, true, true, true, true, true, true, true, true, true, true, true, true, true] rfl rfl (any_of HT_.out (by kernel_rfl)) (fun _ _ _ h => h) (Or.inl ⟨by rfl, ?_⟩) ?_ ?_
              rotate_left
              · intro w'
                go_simp
                with_reducible rfl
              rotate_left
              · simp only [Act.put, List.setIfInBounds_toArray, List.set_cons_zero, List.set_cons_succ, i64_w, i32_w]
                rfl
              refine done_ (done_of HT_.out (by kernel_rfl)) ?_
              (have hcz70_0 : w69.cell? ⟨gb152, 0, none⟩ = some (.int .i64 ((rd_T38 l0_3 x36_2).f0)) := (blk_cell BK152.out 0).trans rfl); (have hcz70_1 : w69.cell? ⟨gb152, 1, none⟩ = some (.slice (some ad153) ((rd_T38 l0_3 x36_2).f1).length c151_1) := (blk_cell BK152.out 1).trans rfl); (have hfz70_0 := blk_frozen BK152.out 0); (have hfz70_1 := blk_frozen BK152.out 1); (have p160 : 0 ≤ (((rd_T38 l0_3 x36_2).f0) : Int) := of_decide_eq_true (by assumption)); (have q160 : ((rd_T38 l0_3 x36_2).f0) < (x9_3.length : Int) := of_decide_eq_true (by assumption)); (obtain ⟨ad160, e160, hx160_0⟩ := Kd.at_int (Kd.R_reads' HO_9.out).2.2 ((rd_T38 l0_3 x36_2).f0) p160 q160); (obtain rfl : (⟨go11, 0, none⟩ : Addr) = ad160 := (by injection e160))
              (first | simp only [add_plain] at hx160_0 | simp only [add_at] at hx160_0 | simp only [Addr.add, Nat.zero_add] at hx160_0 | skip)
              (replace p160 := eq_true p160); (replace q160 := eq_true q160); (have hcz71_0 : w69.cell? ⟨gb144, 0, none⟩ = some (.int .i64 a0_0) := (blk_cell BK144.out 0).trans rfl); (have hcz71_1 : w69.cell? ⟨gb144, 1, none⟩ = some (.int .i64 a0_1) := (blk_cell BK144.out 1).trans rfl); (have hcz71_2 : w69.cell? ⟨gb144, 2, none⟩ = some (.int .i64 a0_2) := (blk_cell BK144.out 2).trans rfl); (have hcz71_3 : w69.cell? ⟨gb144, 3, none⟩ = some (.slice (some ad151) l0_3.length c0_3) := (blk_cell BK144.out 3).trans rfl); (have hfz71_0 := blk_frozen BK144.out 0); (have hfz71_1 := blk_frozen BK144.out 1); (have hfz71_2 := blk_frozen BK144.out 2); (have hfz71_3 := blk_frozen BK144.out 3); (have p163 : 0 ≤ ((ji61) : Int) := of_decide_eq_true (by assumption)); (have q163 : (ji61) < (x9_3.length : Int) := of_decide_eq_true (by assumption)); (obtain ⟨ad163, e163, hx163_0⟩ := Kd.at_int (Kd.R_reads' HO_9.out).2.2 (ji61) p163 q163); (obtain rfl : (⟨go11, 0, none⟩ : Addr) = ad163 := (by injection e163))
              (first | simp only [add_plain] at hx163_0 | simp only [add_at] at hx163_0 | simp only [Addr.add, Nat.zero_add] at hx163_0 | skip)
              (replace p163 := eq_true p163); (replace q163 := eq_true q163); (have p164 : 0 ≤ ((ji61) : Int) := of_decide_eq_true (by assumption)); (have q164 : (ji61) < (x9_3.length : Int) := of_decide_eq_true (by assumption)); (obtain ⟨ad164, e164, hx164_0⟩ := Kd.at_int (Kd.R_reads' HO_9.out).2.2 (ji61) p164 q164); (obtain rfl : (⟨go11, 0, none⟩ : Addr) = ad164 := (by injection e164))
              (first | simp only [add_plain] at hx164_0 | simp only [add_at] at hx164_0 | simp only [Addr.add, Nat.zero_add] at hx164_0 | skip)
              (replace p164 := eq_true p164); (replace q164 := eq_true q164); (have p64 : 0 ≤ ((ji61) : Int) := of_decide_eq_true (by assumption)); (have q64 : ((ji61) : Int) < ((x9_3.length : Int) : Int) := of_decide_eq_true (by assumption)); (obtain ⟨hx64_0, hf64_0⟩ := Kd.R_celln 0 HO_9.out ((ji61) : Int) p64 q64); (replace p64 := eq_true p64); (replace q64 := eq_true q64); (obtain ⟨hy72_, hz72_⟩ := Kd.R_celln 0 HO_9.out ((ji61) : Int) (of_decide_eq_true (by assumption)) (of_decide_eq_true (by assumption))); (have HP72 := Kd.R_putg HO_9.out ((ji61) : Int) (Go.bits .or .u32 (rd x9_3 (ji61)) (Go.bits .or .u32 t158 (rd x9_3 ((rd_T38 l0_3 x36_2).f0)))))
              try go_wp2_with (first | ((with_reducible refine gate_store (t := 28) (p := 100) rfl ?_); refine store_event (t := 28) (p := 100) (v := ?vo_w73) (w1 := (w69.setCell ⟨go11, ((ji61) : Int).toNat, none⟩ (.int .u32 (Go.bits .or .u32 (rd x9_3 (ji61)) (Go.bits .or .u32 t158 (rd x9_3 ((rd_T38 l0_3 x36_2).f0))))))) ?hg ?ho ?hn ?hr ?_; (case ho => rfl); (case hg => rfl); (case hn => rfl); (case hr => first | (go_simp; done) | (go_simp; rfl)); intro w73 hw; have hg : w69.grownBy w73 (some go11) := (by rw [hw]; exact HP72.2); have hp_ : Kd.R (Kd.int .u32) 28 w73 w.heap.size (fun _ => True) (.slice (some ⟨go11, 0, none⟩) x9_3.length co11) y165 := (by rw [hw, Ny165.out]; exact HP72.1); clear HP72; have n0_ := Aside0.mk (hp_); have n1_ := Aside0.mk (blk_grown (g := gb144) (o := .cells #[.int .i64 a0_0, .int .i64 a0_1, .int .i64 a0_2, .slice (some ad151) l0_3.length c0_3] 24 (0, 0)) (by (with_reducible repeat (first | refine blk_drewN ?_ _ | refine blk_drew ?_ | refine blk_alloc ?_ _)); exact BK144.out) hg (Kd.R_ne HO_9.out BK144.out (by decide))); have n2_ := Aside0.mk (blk_grown (g := gb152) (o := .cells #[.int .i64 ((rd_T38 l0_3 x36_2).f0), .slice (some ad153) ((rd_T38 l0_3 x36_2).f1).length c151_1] 38 (0, 0)) (by (with_reducible repeat (first | refine blk_drewN ?_ _ | refine blk_drew ?_ | refine blk_alloc ?_ _)); exact BK152.out) hg (Kd.R_ne HO_9.out BK152.out (by decide))); have n3_ := Aside0.mk ((by rw [hw]; exact below_set (HB.out) GB11.out : Below w.heap.size w w73)); clear HO_9; clear BK144; clear BK152; clear HB; have HO_9 := n0_; have BK144 := n1_; have BK152 := n2_; have HB := n3_; clear n0_ n1_ n2_ n3_; clear hg hw hp_))
              (try simp only [← hl9_3])
              (first | go_roundg k3 | (simp only [← hji61]; go_roundg k3) | (simp only [← hji40, ← hji61]; go_roundg k3) | (simp only [← hji26, ← hji40, ← hji61]; go_roundg k3) | (simp only [← hji8, ← hji26, ← hji40, ← hji61]; go_roundg k3))
              case measure => have := HK1.out; have := HK2.out; have := HK3.out; omega
              case rel => exact ⟨(y165), (((Go.bits .andNot .u32 (Go.bits .or .u32 t158 (rd x9_3 ((rd_T38 l0_3 x36_2).f0))) (rd x9_3 (ji61))) != 0)), (ji40), (by first | rfl | (simp; done) | (simp only [← hji61] <;> (first | rfl | simp)) | (simp [*]; done)), (by first | rfl | (simp; done) | (simp only [← hji40] <;> (first | rfl | simp)) | (simp [*]; done)), H', ⟨by have := HK1.out; have := HK2.out; have := HK3.out; omega⟩, ⟨by (try simp only [hl9_1]); (try simp only [hl9_2]); (try simp only [hl9_3]); (with_reducible repeat (first | apply Kd.R_alloc | apply Kd.R_drewN | apply Kd.R_drew)); exact HO_9.out⟩, ⟨by (try simp only [hl9_1]); (try simp only [hl9_2]); (try simp only [hl9_3]); (with_reducible repeat (first | refine blk_drewN ?_ _ | refine blk_drew ?_ | refine blk_alloc ?_ _)); exact BK144.out⟩, ⟨by (try simp only [hl9_1]); (try simp only [hl9_2]); (try simp only [hl9_3]); (with_reducible repeat (first | refine blk_drewN ?_ _ | refine blk_drew ?_ | refine blk_alloc ?_ _)); exact BK152.out⟩, ⟨by repeat (first | (with_reducible first | exact HB.out | apply below_alloc | apply pw_below_drewN | apply below_drew1 | refine below_set ?_ GE144.out | refine below_set ?_ GE152.out) | exact HB.out)⟩⟩
end Go.Proofs.Ytnjfcbhbebokeaa.PAheadFollows
