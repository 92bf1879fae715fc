-- Printed by a turn of a template of the kit, and shortened: remarks and what nothing here uses are left out.
import Derived.Test.YtcfodnildhhocaaQPLeastTellsx0
import Derived.Test.YtcfodnildhhocaaQPLeastTellsx8
namespace Go.Proofs.Ytcfodnildhhocaa.PLeastTells
open Go.RowKit Go.Proofs.YtcfodnildhhocaaW.PrintWords Go.Proofs.YtcfodnildhhocaaW.PrintLast Go.Proofs.YtcfodnildhhocaaW.PrintMore
attribute [local go_sem] max2_int min2_int max_two min_two max_three min_three max_four min_four
set_option linter.unusedVariables false
set_option linter.unusedSimpArgs false
def coppicerref_Told.bef_ (k : Nat) (v : Value) : Nat := match v.ownBlock with
  | some g => if k < g then k + 1 else k
  | none => k + 1
def coppicerref_Told.aft_ (k : Nat) (v : Value) : Nat := match v.ownBlock with
  | some g => if g ≤ k then k + 1 else k
  | none => k + 1
theorem coppicerref_Told.bef_aft {g k p n c : Nat} (h1 : k ≠ coppicerref_Told.bef_ k (.slice (some ⟨g, 0, none⟩) n c)) (h2 : p ≠ coppicerref_Told.aft_ p (.slice (some ⟨g, 0, none⟩) n c)) : k ≠ p := by
  have e : (Value.slice (some ⟨g, 0, none⟩) n c).ownBlock = some g := by simp [Value.ownBlock]
  unfold coppicerref_Told.bef_ at h1; unfold coppicerref_Told.aft_ at h2
  rw [e] at h1 h2
  dsimp only at h1 h2
  intro q; subst q
  split at h1 <;> split at h2 <;> omega
theorem coppicerref_Told.S_aft {α : Type} {d : Kd α} {e : Nat} {w : World} {base N : Nat} {v : Value} {xs : List α} (h : Kd.S d e w base (fun k => k = N) v xs) : Kd.S d e w base (fun k_ => k_ ≠ coppicerref_Told.aft_ k_ v) v xs := by
  have h0 : ∀ k, v.ownBlock = some k → k = N := by obtain ⟨f, h⟩ := h; exact h.1
  refine Kd.S_mono h (fun k hk => ?_)
  unfold coppicerref_Told.aft_
  cases hv : v.ownBlock with
  | none => dsimp only; omega
  | some g => have := h0 g hv; dsimp only; split <;> omega
theorem coppicerref_Told.S_bef {α : Type} {d : Kd α} {e : Nat} {W w1 : World} {base : Nat} {ok : Nat → Prop} {u v : Value} {xs : List α} (h : Kd.S d e W base ok u xs) (hbase : ∀ k, v.ownBlock = some k → W.heap.size ≤ k) (hb : Below W.heap.size W w1) : Kd.S d e w1 base (fun k_ => (ok k_ ∧ some k_ ≠ v.ownBlock) ∧ k_ ≠ coppicerref_Told.bef_ k_ v) u xs := by
  refine Kd.S_mono (Kd.S_below (Kd.S_bound h) hb) (fun k hk => ⟨⟨hk.1, fun q => ?_⟩, ?_⟩)
  · have := hbase k q.symm; have := hk.2.2.1; omega
  · unfold coppicerref_Told.bef_
    cases hv : v.ownBlock with
    | none => dsimp only; omega
    | some g => have := hbase g hv; have := hk.2.2.1; dsimp only; split <;> omega
theorem coppicerref_Told.R_aftnew {α : Type} {d : Kd α} {e : Nat} {W w1 : World} {ok : Nat → Prop} {u v : Value} {xs : List α} (h : Kd.R d e w1 W.heap.size ok v xs) (hlt : ∀ k, u.ownBlock = some k → k < W.heap.size) : Kd.R d e w1 W.heap.size (fun k_ => ok k_ ∧ k_ ≠ coppicerref_Told.aft_ k_ u) v xs := by
  refine Kd.R_mono (Kd.R_bound h) (fun k hk => ⟨hk.1, ?_⟩)
  unfold coppicerref_Told.aft_
  cases hv : u.ownBlock with
  | none => dsimp only; omega
  | some g => have := hlt g hv; have := hk.2.1; dsimp only; split <;> omega
mutual
def coppicerref_Told.l0 : Nat → Int → Int → Int → List (List Bool) → Int → Int → Int → List (List Int) → Int → Int → Option (Bool)
  | 0, _, _, _, _, _, _, _, _, _, _ => none
  | k + 1, x1, x2, x3, x9, x10, x218000, x218001, x218002, x218003, x218004 => if x10 < x218000 then (if 0 ≤ x218000 then (if (x218000 : Int).toNat ≤ 281474976710656 then (if 0 ≤ x10 then (if x10 < (x9.length : Int) then (coppicerref_Told.l1 k x1 x2 x3 (x9.set (x10 : Int).toNat (List.replicate (x218000 : Int).toNat false)) x10 0 x218000 x218001 x218002 x218003 x218004) else (none)) else (none)) else (none)) else (none)) else (coppicerref_Told.l2 k x1 x2 x3 x9 0 x218000 x218001 x218002 x218003 x218004)
def coppicerref_Told.l1 : Nat → Int → Int → Int → List (List Bool) → Int → Int → Int → Int → List (List Int) → Int → Int → Option (Bool)
  | 0, _, _, _, _, _, _, _, _, _, _, _ => none
  | k + 1, x1, x2, x3, x9, x10, x11, x218000, x218001, x218002, x218003, x218004 => if x11 < x218000 then (if 0 ≤ x10 then (if x10 < (x9.length : Int) then ((coppicerref_Bit.f x218004 x10).bind fun t226 => ((coppicerref_Bit.f x218004 x11).bind fun t227 => (if 0 ≤ x11 then (if x11 < ((rd_L3 x9 x10).length : Int) then (coppicerref_Told.l1 k x1 x2 x3 (x9.set (x10 : Int).toNat ((rd_L3 x9 x10).set (x11 : Int).toNat (t226 != t227))) x10 (wrap64 (x11 + 1)) x218000 x218001 x218002 x218003 x218004) else (none)) else (none)))) else (none)) else (none)) else (coppicerref_Told.l0 k x1 x2 x3 x9 (wrap64 (x10 + 1)) x218000 x218001 x218002 x218003 x218004)
def coppicerref_Told.l2 : Nat → Int → Int → Int → List (List Bool) → Int → Int → Int → List (List Int) → Int → Int → Option (Bool)
  | 0, _, _, _, _, _, _, _, _, _, _ => none
  | k + 1, x1, x2, x3, x9, x12, x218000, x218001, x218002, x218003, x218004 => if x12 < x1 then (if 0 ≤ x218000 then (if (x218000 : Int).toNat ≤ 11728124029610 then (coppicerref_Told.l3 k x1 x2 x3 x9 x12 (List.replicate (x218000 : Int).toNat []) 0 x218000 x218001 x218002 x218003 x218004) else (none)) else (none)) else (if 0 ≤ x2 then (if x2 < (x9.length : Int) then (if 0 ≤ x3 then (if x3 < ((rd_L3 x9 x2).length : Int) then (some (rdOf false (rd_L3 x9 x2) x3)) else (none)) else (none)) else (none)) else (none))
def coppicerref_Told.l3 : Nat → Int → Int → Int → List (List Bool) → Int → List (List Bool) → Int → Int → Int → List (List Int) → Int → Int → Option (Bool)
  | 0, _, _, _, _, _, _, _, _, _, _, _, _ => none
  | k + 1, x1, x2, x3, x9, x12, x13, x14, x218000, x218001, x218002, x218003, x218004 => if x14 < x218000 then (if 0 ≤ x218000 then (if (x218000 : Int).toNat ≤ 281474976710656 then (if 0 ≤ x14 then (if x14 < (x13.length : Int) then (coppicerref_Told.l4 k x1 x2 x3 x9 x12 (x13.set (x14 : Int).toNat (List.replicate (x218000 : Int).toNat false)) x14 0 x218000 x218001 x218002 x218003 x218004) else (none)) else (none)) else (none)) else (none)) else (coppicerref_Told.l2 k x1 x2 x3 x13 (wrap64 (x12 + 1)) x218000 x218001 x218002 x218003 x218004)
def coppicerref_Told.l4 : Nat → Int → Int → Int → List (List Bool) → Int → List (List Bool) → Int → Int → Int → Int → List (List Int) → Int → Int → Option (Bool)
  | 0, _, _, _, _, _, _, _, _, _, _, _, _, _ => none
  | k + 1, x1, x2, x3, x9, x12, x13, x14, x15, x218000, x218001, x218002, x218003, x218004 => if x15 < x218000 then (coppicerref_Told.l5 k x1 x2 x3 x9 x12 x13 x14 x15 0 x218000 x218001 x218002 x218003 x218004) else (coppicerref_Told.l3 k x1 x2 x3 x9 x12 x13 (wrap64 (x14 + 1)) x218000 x218001 x218002 x218003 x218004)
def coppicerref_Told.l5 : Nat → Int → Int → Int → List (List Bool) → Int → List (List Bool) → Int → Int → Int → Int → Int → List (List Int) → Int → Int → Option (Bool)
  | 0, _, _, _, _, _, _, _, _, _, _, _, _, _, _ => none
  | k + 1, x1, x2, x3, x9, x12, x13, x14, x15, x16, x218000, x218001, x218002, x218003, x218004 => if x16 < x218001 then (if 0 ≤ x14 then (if x14 < (x13.length : Int) then (if 0 ≤ x15 then (if x15 < ((rd_L3 x13 x14).length : Int) then (if rdOf false (rd_L3 x13 x14) x15 = true then (coppicerref_Told.l5 k x1 x2 x3 x9 x12 (x13.set (x14 : Int).toNat ((rd_L3 x13 x14).set (x15 : Int).toNat true)) x14 x15 (wrap64 (x16 + 1)) x218000 x218001 x218002 x218003 x218004) else (if x14 < (x218002.length : Int) then (if 0 ≤ x16 then (if x16 < ((rd_L1 x218002 x14).length : Int) then (if 0 ≤ (rd (rd_L1 x218002 x14) x16) then (if (rd (rd_L1 x218002 x14) x16) < (x9.length : Int) then (if x15 < (x218002.length : Int) then (if x16 < ((rd_L1 x218002 x15).length : Int) then (if 0 ≤ (rd (rd_L1 x218002 x15) x16) then (if (rd (rd_L1 x218002 x15) x16) < ((rd_L3 x9 (rd (rd_L1 x218002 x14) x16)).length : Int) then (coppicerref_Told.l5 k x1 x2 x3 x9 x12 (x13.set (x14 : Int).toNat ((rd_L3 x13 x14).set (x15 : Int).toNat (rdOf false (rd_L3 x9 (rd (rd_L1 x218002 x14) x16)) (rd (rd_L1 x218002 x15) x16)))) x14 x15 (wrap64 (x16 + 1)) x218000 x218001 x218002 x218003 x218004) else (none)) else (none)) else (none)) else (none)) else (none)) else (none)) else (none)) else (none)) else (none))) else (none)) else (none)) else (none)) else (none)) else (coppicerref_Told.l4 k x1 x2 x3 x9 x12 x13 x14 (wrap64 (x15 + 1)) x218000 x218001 x218002 x218003 x218004)
end
def coppicerref_Told.f (k : Nat) (a0_0 : Int) (a0_1 : Int) (l0_2 : List (List Int)) (a0_3 : Int) (a0_4 : Int) (a1 : Int) (a2 : Int) (a3 : Int) : Option (Bool) := if 0 ≤ a0_0 then (if (a0_0 : Int).toNat ≤ 11728124029610 then (coppicerref_Told.l0 k a1 a2 a3 (List.replicate (a0_0 : Int).toNat []) 0 a0_0 a0_1 l0_2 a0_3 a0_4) else (none)) else (none)
theorem coppicerref_Told.mono_l : ∀ k, (∀ y0 y1 y2 y3 y4 y5 y6 y7 y8 y9, LeO (coppicerref_Told.l0 k y0 y1 y2 y3 y4 y5 y6 y7 y8 y9) (coppicerref_Told.l0 (k + 1) y0 y1 y2 y3 y4 y5 y6 y7 y8 y9)) ∧ (∀ y0 y1 y2 y3 y4 y5 y6 y7 y8 y9 y10, LeO (coppicerref_Told.l1 k y0 y1 y2 y3 y4 y5 y6 y7 y8 y9 y10) (coppicerref_Told.l1 (k + 1) y0 y1 y2 y3 y4 y5 y6 y7 y8 y9 y10)) ∧ (∀ y0 y1 y2 y3 y4 y5 y6 y7 y8 y9, LeO (coppicerref_Told.l2 k y0 y1 y2 y3 y4 y5 y6 y7 y8 y9) (coppicerref_Told.l2 (k + 1) y0 y1 y2 y3 y4 y5 y6 y7 y8 y9)) ∧ (∀ y0 y1 y2 y3 y4 y5 y6 y7 y8 y9 y10 y11, LeO (coppicerref_Told.l3 k y0 y1 y2 y3 y4 y5 y6 y7 y8 y9 y10 y11) (coppicerref_Told.l3 (k + 1) y0 y1 y2 y3 y4 y5 y6 y7 y8 y9 y10 y11)) ∧ (∀ y0 y1 y2 y3 y4 y5 y6 y7 y8 y9 y10 y11 y12, LeO (coppicerref_Told.l4 k y0 y1 y2 y3 y4 y5 y6 y7 y8 y9 y10 y11 y12) (coppicerref_Told.l4 (k + 1) y0 y1 y2 y3 y4 y5 y6 y7 y8 y9 y10 y11 y12)) ∧ (∀ y0 y1 y2 y3 y4 y5 y6 y7 y8 y9 y10 y11 y12 y13, LeO (coppicerref_Told.l5 k y0 y1 y2 y3 y4 y5 y6 y7 y8 y9 y10 y11 y12 y13) (coppicerref_Told.l5 (k + 1) y0 y1 y2 y3 y4 y5 y6 y7 y8 y9 y10 y11 y12 y13))
  | 0 => ⟨fun _ _ _ _ _ _ _ _ _ _ r h => by simp [coppicerref_Told.l0] at h, fun _ _ _ _ _ _ _ _ _ _ _ r h => by simp [coppicerref_Told.l1] at h, fun _ _ _ _ _ _ _ _ _ _ r h => by simp [coppicerref_Told.l2] at h, fun _ _ _ _ _ _ _ _ _ _ _ _ r h => by simp [coppicerref_Told.l3] at h, fun _ _ _ _ _ _ _ _ _ _ _ _ _ r h => by simp [coppicerref_Told.l4] at h, fun _ _ _ _ _ _ _ _ _ _ _ _ _ _ r h => by simp [coppicerref_Told.l5] at h⟩
  | k + 1 => by
    obtain ⟨ih0, ih1, ih2, ih3, ih4, ih5⟩ := coppicerref_Told.mono_l k
    refine ⟨?_, ?_, ?_, ?_, ?_, ?_⟩
    · intro y0 y1 y2 y3 y4 y5 y6 y7 y8 y9
      unfold coppicerref_Told.l0
      repeat' first
      | (with_reducible exact ih0 _ _ _ _ _ _ _ _ _ _)
      | (with_reducible exact ih1 _ _ _ _ _ _ _ _ _ _ _)
      | (with_reducible exact ih2 _ _ _ _ _ _ _ _ _ _)
      | (with_reducible exact ih3 _ _ _ _ _ _ _ _ _ _ _ _)
      | (with_reducible exact ih4 _ _ _ _ _ _ _ _ _ _ _ _ _)
      | (with_reducible exact ih5 _ _ _ _ _ _ _ _ _ _ _ _ _ _)
      | (with_reducible exact LeO.refl _)
      | (with_reducible exact LeO.none _)
      | (with_reducible refine LeO.ite ?_ ?_)
      | (with_reducible refine LeO.bind ?_ (fun _ => ?_))
      | exact ih0 _ _ _ _ _ _ _ _ _ _
      | exact ih1 _ _ _ _ _ _ _ _ _ _ _
      | exact ih2 _ _ _ _ _ _ _ _ _ _
      | exact ih3 _ _ _ _ _ _ _ _ _ _ _ _
      | exact ih4 _ _ _ _ _ _ _ _ _ _ _ _ _
      | exact ih5 _ _ _ _ _ _ _ _ _ _ _ _ _ _
      | exact LeO.none _
      | refine LeO.ite ?_ ?_
      | refine LeO.bind ?_ (fun _ => ?_)
    · intro y0 y1 y2 y3 y4 y5 y6 y7 y8 y9 y10
      unfold coppicerref_Told.l1
      repeat' first
      | (with_reducible exact ih0 _ _ _ _ _ _ _ _ _ _)
      | (with_reducible exact ih1 _ _ _ _ _ _ _ _ _ _ _)
      | (with_reducible exact ih2 _ _ _ _ _ _ _ _ _ _)
      | (with_reducible exact ih3 _ _ _ _ _ _ _ _ _ _ _ _)
      | (with_reducible exact ih4 _ _ _ _ _ _ _ _ _ _ _ _ _)
      | (with_reducible exact ih5 _ _ _ _ _ _ _ _ _ _ _ _ _ _)
      | (with_reducible exact LeO.refl _)
      | (with_reducible exact LeO.none _)
      | (with_reducible refine LeO.ite ?_ ?_)
      | (with_reducible refine LeO.bind ?_ (fun _ => ?_))
      | exact ih0 _ _ _ _ _ _ _ _ _ _
      | exact ih1 _ _ _ _ _ _ _ _ _ _ _
      | exact ih2 _ _ _ _ _ _ _ _ _ _
      | exact ih3 _ _ _ _ _ _ _ _ _ _ _ _
      | exact ih4 _ _ _ _ _ _ _ _ _ _ _ _ _
      | exact ih5 _ _ _ _ _ _ _ _ _ _ _ _ _ _
      | exact LeO.none _
      | refine LeO.ite ?_ ?_
      | refine LeO.bind ?_ (fun _ => ?_)
    · intro y0 y1 y2 y3 y4 y5 y6 y7 y8 y9
      unfold coppicerref_Told.l2
      repeat' first
      | (with_reducible exact ih0 _ _ _ _ _ _ _ _ _ _)
      | (with_reducible exact ih1 _ _ _ _ _ _ _ _ _ _ _)
      | (with_reducible exact ih2 _ _ _ _ _ _ _ _ _ _)
      | (with_reducible exact ih3 _ _ _ _ _ _ _ _ _ _ _ _)
      | (with_reducible exact ih4 _ _ _ _ _ _ _ _ _ _ _ _ _)
      | (with_reducible exact ih5 _ _ _ _ _ _ _ _ _ _ _ _ _ _)
      | (with_reducible exact LeO.refl _)
      | (with_reducible exact LeO.none _)
      | (with_reducible refine LeO.ite ?_ ?_)
      | (with_reducible refine LeO.bind ?_ (fun _ => ?_))
      | exact ih0 _ _ _ _ _ _ _ _ _ _
      | exact ih1 _ _ _ _ _ _ _ _ _ _ _
      | exact ih2 _ _ _ _ _ _ _ _ _ _
      | exact ih3 _ _ _ _ _ _ _ _ _ _ _ _
      | exact ih4 _ _ _ _ _ _ _ _ _ _ _ _ _
      | exact ih5 _ _ _ _ _ _ _ _ _ _ _ _ _ _
      | exact LeO.none _
      | refine LeO.ite ?_ ?_
      | refine LeO.bind ?_ (fun _ => ?_)
    · intro y0 y1 y2 y3 y4 y5 y6 y7 y8 y9 y10 y11
      unfold coppicerref_Told.l3
      repeat' first
      | (with_reducible exact ih0 _ _ _ _ _ _ _ _ _ _)
      | (with_reducible exact ih1 _ _ _ _ _ _ _ _ _ _ _)
      | (with_reducible exact ih2 _ _ _ _ _ _ _ _ _ _)
      | (with_reducible exact ih3 _ _ _ _ _ _ _ _ _ _ _ _)
      | (with_reducible exact ih4 _ _ _ _ _ _ _ _ _ _ _ _ _)
      | (with_reducible exact ih5 _ _ _ _ _ _ _ _ _ _ _ _ _ _)
      | (with_reducible exact LeO.refl _)
      | (with_reducible exact LeO.none _)
      | (with_reducible refine LeO.ite ?_ ?_)
      | (with_reducible refine LeO.bind ?_ (fun _ => ?_))
      | exact ih0 _ _ _ _ _ _ _ _ _ _
      | exact ih1 _ _ _ _ _ _ _ _ _ _ _
      | exact ih2 _ _ _ _ _ _ _ _ _ _
      | exact ih3 _ _ _ _ _ _ _ _ _ _ _ _
      | exact ih4 _ _ _ _ _ _ _ _ _ _ _ _ _
      | exact ih5 _ _ _ _ _ _ _ _ _ _ _ _ _ _
      | exact LeO.none _
      | refine LeO.ite ?_ ?_
      | refine LeO.bind ?_ (fun _ => ?_)
    · intro y0 y1 y2 y3 y4 y5 y6 y7 y8 y9 y10 y11 y12
      unfold coppicerref_Told.l4
      repeat' first
      | (with_reducible exact ih0 _ _ _ _ _ _ _ _ _ _)
      | (with_reducible exact ih1 _ _ _ _ _ _ _ _ _ _ _)
      | (with_reducible exact ih2 _ _ _ _ _ _ _ _ _ _)
      | (with_reducible exact ih3 _ _ _ _ _ _ _ _ _ _ _ _)
      | (with_reducible exact ih4 _ _ _ _ _ _ _ _ _ _ _ _ _)
      | (with_reducible exact ih5 _ _ _ _ _ _ _ _ _ _ _ _ _ _)
      | (with_reducible exact LeO.refl _)
      | (with_reducible exact LeO.none _)
      | (with_reducible refine LeO.ite ?_ ?_)
      | (with_reducible refine LeO.bind ?_ (fun _ => ?_))
      | exact ih0 _ _ _ _ _ _ _ _ _ _
      | exact ih1 _ _ _ _ _ _ _ _ _ _ _
      | exact ih2 _ _ _ _ _ _ _ _ _ _
      | exact ih3 _ _ _ _ _ _ _ _ _ _ _ _
      | exact ih4 _ _ _ _ _ _ _ _ _ _ _ _ _
      | exact ih5 _ _ _ _ _ _ _ _ _ _ _ _ _ _
      | exact LeO.none _
      | refine LeO.ite ?_ ?_
      | refine LeO.bind ?_ (fun _ => ?_)
    · intro y0 y1 y2 y3 y4 y5 y6 y7 y8 y9 y10 y11 y12 y13
      unfold coppicerref_Told.l5
      repeat' first
      | (with_reducible exact ih0 _ _ _ _ _ _ _ _ _ _)
      | (with_reducible exact ih1 _ _ _ _ _ _ _ _ _ _ _)
      | (with_reducible exact ih2 _ _ _ _ _ _ _ _ _ _)
      | (with_reducible exact ih3 _ _ _ _ _ _ _ _ _ _ _ _)
      | (with_reducible exact ih4 _ _ _ _ _ _ _ _ _ _ _ _ _)
      | (with_reducible exact ih5 _ _ _ _ _ _ _ _ _ _ _ _ _ _)
      | (with_reducible exact LeO.refl _)
      | (with_reducible exact LeO.none _)
      | (with_reducible refine LeO.ite ?_ ?_)
      | (with_reducible refine LeO.bind ?_ (fun _ => ?_))
      | exact ih0 _ _ _ _ _ _ _ _ _ _
      | exact ih1 _ _ _ _ _ _ _ _ _ _ _
      | exact ih2 _ _ _ _ _ _ _ _ _ _
      | exact ih3 _ _ _ _ _ _ _ _ _ _ _ _
      | exact ih4 _ _ _ _ _ _ _ _ _ _ _ _ _
      | exact ih5 _ _ _ _ _ _ _ _ _ _ _ _ _ _
      | exact LeO.none _
      | refine LeO.ite ?_ ?_
      | refine LeO.bind ?_ (fun _ => ?_)
theorem coppicerref_Told.mono : ∀ a0 a1 a2 a3 a4 a5 a6 a7 k, LeO (coppicerref_Told.f k a0 a1 a2 a3 a4 a5 a6 a7) (coppicerref_Told.f (k + 1) a0 a1 a2 a3 a4 a5 a6 a7) := by
  intro a0 a1 a2 a3 a4 a5 a6 a7 k
  obtain ⟨ih0, ih1, ih2, ih3, ih4, ih5⟩ := coppicerref_Told.mono_l k
  unfold coppicerref_Told.f
  repeat' first
      | (with_reducible exact ih0 _ _ _ _ _ _ _ _ _ _)
      | (with_reducible exact ih1 _ _ _ _ _ _ _ _ _ _ _)
      | (with_reducible exact ih2 _ _ _ _ _ _ _ _ _ _)
      | (with_reducible exact ih3 _ _ _ _ _ _ _ _ _ _ _ _)
      | (with_reducible exact ih4 _ _ _ _ _ _ _ _ _ _ _ _ _)
      | (with_reducible exact ih5 _ _ _ _ _ _ _ _ _ _ _ _ _ _)
      | (with_reducible exact LeO.refl _)
      | (with_reducible exact LeO.none _)
      | (with_reducible refine LeO.ite ?_ ?_)
      | (with_reducible refine LeO.bind ?_ (fun _ => ?_))
      | exact ih0 _ _ _ _ _ _ _ _ _ _
      | exact ih1 _ _ _ _ _ _ _ _ _ _ _
      | exact ih2 _ _ _ _ _ _ _ _ _ _
      | exact ih3 _ _ _ _ _ _ _ _ _ _ _ _
      | exact ih4 _ _ _ _ _ _ _ _ _ _ _ _ _
      | exact ih5 _ _ _ _ _ _ _ _ _ _ _ _ _ _
      | exact LeO.none _
      | refine LeO.ite ?_ ?_
      | refine LeO.bind ?_ (fun _ => ?_)
def coppicerref_Told.T9 : Bool × List (List Nat × List Nat) := (true, [([], []), ([], []), ([0, 1], [0, 1]), ([2], [2]), ([], []), ([], []), ([5], [5]), ([], []), ([6, 7], [6, 7]), ([], []), ([9], [9]), ([], []), ([10, 11, 8], [10, 11]), ([8, 12], [8, 12]), ([3, 4, 0, 1, 2, 3, 4, 5, 6, 7, 8, 9, 10, 11, 12, 13], [3, 4]), ([14, 13, 12, 0, 1, 2, 3, 4, 5, 6, 7, 8, 9, 10, 11, 12, 13], [13, 14])])
def coppicerref_Told.B9 : List Nat := [0, 0, 3, 7, 0, 0, 32, 0, 224, 0, 512, 0, 4064, 8160, 16383, 32767]
theorem coppicerref_Told.tab9 : rtab .any (opsOf Try.f34 9) = coppicerref_Told.T9 := by kernel_rfl
theorem coppicerref_Told.bits9 : waitsOk coppicerref_Told.T9.2 coppicerref_Told.B9 = true := by kernel_rfl
def coppicerref_Told.T24 : Bool × List (List Nat × List Nat) := (true, [([], []), ([], []), ([0, 1], [0, 1]), ([2], [2]), ([], []), ([], []), ([], []), ([5, 6], [5, 6]), ([7], [7]), ([], []), ([8, 9], [8, 9]), ([10], [10]), ([11], [11]), ([12], [12]), ([12], [12]), ([14, 12], [12, 14]), ([12], [12]), ([15, 16, 12], [12, 15, 16]), ([17, 12], [12, 17]), ([12], [12]), ([18, 19, 12], [12, 18, 19]), ([20, 12], [12, 20]), ([13, 21, 12], [12, 13, 21]), ([22, 12], [12, 22]), ([12], [12]), ([24, 12], [12, 24]), ([12], [12]), ([25, 26, 12], [12, 25, 26]), ([27, 12], [12, 27]), ([12], [12]), ([28, 29, 12], [12, 28, 29]), ([30, 12], [12, 30]), ([23, 31, 12], [12, 23, 31]), ([32, 12], [12, 32]), ([12, 33], [12, 33]), ([3, 4, 0, 1, 2, 3, 4, 5, 6, 7, 8, 9, 10, 11, 12, 13, 14, 15, 16, 17, 18, 19, 20, 21, 22, 23, 24, 25, 26, 27, 28, 29, 30, 31, 32, 33, 34], [3, 4]), ([35, 34, 12, 0, 1, 2, 3, 4, 5, 6, 7, 8, 9, 10, 11, 12, 13, 14, 15, 16, 17, 18, 19, 20, 21, 22, 23, 24, 25, 26, 27, 28, 29, 30, 31, 32, 33, 34], [34, 35])])
def coppicerref_Told.B24 : List Nat := [0, 0, 3, 7, 0, 0, 0, 96, 224, 0, 992, 2016, 4064, 8160, 8160, 24544, 8160, 122848, 253920, 8160, 1040352, 2088928, 4194272, 8388576, 8160, 16785376, 8160, 117448672, 251666400, 8160, 1056972768, 2130714592, 4294967264, 8589934560, 17179869152, 34359738367, 68719476735]
theorem coppicerref_Told.tab24 : rtab .any (opsOf Try.f34 24) = coppicerref_Told.T24 := by kernel_rfl
theorem coppicerref_Told.bits24 : waitsOk coppicerref_Told.T24.2 coppicerref_Told.B24 = true := by kernel_rfl
set_option maxHeartbeats 8000000 in
set_option maxRecDepth 100000 in
theorem coppicerref_Told.calls (k : Nat) (a0_0 : Int) (a0_1 : Int) (A0_2 : Option Addr) (c0_2 : Nat) (l0_2 : List (List Int)) (a0_3 : Int) (a0_4 : Int) (a1 : Int) (a2 : Int) (a3 : Int) (r : Bool) (w : World) (hr0_2 : Kd.C (Kd.slice 3 (Kd.int .i64)) w A0_2 l0_2.length l0_2) (hc0_2 : l0_2.length ≤ c0_2) (h : coppicerref_Told.f k a0_0 a0_1 l0_2 a0_3 a0_4 a1 a2 a3 = some r) :
    Calls Try.prog 34 #[.agg #[.int .i64 a0_0, .int .i64 a0_1, .slice A0_2 l0_2.length c0_2, .int .i64 a0_3, .int .u32 a0_4], .int .i64 a1, .int .i64 a2, .int .i64 a3] w fun e w' => e = .returned (.bool r) ∧ Below w.heap.size w w' := by
  (have hu35 := Try.underlying35); (have HR0_2 := Aside0.mk hr0_2); (have HC0_2 := Aside0.mk hc0_2); (clear hr0_2 hc0_2); (have HB := Aside0.mk (Below.refl w.heap.size w)); (have H : (if 0 ≤ a0_0 then (if (a0_0 : Int).toNat ≤ 11728124029610 then (coppicerref_Told.l0 k a1 a2 a3 (List.replicate (a0_0 : Int).toNat []) 0 a0_0 a0_1 l0_2 a0_3 a0_4) else (none)) else (none)) = some r := h); (clear h)
  by_cases c5 : 0 ≤ a0_0
  rotate_left
  · rw [if_neg c5] at H
    exact absurd H (by simp)
  (rw [if_pos c5] at H); (have c5b0 := eq_true c5); (have c5b1 : decide (0 ≤ a0_0) = true := decide_eq_true c5); (clear c5)
  by_cases c6 : (a0_0 : Int).toNat ≤ 11728124029610
  rotate_left
  · rw [if_neg c6] at H
    exact absurd H (by simp)
  (rw [if_pos c6] at H); (have c6b0 := eq_true c6); (have c6b1 : decide ((a0_0 : Int).toNat ≤ 11728124029610) = true := decide_eq_true c6); (clear c6); (obtain ⟨y218, hy218⟩ : ∃ y_ : List (List Bool), y_ = (List.replicate (a0_0 : Int).toNat []) := ⟨_, rfl⟩); (replace H : (coppicerref_Told.l0 k a1 a2 a3 y218 0 a0_0 a0_1 l0_2 a0_3 a0_4) = some r := by first | (rw [hy218]; with_reducible exact H) | (have H2_ := (Option.bind_some _ _).symm.trans H; rw [hy218]; with_reducible exact H2_) | (have H2_ := (Option.bind_some _ _).symm.trans H; with_reducible exact H2_) | with_reducible exact H | (rw [hy218]; exact H) | exact H); (have Ny218 := Aside0.mk hy218); (clear hy218); (have H' := Aside0.mk H); (clear H)
  go_enter Try.func34, Try.ntmps34
  go_wp2_with (first | ((with_reducible refine gate_dst (N := 4) rfl ?_); refine box_event ?hg (N := 4) ?hd (cs := #[.int .i64 a0_0, .int .i64 a0_1, .slice A0_2 l0_2.length c0_2, .int .i64 a0_3, .int .u32 a0_4]) (t := 35) ?hr ?_; (case hd => rfl); (case hg => rfl); (case hr => first | (go_simp; done) | (go_simp; rfl)); intro gb217 hg w7 hbox hb; have n0_ := Aside0.mk (below_step (by repeat (first | (with_reducible first | exact HB.out | apply below_alloc | apply pw_below_drewN | apply below_drew1) | exact HB.out)) hb); have n1_ := Aside0.mk (hbox); have n2_ := Aside0.mk ((by rw [hg]; exact (below_size (by repeat (first | (with_reducible first | exact HB.out | apply below_alloc | apply pw_below_drewN | apply below_drew1) | exact HB.out))) : w.heap.size ≤ gb217)); have n3_ := Aside0.mk ((by rw [hg]; exact (below_size (by repeat (first | (with_reducible first | exact HB.out | apply below_alloc | apply pw_below_drewN | apply below_drew1) | exact HB.out))) : w.heap.size ≤ gb217)); clear HB; have HB := n0_; have BK217 := n1_; have GW217 := n2_; have GE217 := n3_; clear n0_ n1_ n2_ n3_; clear hb hbox hg; have hcz8_0 : w7.cell? ⟨gb217, 0, none⟩ = some (.int .i64 a0_0) := (blk_cell BK217.out 0).trans rfl; have hcz8_1 : w7.cell? ⟨gb217, 1, none⟩ = some (.int .i64 a0_1) := (blk_cell BK217.out 1).trans rfl; have hcz8_2 : w7.cell? ⟨gb217, 2, none⟩ = some (.slice A0_2 l0_2.length c0_2) := (blk_cell BK217.out 2).trans rfl; have hcz8_3 : w7.cell? ⟨gb217, 3, none⟩ = some (.int .i64 a0_3) := (blk_cell BK217.out 3).trans rfl; have hcz8_4 : w7.cell? ⟨gb217, 4, none⟩ = some (.int .u32 a0_4) := (blk_cell BK217.out 4).trans rfl; have hfz8_0 := blk_frozen BK217.out 0; have hfz8_1 := blk_frozen BK217.out 1; have hfz8_2 := blk_frozen BK217.out 2; have hfz8_3 := blk_frozen BK217.out 3; have hfz8_4 := blk_frozen BK217.out 4) | ((with_reducible refine gate_dst (N := 19) rfl ?_); refine Kd.S_make (Kd.slice 4 Kd.bool) _ 65 rfl (N := 19) rfl 69 _ _ rfl a0_0 rfl rfl Try.underlying69 (.slice none 0 0) 24 info65 rfl (by decide) (by omega) [] (ok := fun k_ => k_ = w7.heap.size) (okp := fun _ => False) ⟨_, rfl, Kd.R_nil _ _ _ _ _⟩ (fun _ hk => hk.elim) rfl (of_decide_eq_true (by assumption)) (Nat.le_trans (Nat.mul_le_mul_right _ (of_decide_eq_true (by assumption) : a0_0.toNat ≤ 11728124029610)) (by omega)) (Below.refl _ _) (Nat.le_refl _) ?_; intro v219 w9 ho10 hb hg_ hnew_; clear hg_ hnew_; (first | rw [← Ny218.out] at ho10 | (simp only [Int.reduceToNat] at ho10; rw [← Ny218.out] at ho10)); have n0_ := Aside0.mk (Kd.S_lower (coppicerref_Told.S_aft ho10) (below_size (by repeat (first | (with_reducible first | exact HB.out | apply below_alloc | apply pw_below_drewN | apply below_drew1 | refine below_set ?_ GE217.out) | exact HB.out)))); have n1_ := Aside0.mk (blk_below (g := gb217) (o := .cells #[.int .i64 a0_0, .int .i64 a0_1, .slice A0_2 l0_2.length c0_2, .int .i64 a0_3, .int .u32 a0_4] 35 (0, 0)) (by (with_reducible repeat (first | refine blk_drewN ?_ _ | refine blk_drew ?_ | refine blk_alloc ?_ _)); exact BK217.out) hb); have n2_ := Aside0.mk (below_step (by repeat (first | (with_reducible first | exact HB.out | apply below_alloc | apply pw_below_drewN | apply below_drew1 | refine below_set ?_ GE217.out) | exact HB.out)) hb); clear BK217; clear HB; have HO220 := n0_; have BK217 := n1_; have HB := n2_; clear n0_ n1_ n2_; clear hb ho10))
  go_loopg [10] k (fun kq v10 w' => ∃ (x9_1 : List (List Bool)) (x10_1 : Int), v10 = .int .i64 x10_1 ∧ Aside0 (coppicerref_Told.l0 kq a1 a2 a3 x9_1 x10_1 a0_0 a0_1 l0_2 a0_3 a0_4 = some r) ∧ Aside0 (kq ≤ k) ∧ Aside0 (Kd.S (Kd.slice 4 Kd.bool) 65 w' w.heap.size (fun k_ => k_ ≠ (coppicerref_Told.aft_ k_ v219)) v219 x9_1) ∧ Aside0 (w'.heap[gb217]? = some (.cells #[.int .i64 a0_0, .int .i64 a0_1, (.slice A0_2 l0_2.length c0_2), .int .i64 a0_3, .int .u32 a0_4] 35 (0, 0))) ∧ Aside0 (Below w.heap.size w w'))
  case atStart => exact ⟨(y218), (0), (by first | rfl | (simp; done) | (simp [*]; done)), H', ⟨Nat.le_refl _⟩, ⟨by (with_reducible repeat (first | apply Kd.S_alloc | apply Kd.S_drewN | apply Kd.S_drew)); exact HO220.out⟩, ⟨by (with_reducible repeat (first | refine blk_drewN ?_ _ | refine blk_drew ?_ | refine blk_alloc ?_ _)); exact BK217.out⟩, ⟨by repeat (first | (with_reducible first | exact HB.out | apply below_alloc | apply pw_below_drewN | apply below_drew1 | refine below_set ?_ GE217.out) | exact HB.out)⟩⟩
  case round =>
    (clear H'); (try clear p2); (try clear c3); (try clear c5); (try clear c5b0); (try clear c5b1); (try clear c6); (try clear c6b0); (try clear c6b1); (try clear hcz8_0); (try clear hcz8_1); (try clear hcz8_2); (try clear hcz8_3); (try clear hcz8_4); (try clear hfz8_0); (try clear hfz8_1); (try clear hfz8_2); (try clear hfz8_3); (try clear hfz8_4); (obtain ⟨x9_1, x10_1, rfl, HA, HK1, HO_9, BK217, HB⟩ := hrel)
    cases gk with
    | zero => exact absurd HA.out (by simp [coppicerref_Told.l0])
    | succ k1 =>
      (have H := HA.out); (clear HA); (simp only [coppicerref_Told.l0] at H)
      by_cases c11 : x10_1 < a0_0
      · rw [if_pos c11] at H
        (have c11b0 : decide (x10_1 < a0_0) = true := decide_eq_true c11); (clear c11)
        by_cases c12 : 0 ≤ a0_0
        rotate_left
        · rw [if_neg c12] at H
          exact absurd H (by simp)
        (rw [if_pos c12] at H); (have c12b0 := eq_true c12); (have c12b1 : decide (0 ≤ a0_0) = true := decide_eq_true c12); (clear c12)
        by_cases c13 : (a0_0 : Int).toNat ≤ 281474976710656
        rotate_left
        · rw [if_neg c13] at H
          exact absurd H (by simp)
        (rw [if_pos c13] at H); (have c13b0 := eq_true c13); (have c13b1 : decide ((a0_0 : Int).toNat ≤ 281474976710656) = true := decide_eq_true c13); (clear c13); (obtain ⟨y221, hy221⟩ : ∃ y_ : List Bool, y_ = (List.replicate (a0_0 : Int).toNat false) := ⟨_, rfl⟩); (replace H : (if 0 ≤ x10_1 then (if x10_1 < (x9_1.length : Int) then (coppicerref_Told.l1 k1 a1 a2 a3 (x9_1.set (x10_1 : Int).toNat y221) x10_1 0 a0_0 a0_1 l0_2 a0_3 a0_4) else (none)) else (none)) = some r := by first | (rw [hy221]; with_reducible exact H) | (have H2_ := (Option.bind_some _ _).symm.trans H; rw [hy221]; with_reducible exact H2_) | (have H2_ := (Option.bind_some _ _).symm.trans H; with_reducible exact H2_) | with_reducible exact H | (rw [hy221]; exact H) | exact H); (have Ny221 := Aside0.mk hy221); (clear hy221)
        by_cases c14 : 0 ≤ x10_1
        rotate_left
        · rw [if_neg c14] at H
          exact absurd H (by simp)
        (rw [if_pos c14] at H); (have c14b0 : decide (0 ≤ x10_1) = true := decide_eq_true c14); (clear c14)
        by_cases c15 : x10_1 < (x9_1.length : Int)
        rotate_left
        · rw [if_neg c15] at H
          exact absurd H (by simp)
        (rw [if_pos c15] at H); (have c15b0 : decide (x10_1 < (x9_1.length : Int)) = true := decide_eq_true c15); (clear c15); (obtain ⟨y224, hy224⟩ : ∃ y_ : List (List Bool), y_ = (x9_1.set (x10_1 : Int).toNat y221) := ⟨_, rfl⟩); (replace H : (coppicerref_Told.l1 k1 a1 a2 a3 y224 x10_1 0 a0_0 a0_1 l0_2 a0_3 a0_4) = some r := by first | (rw [hy224]; with_reducible exact H) | (have H2_ := (Option.bind_some _ _).symm.trans H; rw [hy224]; with_reducible exact H2_) | (have H2_ := (Option.bind_some _ _).symm.trans H; with_reducible exact H2_) | with_reducible exact H | (rw [hy224]; exact H) | exact H); (have Ny224 := Aside0.mk hy224); (clear hy224); (have H' := Aside0.mk H); (clear H); (have hcz17_0 : wr.cell? ⟨gb217, 0, none⟩ = some (.int .i64 a0_0) := (blk_cell BK217.out 0).trans rfl); (have hcz17_1 : wr.cell? ⟨gb217, 1, none⟩ = some (.int .i64 a0_1) := (blk_cell BK217.out 1).trans rfl); (have hcz17_2 : wr.cell? ⟨gb217, 2, none⟩ = some (.slice A0_2 l0_2.length c0_2) := (blk_cell BK217.out 2).trans rfl); (have hcz17_3 : wr.cell? ⟨gb217, 3, none⟩ = some (.int .i64 a0_3) := (blk_cell BK217.out 3).trans rfl); (have hcz17_4 : wr.cell? ⟨gb217, 4, none⟩ = some (.int .u32 a0_4) := (blk_cell BK217.out 4).trans rfl); (have hfz17_0 := blk_frozen BK217.out 0); (have hfz17_1 := blk_frozen BK217.out 1); (have hfz17_2 := blk_frozen BK217.out 2); (have hfz17_3 := blk_frozen BK217.out 3); (have hfz17_4 := blk_frozen BK217.out 4)
        go_wp2_with (first | ((with_reducible refine gate_dst (N := 30) rfl ?_); refine Kd.R_make Kd.bool _ 4 rfl (N := 30) rfl 65 _ _ rfl a0_0 rfl rfl Try.underlying65 (.bool false) 1 info4 rfl (by decide) (by omega) false (ok := fun _ => True) (okp := fun _ => True) rfl (fun _ hk => hk) trivial (of_decide_eq_true (by assumption)) (Nat.le_trans (Nat.mul_le_mul_right _ (of_decide_eq_true (by assumption) : a0_0.toNat ≤ 281474976710656)) (by omega)) (Below.refl _ _) (Nat.le_refl _) ?_; intro v222 w18 ho19 hb hg_ hnew_; clear hg_ hnew_; (first | rw [← Ny221.out] at ho19 | (simp only [Int.reduceToNat] at ho19; rw [← Ny221.out] at ho19)); have n0_ := Aside0.mk (Kd.S_elder' (by (with_reducible repeat (first | apply Kd.S_alloc | apply Kd.S_drewN | apply Kd.S_drew)); exact HO_9.out) (Kd.R_base ho19) hb); have n1_ := Aside0.mk (Kd.R_lower (coppicerref_Told.R_aftnew ho19 (Kd.S_lt (by (with_reducible repeat (first | apply Kd.S_alloc | apply Kd.S_drewN | apply Kd.S_drew)); exact HO_9.out))) (below_size (by repeat (first | (with_reducible first | exact HB.out | apply below_alloc | apply pw_below_drewN | apply below_drew1 | refine below_set ?_ GE217.out) | exact HB.out)))); have n2_ := Aside0.mk (blk_below (g := gb217) (o := .cells #[.int .i64 a0_0, .int .i64 a0_1, .slice A0_2 l0_2.length c0_2, .int .i64 a0_3, .int .u32 a0_4] 35 (0, 0)) (by (with_reducible repeat (first | refine blk_drewN ?_ _ | refine blk_drew ?_ | refine blk_alloc ?_ _)); exact BK217.out) hb); have n3_ := Aside0.mk (below_step (by repeat (first | (with_reducible first | exact HB.out | apply below_alloc | apply pw_below_drewN | apply below_drew1 | refine below_set ?_ GE217.out) | exact HB.out)) hb); clear HO_9; clear BK217; clear HB; have HO_9 := n0_; have HO223 := n1_; have BK217 := n2_; have HB := n3_; clear n0_ n1_ n2_ n3_; clear hb ho19; have p16 : 0 ≤ (x10_1 : Int) := of_decide_eq_true (by assumption); have q16 : (x10_1 : Int) < ((x9_1.length : Int) : Int) := of_decide_eq_true (by assumption); obtain ⟨go16, co16, eo16, gb16, gl16, cl16, HG16⟩ := Kd.S_form HO_9.out (by omega); (first | cases eo16 | (injection eo16 with ea_ en_ ec_; (first | subst ea_ | (injection ea_ with ea_; subst ea_)); subst ec_; clear en_)); have GB16 := Aside0.mk gb16; have GG16 := Aside0.mk HG16; clear gb16 gl16 HG16; obtain ⟨_, ce16, hcl16, hM16, hcc16, hfr16, _, _⟩ := Kd.S_elem HO_9.out [] (x10_1 : Int) p16 q16; obtain ⟨ve16_0, rfl, ge16_0⟩ := hM16; have hx16_0 := hcc16 0 _ rfl; have hf16_0 := hfr16 0; (try simp only [show ((Kd.slice 4 Kd.bool)).sz = 1 from rfl, Nat.mul_one, Nat.add_zero] at hx16_0); (try simp only [show ((Kd.slice 4 Kd.bool)).sz = 1 from rfl, Nat.mul_one, Nat.add_zero] at hf16_0); (try clear hcl16); (try clear hcc16); (try clear hfr16); (try clear hM16); replace p16 := eq_true p16; replace q16 := eq_true q16; have HX20 := Aside0.mk (show Kd.S (Kd.slice 4 Kd.bool) 65 w18 w.heap.size (fun k_ => ((fun k_ => k_ ≠ (coppicerref_Told.aft_ k_ (.slice (some ⟨go16, 0, none⟩) x9_1.length co16)))) k_ ∧ ¬ ((fun k_ => some k_ = (v222 : Value).ownBlock)) k_) (.slice (some ⟨go16, 0, none⟩) x9_1.length co16) x9_1 from (by (with_reducible repeat (first | apply Kd.S_alloc | apply Kd.S_drewN | apply Kd.S_drew)); exact Kd.S_mono HO_9.out (fun k_ hk => ⟨hk.1, fun e_ => hk.2 e_⟩))); obtain ⟨oki20, ce20, hcl20, hM20, hcc20, hfr20, hoki20, hH20⟩ := Kd.S_elem HX20.out [] (x10_1 : Int) (of_decide_eq_true (by assumption)) (by have h_ : (x10_1 : Int) < ((x9_1.length : Int) : Int) := of_decide_eq_true (by assumption); first | exact h_ | (have e_ := (Kd.S_reads' HO_9.out).1; omega) | simpa using h_); obtain ⟨ve20_0, rfl, ge20_0⟩ := hM20; have HP20 := Kd.S_seg hH20 (of_decide_eq_true (by assumption)) (by have h_ : (x10_1 : Int) < ((x9_1.length : Int) : Int) := of_decide_eq_true (by assumption); first | exact h_ | (have e_ := (Kd.S_reads' HO_9.out).1; omega) | simpa using h_) (seg := [v222]) (j := 0) (show 1 ≤ 1 from by decide) (x' := y221) (Kd.M_row (Kd.R_mono (Kd.R_tight rfl (Kd.R_mono (ok' := fun k_ => ((fun k_ => k_ ≠ (coppicerref_Told.aft_ k_ (.slice (some ⟨go16, 0, none⟩) x9_1.length co16)))) k_ ∧ k_ ≠ go16) (Kd.R_apart' (HO223.out) (Kd.S_typed HO_9.out) (by decide)) (fun k_ hk => ⟨hk.1.2, fun e_ => (hk.2) (by rw [e_]; rfl)⟩))) (fun _ h_ => Or.inr (h_)))) (fun _ hk => hk) (fun k_ hk_ => ((Kd.R_mono (ok' := fun k_ => ((fun k_ => k_ ≠ (coppicerref_Told.aft_ k_ (.slice (some ⟨go16, 0, none⟩) x9_1.length co16)))) k_ ∧ k_ ≠ go16) (Kd.R_apart' (HO223.out) (Kd.S_typed HO_9.out) (by decide)) (fun k_ hk => ⟨hk.1.2, fun e_ => (hk.2) (by rw [e_]; rfl)⟩))).1 k_ hk_.symm); have hx20_0 := hcc20 0 _ rfl; (try simp only [show ((Kd.slice 4 Kd.bool)).sz = 1 from rfl, Nat.mul_one, Nat.add_zero] at hx20_0); have hf20_0 := hfr20 0; (try simp only [show ((Kd.slice 4 Kd.bool)).sz = 1 from rfl, Nat.mul_one, Nat.add_zero] at hf20_0); (try clear hcl20); (try clear hcc20); (try clear hfr20); (try clear hM20); (try clear hoki20); (try clear hH20); (try simp only [show ((Kd.slice 4 Kd.bool)).sz = 1 from rfl, Nat.mul_one, Nat.add_zero] at HP20)) | ((with_reducible refine gate_store (t := 65) (p := 31) rfl ?_); refine store_event (t := 65) (p := 31) (v := ?vo_w21) (w1 := (w18.setCell ⟨go16, (x10_1 : Int).toNat, none⟩ (v222))) ?hg ?ho ?hn ?hr ?_; (case ho => rfl); (case hg => rfl); (case hn => rfl); (case hr => first | (go_simp; done) | (go_simp; rfl) | (obtain ⟨_, _, rfl⟩ := Kd.R_slice HO223.out; (first | (go_simp; done) | (go_simp; rfl)))); intro w21 hw; have hg : w18.grownBy w21 (some go16) := (by rw [hw]; exact HP20.2); have hp_ : Kd.S (Kd.slice 4 Kd.bool) 65 w21 w.heap.size (fun k_ => k_ ≠ (coppicerref_Told.aft_ k_ (.slice (some ⟨go16, 0, none⟩) x9_1.length co16))) (.slice (some ⟨go16, 0, none⟩) x9_1.length co16) y224 := (by rw [hw, Ny224.out]; exact HP20.1); clear HP20; have n0_ := Aside0.mk (hp_); have n1_ := Aside0.mk (blk_grown (g := gb217) (o := .cells #[.int .i64 a0_0, .int .i64 a0_1, .slice A0_2 l0_2.length c0_2, .int .i64 a0_3, .int .u32 a0_4] 35 (0, 0)) (by (with_reducible repeat (first | refine blk_drewN ?_ _ | refine blk_drew ?_ | refine blk_alloc ?_ _)); exact BK217.out) hg (Kd.S_ne HO_9.out BK217.out (by decide))); have n2_ := Aside0.mk ((by rw [hw]; exact below_set (HB.out) GB16.out : Below w.heap.size w w21)); clear HO_9; clear BK217; clear HB; clear HO223; have HO_9 := n0_; have BK217 := n1_; have HB := n2_; clear n0_ n1_ n2_; clear hg hw hp_))
        go_loopg [11] k1 (fun kq v11 w' => ∃ (x9_2 : List (List Bool)) (x11_2 : Int), v11 = .int .i64 x11_2 ∧ Aside0 (coppicerref_Told.l1 kq a1 a2 a3 x9_2 x10_1 x11_2 a0_0 a0_1 l0_2 a0_3 a0_4 = some r) ∧ Aside0 (kq ≤ k1) ∧ Aside0 (Kd.S (Kd.slice 4 Kd.bool) 65 w' w.heap.size (fun k_ => k_ ≠ (coppicerref_Told.aft_ k_ (.slice (some ⟨go16, 0, none⟩) x9_1.length co16))) (.slice (some ⟨go16, 0, none⟩) x9_1.length co16) x9_2) ∧ Aside0 (w'.heap[gb217]? = some (.cells #[.int .i64 a0_0, .int .i64 a0_1, (.slice A0_2 l0_2.length c0_2), .int .i64 a0_3, .int .u32 a0_4] 35 (0, 0))) ∧ Aside0 (Below w.heap.size w w'))
        case atStart => exact ⟨(y224), (0), (by first | rfl | (simp; done) | (simp [*]; done)), H', ⟨Nat.le_refl _⟩, ⟨by (with_reducible repeat (first | apply Kd.S_alloc | apply Kd.S_drewN | apply Kd.S_drew)); exact HO_9.out⟩, ⟨by (with_reducible repeat (first | refine blk_drewN ?_ _ | refine blk_drew ?_ | refine blk_alloc ?_ _)); exact BK217.out⟩, ⟨by repeat (first | (with_reducible first | exact HB.out | apply below_alloc | apply pw_below_drewN | apply below_drew1 | refine below_set ?_ GE217.out) | exact HB.out)⟩⟩
        case round =>
          (clear H'); (try clear c1); (try clear p1); (try clear q1); (try clear hx1); (try clear c2); (try clear p2); (try clear hx2); (try clear c3); (try clear c5); (try clear c5b0); (try clear c5b1); (try clear c6); (try clear c6b0); (try clear c6b1); (try clear c11); (try clear c11b0); (try clear c12); (try clear c12b0); (try clear c12b1); (try clear c13); (try clear c13b0); (try clear c13b1); (try clear c14); (try clear c14b0); (try clear c15); (try clear c15b0); (try clear c16); (try clear p16); (try clear q16); (try clear hx16); (try clear hf16); (try clear c20); (try clear hx20); (try clear hf20); (try clear hcz17_0); (try clear hcz17_1); (try clear hcz17_2); (try clear hcz17_3); (try clear hcz17_4); (try clear hcz8_0); (try clear hcz8_1); (try clear hcz8_2); (try clear hcz8_3); (try clear hcz8_4); (try clear hfz17_0); (try clear hfz17_1); (try clear hfz17_2); (try clear hfz17_3); (try clear hfz17_4); (try clear hfz8_0); (try clear hfz8_1); (try clear hfz8_2); (try clear hfz8_3); (try clear hfz8_4); (try clear hx16_0); (try clear hx20_0); (try clear p16); (try clear p2); (try clear q16); (obtain ⟨x9_2, x11_2, rfl, HA, HK2, HO_9, BK217, HB⟩ := hrel); (have hl9_2 := (Kd.S_reads' HO_9.out).1); (rw [hl9_2] at HO_9); ((try simp only [hl9_2])); ((try simp only [hl9_2] at BK217))
          cases gk with
          | zero => exact absurd HA.out (by simp [coppicerref_Told.l1])
          | succ k2 =>
            (have H := HA.out); (clear HA); (simp only [coppicerref_Told.l1] at H)
            by_cases c22 : x11_2 < a0_0
            rotate_left
            · rw [if_neg c22] at H
              (have c22b0 : decide (x11_2 < a0_0) = false := decide_eq_false c22); (clear c22); (have H' := Aside0.mk H); (clear H); (have hcz34_0 : wr.cell? ⟨gb217, 0, none⟩ = some (.int .i64 a0_0) := (blk_cell BK217.out 0).trans rfl); (have hcz34_1 : wr.cell? ⟨gb217, 1, none⟩ = some (.int .i64 a0_1) := (blk_cell BK217.out 1).trans rfl); (have hcz34_2 : wr.cell? ⟨gb217, 2, none⟩ = some (.slice A0_2 l0_2.length c0_2) := (blk_cell BK217.out 2).trans rfl); (have hcz34_3 : wr.cell? ⟨gb217, 3, none⟩ = some (.int .i64 a0_3) := (blk_cell BK217.out 3).trans rfl); (have hcz34_4 : wr.cell? ⟨gb217, 4, none⟩ = some (.int .u32 a0_4) := (blk_cell BK217.out 4).trans rfl); (have hfz34_0 := blk_frozen BK217.out 0); (have hfz34_1 := blk_frozen BK217.out 1); (have hfz34_2 := blk_frozen BK217.out 2); (have hfz34_3 := blk_frozen BK217.out 3); (have hfz34_4 := blk_frozen BK217.out 4)
              go_wp2
              (try simp only [← hl9_2])
              go_roundg k2
              case measure => have := HK1.out; have := HK2.out; omega
              case rel => exact ⟨(x9_2), (wrap64 (x10_1 + 1)), (by first | rfl | (simp; done) | (simp [*]; done)), H', ⟨by have := HK1.out; have := HK2.out; omega⟩, ⟨by (try simp only [hl9_2]); (with_reducible repeat (first | apply Kd.S_alloc | apply Kd.S_drewN | apply Kd.S_drew)); exact HO_9.out⟩, ⟨by (try simp only [hl9_2]); (with_reducible repeat (first | refine blk_drewN ?_ _ | refine blk_drew ?_ | refine blk_alloc ?_ _)); exact BK217.out⟩, ⟨by repeat (first | (with_reducible first | exact HB.out | apply below_alloc | apply pw_below_drewN | apply below_drew1 | refine below_set ?_ GE217.out) | exact HB.out)⟩⟩
            (rw [if_pos c22] at H); (have c22b0 : decide (x11_2 < a0_0) = true := decide_eq_true c22); (clear c22)
            by_cases c23 : 0 ≤ x10_1
            rotate_left
            · rw [if_neg c23] at H
              exact absurd H (by simp)
            (rw [if_pos c23] at H); (have c23b0 : decide (0 ≤ x10_1) = true := decide_eq_true c23); (clear c23)
            by_cases c24 : x10_1 < (x9_2.length : Int)
            rotate_left
            · rw [if_neg c24] at H
              exact absurd H (by simp)
            (rw [if_pos c24] at H); (have c24b0 : decide (x10_1 < (x9_2.length : Int)) = true := decide_eq_true c24); ((try (have c24b0h := c24b0; simp only [hl9_2] at c24b0h))); (clear c24); (replace H := Option.bind_eq_some_iff.mp H); (obtain ⟨t226, A250, H⟩ := H); (replace H : ((coppicerref_Bit.f a0_4 x11_2).bind fun t227 => (if 0 ≤ x11_2 then (if x11_2 < ((rd_L3 x9_2 x10_1).length : Int) then (coppicerref_Told.l1 k2 a1 a2 a3 (x9_2.set (x10_1 : Int).toNat ((rd_L3 x9_2 x10_1).set (x11_2 : Int).toNat (t226 != t227))) x10_1 (wrap64 (x11_2 + 1)) a0_0 a0_1 l0_2 a0_3 a0_4) else (none)) else (none))) = some r := H); (have A25 := Aside0.mk A250); (clear A250); (replace H := Option.bind_eq_some_iff.mp H); (obtain ⟨t227, A260, H⟩ := H); (replace H : (if 0 ≤ x11_2 then (if x11_2 < ((rd_L3 x9_2 x10_1).length : Int) then (coppicerref_Told.l1 k2 a1 a2 a3 (x9_2.set (x10_1 : Int).toNat ((rd_L3 x9_2 x10_1).set (x11_2 : Int).toNat (t226 != t227))) x10_1 (wrap64 (x11_2 + 1)) a0_0 a0_1 l0_2 a0_3 a0_4) else (none)) else (none)) = some r := H); (have A26 := Aside0.mk A260); (clear A260)
            by_cases c27 : 0 ≤ x11_2
            rotate_left
            · rw [if_neg c27] at H
              exact absurd H (by simp)
            (rw [if_pos c27] at H); (have c27b0 : decide (0 ≤ x11_2) = true := decide_eq_true c27); (clear c27)
            by_cases c28 : x11_2 < ((rd_L3 x9_2 x10_1).length : Int)
            rotate_left
            · rw [if_neg c28] at H
              exact absurd H (by simp)
            (rw [if_pos c28] at H); (have c28b0 : decide (x11_2 < ((rd_L3 x9_2 x10_1).length : Int)) = true := decide_eq_true c28); ((try (have c28b0h := c28b0; simp only [hl9_2] at c28b0h))); (clear c28); (obtain ⟨y228, hy228⟩ : ∃ y_ : List Bool, y_ = ((rd_L3 x9_2 x10_1).set (x11_2 : Int).toNat (t226 != t227)) := ⟨_, rfl⟩); (replace H : (coppicerref_Told.l1 k2 a1 a2 a3 (x9_2.set (x10_1 : Int).toNat y228) x10_1 (wrap64 (x11_2 + 1)) a0_0 a0_1 l0_2 a0_3 a0_4) = some r := by first | (rw [hy228]; with_reducible exact H) | (have H2_ := (Option.bind_some _ _).symm.trans H; rw [hy228]; with_reducible exact H2_) | (have H2_ := (Option.bind_some _ _).symm.trans H; with_reducible exact H2_) | with_reducible exact H | (rw [hy228]; exact H) | exact H); (have Ny228 := Aside0.mk hy228); (clear hy228); (obtain ⟨y230, hy230⟩ : ∃ y_ : List (List Bool), y_ = (x9_2.set (x10_1 : Int).toNat y228) := ⟨_, rfl⟩); (replace H : (coppicerref_Told.l1 k2 a1 a2 a3 y230 x10_1 (wrap64 (x11_2 + 1)) a0_0 a0_1 l0_2 a0_3 a0_4) = some r := by first | (rw [hy230]; with_reducible exact H) | (have H2_ := (Option.bind_some _ _).symm.trans H; rw [hy230]; with_reducible exact H2_) | (have H2_ := (Option.bind_some _ _).symm.trans H; with_reducible exact H2_) | with_reducible exact H | (rw [hy230]; exact H) | exact H); (have Ny230 := Aside0.mk hy230); (clear hy230); (have H' := Aside0.mk H); (clear H); (have hcz30_0 : wr.cell? ⟨gb217, 0, none⟩ = some (.int .i64 a0_0) := (blk_cell BK217.out 0).trans rfl); (have hcz30_1 : wr.cell? ⟨gb217, 1, none⟩ = some (.int .i64 a0_1) := (blk_cell BK217.out 1).trans rfl)
            (have hcz30_2 : wr.cell? ⟨gb217, 2, none⟩ = some (.slice A0_2 l0_2.length c0_2) := (blk_cell BK217.out 2).trans rfl); (have hcz30_3 : wr.cell? ⟨gb217, 3, none⟩ = some (.int .i64 a0_3) := (blk_cell BK217.out 3).trans rfl); (have hcz30_4 : wr.cell? ⟨gb217, 4, none⟩ = some (.int .u32 a0_4) := (blk_cell BK217.out 4).trans rfl); (have hfz30_0 := blk_frozen BK217.out 0); (have hfz30_1 := blk_frozen BK217.out 1); (have hfz30_2 := blk_frozen BK217.out 2); (have hfz30_3 := blk_frozen BK217.out 3); (have hfz30_4 := blk_frozen BK217.out 4)
            try go_wp2
            (have n0_ := Aside0.mk (Kd.S_drew HO_9.out)); (have n1_ := Aside0.mk (blk_drew BK217.out)); (have n2_ := Aside0.mk (below_drew1 HB.out)); (clear HO_9); (clear BK217); (clear HB); (have HO_9 := n0_); (have BK217 := n1_); (have HB := n2_); (clear n0_ n1_ n2_); (have p225 : 0 ≤ (x10_1 : Int) := of_decide_eq_true (by assumption)); (have q225 : x10_1 < (x9_2.length : Int) := of_decide_eq_true (by assumption)); (obtain ⟨ad225, A225_0, c225_0, e225, hx225_0, hl225_0, hi225_0⟩ := at_L3 (Kd.S_reads' HO_9.out).2.2 x10_1 p225 q225); (obtain rfl : (⟨go16, 0, none⟩ : Addr) = ad225 := (by injection e225)); (obtain ⟨ce225, hce225, hMe225, hcc225⟩ := Kd.S_get HO_9.out [] x10_1 p225 (by first | exact q225 | exact of_decide_eq_true (by assumption) | (have e_ := (Kd.S_reads' HO_9.out).1; omega))); (obtain ⟨ve225_0, rfl, ge225_0⟩ := hMe225); (have hv225_0 := hcc225 0 _ rfl); (rw [Nat.add_zero, show ((Kd.slice 4 Kd.bool)).sz = 1 from rfl, Nat.mul_one] at hv225_0); (replace hv225_0 := Option.some.inj (hv225_0.symm.trans hx225_0)); (rw [hv225_0] at ge225_0); (have HL225_0 := Aside0.mk (show Kd.R Kd.bool 4 _ _ _ _ (rd_L3 x9_2 x10_1) from ge225_0)); (clear hv225_0 ge225_0); (have HX225_0 := Aside0.mk hx225_0); (clear hcc225 hce225)
            (first | simp only [add_plain] at hx225_0 | simp only [add_at] at hx225_0 | simp only [Addr.add, Nat.zero_add] at hx225_0 | skip)
            (have HR225_0 := Aside0.mk hi225_0); (have HC225_0 := Aside0.mk hl225_0); (clear hi225_0 hl225_0); (replace p225 := eq_true p225); (replace q225 := eq_true q225)
            refine start_ (n := 16) (S := fun w' => w'.cell? ⟨gb217, 0, none⟩ = some (.int .i64 a0_0) ∧ w'.cell? ⟨gb217, 1, none⟩ = some (.int .i64 a0_1) ∧ w'.cell? ⟨gb217, 2, none⟩ = some (.slice A0_2 l0_2.length c0_2) ∧ w'.cell? ⟨gb217, 3, none⟩ = some (.int .i64 a0_3) ∧ w'.cell? ⟨gb217, 4, none⟩ = some (.int .u32 a0_4) ∧ w'.cell? ⟨go16, (x10_1).toNat, none⟩ = some (.slice A225_0 (rd_L3 x9_2 x10_1).length c225_0)) (ds := [15]) #[false, false, false, false, false, false, false, false, false, false, false, false, false, false, false, false] (by kernel_rfl) rfl rfl ⟨(blk_cell BK217.out 0).trans rfl, (blk_cell BK217.out 1).trans rfl, (blk_cell BK217.out 2).trans rfl, (blk_cell BK217.out 3).trans rfl, (blk_cell BK217.out 4).trans rfl, hx225_0⟩ (fun hHeld => ?_); refine with_tabW coppicerref_Told.tab9 coppicerref_Told.bits9 (fun HT_ HW_ => ?_)
            generalize wr.drew = w31 at HO_9 BK217 HB HL225_0 HR225_0 HX225_0 hx225_0 hHeld ⊢
            refine pure_ (i := 0) (N := some 38) (v := ?_) (a' := ?_) #[true, false, false, false, false, false, false, false, false, false, false, false, false, false, false, false] rfl rfl (any_of HT_.out (by kernel_rfl)) (fun _ _ _ h => h) (Or.inl ⟨by rfl, ?_⟩) ?_ ?_
            rotate_left
            · intro w'
              go_simp
              with_reducible rfl
            rotate_left
            · simp only [Act.put, List.setIfInBounds_toArray, List.set_cons_zero, List.set_cons_succ, i64_w, i32_w]
              rfl
            refine pure_ (i := 1) (N := some 39) (v := ?_) (a' := ?_) #[true, true, false, false, false, false, false, false, false, false, false, false, false, false, false, false] rfl rfl (any_of HT_.out (by kernel_rfl)) (fun _ _ _ h => h) (Or.inl ⟨by rfl, ?_⟩) ?_ ?_
            rotate_left
            · intro w'
              go_simp
              with_reducible rfl
            rotate_left
            · simp only [Act.put, List.setIfInBounds_toArray, List.set_cons_zero, List.set_cons_succ, i64_w, i32_w]
              rfl
            refine pure_ (i := 2) (N := some 40) (v := ?_) (a' := ?_) #[true, true, true, false, false, false, false, false, false, false, false, false, false, false, false, false] rfl rfl (any_of HT_.out (by kernel_rfl)) (fun _ _ _ h => h) (Or.inl ⟨by rfl, ?_⟩) ?_ ?_
            rotate_left
            · intro w'
              go_simp
              with_reducible rfl
            rotate_left
            · simp only [Act.put, List.setIfInBounds_toArray, List.set_cons_zero, List.set_cons_succ, i64_w, i32_w]
              rfl
            refine pure_ (i := 4) (N := some 42) (v := ?_) (a' := ?_) #[true, true, true, false, true, false, false, false, false, false, false, false, false, false, false, false] rfl rfl (any_of HT_.out (by kernel_rfl)) (fun _ _ _ h => h) (Or.inl ⟨by rfl, ?_⟩) ?_ ?_
            rotate_left
            · intro w'
              go_simp
              with_reducible rfl
            rotate_left
            · simp only [Act.put, List.setIfInBounds_toArray, List.set_cons_zero, List.set_cons_succ, i64_w, i32_w]
              rfl
            refine pure_ (i := 5) (N := some 43) (v := ?_) (a' := ?_) #[true, true, true, false, true, true, false, false, false, false, false, false, false, false, false, false] rfl rfl (any_of HT_.out (by kernel_rfl)) (fun _ _ _ h => h) (Or.inl ⟨by rfl, ?_⟩) ?_ ?_
            rotate_left
            · intro w'
              go_simp
              with_reducible rfl
            rotate_left
            · simp only [Act.put, List.setIfInBounds_toArray, List.set_cons_zero, List.set_cons_succ, i64_w, i32_w]
              rfl
            refine pure_ (i := 7) (N := some 45) (v := ?_) (a' := ?_) #[true, true, true, false, true, true, false, true, false, false, false, false, false, false, false, false] rfl rfl (any_of HT_.out (by kernel_rfl)) (fun _ _ _ h => h) (Or.inl ⟨by rfl, ?_⟩) ?_ ?_
            rotate_left
            · intro w'
              go_simp
              with_reducible rfl
            rotate_left
            · simp only [Act.put, List.setIfInBounds_toArray, List.set_cons_zero, List.set_cons_succ, i64_w, i32_w]
              rfl
            refine pure_ (i := 9) (N := some 47) (v := ?_) (a' := ?_) #[true, true, true, false, true, true, false, true, false, true, false, false, false, false, false, false] rfl rfl (any_of HT_.out (by kernel_rfl)) (fun _ _ _ h => h) (Or.inl ⟨by rfl, ?_⟩) ?_ ?_
            rotate_left
            · intro w'
              go_simp
              with_reducible rfl
            rotate_left
            · simp only [Act.put, List.setIfInBounds_toArray, List.set_cons_zero, List.set_cons_succ, i64_w, i32_w]
              rfl
            refine pure_ (i := 11) (N := some 49) (v := ?_) (a' := ?_) #[true, true, true, false, true, true, false, true, false, true, false, true, false, false, false, false] rfl rfl (any_of HT_.out (by kernel_rfl)) (fun _ _ _ h => h) (Or.inl ⟨by rfl, ?_⟩) ?_ ?_
            rotate_left
            · intro w'
              go_simp
              with_reducible rfl
            rotate_left
            · simp only [Act.put, List.setIfInBounds_toArray, List.set_cons_zero, List.set_cons_succ, i64_w, i32_w]
              rfl
            refine take_ (i := 3) (N := some 41) (v := ?_) (a' := ?_) #[true, true, true, true, true, true, false, true, false, true, false, true, false, false, false, false] rfl rfl (take_ofW HT_.out HW_.out (by kernel_rfl)) (fun _ _ _ h => h) (Or.inl ⟨by rfl, ?_⟩) hHeld ?_ ?_
            rotate_left
            · rintro w' ⟨s0, s1, s2, s3, s4, s5⟩
              go_simp
              with_reducible rfl
            rotate_left
            · simp only [Act.put, List.setIfInBounds_toArray, List.set_cons_zero, List.set_cons_succ, i64_w, i32_w]
              rfl
            refine take_ (i := 6) (N := some 44) (v := ?_) (a' := ?_) #[true, true, true, true, true, true, true, true, false, true, false, true, false, false, false, false] rfl rfl (take_ofW HT_.out HW_.out (by kernel_rfl)) (fun _ _ _ h => h) (Or.inl ⟨by rfl, ?_⟩) hHeld ?_ ?_
            rotate_left
            · rintro w' ⟨s0, s1, s2, s3, s4, s5⟩
              go_simp
              with_reducible rfl
            rotate_left
            · simp only [Act.put, List.setIfInBounds_toArray, List.set_cons_zero, List.set_cons_succ, i64_w, i32_w]
              rfl
            refine take_ (i := 10) (N := some 48) (v := ?_) (a' := ?_) #[true, true, true, true, true, true, true, true, false, true, true, true, false, false, false, false] rfl rfl (take_ofW HT_.out HW_.out (by kernel_rfl)) (fun _ _ _ h => h) (Or.inl ⟨by rfl, ?_⟩) hHeld ?_ ?_
            rotate_left
            · rintro w' ⟨s0, s1, s2, s3, s4, s5⟩
              go_simp
              with_reducible rfl
            rotate_left
            · simp only [Act.put, List.setIfInBounds_toArray, List.set_cons_zero, List.set_cons_succ, i64_w, i32_w]
              rfl
            refine one_ (i := 8) (N := some 46) #[true, true, true, true, true, true, true, true, true, true, true, true, false, false, false, false] rfl rfl (one_of HT_.out (by kernel_rfl)) (by decide) (fun K hK => ?_)
            refine goes_ Try.func30 (by kernel_rfl) rfl #[.int .u32 a0_4, .int .i64 x10_1] (by rfl) rfl rfl (by (try simp only [List.map_toArray, List.map_cons, List.map_nil]); first | done | rfl | (simp only [List.length_drop, List.length_take]; rfl)) ?_
            with_reducible refine (coppicerref_Bit.calls a0_4 x10_1 t226 _ A25.out).mono ?_
            rintro e w' ⟨rfl, ⟨nd, rfl⟩⟩
            refine ⟨_, rfl, ?_⟩
            refine hK.out _ _ ⟨(blk_cell BK217.out 0).trans rfl, (blk_cell BK217.out 1).trans rfl, (blk_cell BK217.out 2).trans rfl, (blk_cell BK217.out 3).trans rfl, (blk_cell BK217.out 4).trans rfl, hHeld.2.2.2.2.2⟩ (fun hHeld => ?_)
            clear hK K
            refine norm_ (a' := ?_) ?_ ?_
            rotate_left
            · show Act.put _ (some 46) _ = _
              simp only [Act.put, List.setIfInBounds_toArray, List.set_cons_zero, List.set_cons_succ, i64_w, i32_w]
              rfl
            refine one_ (i := 12) (N := some 50) #[true, true, true, true, true, true, true, true, true, true, true, true, true, false, false, false] rfl rfl (one_of HT_.out (by kernel_rfl)) (by decide) (fun K hK => ?_)
            refine goes_ Try.func30 (by kernel_rfl) rfl #[.int .u32 a0_4, .int .i64 x11_2] (by rfl) rfl rfl (by (try simp only [List.map_toArray, List.map_cons, List.map_nil]); first | done | rfl | (simp only [List.length_drop, List.length_take]; rfl)) ?_
            with_reducible refine (coppicerref_Bit.calls a0_4 x11_2 t227 _ A26.out).mono ?_
            rintro e w' ⟨rfl, ⟨nd, rfl⟩⟩
            refine ⟨_, rfl, ?_⟩
            (have p29 : 0 ≤ (x11_2 : Int) := of_decide_eq_true (by assumption)); (have q29 : (x11_2 : Int) < (((rd_L3 x9_2 x10_1).length : Int) : Int) := of_decide_eq_true (by assumption)); (obtain ⟨go29, co29, eo29, gb29, gl29, cl29, HG29⟩ := Kd.R_form HL225_0.out (by omega))
            (first | cases eo29 | (injection eo29 with ea_ en_ ec_; (first | subst ea_ | (injection ea_ with ea_; subst ea_)); subst ec_; clear en_))
            (have GB29 := Aside0.mk gb29); (have GG29 := Aside0.mk HG29); (clear gb29 gl29 HG29); (obtain ⟨hx29_0, hf29_0⟩ := Kd.R_celln false HL225_0.out (x11_2 : Int) p29 q29); (replace p29 := eq_true p29); (replace q29 := eq_true q29); (have hq32 : (x10_1 : Int) < (x9_2.length : Int) := (by have h_ : (x10_1 : Int) < ((x9_2.length : Int) : Int) := of_decide_eq_true (by assumption); first | exact h_ | (have e_ := (Kd.S_reads' HO_9.out).1; omega) | simpa only [List.length_set, List.length_set] using h_)); (obtain ⟨oki32, ce32, hcl32, hM32, hcc32, hok32, hbk32⟩ := Kd.S_borrow HO_9.out [] (x10_1 : Int) (of_decide_eq_true (by assumption)) hq32); (obtain ⟨ve32_0, rfl, ge32_0⟩ := hM32); (have hv32 := hcc32 0 _ rfl); (rw [Nat.add_zero, show ((Kd.slice 4 Kd.bool)).sz = 1 from rfl, Nat.mul_one] at hv32); (replace hv32 := Option.some.inj (hv32.symm.trans HX225_0.out)); (subst hv32); (clear hcc32 hcl32); (replace ge32_0 := (show Kd.R Kd.bool 4 _ _ _ _ (rd_L3 x9_2 x10_1) from ge32_0)); ((try (obtain ⟨hy32_, hz32_⟩ := Kd.R_celln false ge32_0 (x11_2 : Int) (of_decide_eq_true (by assumption)) (by have h_ : (x11_2 : Int) < (((rd_L3 x9_2 x10_1).length : Int) : Int) := of_decide_eq_true (by assumption); first | exact h_ | (have e_ := (Kd.R_reads' HR225_0.out).1; omega) | simpa using h_)))); (have HP32 := Kd.R_putg ge32_0 (x11_2 : Int) (t226 != t227)); (rw [← Ny228.out] at HP32); (have HS32 := hbk32 HP32.2 (fun k_ e_ => by injection e_ with e_; subst e_; exact ge32_0.1 _ rfl) (x' := y228) (Kd.M_row HP32.1)); (rw [← Ny230.out] at HS32); (have HQ32 := Aside0.mk HS32); (clear HP32 HS32 hbk32 hok32)
            refine hK.out _ _ ⟨(blk_cell BK217.out 0).trans rfl, (blk_cell BK217.out 1).trans rfl, (blk_cell BK217.out 2).trans rfl, (blk_cell BK217.out 3).trans rfl, (blk_cell BK217.out 4).trans rfl, hHeld.2.2.2.2.2⟩ (fun hHeld => ?_)
            clear hK K
            refine norm_ (a' := ?_) ?_ ?_
            rotate_left
            · show Act.put _ (some 50) _ = _
              simp only [Act.put, List.setIfInBounds_toArray, List.set_cons_zero, List.set_cons_succ, i64_w, i32_w]
              rfl
            refine pure_ (i := 13) (N := some 51) (v := ?_) (a' := ?_) #[true, true, true, true, true, true, true, true, true, true, true, true, true, true, false, false] rfl rfl (any_of HT_.out (by kernel_rfl)) (fun _ _ _ h => h) (Or.inl ⟨by rfl, ?_⟩) ?_ ?_
            rotate_left
            · intro w'
              go_simp
              with_reducible rfl
            rotate_left
            · simp only [Act.put, List.setIfInBounds_toArray, List.set_cons_zero, List.set_cons_succ, i64_w, i32_w]
              rfl
            refine pure_ (i := 14) (N := some 52) (v := ?_) (a' := ?_) #[true, true, true, true, true, true, true, true, true, true, true, true, true, true, true, false] rfl rfl (any_of HT_.out (by kernel_rfl)) (fun _ _ _ h => h) (Or.inl ⟨by rfl, ?_⟩) ?_ ?_
            rotate_left
            · intro w'
              go_simp
              with_reducible rfl
            rotate_left
            · simp only [Act.put, List.setIfInBounds_toArray, List.set_cons_zero, List.set_cons_succ, i64_w, i32_w]
              rfl
            refine last_ (i := 15) (N := none) #[true, true, true, true, true, true, true, true, true, true, true, true, true, true, true, true] rfl rfl (one_of HT_.out (by kernel_rfl)) (by decide) (fun K hK => ?_)
            refine skip_ (w1 := ?_) (by rfl) rfl ?_ ?_
            rotate_left
            · go_simp
              rfl
            refine hK.out _ _ ?_
            clear hK K
            refine done_ (done_of HT_.out (by kernel_rfl)) ?_
            try go_wp2
            (try simp only [← hl9_2])
            go_roundg k2
            case measure => have := HK1.out; have := HK2.out; omega
            case rel => exact ⟨(y230), (wrap64 (x11_2 + 1)), (by first | rfl | (simp; done) | (simp [*]; done)), H', ⟨by have := HK1.out; have := HK2.out; omega⟩, ⟨by (try simp only [hl9_2]); (with_reducible repeat (first | apply Kd.S_alloc | apply Kd.S_drewN | apply Kd.S_drew)); exact HQ32.out⟩, ⟨by (try simp only [hl9_2]); (with_reducible repeat (first | refine blk_drewN ?_ _ | refine blk_drew ?_ | refine blk_alloc ?_ _)); refine blk_far ?_ (by have h_ := Kd.R_ne HL225_0.out BK217.out (by decide); intro e_; exact h_ (by rw [e_]; rfl)) _; (with_reducible repeat (first | refine blk_drewN ?_ _ | refine blk_drew ?_ | refine blk_alloc ?_ _)); exact BK217.out⟩, ⟨by repeat (first | (with_reducible first | exact HB.out | apply below_alloc | apply pw_below_drewN | apply below_drew1 | refine below_set ?_ GB29.out | refine below_set ?_ GE217.out) | exact HB.out)⟩⟩
      (rw [if_neg c11] at H); (have c11b0 : decide (x10_1 < a0_0) = false := decide_eq_false c11); (clear c11); (have H' := Aside0.mk H); (clear H); (have hcz35_0 : wr.cell? ⟨gb217, 0, none⟩ = some (.int .i64 a0_0) := (blk_cell BK217.out 0).trans rfl); (have hcz35_1 : wr.cell? ⟨gb217, 1, none⟩ = some (.int .i64 a0_1) := (blk_cell BK217.out 1).trans rfl); (have hcz35_2 : wr.cell? ⟨gb217, 2, none⟩ = some (.slice A0_2 l0_2.length c0_2) := (blk_cell BK217.out 2).trans rfl); (have hcz35_3 : wr.cell? ⟨gb217, 3, none⟩ = some (.int .i64 a0_3) := (blk_cell BK217.out 3).trans rfl); (have hcz35_4 : wr.cell? ⟨gb217, 4, none⟩ = some (.int .u32 a0_4) := (blk_cell BK217.out 4).trans rfl); (have hfz35_0 := blk_frozen BK217.out 0); (have hfz35_1 := blk_frozen BK217.out 1); (have hfz35_2 := blk_frozen BK217.out 2); (have hfz35_3 := blk_frozen BK217.out 3); (have hfz35_4 := blk_frozen BK217.out 4)
      go_wp2
      go_loopg [9, 12] k1 (fun kq v9 v12 w' => ∃ (x9_2 : List (List Bool)) (x12_2 : Int), v12 = .int .i64 x12_2 ∧ Aside0 (coppicerref_Told.l2 kq a1 a2 a3 x9_2 x12_2 a0_0 a0_1 l0_2 a0_3 a0_4 = some r) ∧ Aside0 (kq ≤ k1) ∧ Aside0 (Kd.S (Kd.slice 4 Kd.bool) 65 w' w.heap.size (fun _ => True) v9 x9_2) ∧ Aside0 (w'.heap[gb217]? = some (.cells #[.int .i64 a0_0, .int .i64 a0_1, (.slice A0_2 l0_2.length c0_2), .int .i64 a0_3, .int .u32 a0_4] 35 (0, 0))) ∧ Aside0 (Below w.heap.size w w'))
      case atStart => exact ⟨(x9_1), (0), (by first | rfl | (simp; done) | (simp [*]; done)), H', ⟨Nat.le_refl _⟩, ⟨by (with_reducible repeat (first | apply Kd.S_alloc | apply Kd.S_drewN | apply Kd.S_drew)); exact Kd.S_mono HO_9.out (fun _ hk => trivial)⟩, ⟨by (with_reducible repeat (first | refine blk_drewN ?_ _ | refine blk_drew ?_ | refine blk_alloc ?_ _)); exact BK217.out⟩, ⟨by repeat (first | (with_reducible first | exact HB.out | apply below_alloc | apply pw_below_drewN | apply below_drew1 | refine below_set ?_ GE217.out) | exact HB.out)⟩⟩
      case round =>
        (clear H'); (try clear c1); (try clear p1); (try clear q1); (try clear hx1); (try clear c2); (try clear p2); (try clear q2); (try clear hx2); (try clear c3); (try clear q3); (try clear c5); (try clear c5b0); (try clear c5b1); (try clear c6); (try clear c6b0); (try clear c6b1); (try clear p6); (try clear c11); (try clear c11b0); (try clear c12); (try clear c12b0); (try clear c12b1); (try clear c13); (try clear c13b0); (try clear c13b1); (try clear c14); (try clear c14b0); (try clear c15); (try clear c15b0); (try clear c16); (try clear p16); (try clear q16); (try clear hx16); (try clear hf16); (try clear c20); (try clear hx20); (try clear hf20); (try clear c22); (try clear c22b0); (try clear p22); (try clear q22); (try clear hx22); (try clear c23); (try clear c23b0); (try clear c24); (try clear c24b0); (try clear c27); (try clear c27b0); (try clear c28); (try clear c28b0); (try clear p29); (try clear q29); (try clear hx29); (try clear hf29); (try clear c30); (try clear c32); (try clear q32); (try clear c34); (try clear hcz17_0); (try clear hcz17_1); (try clear hcz17_2); (try clear hcz17_3); (try clear hcz17_4); (try clear hcz30_0); (try clear hcz30_1); (try clear hcz30_2); (try clear hcz30_3); (try clear hcz30_4); (try clear hcz34_0); (try clear hcz34_1); (try clear hcz34_2); (try clear hcz34_3); (try clear hcz34_4); (try clear hcz35_0); (try clear hcz35_1); (try clear hcz35_2); (try clear hcz35_3); (try clear hcz35_4); (try clear hcz8_0); (try clear hcz8_1); (try clear hcz8_2); (try clear hcz8_3); (try clear hcz8_4); (try clear hfz17_0); (try clear hfz17_1); (try clear hfz17_2); (try clear hfz17_3); (try clear hfz17_4); (try clear hfz30_0); (try clear hfz30_1); (try clear hfz30_2); (try clear hfz30_3); (try clear hfz30_4); (try clear hfz34_0); (try clear hfz34_1); (try clear hfz34_2); (try clear hfz34_3); (try clear hfz34_4); (try clear hfz35_0); (try clear hfz35_1); (try clear hfz35_2)
        (try clear hfz35_3); (try clear hfz35_4); (try clear hfz8_0); (try clear hfz8_1); (try clear hfz8_2); (try clear hfz8_3); (try clear hfz8_4); (try clear hx16_0); (try clear hx20_0); (try clear hx225_0); (try clear hx29_0); (try clear p1); (try clear p16); (try clear p2); (try clear p225); (try clear p29); (try clear q1); (try clear q16); (try clear q225); (try clear q29); (obtain ⟨x9_2, x12_2, rfl, HA, HK2, HO_9, BK217, HB⟩ := hrel)
        cases gk with
        | zero => exact absurd HA.out (by simp [coppicerref_Told.l2])
        | succ k2 =>
          (have H := HA.out); (clear HA); (simp only [coppicerref_Told.l2] at H)
          by_cases c36 : x12_2 < a1
          rotate_left
          · rw [if_neg c36] at H
            (have c36b0 : decide (x12_2 < a1) = false := decide_eq_false c36); (clear c36)
            by_cases c85 : 0 ≤ a2
            rotate_left
            · rw [if_neg c85] at H
              exact absurd H (by simp)
            (rw [if_pos c85] at H); (have c85b0 : decide (0 ≤ a2) = true := decide_eq_true c85); (clear c85)
            by_cases c86 : a2 < (x9_2.length : Int)
            rotate_left
            · rw [if_neg c86] at H
              exact absurd H (by simp)
            (rw [if_pos c86] at H); (have c86b0 : decide (a2 < (x9_2.length : Int)) = true := decide_eq_true c86); (clear c86)
            by_cases c87 : 0 ≤ a3
            rotate_left
            · rw [if_neg c87] at H
              exact absurd H (by simp)
            (rw [if_pos c87] at H); (have c87b0 : decide (0 ≤ a3) = true := decide_eq_true c87); (clear c87)
            by_cases c88 : a3 < ((rd_L3 x9_2 a2).length : Int)
            rotate_left
            · rw [if_neg c88] at H
              exact absurd H (by simp)
            (rw [if_pos c88] at H); (have c88b0 : decide (a3 < ((rd_L3 x9_2 a2).length : Int)) = true := decide_eq_true c88); (clear c88); (obtain rfl := Option.some.inj H); (obtain ⟨Ao89, co89, eo89⟩ := Kd.S_slice HO_9.out); (subst eo89); (have p231 : 0 ≤ (a2 : Int) := of_decide_eq_true (by assumption)); (have q231 : a2 < (x9_2.length : Int) := of_decide_eq_true (by assumption)); (obtain ⟨ad231, A231_0, c231_0, e231, hx231_0, hl231_0, hi231_0⟩ := at_L3 (Kd.S_reads' HO_9.out).2.2 a2 p231 q231); (cases e231); (obtain ⟨ce231, hce231, hMe231, hcc231⟩ := Kd.S_get HO_9.out [] a2 p231 (by first | exact q231 | exact of_decide_eq_true (by assumption) | (have e_ := (Kd.S_reads' HO_9.out).1; omega))); (obtain ⟨ve231_0, rfl, ge231_0⟩ := hMe231); (have hv231_0 := hcc231 0 _ rfl); (rw [Nat.add_zero, show ((Kd.slice 4 Kd.bool)).sz = 1 from rfl, Nat.mul_one] at hv231_0); (replace hv231_0 := Option.some.inj (hv231_0.symm.trans hx231_0)); (rw [hv231_0] at ge231_0); (have HL231_0 := Aside0.mk (show Kd.R Kd.bool 4 _ _ _ _ (rd_L3 x9_2 a2) from ge231_0)); (clear hv231_0 ge231_0); (have HX231_0 := Aside0.mk hx231_0); (clear hcc231 hce231); (have HR231_0 := Aside0.mk hi231_0); (have HC231_0 := Aside0.mk hl231_0); (clear hi231_0 hl231_0); (replace p231 := eq_true p231); (replace q231 := eq_true q231); (have p232 : 0 ≤ (a3 : Int) := of_decide_eq_true (by assumption)); (have q232 : a3 < ((rd_L3 x9_2 a2).length : Int) := of_decide_eq_true (by assumption)); (obtain ⟨ad232, e232, hx232_0⟩ := Kd.at_bool (by repeat (first | (with_reducible exact HR231_0.out) | (with_reducible refine Kd.C_alloc ?_ _) | (with_reducible refine Kd.C_drewN ?_ _) | (with_reducible refine Kd.C_drew ?_) | exact HR231_0.out)) a3 p232 q232)
            (cases e232); (replace p232 := eq_true p232); (replace q232 := eq_true q232)
            go_wp2
            go_ret
            exact ⟨by first | rfl | (simp [errW_none, errW_some] <;> rfl) | (simp [*, errW_none, errW_some] <;> rfl), by repeat (first | (with_reducible first | exact HB.out | apply below_alloc | apply pw_below_drewN | apply below_drew1 | refine below_set ?_ GE217.out) | exact HB.out)⟩
          (rw [if_pos c36] at H); (have c36b0 : decide (x12_2 < a1) = true := decide_eq_true c36); (clear c36)
          by_cases c37 : 0 ≤ a0_0
          rotate_left
          · rw [if_neg c37] at H
            exact absurd H (by simp)
          (rw [if_pos c37] at H); (have c37b0 := eq_true c37); (have c37b1 : decide (0 ≤ a0_0) = true := decide_eq_true c37); (clear c37)
          by_cases c38 : (a0_0 : Int).toNat ≤ 11728124029610
          rotate_left
          · rw [if_neg c38] at H
            exact absurd H (by simp)
          (rw [if_pos c38] at H); (have c38b0 := eq_true c38); (have c38b1 : decide ((a0_0 : Int).toNat ≤ 11728124029610) = true := decide_eq_true c38); (clear c38); (obtain ⟨y233, hy233⟩ : ∃ y_ : List (List Bool), y_ = (List.replicate (a0_0 : Int).toNat []) := ⟨_, rfl⟩); (replace H : (coppicerref_Told.l3 k2 a1 a2 a3 x9_2 x12_2 y233 0 a0_0 a0_1 l0_2 a0_3 a0_4) = some r := by first | (rw [hy233]; with_reducible exact H) | (have H2_ := (Option.bind_some _ _).symm.trans H; rw [hy233]; with_reducible exact H2_) | (have H2_ := (Option.bind_some _ _).symm.trans H; with_reducible exact H2_) | with_reducible exact H | (rw [hy233]; exact H) | exact H); (have Ny233 := Aside0.mk hy233); (clear hy233); (have H' := Aside0.mk H); (clear H); (have hcz39_0 : wr.cell? ⟨gb217, 0, none⟩ = some (.int .i64 a0_0) := (blk_cell BK217.out 0).trans rfl); (have hcz39_1 : wr.cell? ⟨gb217, 1, none⟩ = some (.int .i64 a0_1) := (blk_cell BK217.out 1).trans rfl); (have hcz39_2 : wr.cell? ⟨gb217, 2, none⟩ = some (.slice A0_2 l0_2.length c0_2) := (blk_cell BK217.out 2).trans rfl); (have hcz39_3 : wr.cell? ⟨gb217, 3, none⟩ = some (.int .i64 a0_3) := (blk_cell BK217.out 3).trans rfl); (have hcz39_4 : wr.cell? ⟨gb217, 4, none⟩ = some (.int .u32 a0_4) := (blk_cell BK217.out 4).trans rfl); (have hfz39_0 := blk_frozen BK217.out 0); (have hfz39_1 := blk_frozen BK217.out 1); (have hfz39_2 := blk_frozen BK217.out 2); (have hfz39_3 := blk_frozen BK217.out 3); (have hfz39_4 := blk_frozen BK217.out 4)
          go_wp2_with (first | ((with_reducible refine gate_dst (N := 60) rfl ?_); refine Kd.S_make (Kd.slice 4 Kd.bool) _ 65 rfl (N := 60) rfl 69 _ _ rfl a0_0 rfl rfl Try.underlying69 (.slice none 0 0) 24 info65 rfl (by decide) (by omega) [] (ok := fun k_ => k_ = wr.heap.size) (okp := fun _ => False) ⟨_, rfl, Kd.R_nil _ _ _ _ _⟩ (fun _ hk => hk.elim) rfl (of_decide_eq_true (by assumption)) (Nat.le_trans (Nat.mul_le_mul_right _ (of_decide_eq_true (by assumption) : a0_0.toNat ≤ 11728124029610)) (by omega)) (Below.refl _ _) (Nat.le_refl _) ?_; intro v234 w40 ho41 hb hg_ hnew_; clear hg_ hnew_; (first | rw [← Ny233.out] at ho41 | (simp only [Int.reduceToNat] at ho41; rw [← Ny233.out] at ho41)); have n0_ := Aside0.mk (coppicerref_Told.S_bef (by (with_reducible repeat (first | apply Kd.S_alloc | apply Kd.S_drewN | apply Kd.S_drew)); exact HO_9.out) (Kd.S_base ho41) hb); have n1_ := Aside0.mk (Kd.S_lower (Kd.S_new' (coppicerref_Told.S_aft ho41) (Kd.S_lt (by (with_reducible repeat (first | apply Kd.S_alloc | apply Kd.S_drewN | apply Kd.S_drew)); exact HO_9.out))) (below_size (by repeat (first | (with_reducible first | exact HB.out | apply below_alloc | apply pw_below_drewN | apply below_drew1 | refine below_set ?_ GE217.out) | exact HB.out)))); have n2_ := Aside0.mk (blk_below (g := gb217) (o := .cells #[.int .i64 a0_0, .int .i64 a0_1, .slice A0_2 l0_2.length c0_2, .int .i64 a0_3, .int .u32 a0_4] 35 (0, 0)) (by (with_reducible repeat (first | refine blk_drewN ?_ _ | refine blk_drew ?_ | refine blk_alloc ?_ _)); exact BK217.out) hb); have n3_ := Aside0.mk (below_step (by repeat (first | (with_reducible first | exact HB.out | apply below_alloc | apply pw_below_drewN | apply below_drew1 | refine below_set ?_ GE217.out) | exact HB.out)) hb); clear HO_9; clear BK217; clear HB; have HO_9 := n0_; have HO235 := n1_; have BK217 := n2_; have HB := n3_; clear n0_ n1_ n2_ n3_; clear hb ho41))
          go_loopg [14] k2 (fun kq v14 w' => ∃ (x13_3 : List (List Bool)) (x14_3 : Int), v14 = .int .i64 x14_3 ∧ Aside0 (coppicerref_Told.l3 kq a1 a2 a3 x9_2 x12_2 x13_3 x14_3 a0_0 a0_1 l0_2 a0_3 a0_4 = some r) ∧ Aside0 (kq ≤ k2) ∧ Aside0 (Kd.S (Kd.slice 4 Kd.bool) 65 w' w.heap.size (fun k_ => some k_ ≠ (v234 : Value).ownBlock ∧ k_ ≠ (coppicerref_Told.bef_ k_ v234)) u9 x9_2) ∧ Aside0 (Kd.S (Kd.slice 4 Kd.bool) 65 w' w.heap.size (fun k_ => some k_ ≠ (u9 : Value).ownBlock ∧ k_ ≠ (coppicerref_Told.aft_ k_ v234)) v234 x13_3) ∧ Aside0 (w'.heap[gb217]? = some (.cells #[.int .i64 a0_0, .int .i64 a0_1, (.slice A0_2 l0_2.length c0_2), .int .i64 a0_3, .int .u32 a0_4] 35 (0, 0))) ∧ Aside0 (Below w.heap.size w w'))
          case atStart => exact ⟨(y233), (0), (by first | rfl | (simp; done) | (simp [*]; done)), H', ⟨Nat.le_refl _⟩, ⟨by (with_reducible repeat (first | apply Kd.S_alloc | apply Kd.S_drewN | apply Kd.S_drew)); exact Kd.S_mono HO_9.out (fun _ hk => ⟨hk.1.2, hk.2⟩)⟩, ⟨by (with_reducible repeat (first | apply Kd.S_alloc | apply Kd.S_drewN | apply Kd.S_drew)); exact Kd.S_mono HO235.out (fun _ hk => ⟨hk.2, hk.1⟩)⟩, ⟨by (with_reducible repeat (first | refine blk_drewN ?_ _ | refine blk_drew ?_ | refine blk_alloc ?_ _)); exact BK217.out⟩, ⟨by repeat (first | (with_reducible first | exact HB.out | apply below_alloc | apply pw_below_drewN | apply below_drew1 | refine below_set ?_ GE217.out) | exact HB.out)⟩⟩
          case round =>
            (clear H'); (try clear c1); (try clear p1); (try clear q1); (try clear hx1); (try clear c2); (try clear p2); (try clear q2); (try clear hx2); (try clear c3); (try clear q3); (try clear c5); (try clear c5b0); (try clear c5b1); (try clear c6); (try clear c6b0); (try clear c6b1); (try clear p6); (try clear c11); (try clear c11b0); (try clear c12); (try clear c12b0); (try clear c12b1); (try clear c13); (try clear c13b0); (try clear c13b1); (try clear c14); (try clear c14b0); (try clear c15); (try clear c15b0); (try clear c16); (try clear p16); (try clear q16); (try clear hx16); (try clear hf16); (try clear c20); (try clear hx20); (try clear hf20); (try clear c22); (try clear c22b0); (try clear p22); (try clear q22); (try clear hx22); (try clear c23); (try clear c23b0); (try clear c24); (try clear c24b0); (try clear c27); (try clear c27b0); (try clear c28); (try clear c28b0); (try clear p29); (try clear q29); (try clear hx29); (try clear hf29); (try clear c30); (try clear c32); (try clear q32); (try clear c34); (try clear c36); (try clear c36b0); (try clear c37); (try clear c37b0); (try clear c37b1); (try clear c38); (try clear c38b0); (try clear c38b1); (try clear hcz17_0); (try clear hcz17_1); (try clear hcz17_2); (try clear hcz17_3); (try clear hcz17_4); (try clear hcz30_0); (try clear hcz30_1); (try clear hcz30_2); (try clear hcz30_3); (try clear hcz30_4); (try clear hcz34_0); (try clear hcz34_1); (try clear hcz34_2); (try clear hcz34_3); (try clear hcz34_4); (try clear hcz35_0); (try clear hcz35_1); (try clear hcz35_2); (try clear hcz35_3); (try clear hcz35_4); (try clear hcz39_0); (try clear hcz39_1); (try clear hcz39_2); (try clear hcz39_3); (try clear hcz39_4); (try clear hcz8_0); (try clear hcz8_1); (try clear hcz8_2); (try clear hcz8_3); (try clear hcz8_4); (try clear hfz17_0); (try clear hfz17_1); (try clear hfz17_2); (try clear hfz17_3); (try clear hfz17_4); (try clear hfz30_0)
            (try clear hfz30_1); (try clear hfz30_2); (try clear hfz30_3); (try clear hfz30_4); (try clear hfz34_0); (try clear hfz34_1); (try clear hfz34_2); (try clear hfz34_3); (try clear hfz34_4); (try clear hfz35_0); (try clear hfz35_1); (try clear hfz35_2); (try clear hfz35_3); (try clear hfz35_4); (try clear hfz39_0); (try clear hfz39_1); (try clear hfz39_2); (try clear hfz39_3); (try clear hfz39_4); (try clear hfz8_0); (try clear hfz8_1); (try clear hfz8_2); (try clear hfz8_3); (try clear hfz8_4); (try clear hx16_0); (try clear hx20_0); (try clear hx225_0); (try clear hx29_0); (try clear p1); (try clear p16); (try clear p2); (try clear p22); (try clear p225); (try clear p29); (try clear p6); (try clear q1); (try clear q16); (try clear q2); (try clear q22); (try clear q225); (try clear q29); (try clear q3); (try clear q32); (obtain ⟨x13_3, x14_3, rfl, HA, HK3, HO_9, HO_13, BK217, HB⟩ := hrel)
            cases gk with
            | zero => exact absurd HA.out (by simp [coppicerref_Told.l3])
            | succ k3 =>
              (have H := HA.out); (clear HA); (simp only [coppicerref_Told.l3] at H)
              by_cases c42 : x14_3 < a0_0
              rotate_left
              · rw [if_neg c42] at H
                (have c42b0 : decide (x14_3 < a0_0) = false := decide_eq_false c42); (clear c42); (have H' := Aside0.mk H); (clear H); (have hcz84_0 : wr.cell? ⟨gb217, 0, none⟩ = some (.int .i64 a0_0) := (blk_cell BK217.out 0).trans rfl); (have hcz84_1 : wr.cell? ⟨gb217, 1, none⟩ = some (.int .i64 a0_1) := (blk_cell BK217.out 1).trans rfl); (have hcz84_2 : wr.cell? ⟨gb217, 2, none⟩ = some (.slice A0_2 l0_2.length c0_2) := (blk_cell BK217.out 2).trans rfl); (have hcz84_3 : wr.cell? ⟨gb217, 3, none⟩ = some (.int .i64 a0_3) := (blk_cell BK217.out 3).trans rfl); (have hcz84_4 : wr.cell? ⟨gb217, 4, none⟩ = some (.int .u32 a0_4) := (blk_cell BK217.out 4).trans rfl); (have hfz84_0 := blk_frozen BK217.out 0); (have hfz84_1 := blk_frozen BK217.out 1); (have hfz84_2 := blk_frozen BK217.out 2); (have hfz84_3 := blk_frozen BK217.out 3); (have hfz84_4 := blk_frozen BK217.out 4)
                go_wp2
                go_roundg k3
                case measure => have := HK1.out; have := HK2.out; have := HK3.out; omega
                case rel => exact ⟨(x13_3), (wrap64 (x12_2 + 1)), (by first | rfl | (simp; done) | (simp [*]; done)), H', ⟨by have := HK1.out; have := HK2.out; have := HK3.out; omega⟩, ⟨by (with_reducible repeat (first | apply Kd.S_alloc | apply Kd.S_drewN | apply Kd.S_drew)); exact Kd.S_mono HO_13.out (fun _ hk => trivial)⟩, ⟨by (with_reducible repeat (first | refine blk_drewN ?_ _ | refine blk_drew ?_ | refine blk_alloc ?_ _)); exact BK217.out⟩, ⟨by repeat (first | (with_reducible first | exact HB.out | apply below_alloc | apply pw_below_drewN | apply below_drew1 | refine below_set ?_ GE217.out) | exact HB.out)⟩⟩
              (rw [if_pos c42] at H); (have c42b0 : decide (x14_3 < a0_0) = true := decide_eq_true c42); (clear c42)
              by_cases c43 : 0 ≤ a0_0
              rotate_left
              · rw [if_neg c43] at H
                exact absurd H (by simp)
              (rw [if_pos c43] at H); (have c43b0 := eq_true c43); (have c43b1 : decide (0 ≤ a0_0) = true := decide_eq_true c43); (clear c43)
              by_cases c44 : (a0_0 : Int).toNat ≤ 281474976710656
              rotate_left
              · rw [if_neg c44] at H
                exact absurd H (by simp)
              (rw [if_pos c44] at H); (have c44b0 := eq_true c44); (have c44b1 : decide ((a0_0 : Int).toNat ≤ 281474976710656) = true := decide_eq_true c44); (clear c44); (obtain ⟨y236, hy236⟩ : ∃ y_ : List Bool, y_ = (List.replicate (a0_0 : Int).toNat false) := ⟨_, rfl⟩); (replace H : (if 0 ≤ x14_3 then (if x14_3 < (x13_3.length : Int) then (coppicerref_Told.l4 k3 a1 a2 a3 x9_2 x12_2 (x13_3.set (x14_3 : Int).toNat y236) x14_3 0 a0_0 a0_1 l0_2 a0_3 a0_4) else (none)) else (none)) = some r := by first | (rw [hy236]; with_reducible exact H) | (have H2_ := (Option.bind_some _ _).symm.trans H; rw [hy236]; with_reducible exact H2_) | (have H2_ := (Option.bind_some _ _).symm.trans H; with_reducible exact H2_) | with_reducible exact H | (rw [hy236]; exact H) | exact H); (have Ny236 := Aside0.mk hy236); (clear hy236)
              by_cases c45 : 0 ≤ x14_3
              rotate_left
              · rw [if_neg c45] at H
                exact absurd H (by simp)
              (rw [if_pos c45] at H); (have c45b0 : decide (0 ≤ x14_3) = true := decide_eq_true c45); (clear c45)
              by_cases c46 : x14_3 < (x13_3.length : Int)
              rotate_left
              · rw [if_neg c46] at H
                exact absurd H (by simp)
              (rw [if_pos c46] at H); (have c46b0 : decide (x14_3 < (x13_3.length : Int)) = true := decide_eq_true c46); (clear c46); (obtain ⟨y239, hy239⟩ : ∃ y_ : List (List Bool), y_ = (x13_3.set (x14_3 : Int).toNat y236) := ⟨_, rfl⟩); (replace H : (coppicerref_Told.l4 k3 a1 a2 a3 x9_2 x12_2 y239 x14_3 0 a0_0 a0_1 l0_2 a0_3 a0_4) = some r := by first | (rw [hy239]; with_reducible exact H) | (have H2_ := (Option.bind_some _ _).symm.trans H; rw [hy239]; with_reducible exact H2_) | (have H2_ := (Option.bind_some _ _).symm.trans H; with_reducible exact H2_) | with_reducible exact H | (rw [hy239]; exact H) | exact H); (have Ny239 := Aside0.mk hy239); (clear hy239); (have H' := Aside0.mk H); (clear H); (have hcz48_0 : wr.cell? ⟨gb217, 0, none⟩ = some (.int .i64 a0_0) := (blk_cell BK217.out 0).trans rfl); (have hcz48_1 : wr.cell? ⟨gb217, 1, none⟩ = some (.int .i64 a0_1) := (blk_cell BK217.out 1).trans rfl); (have hcz48_2 : wr.cell? ⟨gb217, 2, none⟩ = some (.slice A0_2 l0_2.length c0_2) := (blk_cell BK217.out 2).trans rfl); (have hcz48_3 : wr.cell? ⟨gb217, 3, none⟩ = some (.int .i64 a0_3) := (blk_cell BK217.out 3).trans rfl); (have hcz48_4 : wr.cell? ⟨gb217, 4, none⟩ = some (.int .u32 a0_4) := (blk_cell BK217.out 4).trans rfl); (have hfz48_0 := blk_frozen BK217.out 0); (have hfz48_1 := blk_frozen BK217.out 1); (have hfz48_2 := blk_frozen BK217.out 2); (have hfz48_3 := blk_frozen BK217.out 3); (have hfz48_4 := blk_frozen BK217.out 4)
              go_wp2_with (first | ((with_reducible refine gate_dst (N := 71) rfl ?_); refine Kd.R_make Kd.bool _ 4 rfl (N := 71) rfl 65 _ _ rfl a0_0 rfl rfl Try.underlying65 (.bool false) 1 info4 rfl (by decide) (by omega) false (ok := fun _ => True) (okp := fun _ => True) rfl (fun _ hk => hk) trivial (of_decide_eq_true (by assumption)) (Nat.le_trans (Nat.mul_le_mul_right _ (of_decide_eq_true (by assumption) : a0_0.toNat ≤ 281474976710656)) (by omega)) (Below.refl _ _) (Nat.le_refl _) ?_; intro v237 w49 ho50 hb hg_ hnew_; clear hg_ hnew_; (first | rw [← Ny236.out] at ho50 | (simp only [Int.reduceToNat] at ho50; rw [← Ny236.out] at ho50)); have n0_ := Aside0.mk (Kd.S_elder' (by (with_reducible repeat (first | apply Kd.S_alloc | apply Kd.S_drewN | apply Kd.S_drew)); exact HO_9.out) (Kd.R_base ho50) hb); have n1_ := Aside0.mk (Kd.S_elder' (by (with_reducible repeat (first | apply Kd.S_alloc | apply Kd.S_drewN | apply Kd.S_drew)); exact HO_13.out) (Kd.R_base ho50) hb); have n2_ := Aside0.mk (Kd.R_lower (coppicerref_Told.R_aftnew ho50 (Kd.S_lt (by (with_reducible repeat (first | apply Kd.S_alloc | apply Kd.S_drewN | apply Kd.S_drew)); exact HO_13.out))) (below_size (by repeat (first | (with_reducible first | exact HB.out | apply below_alloc | apply pw_below_drewN | apply below_drew1 | refine below_set ?_ GE217.out) | exact HB.out)))); have n3_ := Aside0.mk (blk_below (g := gb217) (o := .cells #[.int .i64 a0_0, .int .i64 a0_1, .slice A0_2 l0_2.length c0_2, .int .i64 a0_3, .int .u32 a0_4] 35 (0, 0)) (by (with_reducible repeat (first | refine blk_drewN ?_ _ | refine blk_drew ?_ | refine blk_alloc ?_ _)); exact BK217.out) hb); have n4_ := Aside0.mk (below_step (by repeat (first | (with_reducible first | exact HB.out | apply below_alloc | apply pw_below_drewN | apply below_drew1 | refine below_set ?_ GE217.out) | exact HB.out)) hb); clear HO_9; clear HO_13; clear BK217; clear HB; have HO_9 := n0_; have HO_13 := n1_; have HO238 := n2_; have BK217 := n3_; have HB := n4_; clear n0_ n1_ n2_ n3_ n4_; clear hb ho50; have p47 : 0 ≤ (x14_3 : Int) := of_decide_eq_true (by assumption); have q47 : (x14_3 : Int) < ((x13_3.length : Int) : Int) := of_decide_eq_true (by assumption); obtain ⟨go47, co47, eo47, gb47, gl47, cl47, HG47⟩ := Kd.S_form HO_13.out (by omega); (first | cases eo47 | (injection eo47 with ea_ en_ ec_; (first | subst ea_ | (injection ea_ with ea_; subst ea_)); subst ec_; clear en_)); have GB47 := Aside0.mk gb47; have GG47 := Aside0.mk HG47; clear gb47 gl47 HG47; obtain ⟨_, ce47, hcl47, hM47, hcc47, hfr47, _, _⟩ := Kd.S_elem HO_13.out [] (x14_3 : Int) p47 q47; obtain ⟨ve47_0, rfl, ge47_0⟩ := hM47; have hx47_0 := hcc47 0 _ rfl; have hf47_0 := hfr47 0; (try simp only [show ((Kd.slice 4 Kd.bool)).sz = 1 from rfl, Nat.mul_one, Nat.add_zero] at hx47_0); (try simp only [show ((Kd.slice 4 Kd.bool)).sz = 1 from rfl, Nat.mul_one, Nat.add_zero] at hf47_0); (try clear hcl47); (try clear hcc47); (try clear hfr47); (try clear hM47); replace p47 := eq_true p47; replace q47 := eq_true q47; have n_ := Aside0.mk (Kd.S_mono (ok' := (fun k_ => some k_ ≠ (u9 : Value).ownBlock ∧ some k_ ≠ (v237 : Value).ownBlock ∧ k_ ≠ (coppicerref_Told.aft_ k_ (.slice (some ⟨go47, 0, none⟩) x13_3.length co47)))) HO_13.out (fun k_ hk => ⟨hk.1.1, ⟨hk.2, hk.1.2⟩⟩)); clear HO_13; have HO_13 := n_; clear n_; have HX51 := Aside0.mk (show Kd.S (Kd.slice 4 Kd.bool) 65 w49 w.heap.size (fun k_ => ((fun k_ => some k_ ≠ (u9 : Value).ownBlock ∧ k_ ≠ (coppicerref_Told.aft_ k_ (.slice (some ⟨go47, 0, none⟩) x13_3.length co47)))) k_ ∧ ¬ ((fun k_ => some k_ = (v237 : Value).ownBlock)) k_) (.slice (some ⟨go47, 0, none⟩) x13_3.length co47) x13_3 from (by (with_reducible repeat (first | apply Kd.S_alloc | apply Kd.S_drewN | apply Kd.S_drew)); exact Kd.S_mono HO_13.out (fun k_ hk => ⟨⟨hk.1, hk.2.2⟩, fun e_ => hk.2.1 e_⟩))); obtain ⟨oki51, ce51, hcl51, hM51, hcc51, hfr51, hoki51, hH51⟩ := Kd.S_elem HX51.out [] (x14_3 : Int) (of_decide_eq_true (by assumption)) (by have h_ : (x14_3 : Int) < ((x13_3.length : Int) : Int) := of_decide_eq_true (by assumption); first | exact h_ | (have e_ := (Kd.S_reads' HO_13.out).1; omega) | simpa using h_); obtain ⟨ve51_0, rfl, ge51_0⟩ := hM51; have HP51 := Kd.S_seg hH51 (of_decide_eq_true (by assumption)) (by have h_ : (x14_3 : Int) < ((x13_3.length : Int) : Int) := of_decide_eq_true (by assumption); first | exact h_ | (have e_ := (Kd.S_reads' HO_13.out).1; omega) | simpa using h_) (seg := [v237]) (j := 0) (show 1 ≤ 1 from by decide) (x' := y236) (Kd.M_row (Kd.R_mono (Kd.R_tight rfl (Kd.R_mono (ok' := fun k_ => ((fun k_ => some k_ ≠ (u9 : Value).ownBlock ∧ k_ ≠ (coppicerref_Told.aft_ k_ (.slice (some ⟨go47, 0, none⟩) x13_3.length co47)))) k_ ∧ k_ ≠ go47) (Kd.R_apart' (Kd.R_apart' (HO238.out) (Kd.S_typed HO_9.out) (by decide)) (Kd.S_typed HO_13.out) (by decide)) (fun k_ hk => ⟨⟨hk.1.2, hk.1.1.2⟩, fun e_ => (hk.2) (by rw [e_]; rfl)⟩))) (fun _ h_ => Or.inr (h_)))) (fun _ hk => hk) (fun k_ hk_ => ((Kd.R_mono (ok' := fun k_ => ((fun k_ => some k_ ≠ (u9 : Value).ownBlock ∧ k_ ≠ (coppicerref_Told.aft_ k_ (.slice (some ⟨go47, 0, none⟩) x13_3.length co47)))) k_ ∧ k_ ≠ go47) (Kd.R_apart' (Kd.R_apart' (HO238.out) (Kd.S_typed HO_9.out) (by decide)) (Kd.S_typed HO_13.out) (by decide)) (fun k_ hk => ⟨⟨hk.1.2, hk.1.1.2⟩, fun e_ => (hk.2) (by rw [e_]; rfl)⟩))).1 k_ hk_.symm); have hx51_0 := hcc51 0 _ rfl; (try simp only [show ((Kd.slice 4 Kd.bool)).sz = 1 from rfl, Nat.mul_one, Nat.add_zero] at hx51_0); have hf51_0 := hfr51 0; (try simp only [show ((Kd.slice 4 Kd.bool)).sz = 1 from rfl, Nat.mul_one, Nat.add_zero] at hf51_0); (try clear hcl51); (try clear hcc51); (try clear hfr51); (try clear hM51); (try clear hoki51); (try clear hH51); (try simp only [show ((Kd.slice 4 Kd.bool)).sz = 1 from rfl, Nat.mul_one, Nat.add_zero] at HP51)) | ((with_reducible refine gate_store (t := 65) (p := 72) rfl ?_); refine store_event (t := 65) (p := 72) (v := ?vo_w52) (w1 := (w49.setCell ⟨go47, (x14_3 : Int).toNat, none⟩ (v237))) ?hg ?ho ?hn ?hr ?_; (case ho => rfl); (case hg => rfl); (case hn => rfl); (case hr => first | (go_simp; done) | (go_simp; rfl) | (obtain ⟨_, _, rfl⟩ := Kd.R_slice HO238.out; (first | (go_simp; done) | (go_simp; rfl)))); intro w52 hw; have hg : w49.grownBy w52 (some go47) := (by rw [hw]; exact HP51.2); have hp_ : Kd.S (Kd.slice 4 Kd.bool) 65 w52 w.heap.size (fun k_ => some k_ ≠ (u9 : Value).ownBlock ∧ k_ ≠ (coppicerref_Told.aft_ k_ (.slice (some ⟨go47, 0, none⟩) x13_3.length co47))) (.slice (some ⟨go47, 0, none⟩) x13_3.length co47) y239 := (by rw [hw, Ny239.out]; exact HP51.1); clear HP51; have n0_ := Aside0.mk (Kd.S_after (v := (.slice (some ⟨go47, 0, none⟩) x13_3.length co47)) (v1 := (.slice (some ⟨go47, 0, none⟩) x13_3.length co47)) (ok := (fun k_ => some k_ ≠ (v237 : Value).ownBlock ∧ k_ ≠ (coppicerref_Told.bef_ k_ (.slice (some ⟨go47, 0, none⟩) x13_3.length co47)))) (by (with_reducible repeat (first | apply Kd.S_alloc | apply Kd.S_drewN | apply Kd.S_drew)); exact Kd.S_mono HO_9.out (fun _ hk => ⟨⟨hk.2, hk.1.2⟩, hk.1.1⟩)) hg (.inl rfl)); have n1_ := Aside0.mk (hp_); have n2_ := Aside0.mk (blk_grown (g := gb217) (o := .cells #[.int .i64 a0_0, .int .i64 a0_1, .slice A0_2 l0_2.length c0_2, .int .i64 a0_3, .int .u32 a0_4] 35 (0, 0)) (by (with_reducible repeat (first | refine blk_drewN ?_ _ | refine blk_drew ?_ | refine blk_alloc ?_ _)); exact BK217.out) hg (Kd.S_ne HO_13.out BK217.out (by decide))); have n3_ := Aside0.mk ((by rw [hw]; exact below_set (HB.out) GB47.out : Below w.heap.size w w52)); clear HO_9; clear HO_13; clear BK217; clear HB; clear HO238; have HO_9 := n0_; have HO_13 := n1_; have BK217 := n2_; have HB := n3_; clear n0_ n1_ n2_ n3_; clear hg hw hp_))
              go_loopg [15] k3 (fun kq v15 w' => ∃ (x13_4 : List (List Bool)) (x15_4 : Int), v15 = .int .i64 x15_4 ∧ Aside0 (coppicerref_Told.l4 kq a1 a2 a3 x9_2 x12_2 x13_4 x14_3 x15_4 a0_0 a0_1 l0_2 a0_3 a0_4 = some r) ∧ Aside0 (kq ≤ k3) ∧ Aside0 (Kd.S (Kd.slice 4 Kd.bool) 65 w' w.heap.size (fun k_ => some k_ ≠ ((.slice (some ⟨go47, 0, none⟩) x13_3.length co47) : Value).ownBlock ∧ k_ ≠ (coppicerref_Told.bef_ k_ (.slice (some ⟨go47, 0, none⟩) x13_3.length co47))) u9 x9_2) ∧ Aside0 (Kd.S (Kd.slice 4 Kd.bool) 65 w' w.heap.size (fun k_ => some k_ ≠ (u9 : Value).ownBlock ∧ k_ ≠ (coppicerref_Told.aft_ k_ (.slice (some ⟨go47, 0, none⟩) x13_3.length co47))) (.slice (some ⟨go47, 0, none⟩) x13_3.length co47) x13_4) ∧ Aside0 (w'.heap[gb217]? = some (.cells #[.int .i64 a0_0, .int .i64 a0_1, (.slice A0_2 l0_2.length c0_2), .int .i64 a0_3, .int .u32 a0_4] 35 (0, 0))) ∧ Aside0 (Below w.heap.size w w'))
              case atStart => exact ⟨(y239), (0), (by first | rfl | (simp; done) | (simp [*]; done)), H', ⟨Nat.le_refl _⟩, ⟨by (with_reducible repeat (first | apply Kd.S_alloc | apply Kd.S_drewN | apply Kd.S_drew)); exact Kd.S_mono HO_9.out (fun _ hk => ⟨hk.2, hk.1.2⟩)⟩, ⟨by (with_reducible repeat (first | apply Kd.S_alloc | apply Kd.S_drewN | apply Kd.S_drew)); exact HO_13.out⟩, ⟨by (with_reducible repeat (first | refine blk_drewN ?_ _ | refine blk_drew ?_ | refine blk_alloc ?_ _)); exact BK217.out⟩, ⟨by repeat (first | (with_reducible first | exact HB.out | apply below_alloc | apply pw_below_drewN | apply below_drew1 | refine below_set ?_ GE217.out) | exact HB.out)⟩⟩
              case round =>
                (clear H'); (try clear c1); (try clear p1); (try clear q1); (try clear hx1); (try clear c2); (try clear p2); (try clear q2); (try clear hx2); (try clear c3); (try clear q3); (try clear c4); (try clear p4); (try clear q4); (try clear hx4); (try clear hf4); (try clear c5); (try clear c5b0); (try clear c5b1); (try clear hx5); (try clear hf5); (try clear c6); (try clear c6b0); (try clear c6b1); (try clear p6); (try clear c11); (try clear c11b0); (try clear c12); (try clear c12b0); (try clear c12b1); (try clear c13); (try clear c13b0); (try clear c13b1); (try clear c14); (try clear c14b0); (try clear c15); (try clear c15b0); (try clear c16); (try clear p16); (try clear q16); (try clear hx16); (try clear hf16); (try clear c20); (try clear hx20); (try clear hf20); (try clear c22); (try clear c22b0); (try clear p22); (try clear q22); (try clear hx22); (try clear c23); (try clear c23b0); (try clear c24); (try clear c24b0); (try clear c27); (try clear c27b0); (try clear c28); (try clear c28b0); (try clear p29); (try clear q29); (try clear hx29); (try clear hf29); (try clear c30); (try clear c32); (try clear q32); (try clear c34); (try clear c36); (try clear c36b0); (try clear c37); (try clear c37b0); (try clear c37b1); (try clear c38); (try clear c38b0); (try clear c38b1); (try clear c42); (try clear c42b0); (try clear c43); (try clear c43b0); (try clear c43b1); (try clear c44); (try clear c44b0); (try clear c44b1); (try clear c45); (try clear c45b0); (try clear c46); (try clear c46b0); (try clear c47); (try clear p47); (try clear q47); (try clear hx47); (try clear hf47); (try clear c51); (try clear hx51); (try clear hf51); (try clear hcz17_0); (try clear hcz17_1); (try clear hcz17_2); (try clear hcz17_3); (try clear hcz17_4); (try clear hcz30_0); (try clear hcz30_1); (try clear hcz30_2); (try clear hcz30_3); (try clear hcz30_4); (try clear hcz34_0); (try clear hcz34_1); (try clear hcz34_2); (try clear hcz34_3)
                (try clear hcz34_4); (try clear hcz35_0); (try clear hcz35_1); (try clear hcz35_2); (try clear hcz35_3); (try clear hcz35_4); (try clear hcz39_0); (try clear hcz39_1); (try clear hcz39_2); (try clear hcz39_3); (try clear hcz39_4); (try clear hcz48_0); (try clear hcz48_1); (try clear hcz48_2); (try clear hcz48_3); (try clear hcz48_4); (try clear hcz8_0); (try clear hcz8_1); (try clear hcz8_2); (try clear hcz8_3); (try clear hcz8_4); (try clear hfz17_0); (try clear hfz17_1); (try clear hfz17_2); (try clear hfz17_3); (try clear hfz17_4); (try clear hfz30_0); (try clear hfz30_1); (try clear hfz30_2); (try clear hfz30_3); (try clear hfz30_4); (try clear hfz34_0); (try clear hfz34_1); (try clear hfz34_2); (try clear hfz34_3); (try clear hfz34_4); (try clear hfz35_0); (try clear hfz35_1); (try clear hfz35_2); (try clear hfz35_3); (try clear hfz35_4); (try clear hfz39_0); (try clear hfz39_1); (try clear hfz39_2); (try clear hfz39_3); (try clear hfz39_4); (try clear hfz48_0); (try clear hfz48_1); (try clear hfz48_2); (try clear hfz48_3); (try clear hfz48_4); (try clear hfz8_0); (try clear hfz8_1); (try clear hfz8_2); (try clear hfz8_3); (try clear hfz8_4); (try clear hx16_0); (try clear hx20_0); (try clear hx225_0); (try clear hx29_0); (try clear hx47_0); (try clear hx51_0); (try clear p1); (try clear p16); (try clear p2); (try clear p22); (try clear p225); (try clear p29); (try clear p47); (try clear p6); (try clear q1); (try clear q16); (try clear q2); (try clear q22); (try clear q225); (try clear q29); (try clear q3); (try clear q32); (try clear q47); (obtain ⟨x13_4, x15_4, rfl, HA, HK4, HO_9, HO_13, BK217, HB⟩ := hrel); (have hl13_4 := (Kd.S_reads' HO_13.out).1); (rw [hl13_4] at HO_13); ((try simp only [hl13_4])); ((try simp only [hl13_4] at BK217)); ((try simp only [hl13_4] at HO_9))
                cases gk with
                | zero => exact absurd HA.out (by simp [coppicerref_Told.l4])
                | succ k4 =>
                  (have H := HA.out); (clear HA); (simp only [coppicerref_Told.l4] at H)
                  by_cases c53 : x15_4 < a0_0
                  rotate_left
                  · rw [if_neg c53] at H
                    (have c53b0 : decide (x15_4 < a0_0) = false := decide_eq_false c53); (clear c53); (have H' := Aside0.mk H); (clear H); (have hcz83_0 : wr.cell? ⟨gb217, 0, none⟩ = some (.int .i64 a0_0) := (blk_cell BK217.out 0).trans rfl); (have hcz83_1 : wr.cell? ⟨gb217, 1, none⟩ = some (.int .i64 a0_1) := (blk_cell BK217.out 1).trans rfl); (have hcz83_2 : wr.cell? ⟨gb217, 2, none⟩ = some (.slice A0_2 l0_2.length c0_2) := (blk_cell BK217.out 2).trans rfl); (have hcz83_3 : wr.cell? ⟨gb217, 3, none⟩ = some (.int .i64 a0_3) := (blk_cell BK217.out 3).trans rfl); (have hcz83_4 : wr.cell? ⟨gb217, 4, none⟩ = some (.int .u32 a0_4) := (blk_cell BK217.out 4).trans rfl); (have hfz83_0 := blk_frozen BK217.out 0); (have hfz83_1 := blk_frozen BK217.out 1); (have hfz83_2 := blk_frozen BK217.out 2); (have hfz83_3 := blk_frozen BK217.out 3); (have hfz83_4 := blk_frozen BK217.out 4)
                    go_wp2
                    (try simp only [← hl13_4])
                    go_roundg k4
                    case measure => have := HK1.out; have := HK2.out; have := HK3.out; have := HK4.out; omega
                    case rel => exact ⟨(x13_4), (wrap64 (x14_3 + 1)), (by first | rfl | (simp; done) | (simp [*]; done)), H', ⟨by have := HK1.out; have := HK2.out; have := HK3.out; have := HK4.out; omega⟩, ⟨by (try simp only [hl13_4]); (with_reducible repeat (first | apply Kd.S_alloc | apply Kd.S_drewN | apply Kd.S_drew)); exact HO_9.out⟩, ⟨by (try simp only [hl13_4]); (with_reducible repeat (first | apply Kd.S_alloc | apply Kd.S_drewN | apply Kd.S_drew)); exact HO_13.out⟩, ⟨by (try simp only [hl13_4]); (with_reducible repeat (first | refine blk_drewN ?_ _ | refine blk_drew ?_ | refine blk_alloc ?_ _)); exact BK217.out⟩, ⟨by repeat (first | (with_reducible first | exact HB.out | apply below_alloc | apply pw_below_drewN | apply below_drew1 | refine below_set ?_ GE217.out) | exact HB.out)⟩⟩
                  (rw [if_pos c53] at H); (have c53b0 : decide (x15_4 < a0_0) = true := decide_eq_true c53); (clear c53); (have H' := Aside0.mk H); (clear H); (have hcz54_0 : wr.cell? ⟨gb217, 0, none⟩ = some (.int .i64 a0_0) := (blk_cell BK217.out 0).trans rfl); (have hcz54_1 : wr.cell? ⟨gb217, 1, none⟩ = some (.int .i64 a0_1) := (blk_cell BK217.out 1).trans rfl); (have hcz54_2 : wr.cell? ⟨gb217, 2, none⟩ = some (.slice A0_2 l0_2.length c0_2) := (blk_cell BK217.out 2).trans rfl); (have hcz54_3 : wr.cell? ⟨gb217, 3, none⟩ = some (.int .i64 a0_3) := (blk_cell BK217.out 3).trans rfl); (have hcz54_4 : wr.cell? ⟨gb217, 4, none⟩ = some (.int .u32 a0_4) := (blk_cell BK217.out 4).trans rfl); (have hfz54_0 := blk_frozen BK217.out 0); (have hfz54_1 := blk_frozen BK217.out 1); (have hfz54_2 := blk_frozen BK217.out 2); (have hfz54_3 := blk_frozen BK217.out 3); (have hfz54_4 := blk_frozen BK217.out 4)
                  go_wp2
                  go_loopg [16] k4 (fun kq v16 w' => ∃ (x13_5 : List (List Bool)) (x16_5 : Int), v16 = .int .i64 x16_5 ∧ Aside0 (coppicerref_Told.l5 kq a1 a2 a3 x9_2 x12_2 x13_5 x14_3 x15_4 x16_5 a0_0 a0_1 l0_2 a0_3 a0_4 = some r) ∧ Aside0 (kq ≤ k4) ∧ Aside0 (Kd.S (Kd.slice 4 Kd.bool) 65 w' w.heap.size (fun k_ => some k_ ≠ ((.slice (some ⟨go47, 0, none⟩) x13_4.length co47) : Value).ownBlock ∧ k_ ≠ (coppicerref_Told.bef_ k_ (.slice (some ⟨go47, 0, none⟩) x13_4.length co47))) u9 x9_2) ∧ Aside0 (Kd.S (Kd.slice 4 Kd.bool) 65 w' w.heap.size (fun k_ => some k_ ≠ (u9 : Value).ownBlock ∧ k_ ≠ (coppicerref_Told.aft_ k_ (.slice (some ⟨go47, 0, none⟩) x13_4.length co47))) (.slice (some ⟨go47, 0, none⟩) x13_4.length co47) x13_5) ∧ Aside0 (w'.heap[gb217]? = some (.cells #[.int .i64 a0_0, .int .i64 a0_1, (.slice A0_2 l0_2.length c0_2), .int .i64 a0_3, .int .u32 a0_4] 35 (0, 0))) ∧ Aside0 (Below w.heap.size w w'))
                  case atStart => exact ⟨(x13_4), (0), (by first | rfl | (simp; done) | (simp [*]; done)), H', ⟨Nat.le_refl _⟩, ⟨by (try simp only [hl13_4]); (with_reducible repeat (first | apply Kd.S_alloc | apply Kd.S_drewN | apply Kd.S_drew)); exact HO_9.out⟩, ⟨by (try simp only [hl13_4]); (with_reducible repeat (first | apply Kd.S_alloc | apply Kd.S_drewN | apply Kd.S_drew)); exact HO_13.out⟩, ⟨by (try simp only [hl13_4]); (with_reducible repeat (first | refine blk_drewN ?_ _ | refine blk_drew ?_ | refine blk_alloc ?_ _)); exact BK217.out⟩, ⟨by repeat (first | (with_reducible first | exact HB.out | apply below_alloc | apply pw_below_drewN | apply below_drew1 | refine below_set ?_ GE217.out) | exact HB.out)⟩⟩
                  case round =>
                    (clear H'); (try clear c1); (try clear p1); (try clear q1); (try clear hx1); (try clear c2); (try clear p2); (try clear q2); (try clear hx2); (try clear c3); (try clear q3); (try clear c4); (try clear p4); (try clear q4); (try clear hx4); (try clear hf4); (try clear c5); (try clear c5b0); (try clear c5b1); (try clear hx5); (try clear hf5); (try clear c6); (try clear c6b0); (try clear c6b1); (try clear p6); (try clear c11); (try clear c11b0); (try clear c12); (try clear c12b0); (try clear c12b1); (try clear c13); (try clear c13b0); (try clear c13b1); (try clear c14); (try clear c14b0); (try clear c15); (try clear c15b0); (try clear c16); (try clear p16); (try clear q16); (try clear hx16); (try clear hf16); (try clear c20); (try clear hx20); (try clear hf20); (try clear c22); (try clear c22b0); (try clear p22); (try clear q22); (try clear hx22); (try clear c23); (try clear c23b0); (try clear c24); (try clear c24b0); (try clear c27); (try clear c27b0); (try clear c28); (try clear c28b0); (try clear p29); (try clear q29); (try clear hx29); (try clear hf29); (try clear c30); (try clear c32); (try clear q32); (try clear c34); (try clear c36); (try clear c36b0); (try clear c37); (try clear c37b0); (try clear c37b1); (try clear c38); (try clear c38b0); (try clear c38b1); (try clear c42); (try clear c42b0); (try clear c43); (try clear c43b0); (try clear c43b1); (try clear c44); (try clear c44b0); (try clear c44b1); (try clear c45); (try clear c45b0); (try clear c46); (try clear c46b0); (try clear c47); (try clear p47); (try clear q47); (try clear hx47); (try clear hf47); (try clear c51); (try clear hx51); (try clear hf51); (try clear c53); (try clear c53b0); (try clear hcz17_0); (try clear hcz17_1); (try clear hcz17_2); (try clear hcz17_3); (try clear hcz17_4); (try clear hcz30_0); (try clear hcz30_1); (try clear hcz30_2); (try clear hcz30_3); (try clear hcz30_4); (try clear hcz34_0); (try clear hcz34_1); (try clear hcz34_2)
                    (try clear hcz34_3); (try clear hcz34_4); (try clear hcz35_0); (try clear hcz35_1); (try clear hcz35_2); (try clear hcz35_3); (try clear hcz35_4); (try clear hcz39_0); (try clear hcz39_1); (try clear hcz39_2); (try clear hcz39_3); (try clear hcz39_4); (try clear hcz48_0); (try clear hcz48_1); (try clear hcz48_2); (try clear hcz48_3); (try clear hcz48_4); (try clear hcz54_0); (try clear hcz54_1); (try clear hcz54_2); (try clear hcz54_3); (try clear hcz54_4); (try clear hcz8_0); (try clear hcz8_1); (try clear hcz8_2); (try clear hcz8_3); (try clear hcz8_4); (try clear hfz17_0); (try clear hfz17_1); (try clear hfz17_2); (try clear hfz17_3); (try clear hfz17_4); (try clear hfz30_0); (try clear hfz30_1); (try clear hfz30_2); (try clear hfz30_3); (try clear hfz30_4); (try clear hfz34_0); (try clear hfz34_1); (try clear hfz34_2); (try clear hfz34_3); (try clear hfz34_4); (try clear hfz35_0); (try clear hfz35_1); (try clear hfz35_2); (try clear hfz35_3); (try clear hfz35_4); (try clear hfz39_0); (try clear hfz39_1); (try clear hfz39_2); (try clear hfz39_3); (try clear hfz39_4); (try clear hfz48_0); (try clear hfz48_1); (try clear hfz48_2); (try clear hfz48_3); (try clear hfz48_4); (try clear hfz54_0); (try clear hfz54_1); (try clear hfz54_2); (try clear hfz54_3); (try clear hfz54_4); (try clear hfz8_0); (try clear hfz8_1); (try clear hfz8_2); (try clear hfz8_3); (try clear hfz8_4); (try clear hx16_0); (try clear hx20_0); (try clear hx225_0); (try clear hx29_0); (try clear hx47_0); (try clear hx51_0); (try clear p1); (try clear p16); (try clear p2); (try clear p22); (try clear p225); (try clear p29); (try clear p4); (try clear p47); (try clear p6); (try clear q1); (try clear q16); (try clear q2); (try clear q22); (try clear q225); (try clear q29); (try clear q3); (try clear q32); (try clear q4); (try clear q47); (obtain ⟨x13_5, x16_5, rfl, HA, HK5, HO_9, HO_13, BK217, HB⟩ := hrel)
                    (have hl13_5 := (Kd.S_reads' HO_13.out).1); (rw [hl13_5] at HO_13); ((try simp only [hl13_5])); ((try simp only [hl13_5] at BK217)); ((try simp only [hl13_5] at HO_9))
                    cases gk with
                    | zero => exact absurd HA.out (by simp [coppicerref_Told.l5])
                    | succ k5 =>
                      (have H := HA.out); (clear HA); (simp only [coppicerref_Told.l5] at H)
                      by_cases c55 : x16_5 < a0_1
                      rotate_left
                      · rw [if_neg c55] at H
                        (have c55b0 : decide (x16_5 < a0_1) = false := decide_eq_false c55); (clear c55); (have H' := Aside0.mk H); (clear H); (have hcz82_0 : wr.cell? ⟨gb217, 0, none⟩ = some (.int .i64 a0_0) := (blk_cell BK217.out 0).trans rfl); (have hcz82_1 : wr.cell? ⟨gb217, 1, none⟩ = some (.int .i64 a0_1) := (blk_cell BK217.out 1).trans rfl); (have hcz82_2 : wr.cell? ⟨gb217, 2, none⟩ = some (.slice A0_2 l0_2.length c0_2) := (blk_cell BK217.out 2).trans rfl); (have hcz82_3 : wr.cell? ⟨gb217, 3, none⟩ = some (.int .i64 a0_3) := (blk_cell BK217.out 3).trans rfl); (have hcz82_4 : wr.cell? ⟨gb217, 4, none⟩ = some (.int .u32 a0_4) := (blk_cell BK217.out 4).trans rfl); (have hfz82_0 := blk_frozen BK217.out 0); (have hfz82_1 := blk_frozen BK217.out 1); (have hfz82_2 := blk_frozen BK217.out 2); (have hfz82_3 := blk_frozen BK217.out 3); (have hfz82_4 := blk_frozen BK217.out 4)
                        go_wp2
                        (try simp only [← hl13_4, ← hl13_5])
                        go_roundg k5
                        case measure => have := HK1.out; have := HK2.out; have := HK3.out; have := HK4.out; have := HK5.out; omega
                        case rel => exact ⟨(x13_5), (wrap64 (x15_4 + 1)), (by first | rfl | (simp; done) | (simp [*]; done)), H', ⟨by have := HK1.out; have := HK2.out; have := HK3.out; have := HK4.out; have := HK5.out; omega⟩, ⟨by (try simp only [hl13_4]); (try simp only [hl13_5]); (with_reducible repeat (first | apply Kd.S_alloc | apply Kd.S_drewN | apply Kd.S_drew)); exact HO_9.out⟩, ⟨by (try simp only [hl13_4]); (try simp only [hl13_5]); (with_reducible repeat (first | apply Kd.S_alloc | apply Kd.S_drewN | apply Kd.S_drew)); exact HO_13.out⟩, ⟨by (try simp only [hl13_4]); (try simp only [hl13_5]); (with_reducible repeat (first | refine blk_drewN ?_ _ | refine blk_drew ?_ | refine blk_alloc ?_ _)); exact BK217.out⟩, ⟨by repeat (first | (with_reducible first | exact HB.out | apply below_alloc | apply pw_below_drewN | apply below_drew1 | refine below_set ?_ GE217.out) | exact HB.out)⟩⟩
                      (rw [if_pos c55] at H); (have c55b0 : decide (x16_5 < a0_1) = true := decide_eq_true c55); (clear c55)
                      by_cases c56 : 0 ≤ x14_3
                      rotate_left
                      · rw [if_neg c56] at H
                        exact absurd H (by simp)
                      (rw [if_pos c56] at H); (have c56b0 : decide (0 ≤ x14_3) = true := decide_eq_true c56); (clear c56)
                      by_cases c57 : x14_3 < (x13_5.length : Int)
                      rotate_left
                      · rw [if_neg c57] at H
                        exact absurd H (by simp)
                      (rw [if_pos c57] at H); (have c57b0 : decide (x14_3 < (x13_5.length : Int)) = true := decide_eq_true c57); ((try (have c57b0h := c57b0; simp only [hl13_4, hl13_5] at c57b0h))); (clear c57)
                      by_cases c58 : 0 ≤ x15_4
                      rotate_left
                      · rw [if_neg c58] at H
                        exact absurd H (by simp)
                      (rw [if_pos c58] at H); (have c58b0 : decide (0 ≤ x15_4) = true := decide_eq_true c58); (clear c58)
                      by_cases c59 : x15_4 < ((rd_L3 x13_5 x14_3).length : Int)
                      rotate_left
                      · rw [if_neg c59] at H
                        exact absurd H (by simp)
                      (rw [if_pos c59] at H); (have c59b0 : decide (x15_4 < ((rd_L3 x13_5 x14_3).length : Int)) = true := decide_eq_true c59); ((try (have c59b0h := c59b0; simp only [hl13_4, hl13_5] at c59b0h))); (clear c59); (obtain ⟨bq60, hbq60⟩ : ∃ b_ : Bool, b_ = (rdOf false (rd_L3 x13_5 x14_3) x15_4) := ⟨_, rfl⟩); (replace H : (if bq60 = true then (coppicerref_Told.l5 k5 a1 a2 a3 x9_2 x12_2 (x13_5.set (x14_3 : Int).toNat ((rd_L3 x13_5 x14_3).set (x15_4 : Int).toNat true)) x14_3 x15_4 (wrap64 (x16_5 + 1)) a0_0 a0_1 l0_2 a0_3 a0_4) else (if x14_3 < (l0_2.length : Int) then (if 0 ≤ x16_5 then (if x16_5 < ((rd_L1 l0_2 x14_3).length : Int) then (if 0 ≤ (rd (rd_L1 l0_2 x14_3) x16_5) then (if (rd (rd_L1 l0_2 x14_3) x16_5) < (x9_2.length : Int) then (if x15_4 < (l0_2.length : Int) then (if x16_5 < ((rd_L1 l0_2 x15_4).length : Int) then (if 0 ≤ (rd (rd_L1 l0_2 x15_4) x16_5) then (if (rd (rd_L1 l0_2 x15_4) x16_5) < ((rd_L3 x9_2 (rd (rd_L1 l0_2 x14_3) x16_5)).length : Int) then (coppicerref_Told.l5 k5 a1 a2 a3 x9_2 x12_2 (x13_5.set (x14_3 : Int).toNat ((rd_L3 x13_5 x14_3).set (x15_4 : Int).toNat (rdOf false (rd_L3 x9_2 (rd (rd_L1 l0_2 x14_3) x16_5)) (rd (rd_L1 l0_2 x15_4) x16_5)))) x14_3 x15_4 (wrap64 (x16_5 + 1)) a0_0 a0_1 l0_2 a0_3 a0_4) else (none)) else (none)) else (none)) else (none)) else (none)) else (none)) else (none)) else (none)) else (none))) = some r := by rw [← hbq60] at H; exact H); (have Nbq60 := Aside0.mk hbq60); (clear hbq60)
                      by_cases c61 : bq60 = true
                      · subst c61
                        (have H1 : (coppicerref_Told.l5 k5 a1 a2 a3 x9_2 x12_2 (x13_5.set (x14_3 : Int).toNat ((rd_L3 x13_5 x14_3).set (x15_4 : Int).toNat true)) x14_3 x15_4 (wrap64 (x16_5 + 1)) a0_0 a0_1 l0_2 a0_3 a0_4) = some r := by rw [if_pos rfl] at H; exact H); (clear H); (have H := H1); (clear H1); (obtain ⟨y243, hy243⟩ : ∃ y_ : List Bool, y_ = ((rd_L3 x13_5 x14_3).set (x15_4 : Int).toNat true) := ⟨_, rfl⟩); (replace H : (coppicerref_Told.l5 k5 a1 a2 a3 x9_2 x12_2 (x13_5.set (x14_3 : Int).toNat y243) x14_3 x15_4 (wrap64 (x16_5 + 1)) a0_0 a0_1 l0_2 a0_3 a0_4) = some r := by first | (rw [hy243]; with_reducible exact H) | (have H2_ := (Option.bind_some _ _).symm.trans H; rw [hy243]; with_reducible exact H2_) | (have H2_ := (Option.bind_some _ _).symm.trans H; with_reducible exact H2_) | with_reducible exact H | (rw [hy243]; exact H) | exact H); (have Ny243 := Aside0.mk hy243); (clear hy243); (obtain ⟨y245, hy245⟩ : ∃ y_ : List (List Bool), y_ = (x13_5.set (x14_3 : Int).toNat y243) := ⟨_, rfl⟩); (replace H : (coppicerref_Told.l5 k5 a1 a2 a3 x9_2 x12_2 y245 x14_3 x15_4 (wrap64 (x16_5 + 1)) a0_0 a0_1 l0_2 a0_3 a0_4) = some r := by first | (rw [hy245]; with_reducible exact H) | (have H2_ := (Option.bind_some _ _).symm.trans H; rw [hy245]; with_reducible exact H2_) | (have H2_ := (Option.bind_some _ _).symm.trans H; with_reducible exact H2_) | with_reducible exact H | (rw [hy245]; exact H) | exact H); (have Ny245 := Aside0.mk hy245); (clear hy245); (have H' := Aside0.mk H); (clear H); (have hcz63_0 : wr.cell? ⟨gb217, 0, none⟩ = some (.int .i64 a0_0) := (blk_cell BK217.out 0).trans rfl)
                        (have hcz63_1 : wr.cell? ⟨gb217, 1, none⟩ = some (.int .i64 a0_1) := (blk_cell BK217.out 1).trans rfl); (have hcz63_2 : wr.cell? ⟨gb217, 2, none⟩ = some (.slice A0_2 l0_2.length c0_2) := (blk_cell BK217.out 2).trans rfl); (have hcz63_3 : wr.cell? ⟨gb217, 3, none⟩ = some (.int .i64 a0_3) := (blk_cell BK217.out 3).trans rfl); (have hcz63_4 : wr.cell? ⟨gb217, 4, none⟩ = some (.int .u32 a0_4) := (blk_cell BK217.out 4).trans rfl); (have hfz63_0 := blk_frozen BK217.out 0); (have hfz63_1 := blk_frozen BK217.out 1); (have hfz63_2 := blk_frozen BK217.out 2); (have hfz63_3 := blk_frozen BK217.out 3); (have hfz63_4 := blk_frozen BK217.out 4)
                        try go_wp2
                        (have n0_ := Aside0.mk (Kd.S_drew HO_9.out)); (have n1_ := Aside0.mk (Kd.S_drew HO_13.out)); (have n2_ := Aside0.mk (blk_drew BK217.out)); (have n3_ := Aside0.mk (below_drew1 HB.out)); (clear HO_9); (clear HO_13); (clear BK217); (clear HB); (have HO_9 := n0_); (have HO_13 := n1_); (have BK217 := n2_); (have HB := n3_); (clear n0_ n1_ n2_ n3_); (have p240 : 0 ≤ (x14_3 : Int) := of_decide_eq_true (by assumption)); (have q240 : x14_3 < (x13_5.length : Int) := of_decide_eq_true (by assumption)); (obtain ⟨ad240, A240_0, c240_0, e240, hx240_0, hl240_0, hi240_0⟩ := at_L3 (Kd.S_reads' HO_13.out).2.2 x14_3 p240 q240); (obtain rfl : (⟨go47, 0, none⟩ : Addr) = ad240 := (by injection e240)); (obtain ⟨ce240, hce240, hMe240, hcc240⟩ := Kd.S_get HO_13.out [] x14_3 p240 (by first | exact q240 | exact of_decide_eq_true (by assumption) | (have e_ := (Kd.S_reads' HO_13.out).1; omega))); (obtain ⟨ve240_0, rfl, ge240_0⟩ := hMe240); (have hv240_0 := hcc240 0 _ rfl); (rw [Nat.add_zero, show ((Kd.slice 4 Kd.bool)).sz = 1 from rfl, Nat.mul_one] at hv240_0); (replace hv240_0 := Option.some.inj (hv240_0.symm.trans hx240_0)); (rw [hv240_0] at ge240_0); (have HL240_0 := Aside0.mk (show Kd.R Kd.bool 4 _ _ _ _ (rd_L3 x13_5 x14_3) from ge240_0)); (clear hv240_0 ge240_0); (have HX240_0 := Aside0.mk hx240_0); (clear hcc240 hce240)
                        (first | simp only [add_plain] at hx240_0 | simp only [add_at] at hx240_0 | simp only [Addr.add, Nat.zero_add] at hx240_0 | skip)
                        (have HR240_0 := Aside0.mk hi240_0); (have HC240_0 := Aside0.mk hl240_0); (clear hi240_0 hl240_0); (replace p240 := eq_true p240); (replace q240 := eq_true q240); (have p241 : 0 ≤ (x14_3 : Int) := of_decide_eq_true (by assumption)); (have q241 : x14_3 < (x13_5.length : Int) := of_decide_eq_true (by assumption)); (obtain ⟨ad241, A241_0, c241_0, e241, hx241_0, hl241_0, hi241_0⟩ := at_L3 (Kd.S_reads' HO_13.out).2.2 x14_3 p241 q241); (obtain rfl : (⟨go47, 0, none⟩ : Addr) = ad241 := (by injection e241)); (obtain ⟨ce241, hce241, hMe241, hcc241⟩ := Kd.S_get HO_13.out [] x14_3 p241 (by first | exact q241 | exact of_decide_eq_true (by assumption) | (have e_ := (Kd.S_reads' HO_13.out).1; omega))); (obtain ⟨ve241_0, rfl, ge241_0⟩ := hMe241); (have hv241_0 := hcc241 0 _ rfl); (rw [Nat.add_zero, show ((Kd.slice 4 Kd.bool)).sz = 1 from rfl, Nat.mul_one] at hv241_0); (replace hv241_0 := Option.some.inj (hv241_0.symm.trans hx241_0)); (rw [hv241_0] at ge241_0); (have HL241_0 := Aside0.mk (show Kd.R Kd.bool 4 _ _ _ _ (rd_L3 x13_5 x14_3) from ge241_0)); (clear hv241_0 ge241_0); (have HX241_0 := Aside0.mk hx241_0); (clear hcc241 hce241)
                        (first | simp only [add_plain] at hx241_0 | simp only [add_at] at hx241_0 | simp only [Addr.add, Nat.zero_add] at hx241_0 | skip)
                        (have HR241_0 := Aside0.mk hi241_0); (have HC241_0 := Aside0.mk hl241_0); (clear hi241_0 hl241_0); (replace p241 := eq_true p241); (replace q241 := eq_true q241); (have ea_ := Option.some.inj (hx240_0.symm.trans hx241_0)); (injection ea_ with ea_ en_ ec_); (subst ea_); (subst ec_); (clear en_); (have p242 : 0 ≤ (x15_4 : Int) := of_decide_eq_true (by assumption)); (have q242 : x15_4 < ((rd_L3 x13_5 x14_3).length : Int) := of_decide_eq_true (by assumption)); (obtain ⟨ad242, e242, hx242_0⟩ := Kd.at_bool (by repeat (first | (with_reducible exact HR241_0.out) | (with_reducible refine Kd.C_alloc ?_ _) | (with_reducible refine Kd.C_drewN ?_ _) | (with_reducible refine Kd.C_drew ?_) | exact HR241_0.out)) x15_4 p242 q242); ((try rw [← Nbq60.out] at hx242_0)); (cases e242); (replace p242 := eq_true p242); (replace q242 := eq_true q242); (have p62 : 0 ≤ (x15_4 : Int) := of_decide_eq_true (by assumption)); (have q62 : (x15_4 : Int) < (((rd_L3 x13_5 x14_3).length : Int) : Int) := of_decide_eq_true (by assumption)); (obtain ⟨go62, co62, eo62, gb62, gl62, cl62, HG62⟩ := Kd.R_form HL240_0.out (by omega))
                        (first | cases eo62 | (injection eo62 with ea_ en_ ec_; (first | subst ea_ | (injection ea_ with ea_; subst ea_)); subst ec_; clear en_))
                        (have GB62 := Aside0.mk gb62); (have GG62 := Aside0.mk HG62); (clear gb62 gl62 HG62)
                        (first | simp only [add_plain] at hx242_0 | skip)
                        (obtain ⟨hx62_0, hf62_0⟩ := Kd.R_celln false HL240_0.out (x15_4 : Int) p62 q62); (replace p62 := eq_true p62); (replace q62 := eq_true q62); (have hq65 : (x14_3 : Int) < (x13_5.length : Int) := (by have h_ : (x14_3 : Int) < ((x13_5.length : Int) : Int) := of_decide_eq_true (by assumption); first | exact h_ | (have e_ := (Kd.S_reads' HO_13.out).1; omega) | simpa only [List.length_set, List.length_set] using h_)); (obtain ⟨oki65, ce65, hcl65, hM65, hcc65, hok65, hbk65⟩ := Kd.S_borrow HO_13.out [] (x14_3 : Int) (of_decide_eq_true (by assumption)) hq65); (obtain ⟨ve65_0, rfl, ge65_0⟩ := hM65); (have hv65 := hcc65 0 _ rfl); (rw [Nat.add_zero, show ((Kd.slice 4 Kd.bool)).sz = 1 from rfl, Nat.mul_one] at hv65); (replace hv65 := Option.some.inj (hv65.symm.trans HX240_0.out)); (subst hv65); (clear hcc65 hcl65); (replace ge65_0 := (show Kd.R Kd.bool 4 _ _ _ _ (rd_L3 x13_5 x14_3) from ge65_0)); ((try (obtain ⟨hy65_, hz65_⟩ := Kd.R_celln false ge65_0 (x15_4 : Int) (of_decide_eq_true (by assumption)) (by have h_ : (x15_4 : Int) < (((rd_L3 x13_5 x14_3).length : Int) : Int) := of_decide_eq_true (by assumption); first | exact h_ | (have e_ := (Kd.R_reads' HR240_0.out).1; omega) | simpa using h_)))); (have HP65 := Kd.R_putg ge65_0 (x15_4 : Int) true); (rw [← Ny243.out] at HP65); (have HS65 := hbk65 HP65.2 (fun k_ e_ => by injection e_ with e_; subst e_; exact ge65_0.1 _ rfl) (x' := y243) (Kd.M_row HP65.1)); (rw [← Ny245.out] at HS65); (have HQ65 := Aside0.mk HS65); (clear HP65 HS65 hbk65 hok65)
                        refine start_ (n := 37) (S := fun w' => w'.cell? ⟨go47, (x14_3).toNat, none⟩ = some (.slice (some ⟨go62, 0, none⟩) (rd_L3 x13_5 x14_3).length c240_0) ∧ w'.cell? ⟨go47, (x14_3).toNat, none⟩ = some (.slice (some ⟨go62, 0, none⟩) (rd_L3 x13_5 x14_3).length c240_0) ∧ w'.cell? ⟨go62, (x15_4).toNat, none⟩ = some (.bool true)) (ds := [36]) #[false, false, false, false, false, false, false, false, false, false, false, false, false, false, false, false, false, false, false, false, false, false, false, false, false, false, false, false, false, false, false, false, false, false, false, false, false] (by kernel_rfl) rfl rfl ⟨hx240_0, hx241_0, hx242_0⟩ (fun hHeld => ?_); refine with_tabW coppicerref_Told.tab24 coppicerref_Told.bits24 (fun HT_ HW_ => ?_)
                        generalize wr.drew = w64 at HO_9 HO_13 BK217 HB GG62 HL240_0 HL241_0 HQ65 HR240_0 HR241_0 HX240_0 HX241_0 hf62_0 hx240_0 hx241_0 hx242_0 hx62_0 hHeld ⊢
                        refine pure_ (i := 0) (N := some 85) (v := ?_) (a' := ?_) #[true, false, false, false, false, false, false, false, false, false, false, false, false, false, false, false, false, false, false, false, false, false, false, false, false, false, false, false, false, false, false, false, false, false, false, false, false] rfl rfl (any_of HT_.out (by kernel_rfl)) (fun _ _ _ h => h) (Or.inl ⟨by rfl, ?_⟩) ?_ ?_
                        rotate_left
                        · intro w'
                          go_simp
                          with_reducible rfl
                        rotate_left
                        · simp only [Act.put, List.setIfInBounds_toArray, List.set_cons_zero, List.set_cons_succ, i64_w, i32_w]
                          rfl
                        refine pure_ (i := 1) (N := some 86) (v := ?_) (a' := ?_) #[true, true, false, false, false, false, false, false, false, false, false, false, false, false, false, false, false, false, false, false, false, false, false, false, false, false, false, false, false, false, false, false, false, false, false, false, false] rfl rfl (any_of HT_.out (by kernel_rfl)) (fun _ _ _ h => h) (Or.inl ⟨by rfl, ?_⟩) ?_ ?_
                        rotate_left
                        · intro w'
                          go_simp
                          with_reducible rfl
                        rotate_left
                        · simp only [Act.put, List.setIfInBounds_toArray, List.set_cons_zero, List.set_cons_succ, i64_w, i32_w]
                          rfl
                        refine pure_ (i := 2) (N := some 87) (v := ?_) (a' := ?_) #[true, true, true, false, false, false, false, false, false, false, false, false, false, false, false, false, false, false, false, false, false, false, false, false, false, false, false, false, false, false, false, false, false, false, false, false, false] rfl rfl (any_of HT_.out (by kernel_rfl)) (fun _ _ _ h => h) (Or.inl ⟨by rfl, ?_⟩) ?_ ?_
                        rotate_left
                        · intro w'
                          go_simp
                          with_reducible rfl
                        rotate_left
                        · simp only [Act.put, List.setIfInBounds_toArray, List.set_cons_zero, List.set_cons_succ, i64_w, i32_w]
                          rfl
                        refine pure_ (i := 4) (N := some 89) (v := ?_) (a' := ?_) #[true, true, true, false, true, false, false, false, false, false, false, false, false, false, false, false, false, false, false, false, false, false, false, false, false, false, false, false, false, false, false, false, false, false, false, false, false] rfl rfl (any_of HT_.out (by kernel_rfl)) (fun _ _ _ h => h) (Or.inl ⟨by rfl, ?_⟩) ?_ ?_
                        rotate_left
                        · intro w'
                          go_simp
                          with_reducible rfl
                        rotate_left
                        · simp only [Act.put, List.setIfInBounds_toArray, List.set_cons_zero, List.set_cons_succ, i64_w, i32_w]
                          rfl
                        refine pure_ (i := 5) (N := some 90) (v := ?_) (a' := ?_) #[true, true, true, false, true, true, false, false, false, false, false, false, false, false, false, false, false, false, false, false, false, false, false, false, false, false, false, false, false, false, false, false, false, false, false, false, false] rfl rfl (any_of HT_.out (by kernel_rfl)) (fun _ _ _ h => h) (Or.inl ⟨by rfl, ?_⟩) ?_ ?_
                        rotate_left
                        · intro w'
                          go_simp
                          with_reducible rfl
                        rotate_left
                        · simp only [Act.put, List.setIfInBounds_toArray, List.set_cons_zero, List.set_cons_succ, i64_w, i32_w]
                          rfl
                        refine pure_ (i := 6) (N := some 91) (v := ?_) (a' := ?_) #[true, true, true, false, true, true, true, false, false, false, false, false, false, false, false, false, false, false, false, false, false, false, false, false, false, false, false, false, false, false, false, false, false, false, false, false, false] rfl rfl (any_of HT_.out (by kernel_rfl)) (fun _ _ _ h => h) (Or.inl ⟨by rfl, ?_⟩) ?_ ?_
                        rotate_left
                        · intro w'
                          go_simp
                          with_reducible rfl
                        rotate_left
                        · simp only [Act.put, List.setIfInBounds_toArray, List.set_cons_zero, List.set_cons_succ, i64_w, i32_w]
                          rfl
                        refine pure_ (i := 7) (N := some 92) (v := ?_) (a' := ?_) #[true, true, true, false, true, true, true, true, false, false, false, false, false, false, false, false, false, false, false, false, false, false, false, false, false, false, false, false, false, false, false, false, false, false, false, false, false] rfl rfl (any_of HT_.out (by kernel_rfl)) (fun _ _ _ h => h) (Or.inl ⟨by rfl, ?_⟩) ?_ ?_
                        rotate_left
                        · intro w'
                          go_simp
                          with_reducible rfl
                        rotate_left
                        · simp only [Act.put, List.setIfInBounds_toArray, List.set_cons_zero, List.set_cons_succ, i64_w, i32_w]
                          rfl
                        refine pure_ (i := 9) (N := some 94) (v := ?_) (a' := ?_) #[true, true, true, false, true, true, true, true, false, true, false, false, false, false, false, false, false, false, false, false, false, false, false, false, false, false, false, false, false, false, false, false, false, false, false, false, false] rfl rfl (any_of HT_.out (by kernel_rfl)) (fun _ _ _ h => h) (Or.inl ⟨by rfl, ?_⟩) ?_ ?_
                        rotate_left
                        · intro w'
                          go_simp
                          with_reducible rfl
                        rotate_left
                        · simp only [Act.put, List.setIfInBounds_toArray, List.set_cons_zero, List.set_cons_succ, i64_w, i32_w]
                          rfl
                        refine take_ (i := 3) (N := some 88) (v := ?_) (a' := ?_) #[true, true, true, true, true, true, true, true, false, true, false, false, false, false, false, false, false, false, false, false, false, false, false, false, false, false, false, false, false, false, false, false, false, false, false, false, false] rfl rfl (take_ofW HT_.out HW_.out (by kernel_rfl)) (fun _ _ _ h => h) (Or.inl ⟨by rfl, ?_⟩) hHeld ?_ ?_
                        rotate_left
                        · rintro w' ⟨s0, s1, s2⟩
                          go_simp
                          with_reducible rfl
                        rotate_left
                        · simp only [Act.put, List.setIfInBounds_toArray, List.set_cons_zero, List.set_cons_succ, i64_w, i32_w]
                          rfl
                        refine take_ (i := 8) (N := some 93) (v := ?_) (a' := ?_) #[true, true, true, true, true, true, true, true, true, true, false, false, false, false, false, false, false, false, false, false, false, false, false, false, false, false, false, false, false, false, false, false, false, false, false, false, false] rfl rfl (take_ofW HT_.out HW_.out (by kernel_rfl)) (fun _ _ _ h => h) (Or.inl ⟨by rfl, ?_⟩) hHeld ?_ ?_
                        rotate_left
                        · rintro w' ⟨s0, s1, s2⟩
                          go_simp
                          with_reducible rfl
                        rotate_left
                        · simp only [Act.put, List.setIfInBounds_toArray, List.set_cons_zero, List.set_cons_succ, i64_w, i32_w]
                          rfl
                        refine pure_ (i := 10) (N := some 95) (v := ?_) (a' := ?_) #[true, true, true, true, true, true, true, true, true, true, true, false, false, false, false, false, false, false, false, false, false, false, false, false, false, false, false, false, false, false, false, false, false, false, false, false, false] rfl rfl (any_of HT_.out (by kernel_rfl)) (fun _ _ _ h => h) (Or.inl ⟨by rfl, ?_⟩) ?_ ?_
                        rotate_left
                        · intro w'
                          go_simp
                          with_reducible rfl
                        rotate_left
                        · simp only [Act.put, List.setIfInBounds_toArray, List.set_cons_zero, List.set_cons_succ, i64_w, i32_w]
                          rfl
                        refine take_ (i := 11) (N := some 96) (v := ?_) (a' := ?_) #[true, true, true, true, true, true, true, true, true, true, true, true, false, false, false, false, false, false, false, false, false, false, false, false, false, false, false, false, false, false, false, false, false, false, false, false, false] rfl rfl (take_ofW HT_.out HW_.out (by kernel_rfl)) (fun _ _ _ h => h) (Or.inl ⟨by rfl, ?_⟩) hHeld ?_ ?_
                        rotate_left
                        · rintro w' ⟨s0, s1, s2⟩
                          go_simp
                          with_reducible rfl
                        rotate_left
                        · simp only [Act.put, List.setIfInBounds_toArray, List.set_cons_zero, List.set_cons_succ, i64_w, i32_w]
                          rfl
                        refine pure_ (i := 12) (N := some 97) (v := ?_) (a' := ?_) #[true, true, true, true, true, true, true, true, true, true, true, true, true, false, false, false, false, false, false, false, false, false, false, false, false, false, false, false, false, false, false, false, false, false, false, false, false] rfl rfl (any_of HT_.out (by kernel_rfl)) (fun _ _ _ h => h) (Or.inl ⟨by rfl, ?_⟩) ?_ ?_
                        rotate_left
                        · intro w'
                          go_simp
                          with_reducible rfl
                        rotate_left
                        · simp only [Act.put, List.setIfInBounds_toArray, List.set_cons_zero, List.set_cons_succ, i64_w, i32_w]
                          rfl
                        refine pure_ (i := 13) (N := some 98) (v := undef) (a' := ?_) #[true, true, true, true, true, true, true, true, true, true, true, true, true, true, false, false, false, false, false, false, false, false, false, false, false, false, false, false, false, false, false, false, false, false, false, false, false] rfl rfl (any_of HT_.out (by kernel_rfl)) (fun _ _ _ h => h) (Or.inr ⟨by rfl, rfl⟩) ?_ ?_
                        rotate_left
                        · simp only [Act.put, List.setIfInBounds_toArray, List.set_cons_zero, List.set_cons_succ, i64_w, i32_w]
                          rfl
                        refine pure_ (i := 14) (N := some 99) (v := undef) (a' := ?_) #[true, true, true, true, true, true, true, true, true, true, true, true, true, true, true, false, false, false, false, false, false, false, false, false, false, false, false, false, false, false, false, false, false, false, false, false, false] rfl rfl (any_of HT_.out (by kernel_rfl)) (fun _ _ _ h => h) (Or.inr ⟨by rfl, rfl⟩) ?_ ?_
                        rotate_left
                        · simp only [Act.put, List.setIfInBounds_toArray, List.set_cons_zero, List.set_cons_succ, i64_w, i32_w]
                          rfl
                        refine pure_ (i := 15) (N := some 100) (v := undef) (a' := ?_) #[true, true, true, true, true, true, true, true, true, true, true, true, true, true, true, true, false, false, false, false, false, false, false, false, false, false, false, false, false, false, false, false, false, false, false, false, false] rfl rfl (any_of HT_.out (by kernel_rfl)) (fun _ _ _ h => h) (Or.inr ⟨by rfl, rfl⟩) ?_ ?_
                        rotate_left
                        · simp only [Act.put, List.setIfInBounds_toArray, List.set_cons_zero, List.set_cons_succ, i64_w, i32_w]
                          rfl
                        refine pure_ (i := 16) (N := some 101) (v := undef) (a' := ?_) #[true, true, true, true, true, true, true, true, true, true, true, true, true, true, true, true, true, false, false, false, false, false, false, false, false, false, false, false, false, false, false, false, false, false, false, false, false] rfl rfl (any_of HT_.out (by kernel_rfl)) (fun _ _ _ h => h) (Or.inr ⟨by rfl, rfl⟩) ?_ ?_
                        rotate_left
                        · simp only [Act.put, List.setIfInBounds_toArray, List.set_cons_zero, List.set_cons_succ, i64_w, i32_w]
                          rfl
                        refine pure_ (i := 17) (N := some 102) (v := undef) (a' := ?_) #[true, true, true, true, true, true, true, true, true, true, true, true, true, true, true, true, true, true, false, false, false, false, false, false, false, false, false, false, false, false, false, false, false, false, false, false, false] rfl rfl (any_of HT_.out (by kernel_rfl)) (fun _ _ _ h => h) (Or.inr ⟨by rfl, rfl⟩) ?_ ?_
                        rotate_left
                        · simp only [Act.put, List.setIfInBounds_toArray, List.set_cons_zero, List.set_cons_succ, i64_w, i32_w]
                          rfl
                        refine pure_ (i := 18) (N := some 103) (v := undef) (a' := ?_) #[true, true, true, true, true, true, true, true, true, true, true, true, true, true, true, true, true, true, true, false, false, false, false, false, false, false, false, false, false, false, false, false, false, false, false, false, false] rfl rfl (any_of HT_.out (by kernel_rfl)) (fun _ _ _ h => h) (Or.inr ⟨by rfl, rfl⟩) ?_ ?_
                        rotate_left
                        · simp only [Act.put, List.setIfInBounds_toArray, List.set_cons_zero, List.set_cons_succ, i64_w, i32_w]
                          rfl
                        refine pure_ (i := 19) (N := some 104) (v := undef) (a' := ?_) #[true, true, true, true, true, true, true, true, true, true, true, true, true, true, true, true, true, true, true, true, false, false, false, false, false, false, false, false, false, false, false, false, false, false, false, false, false] rfl rfl (any_of HT_.out (by kernel_rfl)) (fun _ _ _ h => h) (Or.inr ⟨by rfl, rfl⟩) ?_ ?_
                        rotate_left
                        · simp only [Act.put, List.setIfInBounds_toArray, List.set_cons_zero, List.set_cons_succ, i64_w, i32_w]
                          rfl
                        refine pure_ (i := 20) (N := some 105) (v := undef) (a' := ?_) #[true, true, true, true, true, true, true, true, true, true, true, true, true, true, true, true, true, true, true, true, true, false, false, false, false, false, false, false, false, false, false, false, false, false, false, false, false] rfl rfl (any_of HT_.out (by kernel_rfl)) (fun _ _ _ h => h) (Or.inr ⟨by rfl, rfl⟩) ?_ ?_
                        rotate_left
                        · simp only [Act.put, List.setIfInBounds_toArray, List.set_cons_zero, List.set_cons_succ, i64_w, i32_w]
                          rfl
                        refine pure_ (i := 21) (N := some 106) (v := undef) (a' := ?_) #[true, true, true, true, true, true, true, true, true, true, true, true, true, true, true, true, true, true, true, true, true, true, false, false, false, false, false, false, false, false, false, false, false, false, false, false, false] rfl rfl (any_of HT_.out (by kernel_rfl)) (fun _ _ _ h => h) (Or.inr ⟨by rfl, rfl⟩) ?_ ?_
                        rotate_left
                        · simp only [Act.put, List.setIfInBounds_toArray, List.set_cons_zero, List.set_cons_succ, i64_w, i32_w]
                          rfl
                        refine pure_ (i := 22) (N := some 107) (v := undef) (a' := ?_) #[true, true, true, true, true, true, true, true, true, true, true, true, true, true, true, true, true, true, true, true, true, true, true, false, false, false, false, false, false, false, false, false, false, false, false, false, false] rfl rfl (any_of HT_.out (by kernel_rfl)) (fun _ _ _ h => h) (Or.inr ⟨by rfl, rfl⟩) ?_ ?_
                        rotate_left
                        · simp only [Act.put, List.setIfInBounds_toArray, List.set_cons_zero, List.set_cons_succ, i64_w, i32_w]
                          rfl
                        refine pure_ (i := 23) (N := some 108) (v := undef) (a' := ?_) #[true, true, true, true, true, true, true, true, true, true, true, true, true, true, true, true, true, true, true, true, true, true, true, true, false, false, false, false, false, false, false, false, false, false, false, false, false] rfl rfl (any_of HT_.out (by kernel_rfl)) (fun _ _ _ h => h) (Or.inr ⟨by rfl, rfl⟩) ?_ ?_
                        rotate_left
                        · simp only [Act.put, List.setIfInBounds_toArray, List.set_cons_zero, List.set_cons_succ, i64_w, i32_w]
                          rfl
                        refine pure_ (i := 24) (N := some 109) (v := undef) (a' := ?_) #[true, true, true, true, true, true, true, true, true, true, true, true, true, true, true, true, true, true, true, true, true, true, true, true, true, false, false, false, false, false, false, false, false, false, false, false, false] rfl rfl (any_of HT_.out (by kernel_rfl)) (fun _ _ _ h => h) (Or.inr ⟨by rfl, rfl⟩) ?_ ?_
                        rotate_left
                        · simp only [Act.put, List.setIfInBounds_toArray, List.set_cons_zero, List.set_cons_succ, i64_w, i32_w]
                          rfl
                        refine pure_ (i := 25) (N := some 110) (v := undef) (a' := ?_) #[true, true, true, true, true, true, true, true, true, true, true, true, true, true, true, true, true, true, true, true, true, true, true, true, true, true, false, false, false, false, false, false, false, false, false, false, false] rfl rfl (any_of HT_.out (by kernel_rfl)) (fun _ _ _ h => h) (Or.inr ⟨by rfl, rfl⟩) ?_ ?_
                        rotate_left
                        · simp only [Act.put, List.setIfInBounds_toArray, List.set_cons_zero, List.set_cons_succ, i64_w, i32_w]
                          rfl
                        refine pure_ (i := 26) (N := some 111) (v := undef) (a' := ?_) #[true, true, true, true, true, true, true, true, true, true, true, true, true, true, true, true, true, true, true, true, true, true, true, true, true, true, true, false, false, false, false, false, false, false, false, false, false] rfl rfl (any_of HT_.out (by kernel_rfl)) (fun _ _ _ h => h) (Or.inr ⟨by rfl, rfl⟩) ?_ ?_
                        rotate_left
                        · simp only [Act.put, List.setIfInBounds_toArray, List.set_cons_zero, List.set_cons_succ, i64_w, i32_w]
                          rfl
                        refine pure_ (i := 27) (N := some 112) (v := undef) (a' := ?_) #[true, true, true, true, true, true, true, true, true, true, true, true, true, true, true, true, true, true, true, true, true, true, true, true, true, true, true, true, false, false, false, false, false, false, false, false, false] rfl rfl (any_of HT_.out (by kernel_rfl)) (fun _ _ _ h => h) (Or.inr ⟨by rfl, rfl⟩) ?_ ?_
                        rotate_left
                        · simp only [Act.put, List.setIfInBounds_toArray, List.set_cons_zero, List.set_cons_succ, i64_w, i32_w]
                          rfl
                        refine pure_ (i := 28) (N := some 113) (v := undef) (a' := ?_) #[true, true, true, true, true, true, true, true, true, true, true, true, true, true, true, true, true, true, true, true, true, true, true, true, true, true, true, true, true, false, false, false, false, false, false, false, false] rfl rfl (any_of HT_.out (by kernel_rfl)) (fun _ _ _ h => h) (Or.inr ⟨by rfl, rfl⟩) ?_ ?_
                        rotate_left
                        · simp only [Act.put, List.setIfInBounds_toArray, List.set_cons_zero, List.set_cons_succ, i64_w, i32_w]
                          rfl
                        refine pure_ (i := 29) (N := some 114) (v := undef) (a' := ?_) #[true, true, true, true, true, true, true, true, true, true, true, true, true, true, true, true, true, true, true, true, true, true, true, true, true, true, true, true, true, true, false, false, false, false, false, false, false] rfl rfl (any_of HT_.out (by kernel_rfl)) (fun _ _ _ h => h) (Or.inr ⟨by rfl, rfl⟩) ?_ ?_
                        rotate_left
                        · simp only [Act.put, List.setIfInBounds_toArray, List.set_cons_zero, List.set_cons_succ, i64_w, i32_w]
                          rfl
                        refine pure_ (i := 30) (N := some 115) (v := undef) (a' := ?_) #[true, true, true, true, true, true, true, true, true, true, true, true, true, true, true, true, true, true, true, true, true, true, true, true, true, true, true, true, true, true, true, false, false, false, false, false, false] rfl rfl (any_of HT_.out (by kernel_rfl)) (fun _ _ _ h => h) (Or.inr ⟨by rfl, rfl⟩) ?_ ?_
                        rotate_left
                        · simp only [Act.put, List.setIfInBounds_toArray, List.set_cons_zero, List.set_cons_succ, i64_w, i32_w]
                          rfl
                        refine pure_ (i := 31) (N := some 116) (v := undef) (a' := ?_) #[true, true, true, true, true, true, true, true, true, true, true, true, true, true, true, true, true, true, true, true, true, true, true, true, true, true, true, true, true, true, true, true, false, false, false, false, false] rfl rfl (any_of HT_.out (by kernel_rfl)) (fun _ _ _ h => h) (Or.inr ⟨by rfl, rfl⟩) ?_ ?_
                        rotate_left
                        · simp only [Act.put, List.setIfInBounds_toArray, List.set_cons_zero, List.set_cons_succ, i64_w, i32_w]
                          rfl
                        refine pure_ (i := 32) (N := some 117) (v := undef) (a' := ?_) #[true, true, true, true, true, true, true, true, true, true, true, true, true, true, true, true, true, true, true, true, true, true, true, true, true, true, true, true, true, true, true, true, true, false, false, false, false] rfl rfl (any_of HT_.out (by kernel_rfl)) (fun _ _ _ h => h) (Or.inr ⟨by rfl, rfl⟩) ?_ ?_
                        rotate_left
                        · simp only [Act.put, List.setIfInBounds_toArray, List.set_cons_zero, List.set_cons_succ, i64_w, i32_w]
                          rfl
                        refine pure_ (i := 33) (N := some 118) (v := undef) (a' := ?_) #[true, true, true, true, true, true, true, true, true, true, true, true, true, true, true, true, true, true, true, true, true, true, true, true, true, true, true, true, true, true, true, true, true, true, false, false, false] rfl rfl (any_of HT_.out (by kernel_rfl)) (fun _ _ _ h => h) (Or.inr ⟨by rfl, rfl⟩) ?_ ?_
                        rotate_left
                        · simp only [Act.put, List.setIfInBounds_toArray, List.set_cons_zero, List.set_cons_succ, i64_w, i32_w]
                          rfl
                        refine pure_ (i := 34) (N := some 119) (v := ?_) (a' := ?_) #[true, true, true, true, true, true, true, true, true, true, true, true, true, true, true, true, true, true, true, true, true, true, true, true, true, true, true, true, true, true, true, true, true, true, true, false, false] rfl rfl (any_of HT_.out (by kernel_rfl)) (fun _ _ _ h => h) (Or.inl ⟨by rfl, ?_⟩) ?_ ?_
                        rotate_left
                        · intro w'
                          go_simp
                          with_reducible rfl
                        rotate_left
                        · simp only [Act.put, List.setIfInBounds_toArray, List.set_cons_zero, List.set_cons_succ, i64_w, i32_w]
                          rfl
                        refine pure_ (i := 35) (N := some 120) (v := ?_) (a' := ?_) #[true, true, true, true, true, true, true, true, true, true, true, true, true, true, true, true, true, true, true, true, true, true, true, true, true, true, true, true, true, true, true, true, true, true, true, true, false] rfl rfl (any_of HT_.out (by kernel_rfl)) (fun _ _ _ h => h) (Or.inl ⟨by rfl, ?_⟩) ?_ ?_
                        rotate_left
                        · intro w'
                          go_simp
                          with_reducible rfl
                        rotate_left
                        · simp only [Act.put, List.setIfInBounds_toArray, List.set_cons_zero, List.set_cons_succ, i64_w, i32_w]
                          rfl
                        refine last_ (i := 36) (N := none) #[true, true, true, true, true, true, true, true, true, true, true, true, true, true, true, true, true, true, true, true, true, true, true, true, true, true, true, true, true, true, true, true, true, true, true, true, true] rfl rfl (one_of HT_.out (by kernel_rfl)) (by decide) (fun K hK => ?_)
                        refine skip_ (w1 := ?_) (by rfl) rfl ?_ ?_
                        rotate_left
                        · go_simp
                          rfl
                        refine hK.out _ _ ?_
                        clear hK K
                        refine done_ (done_of HT_.out (by kernel_rfl)) ?_
                        try go_wp2
                        (try simp only [← hl13_5])
                        go_roundg k5
                        case measure => have := HK1.out; have := HK2.out; have := HK3.out; have := HK4.out; have := HK5.out; omega
                        case rel => exact ⟨(y245), (wrap64 (x16_5 + 1)), (by first | rfl | (simp; done) | (simp [*]; done)), H', ⟨by have := HK1.out; have := HK2.out; have := HK3.out; have := HK4.out; have := HK5.out; omega⟩, ⟨by (try simp only [hl13_4]); (try simp only [hl13_5]); (with_reducible repeat (first | apply Kd.S_alloc | apply Kd.S_drewN | apply Kd.S_drew)); exact Kd.S_mono (Kd.S_far (p := ⟨go62, (x15_4 : Int).toNat, none⟩) (Kd.S_mono HO_9.out (fun k_ hk => (⟨hk, coppicerref_Told.bef_aft (hk.2) ((HL240_0.out.1 _ rfl).1.2)⟩ : _ ∧ k_ ≠ go62))) (fun _ hk => hk.2) (.bool true)) (fun _ hk => ⟨hk.1.1, hk.1.2⟩)⟩, ⟨by (try simp only [hl13_4]); (try simp only [hl13_5]); (with_reducible repeat (first | apply Kd.S_alloc | apply Kd.S_drewN | apply Kd.S_drew)); exact HQ65.out⟩, ⟨by (try simp only [hl13_4]); (try simp only [hl13_5]); (with_reducible repeat (first | refine blk_drewN ?_ _ | refine blk_drew ?_ | refine blk_alloc ?_ _)); refine blk_far ?_ (by have h_ := Kd.R_ne HL240_0.out BK217.out (by decide); intro e_; exact h_ (by rw [e_]; rfl)) _; (with_reducible repeat (first | refine blk_drewN ?_ _ | refine blk_drew ?_ | refine blk_alloc ?_ _)); exact BK217.out⟩, ⟨by repeat (first | (with_reducible first | exact HB.out | apply below_alloc | apply pw_below_drewN | apply below_drew1 | refine below_set ?_ GB62.out | refine below_set ?_ GE217.out) | exact HB.out)⟩⟩
                      (replace c61 := Bool.eq_false_iff.mpr c61); (subst c61); (have H1 : (if x14_3 < (l0_2.length : Int) then (if 0 ≤ x16_5 then (if x16_5 < ((rd_L1 l0_2 x14_3).length : Int) then (if 0 ≤ (rd (rd_L1 l0_2 x14_3) x16_5) then (if (rd (rd_L1 l0_2 x14_3) x16_5) < (x9_2.length : Int) then (if x15_4 < (l0_2.length : Int) then (if x16_5 < ((rd_L1 l0_2 x15_4).length : Int) then (if 0 ≤ (rd (rd_L1 l0_2 x15_4) x16_5) then (if (rd (rd_L1 l0_2 x15_4) x16_5) < ((rd_L3 x9_2 (rd (rd_L1 l0_2 x14_3) x16_5)).length : Int) then (coppicerref_Told.l5 k5 a1 a2 a3 x9_2 x12_2 (x13_5.set (x14_3 : Int).toNat ((rd_L3 x13_5 x14_3).set (x15_4 : Int).toNat (rdOf false (rd_L3 x9_2 (rd (rd_L1 l0_2 x14_3) x16_5)) (rd (rd_L1 l0_2 x15_4) x16_5)))) x14_3 x15_4 (wrap64 (x16_5 + 1)) a0_0 a0_1 l0_2 a0_3 a0_4) else (none)) else (none)) else (none)) else (none)) else (none)) else (none)) else (none)) else (none)) else (none)) = some r := by rw [if_neg (show ¬ (false = true) by decide)] at H; exact H); (clear H); (have H := H1); (clear H1)
                      by_cases c67 : x14_3 < (l0_2.length : Int)
                      rotate_left
                      · rw [if_neg c67] at H
                        exact absurd H (by simp)
                      (rw [if_pos c67] at H); (have c67b0 : decide (x14_3 < (l0_2.length : Int)) = true := decide_eq_true c67); ((try (have c67b0h := c67b0; simp only [hl13_4, hl13_5] at c67b0h))); (clear c67)
                      by_cases c68 : 0 ≤ x16_5
                      rotate_left
                      · rw [if_neg c68] at H
                        exact absurd H (by simp)
                      (rw [if_pos c68] at H); (have c68b0 : decide (0 ≤ x16_5) = true := decide_eq_true c68); (clear c68)
                      by_cases c69 : x16_5 < ((rd_L1 l0_2 x14_3).length : Int)
                      rotate_left
                      · rw [if_neg c69] at H
                        exact absurd H (by simp)
                      (rw [if_pos c69] at H); (have c69b0 : decide (x16_5 < ((rd_L1 l0_2 x14_3).length : Int)) = true := decide_eq_true c69); ((try (have c69b0h := c69b0; simp only [hl13_4, hl13_5] at c69b0h))); (clear c69)
                      by_cases c70 : 0 ≤ (rd (rd_L1 l0_2 x14_3) x16_5)
                      rotate_left
                      · rw [if_neg c70] at H
                        exact absurd H (by simp)
                      (rw [if_pos c70] at H); (have c70b0 : decide (0 ≤ (rd (rd_L1 l0_2 x14_3) x16_5)) = true := decide_eq_true c70); (clear c70)
                      by_cases c71 : (rd (rd_L1 l0_2 x14_3) x16_5) < (x9_2.length : Int)
                      rotate_left
                      · rw [if_neg c71] at H
                        exact absurd H (by simp)
                      (rw [if_pos c71] at H); (have c71b0 : decide ((rd (rd_L1 l0_2 x14_3) x16_5) < (x9_2.length : Int)) = true := decide_eq_true c71); ((try (have c71b0h := c71b0; simp only [hl13_4, hl13_5] at c71b0h))); (clear c71)
                      by_cases c72 : x15_4 < (l0_2.length : Int)
                      rotate_left
                      · rw [if_neg c72] at H
                        exact absurd H (by simp)
                      (rw [if_pos c72] at H); (have c72b0 : decide (x15_4 < (l0_2.length : Int)) = true := decide_eq_true c72); ((try (have c72b0h := c72b0; simp only [hl13_4, hl13_5] at c72b0h))); (clear c72)
                      by_cases c73 : x16_5 < ((rd_L1 l0_2 x15_4).length : Int)
                      rotate_left
                      · rw [if_neg c73] at H
                        exact absurd H (by simp)
                      (rw [if_pos c73] at H); (have c73b0 : decide (x16_5 < ((rd_L1 l0_2 x15_4).length : Int)) = true := decide_eq_true c73); ((try (have c73b0h := c73b0; simp only [hl13_4, hl13_5] at c73b0h))); (clear c73)
                      by_cases c74 : 0 ≤ (rd (rd_L1 l0_2 x15_4) x16_5)
                      rotate_left
                      · rw [if_neg c74] at H
                        exact absurd H (by simp)
                      (rw [if_pos c74] at H); (have c74b0 : decide (0 ≤ (rd (rd_L1 l0_2 x15_4) x16_5)) = true := decide_eq_true c74); (clear c74)
                      by_cases c75 : (rd (rd_L1 l0_2 x15_4) x16_5) < ((rd_L3 x9_2 (rd (rd_L1 l0_2 x14_3) x16_5)).length : Int)
                      rotate_left
                      · rw [if_neg c75] at H
                        exact absurd H (by simp)
                      (rw [if_pos c75] at H); (have c75b0 : decide ((rd (rd_L1 l0_2 x15_4) x16_5) < ((rd_L3 x9_2 (rd (rd_L1 l0_2 x14_3) x16_5)).length : Int)) = true := decide_eq_true c75); ((try (have c75b0h := c75b0; simp only [hl13_4, hl13_5] at c75b0h))); (clear c75); (obtain ⟨y252, hy252⟩ : ∃ y_ : List Bool, y_ = ((rd_L3 x13_5 x14_3).set (x15_4 : Int).toNat (rdOf false (rd_L3 x9_2 (rd (rd_L1 l0_2 x14_3) x16_5)) (rd (rd_L1 l0_2 x15_4) x16_5))) := ⟨_, rfl⟩); (replace H : (coppicerref_Told.l5 k5 a1 a2 a3 x9_2 x12_2 (x13_5.set (x14_3 : Int).toNat y252) x14_3 x15_4 (wrap64 (x16_5 + 1)) a0_0 a0_1 l0_2 a0_3 a0_4) = some r := by first | (rw [hy252]; with_reducible exact H) | (have H2_ := (Option.bind_some _ _).symm.trans H; rw [hy252]; with_reducible exact H2_) | (have H2_ := (Option.bind_some _ _).symm.trans H; with_reducible exact H2_) | with_reducible exact H | (rw [hy252]; exact H) | exact H); (have Ny252 := Aside0.mk hy252); (clear hy252); (obtain ⟨y254, hy254⟩ : ∃ y_ : List (List Bool), y_ = (x13_5.set (x14_3 : Int).toNat y252) := ⟨_, rfl⟩); (replace H : (coppicerref_Told.l5 k5 a1 a2 a3 x9_2 x12_2 y254 x14_3 x15_4 (wrap64 (x16_5 + 1)) a0_0 a0_1 l0_2 a0_3 a0_4) = some r := by first | (rw [hy254]; with_reducible exact H) | (have H2_ := (Option.bind_some _ _).symm.trans H; rw [hy254]; with_reducible exact H2_) | (have H2_ := (Option.bind_some _ _).symm.trans H; with_reducible exact H2_) | with_reducible exact H | (rw [hy254]; exact H) | exact H); (have Ny254 := Aside0.mk hy254); (clear hy254); (have H' := Aside0.mk H); (clear H); (have hcz77_0 : wr.cell? ⟨gb217, 0, none⟩ = some (.int .i64 a0_0) := (blk_cell BK217.out 0).trans rfl)
                      (have hcz77_1 : wr.cell? ⟨gb217, 1, none⟩ = some (.int .i64 a0_1) := (blk_cell BK217.out 1).trans rfl); (have hcz77_2 : wr.cell? ⟨gb217, 2, none⟩ = some (.slice A0_2 l0_2.length c0_2) := (blk_cell BK217.out 2).trans rfl); (have hcz77_3 : wr.cell? ⟨gb217, 3, none⟩ = some (.int .i64 a0_3) := (blk_cell BK217.out 3).trans rfl); (have hcz77_4 : wr.cell? ⟨gb217, 4, none⟩ = some (.int .u32 a0_4) := (blk_cell BK217.out 4).trans rfl); (have hfz77_0 := blk_frozen BK217.out 0); (have hfz77_1 := blk_frozen BK217.out 1); (have hfz77_2 := blk_frozen BK217.out 2); (have hfz77_3 := blk_frozen BK217.out 3); (have hfz77_4 := blk_frozen BK217.out 4)
                      try go_wp2
                      (have n0_ := Aside0.mk (Kd.S_drew HO_9.out)); (have n1_ := Aside0.mk (Kd.S_drew HO_13.out)); (have n2_ := Aside0.mk (blk_drew BK217.out)); (have n3_ := Aside0.mk (below_drew1 HB.out)); (clear HO_9); (clear HO_13); (clear BK217); (clear HB); (have HO_9 := n0_); (have HO_13 := n1_); (have BK217 := n2_); (have HB := n3_); (clear n0_ n1_ n2_ n3_); (have p240 : 0 ≤ (x14_3 : Int) := of_decide_eq_true (by assumption)); (have q240 : x14_3 < (x13_5.length : Int) := of_decide_eq_true (by assumption)); (obtain ⟨ad240, A240_0, c240_0, e240, hx240_0, hl240_0, hi240_0⟩ := at_L3 (Kd.S_reads' HO_13.out).2.2 x14_3 p240 q240); (obtain rfl : (⟨go47, 0, none⟩ : Addr) = ad240 := (by injection e240)); (obtain ⟨ce240, hce240, hMe240, hcc240⟩ := Kd.S_get HO_13.out [] x14_3 p240 (by first | exact q240 | exact of_decide_eq_true (by assumption) | (have e_ := (Kd.S_reads' HO_13.out).1; omega))); (obtain ⟨ve240_0, rfl, ge240_0⟩ := hMe240); (have hv240_0 := hcc240 0 _ rfl); (rw [Nat.add_zero, show ((Kd.slice 4 Kd.bool)).sz = 1 from rfl, Nat.mul_one] at hv240_0); (replace hv240_0 := Option.some.inj (hv240_0.symm.trans hx240_0)); (rw [hv240_0] at ge240_0); (have HL240_0 := Aside0.mk (show Kd.R Kd.bool 4 _ _ _ _ (rd_L3 x13_5 x14_3) from ge240_0)); (clear hv240_0 ge240_0); (have HX240_0 := Aside0.mk hx240_0); (clear hcc240 hce240)
                      (first | simp only [add_plain] at hx240_0 | simp only [add_at] at hx240_0 | simp only [Addr.add, Nat.zero_add] at hx240_0 | skip)
                      (have HR240_0 := Aside0.mk hi240_0); (have HC240_0 := Aside0.mk hl240_0); (clear hi240_0 hl240_0); (replace p240 := eq_true p240); (replace q240 := eq_true q240); (have p241 : 0 ≤ (x14_3 : Int) := of_decide_eq_true (by assumption)); (have q241 : x14_3 < (x13_5.length : Int) := of_decide_eq_true (by assumption)); (obtain ⟨ad241, A241_0, c241_0, e241, hx241_0, hl241_0, hi241_0⟩ := at_L3 (Kd.S_reads' HO_13.out).2.2 x14_3 p241 q241); (obtain rfl : (⟨go47, 0, none⟩ : Addr) = ad241 := (by injection e241)); (obtain ⟨ce241, hce241, hMe241, hcc241⟩ := Kd.S_get HO_13.out [] x14_3 p241 (by first | exact q241 | exact of_decide_eq_true (by assumption) | (have e_ := (Kd.S_reads' HO_13.out).1; omega))); (obtain ⟨ve241_0, rfl, ge241_0⟩ := hMe241); (have hv241_0 := hcc241 0 _ rfl); (rw [Nat.add_zero, show ((Kd.slice 4 Kd.bool)).sz = 1 from rfl, Nat.mul_one] at hv241_0); (replace hv241_0 := Option.some.inj (hv241_0.symm.trans hx241_0)); (rw [hv241_0] at ge241_0); (have HL241_0 := Aside0.mk (show Kd.R Kd.bool 4 _ _ _ _ (rd_L3 x13_5 x14_3) from ge241_0)); (clear hv241_0 ge241_0); (have HX241_0 := Aside0.mk hx241_0); (clear hcc241 hce241)
                      (first | simp only [add_plain] at hx241_0 | simp only [add_at] at hx241_0 | simp only [Addr.add, Nat.zero_add] at hx241_0 | skip)
                      (have HR241_0 := Aside0.mk hi241_0); (have HC241_0 := Aside0.mk hl241_0); (clear hi241_0 hl241_0); (replace p241 := eq_true p241); (replace q241 := eq_true q241); (have ea_ := Option.some.inj (hx240_0.symm.trans hx241_0)); (injection ea_ with ea_ en_ ec_); (subst ea_); (subst ec_); (clear en_); (have p242 : 0 ≤ (x15_4 : Int) := of_decide_eq_true (by assumption)); (have q242 : x15_4 < ((rd_L3 x13_5 x14_3).length : Int) := of_decide_eq_true (by assumption)); (obtain ⟨ad242, e242, hx242_0⟩ := Kd.at_bool (by repeat (first | (with_reducible exact HR241_0.out) | (with_reducible refine Kd.C_alloc ?_ _) | (with_reducible refine Kd.C_drewN ?_ _) | (with_reducible refine Kd.C_drew ?_) | exact HR241_0.out)) x15_4 p242 q242); ((try rw [← Nbq60.out] at hx242_0)); (cases e242); (replace p242 := eq_true p242); (replace q242 := eq_true q242); (have p246 : 0 ≤ (x14_3 : Int) := of_decide_eq_true (by assumption)); (have q246 : x14_3 < (l0_2.length : Int) := of_decide_eq_true (by assumption)); (obtain ⟨ad246, A246_0, c246_0, e246, hx246_0, hl246_0, hi246_0⟩ := at_L1 HR0_2.out x14_3 p246 q246); (have hw246_0 := hx246_0); (cases e246); (replace hx246_0 := (HB.out.cell (World.block_lt_of_cell? w _ hx246_0)).trans hx246_0); (have HR246_0 := Aside0.mk hi246_0); (have HC246_0 := Aside0.mk hl246_0); (clear hi246_0 hl246_0); (replace p246 := eq_true p246); (replace q246 := eq_true q246); (have p247 : 0 ≤ (x16_5 : Int) := of_decide_eq_true (by assumption)); (have q247 : x16_5 < ((rd_L1 l0_2 x14_3).length : Int) := of_decide_eq_true (by assumption)); (obtain ⟨ad247, e247, hx247_0⟩ := Kd.at_int HR246_0.out x16_5 p247 q247); (have hw247_0 := hx247_0)
                      (cases e247); (replace hx247_0 := (HB.out.cell (World.block_lt_of_cell? w _ hx247_0)).trans hx247_0); (replace p247 := eq_true p247); (replace q247 := eq_true q247); (obtain ⟨Ao79, co79, eo79⟩ := Kd.S_slice HO_9.out)
                      (first | subst eo79 | (injection eo79 with f1_ f2_ f3_; have f4_ := f1_.symm; have f5_ := f3_.symm; clear f1_ f2_ f3_; subst f4_; subst f5_))
                      (have p248 : 0 ≤ ((rd (rd_L1 l0_2 x14_3) x16_5) : Int) := of_decide_eq_true (by assumption)); (have q248 : (rd (rd_L1 l0_2 x14_3) x16_5) < (x9_2.length : Int) := of_decide_eq_true (by assumption)); (obtain ⟨ad248, A248_0, c248_0, e248, hx248_0, hl248_0, hi248_0⟩ := at_L3 (Kd.S_reads' HO_9.out).2.2 (rd (rd_L1 l0_2 x14_3) x16_5) p248 q248); (cases e248); (obtain ⟨ce248, hce248, hMe248, hcc248⟩ := Kd.S_get HO_9.out [] (rd (rd_L1 l0_2 x14_3) x16_5) p248 (by first | exact q248 | exact of_decide_eq_true (by assumption) | (have e_ := (Kd.S_reads' HO_9.out).1; omega))); (obtain ⟨ve248_0, rfl, ge248_0⟩ := hMe248); (have hv248_0 := hcc248 0 _ rfl); (rw [Nat.add_zero, show ((Kd.slice 4 Kd.bool)).sz = 1 from rfl, Nat.mul_one] at hv248_0); (replace hv248_0 := Option.some.inj (hv248_0.symm.trans hx248_0)); (rw [hv248_0] at ge248_0); (have HL248_0 := Aside0.mk (show Kd.R Kd.bool 4 _ _ _ _ (rd_L3 x9_2 (rd (rd_L1 l0_2 x14_3) x16_5)) from ge248_0)); (clear hv248_0 ge248_0); (have HX248_0 := Aside0.mk hx248_0); (clear hcc248 hce248); (have HR248_0 := Aside0.mk hi248_0); (have HC248_0 := Aside0.mk hl248_0); (clear hi248_0 hl248_0); (replace p248 := eq_true p248); (replace q248 := eq_true q248); (have p249 : 0 ≤ (x15_4 : Int) := of_decide_eq_true (by assumption)); (have q249 : x15_4 < (l0_2.length : Int) := of_decide_eq_true (by assumption)); (obtain ⟨ad249, A249_0, c249_0, e249, hx249_0, hl249_0, hi249_0⟩ := at_L1 HR0_2.out x15_4 p249 q249); (have hw249_0 := hx249_0); (obtain rfl : ad246 = ad249 := (by injection e249)); (replace hx249_0 := (HB.out.cell (World.block_lt_of_cell? w _ hx249_0)).trans hx249_0)
                      (have HR249_0 := Aside0.mk hi249_0); (have HC249_0 := Aside0.mk hl249_0); (clear hi249_0 hl249_0); (replace p249 := eq_true p249); (replace q249 := eq_true q249); (have p250 : 0 ≤ (x16_5 : Int) := of_decide_eq_true (by assumption)); (have q250 : x16_5 < ((rd_L1 l0_2 x15_4).length : Int) := of_decide_eq_true (by assumption)); (obtain ⟨ad250, e250, hx250_0⟩ := Kd.at_int HR249_0.out x16_5 p250 q250); (have hw250_0 := hx250_0); (cases e250); (replace hx250_0 := (HB.out.cell (World.block_lt_of_cell? w _ hx250_0)).trans hx250_0); (replace p250 := eq_true p250); (replace q250 := eq_true q250); (have p251 : 0 ≤ ((rd (rd_L1 l0_2 x15_4) x16_5) : Int) := of_decide_eq_true (by assumption)); (have q251 : (rd (rd_L1 l0_2 x15_4) x16_5) < ((rd_L3 x9_2 (rd (rd_L1 l0_2 x14_3) x16_5)).length : Int) := of_decide_eq_true (by assumption)); (obtain ⟨ad251, e251, hx251_0⟩ := Kd.at_bool (by repeat (first | (with_reducible exact HR248_0.out) | (with_reducible refine Kd.C_alloc ?_ _) | (with_reducible refine Kd.C_drewN ?_ _) | (with_reducible refine Kd.C_drew ?_) | exact HR248_0.out)) (rd (rd_L1 l0_2 x15_4) x16_5) p251 q251); ((try rw [← Nbq60.out] at hx251_0)); (cases e251); (replace p251 := eq_true p251); (replace q251 := eq_true q251); (have p76 : 0 ≤ (x15_4 : Int) := of_decide_eq_true (by assumption)); (have q76 : (x15_4 : Int) < (((rd_L3 x13_5 x14_3).length : Int) : Int) := of_decide_eq_true (by assumption)); (obtain ⟨go76, co76, eo76, gb76, gl76, cl76, HG76⟩ := Kd.R_form HL240_0.out (by omega))
                      (first | cases eo76 | (injection eo76 with ea_ en_ ec_; (first | subst ea_ | (injection ea_ with ea_; subst ea_)); subst ec_; clear en_))
                      (have GB76 := Aside0.mk gb76); (have GG76 := Aside0.mk HG76); (clear gb76 gl76 HG76)
                      (first | simp only [add_plain] at hx242_0 | skip)
                      (obtain ⟨hx76_0, hf76_0⟩ := Kd.R_celln false HL240_0.out (x15_4 : Int) p76 q76); (replace p76 := eq_true p76); (replace q76 := eq_true q76); (have hq80 : (x14_3 : Int) < (x13_5.length : Int) := (by have h_ : (x14_3 : Int) < ((x13_5.length : Int) : Int) := of_decide_eq_true (by assumption); first | exact h_ | (have e_ := (Kd.S_reads' HO_13.out).1; omega) | simpa only [List.length_set, List.length_set] using h_)); (obtain ⟨oki80, ce80, hcl80, hM80, hcc80, hok80, hbk80⟩ := Kd.S_borrow HO_13.out [] (x14_3 : Int) (of_decide_eq_true (by assumption)) hq80); (obtain ⟨ve80_0, rfl, ge80_0⟩ := hM80); (have hv80 := hcc80 0 _ rfl); (rw [Nat.add_zero, show ((Kd.slice 4 Kd.bool)).sz = 1 from rfl, Nat.mul_one] at hv80); (replace hv80 := Option.some.inj (hv80.symm.trans HX240_0.out)); (subst hv80); (clear hcc80 hcl80); (replace ge80_0 := (show Kd.R Kd.bool 4 _ _ _ _ (rd_L3 x13_5 x14_3) from ge80_0)); ((try (obtain ⟨hy80_, hz80_⟩ := Kd.R_celln false ge80_0 (x15_4 : Int) (of_decide_eq_true (by assumption)) (by have h_ : (x15_4 : Int) < (((rd_L3 x13_5 x14_3).length : Int) : Int) := of_decide_eq_true (by assumption); first | exact h_ | (have e_ := (Kd.R_reads' HR240_0.out).1; omega) | simpa using h_)))); (have HP80 := Kd.R_putg ge80_0 (x15_4 : Int) (rdOf false (rd_L3 x9_2 (rd (rd_L1 l0_2 x14_3) x16_5)) (rd (rd_L1 l0_2 x15_4) x16_5))); (rw [← Ny252.out] at HP80); (have HS80 := hbk80 HP80.2 (fun k_ e_ => by injection e_ with e_; subst e_; exact ge80_0.1 _ rfl) (x' := y252) (Kd.M_row HP80.1)); (rw [← Ny254.out] at HS80); (have HQ80 := Aside0.mk HS80); (clear HP80 HS80 hbk80 hok80)
                      refine start_ (n := 37) (S := fun w' => w'.cell? ⟨gb217, 0, none⟩ = some (.int .i64 a0_0) ∧ w'.cell? ⟨gb217, 1, none⟩ = some (.int .i64 a0_1) ∧ w'.cell? ⟨gb217, 2, none⟩ = some (.slice (some ad246) l0_2.length c0_2) ∧ w'.cell? ⟨gb217, 3, none⟩ = some (.int .i64 a0_3) ∧ w'.cell? ⟨gb217, 4, none⟩ = some (.int .u32 a0_4) ∧ w'.cell? ⟨go47, (x14_3).toNat, none⟩ = some (.slice (some ⟨go76, 0, none⟩) (rd_L3 x13_5 x14_3).length c240_0) ∧ w'.cell? ⟨go47, (x14_3).toNat, none⟩ = some (.slice (some ⟨go76, 0, none⟩) (rd_L3 x13_5 x14_3).length c240_0) ∧ w'.cell? ⟨go76, (x15_4).toNat, none⟩ = some (.bool false) ∧ w'.cell? (ad246.add (x14_3).toNat) = some (.slice (some ad247) (rd_L1 l0_2 x14_3).length c246_0) ∧ w'.cell? (ad247.add (x16_5).toNat) = some (.int .i64 (rd (rd_L1 l0_2 x14_3) x16_5)) ∧ w'.cell? (ad248.add ((rd (rd_L1 l0_2 x14_3) x16_5)).toNat) = some (.slice (some ad251) (rd_L3 x9_2 (rd (rd_L1 l0_2 x14_3) x16_5)).length c248_0) ∧ w'.cell? (ad246.add (x15_4).toNat) = some (.slice (some ad250) (rd_L1 l0_2 x15_4).length c249_0) ∧ w'.cell? (ad250.add (x16_5).toNat) = some (.int .i64 (rd (rd_L1 l0_2 x15_4) x16_5)) ∧ w'.cell? (ad251.add ((rd (rd_L1 l0_2 x15_4) x16_5)).toNat) = some (.bool (rdOf false (rd_L3 x9_2 (rd (rd_L1 l0_2 x14_3) x16_5)) (rd (rd_L1 l0_2 x15_4) x16_5)))) (ds := [36]) #[false, false, false, false, false, false, false, false, false, false, false, false, false, false, false, false, false, false, false, false, false, false, false, false, false, false, false, false, false, false, false, false, false, false, false, false, false] (by kernel_rfl) rfl rfl ⟨(blk_cell BK217.out 0).trans rfl, (blk_cell BK217.out 1).trans rfl, (blk_cell BK217.out 2).trans rfl, (blk_cell BK217.out 3).trans rfl, (blk_cell BK217.out 4).trans rfl, hx240_0, hx241_0, hx242_0, ((HB.out.cell (World.block_lt_of_cell? w _ hw246_0)).trans hw246_0), ((HB.out.cell (World.block_lt_of_cell? w _ hw247_0)).trans hw247_0), hx248_0, ((HB.out.cell (World.block_lt_of_cell? w _ hw249_0)).trans hw249_0), ((HB.out.cell (World.block_lt_of_cell? w _ hw250_0)).trans hw250_0), hx251_0⟩ (fun hHeld => ?_); refine with_tabW coppicerref_Told.tab24 coppicerref_Told.bits24 (fun HT_ HW_ => ?_)
                      generalize wr.drew = w78 at HO_9 HO_13 BK217 HB GG76 HL240_0 HL241_0 HL248_0 HQ80 HR240_0 HR241_0 HR246_0 HR248_0 HR249_0 HX240_0 HX241_0 HX248_0 hf76_0 hx240_0 hx241_0 hx242_0 hx246_0 hx247_0 hx248_0 hx249_0 hx250_0 hx251_0 hx76_0 hHeld ⊢
                      refine pure_ (i := 0) (N := some 85) (v := ?_) (a' := ?_) #[true, false, false, false, false, false, false, false, false, false, false, false, false, false, false, false, false, false, false, false, false, false, false, false, false, false, false, false, false, false, false, false, false, false, false, false, false] rfl rfl (any_of HT_.out (by kernel_rfl)) (fun _ _ _ h => h) (Or.inl ⟨by rfl, ?_⟩) ?_ ?_
                      rotate_left
                      · intro w'
                        go_simp
                        with_reducible rfl
                      rotate_left
                      · simp only [Act.put, List.setIfInBounds_toArray, List.set_cons_zero, List.set_cons_succ, i64_w, i32_w]
                        rfl
                      refine pure_ (i := 1) (N := some 86) (v := ?_) (a' := ?_) #[true, true, false, false, false, false, false, false, false, false, false, false, false, false, false, false, false, false, false, false, false, false, false, false, false, false, false, false, false, false, false, false, false, false, false, false, false] rfl rfl (any_of HT_.out (by kernel_rfl)) (fun _ _ _ h => h) (Or.inl ⟨by rfl, ?_⟩) ?_ ?_
                      rotate_left
                      · intro w'
                        go_simp
                        with_reducible rfl
                      rotate_left
                      · simp only [Act.put, List.setIfInBounds_toArray, List.set_cons_zero, List.set_cons_succ, i64_w, i32_w]
                        rfl
                      refine pure_ (i := 2) (N := some 87) (v := ?_) (a' := ?_) #[true, true, true, false, false, false, false, false, false, false, false, false, false, false, false, false, false, false, false, false, false, false, false, false, false, false, false, false, false, false, false, false, false, false, false, false, false] rfl rfl (any_of HT_.out (by kernel_rfl)) (fun _ _ _ h => h) (Or.inl ⟨by rfl, ?_⟩) ?_ ?_
                      rotate_left
                      · intro w'
                        go_simp
                        with_reducible rfl
                      rotate_left
                      · simp only [Act.put, List.setIfInBounds_toArray, List.set_cons_zero, List.set_cons_succ, i64_w, i32_w]
                        rfl
                      refine pure_ (i := 4) (N := some 89) (v := ?_) (a' := ?_) #[true, true, true, false, true, false, false, false, false, false, false, false, false, false, false, false, false, false, false, false, false, false, false, false, false, false, false, false, false, false, false, false, false, false, false, false, false] rfl rfl (any_of HT_.out (by kernel_rfl)) (fun _ _ _ h => h) (Or.inl ⟨by rfl, ?_⟩) ?_ ?_
                      rotate_left
                      · intro w'
                        go_simp
                        with_reducible rfl
                      rotate_left
                      · simp only [Act.put, List.setIfInBounds_toArray, List.set_cons_zero, List.set_cons_succ, i64_w, i32_w]
                        rfl
                      refine pure_ (i := 5) (N := some 90) (v := ?_) (a' := ?_) #[true, true, true, false, true, true, false, false, false, false, false, false, false, false, false, false, false, false, false, false, false, false, false, false, false, false, false, false, false, false, false, false, false, false, false, false, false] rfl rfl (any_of HT_.out (by kernel_rfl)) (fun _ _ _ h => h) (Or.inl ⟨by rfl, ?_⟩) ?_ ?_
                      rotate_left
                      · intro w'
                        go_simp
                        with_reducible rfl
                      rotate_left
                      · simp only [Act.put, List.setIfInBounds_toArray, List.set_cons_zero, List.set_cons_succ, i64_w, i32_w]
                        rfl
                      refine pure_ (i := 6) (N := some 91) (v := ?_) (a' := ?_) #[true, true, true, false, true, true, true, false, false, false, false, false, false, false, false, false, false, false, false, false, false, false, false, false, false, false, false, false, false, false, false, false, false, false, false, false, false] rfl rfl (any_of HT_.out (by kernel_rfl)) (fun _ _ _ h => h) (Or.inl ⟨by rfl, ?_⟩) ?_ ?_
                      rotate_left
                      · intro w'
                        go_simp
                        with_reducible rfl
                      rotate_left
                      · simp only [Act.put, List.setIfInBounds_toArray, List.set_cons_zero, List.set_cons_succ, i64_w, i32_w]
                        rfl
                      refine pure_ (i := 7) (N := some 92) (v := ?_) (a' := ?_) #[true, true, true, false, true, true, true, true, false, false, false, false, false, false, false, false, false, false, false, false, false, false, false, false, false, false, false, false, false, false, false, false, false, false, false, false, false] rfl rfl (any_of HT_.out (by kernel_rfl)) (fun _ _ _ h => h) (Or.inl ⟨by rfl, ?_⟩) ?_ ?_
                      rotate_left
                      · intro w'
                        go_simp
                        with_reducible rfl
                      rotate_left
                      · simp only [Act.put, List.setIfInBounds_toArray, List.set_cons_zero, List.set_cons_succ, i64_w, i32_w]
                        rfl
                      refine pure_ (i := 9) (N := some 94) (v := ?_) (a' := ?_) #[true, true, true, false, true, true, true, true, false, true, false, false, false, false, false, false, false, false, false, false, false, false, false, false, false, false, false, false, false, false, false, false, false, false, false, false, false] rfl rfl (any_of HT_.out (by kernel_rfl)) (fun _ _ _ h => h) (Or.inl ⟨by rfl, ?_⟩) ?_ ?_
                      rotate_left
                      · intro w'
                        go_simp
                        with_reducible rfl
                      rotate_left
                      · simp only [Act.put, List.setIfInBounds_toArray, List.set_cons_zero, List.set_cons_succ, i64_w, i32_w]
                        rfl
                      refine take_ (i := 3) (N := some 88) (v := ?_) (a' := ?_) #[true, true, true, true, true, true, true, true, false, true, false, false, false, false, false, false, false, false, false, false, false, false, false, false, false, false, false, false, false, false, false, false, false, false, false, false, false] rfl rfl (take_ofW HT_.out HW_.out (by kernel_rfl)) (fun _ _ _ h => h) (Or.inl ⟨by rfl, ?_⟩) hHeld ?_ ?_
                      rotate_left
                      · rintro w' ⟨s0, s1, s2, s3, s4, s5, s6, s7, s8, s9, s10, s11, s12, s13⟩
                        go_simp
                        with_reducible rfl
                      rotate_left
                      · simp only [Act.put, List.setIfInBounds_toArray, List.set_cons_zero, List.set_cons_succ, i64_w, i32_w]
                        rfl
                      refine take_ (i := 8) (N := some 93) (v := ?_) (a' := ?_) #[true, true, true, true, true, true, true, true, true, true, false, false, false, false, false, false, false, false, false, false, false, false, false, false, false, false, false, false, false, false, false, false, false, false, false, false, false] rfl rfl (take_ofW HT_.out HW_.out (by kernel_rfl)) (fun _ _ _ h => h) (Or.inl ⟨by rfl, ?_⟩) hHeld ?_ ?_
                      rotate_left
                      · rintro w' ⟨s0, s1, s2, s3, s4, s5, s6, s7, s8, s9, s10, s11, s12, s13⟩
                        go_simp
                        with_reducible rfl
                      rotate_left
                      · simp only [Act.put, List.setIfInBounds_toArray, List.set_cons_zero, List.set_cons_succ, i64_w, i32_w]
                        rfl
                      refine pure_ (i := 10) (N := some 95) (v := ?_) (a' := ?_) #[true, true, true, true, true, true, true, true, true, true, true, false, false, false, false, false, false, false, false, false, false, false, false, false, false, false, false, false, false, false, false, false, false, false, false, false, false] rfl rfl (any_of HT_.out (by kernel_rfl)) (fun _ _ _ h => h) (Or.inl ⟨by rfl, ?_⟩) ?_ ?_
                      rotate_left
                      · intro w'
                        go_simp
                        with_reducible rfl
                      rotate_left
                      · simp only [Act.put, List.setIfInBounds_toArray, List.set_cons_zero, List.set_cons_succ, i64_w, i32_w]
                        rfl
                      refine take_ (i := 11) (N := some 96) (v := ?_) (a' := ?_) #[true, true, true, true, true, true, true, true, true, true, true, true, false, false, false, false, false, false, false, false, false, false, false, false, false, false, false, false, false, false, false, false, false, false, false, false, false] rfl rfl (take_ofW HT_.out HW_.out (by kernel_rfl)) (fun _ _ _ h => h) (Or.inl ⟨by rfl, ?_⟩) hHeld ?_ ?_
                      rotate_left
                      · rintro w' ⟨s0, s1, s2, s3, s4, s5, s6, s7, s8, s9, s10, s11, s12, s13⟩
                        go_simp
                        with_reducible rfl
                      rotate_left
                      · simp only [Act.put, List.setIfInBounds_toArray, List.set_cons_zero, List.set_cons_succ, i64_w, i32_w]
                        rfl
                      refine pure_ (i := 12) (N := some 97) (v := ?_) (a' := ?_) #[true, true, true, true, true, true, true, true, true, true, true, true, true, false, false, false, false, false, false, false, false, false, false, false, false, false, false, false, false, false, false, false, false, false, false, false, false] rfl rfl (any_of HT_.out (by kernel_rfl)) (fun _ _ _ h => h) (Or.inl ⟨by rfl, ?_⟩) ?_ ?_
                      rotate_left
                      · intro w'
                        go_simp
                        with_reducible rfl
                      rotate_left
                      · simp only [Act.put, List.setIfInBounds_toArray, List.set_cons_zero, List.set_cons_succ, i64_w, i32_w]
                        rfl
                      refine pure_ (i := 13) (N := some 98) (v := ?_) (a' := ?_) #[true, true, true, true, true, true, true, true, true, true, true, true, true, true, false, false, false, false, false, false, false, false, false, false, false, false, false, false, false, false, false, false, false, false, false, false, false] rfl rfl (any_of HT_.out (by kernel_rfl)) (fun _ _ _ h => h) (Or.inl ⟨by rfl, ?_⟩) ?_ ?_
                      rotate_left
                      · intro w'
                        go_simp
                        with_reducible rfl
                      rotate_left
                      · simp only [Act.put, List.setIfInBounds_toArray, List.set_cons_zero, List.set_cons_succ, i64_w, i32_w]
                        rfl
                      refine pure_ (i := 14) (N := some 99) (v := ?_) (a' := ?_) #[true, true, true, true, true, true, true, true, true, true, true, true, true, true, true, false, false, false, false, false, false, false, false, false, false, false, false, false, false, false, false, false, false, false, false, false, false] rfl rfl (any_of HT_.out (by kernel_rfl)) (fun _ _ _ h => h) (Or.inl ⟨by rfl, ?_⟩) ?_ ?_
                      rotate_left
                      · intro w'
                        go_simp
                        with_reducible rfl
                      rotate_left
                      · simp only [Act.put, List.setIfInBounds_toArray, List.set_cons_zero, List.set_cons_succ, i64_w, i32_w]
                        rfl
                      refine pure_ (i := 16) (N := some 101) (v := ?_) (a' := ?_) #[true, true, true, true, true, true, true, true, true, true, true, true, true, true, true, false, true, false, false, false, false, false, false, false, false, false, false, false, false, false, false, false, false, false, false, false, false] rfl rfl (any_of HT_.out (by kernel_rfl)) (fun _ _ _ h => h) (Or.inl ⟨by rfl, ?_⟩) ?_ ?_
                      rotate_left
                      · intro w'
                        go_simp
                        with_reducible rfl
                      rotate_left
                      · simp only [Act.put, List.setIfInBounds_toArray, List.set_cons_zero, List.set_cons_succ, i64_w, i32_w]
                        rfl
                      refine pure_ (i := 19) (N := some 104) (v := ?_) (a' := ?_) #[true, true, true, true, true, true, true, true, true, true, true, true, true, true, true, false, true, false, false, true, false, false, false, false, false, false, false, false, false, false, false, false, false, false, false, false, false] rfl rfl (any_of HT_.out (by kernel_rfl)) (fun _ _ _ h => h) (Or.inl ⟨by rfl, ?_⟩) ?_ ?_
                      rotate_left
                      · intro w'
                        go_simp
                        with_reducible rfl
                      rotate_left
                      · simp only [Act.put, List.setIfInBounds_toArray, List.set_cons_zero, List.set_cons_succ, i64_w, i32_w]
                        rfl
                      refine pure_ (i := 24) (N := some 109) (v := ?_) (a' := ?_) #[true, true, true, true, true, true, true, true, true, true, true, true, true, true, true, false, true, false, false, true, false, false, false, false, true, false, false, false, false, false, false, false, false, false, false, false, false] rfl rfl (any_of HT_.out (by kernel_rfl)) (fun _ _ _ h => h) (Or.inl ⟨by rfl, ?_⟩) ?_ ?_
                      rotate_left
                      · intro w'
                        go_simp
                        with_reducible rfl
                      rotate_left
                      · simp only [Act.put, List.setIfInBounds_toArray, List.set_cons_zero, List.set_cons_succ, i64_w, i32_w]
                        rfl
                      refine pure_ (i := 26) (N := some 111) (v := ?_) (a' := ?_) #[true, true, true, true, true, true, true, true, true, true, true, true, true, true, true, false, true, false, false, true, false, false, false, false, true, false, true, false, false, false, false, false, false, false, false, false, false] rfl rfl (any_of HT_.out (by kernel_rfl)) (fun _ _ _ h => h) (Or.inl ⟨by rfl, ?_⟩) ?_ ?_
                      rotate_left
                      · intro w'
                        go_simp
                        with_reducible rfl
                      rotate_left
                      · simp only [Act.put, List.setIfInBounds_toArray, List.set_cons_zero, List.set_cons_succ, i64_w, i32_w]
                        rfl
                      refine pure_ (i := 29) (N := some 114) (v := ?_) (a' := ?_) #[true, true, true, true, true, true, true, true, true, true, true, true, true, true, true, false, true, false, false, true, false, false, false, false, true, false, true, false, false, true, false, false, false, false, false, false, false] rfl rfl (any_of HT_.out (by kernel_rfl)) (fun _ _ _ h => h) (Or.inl ⟨by rfl, ?_⟩) ?_ ?_
                      rotate_left
                      · intro w'
                        go_simp
                        with_reducible rfl
                      rotate_left
                      · simp only [Act.put, List.setIfInBounds_toArray, List.set_cons_zero, List.set_cons_succ, i64_w, i32_w]
                        rfl
                      refine take_ (i := 15) (N := some 100) (v := ?_) (a' := ?_) #[true, true, true, true, true, true, true, true, true, true, true, true, true, true, true, true, true, false, false, true, false, false, false, false, true, false, true, false, false, true, false, false, false, false, false, false, false] rfl rfl (take_ofW HT_.out HW_.out (by kernel_rfl)) (fun _ _ _ h => h) (Or.inl ⟨by rfl, ?_⟩) hHeld ?_ ?_
                      rotate_left
                      · rintro w' ⟨s0, s1, s2, s3, s4, s5, s6, s7, s8, s9, s10, s11, s12, s13⟩
                        go_simp
                        with_reducible rfl
                      rotate_left
                      · simp only [Act.put, List.setIfInBounds_toArray, List.set_cons_zero, List.set_cons_succ, i64_w, i32_w]
                        rfl
                      refine pure_ (i := 17) (N := some 102) (v := ?_) (a' := ?_) #[true, true, true, true, true, true, true, true, true, true, true, true, true, true, true, true, true, true, false, true, false, false, false, false, true, false, true, false, false, true, false, false, false, false, false, false, false] rfl rfl (any_of HT_.out (by kernel_rfl)) (fun _ _ _ h => h) (Or.inl ⟨by rfl, ?_⟩) ?_ ?_
                      rotate_left
                      · intro w'
                        go_simp
                        with_reducible rfl
                      rotate_left
                      · simp only [Act.put, List.setIfInBounds_toArray, List.set_cons_zero, List.set_cons_succ, i64_w, i32_w]
                        rfl
                      refine take_ (i := 18) (N := some 103) (v := ?_) (a' := ?_) #[true, true, true, true, true, true, true, true, true, true, true, true, true, true, true, true, true, true, true, true, false, false, false, false, true, false, true, false, false, true, false, false, false, false, false, false, false] rfl rfl (take_ofW HT_.out HW_.out (by kernel_rfl)) (fun _ _ _ h => h) (Or.inl ⟨by rfl, ?_⟩) hHeld ?_ ?_
                      rotate_left
                      · rintro w' ⟨s0, s1, s2, s3, s4, s5, s6, s7, s8, s9, s10, s11, s12, s13⟩
                        go_simp
                        with_reducible rfl
                      rotate_left
                      · simp only [Act.put, List.setIfInBounds_toArray, List.set_cons_zero, List.set_cons_succ, i64_w, i32_w]
                        rfl
                      refine pure_ (i := 20) (N := some 105) (v := ?_) (a' := ?_) #[true, true, true, true, true, true, true, true, true, true, true, true, true, true, true, true, true, true, true, true, true, false, false, false, true, false, true, false, false, true, false, false, false, false, false, false, false] rfl rfl (any_of HT_.out (by kernel_rfl)) (fun _ _ _ h => h) (Or.inl ⟨by rfl, ?_⟩) ?_ ?_
                      rotate_left
                      · intro w'
                        go_simp
                        with_reducible rfl
                      rotate_left
                      · simp only [Act.put, List.setIfInBounds_toArray, List.set_cons_zero, List.set_cons_succ, i64_w, i32_w]
                        rfl
                      refine take_ (i := 21) (N := some 106) (v := ?_) (a' := ?_) #[true, true, true, true, true, true, true, true, true, true, true, true, true, true, true, true, true, true, true, true, true, true, false, false, true, false, true, false, false, true, false, false, false, false, false, false, false] rfl rfl (take_ofW HT_.out HW_.out (by kernel_rfl)) (fun _ _ _ h => h) (Or.inl ⟨by rfl, ?_⟩) hHeld ?_ ?_
                      rotate_left
                      · rintro w' ⟨s0, s1, s2, s3, s4, s5, s6, s7, s8, s9, s10, s11, s12, s13⟩
                        go_simp
                        with_reducible rfl
                      rotate_left
                      · simp only [Act.put, List.setIfInBounds_toArray, List.set_cons_zero, List.set_cons_succ, i64_w, i32_w]
                        rfl
                      refine pure_ (i := 22) (N := some 107) (v := ?_) (a' := ?_) #[true, true, true, true, true, true, true, true, true, true, true, true, true, true, true, true, true, true, true, true, true, true, true, false, true, false, true, false, false, true, false, false, false, false, false, false, false] rfl rfl (any_of HT_.out (by kernel_rfl)) (fun _ _ _ h => h) (Or.inl ⟨by rfl, ?_⟩) ?_ ?_
                      rotate_left
                      · intro w'
                        go_simp
                        with_reducible rfl
                      rotate_left
                      · simp only [Act.put, List.setIfInBounds_toArray, List.set_cons_zero, List.set_cons_succ, i64_w, i32_w]
                        rfl
                      refine take_ (i := 23) (N := some 108) (v := ?_) (a' := ?_) #[true, true, true, true, true, true, true, true, true, true, true, true, true, true, true, true, true, true, true, true, true, true, true, true, true, false, true, false, false, true, false, false, false, false, false, false, false] rfl rfl (take_ofW HT_.out HW_.out (by kernel_rfl)) (fun _ _ _ h => h) (Or.inl ⟨by rfl, ?_⟩) hHeld ?_ ?_
                      rotate_left
                      · rintro w' ⟨s0, s1, s2, s3, s4, s5, s6, s7, s8, s9, s10, s11, s12, s13⟩
                        go_simp
                        with_reducible rfl
                      rotate_left
                      · simp only [Act.put, List.setIfInBounds_toArray, List.set_cons_zero, List.set_cons_succ, i64_w, i32_w]
                        rfl
                      refine take_ (i := 25) (N := some 110) (v := ?_) (a' := ?_) #[true, true, true, true, true, true, true, true, true, true, true, true, true, true, true, true, true, true, true, true, true, true, true, true, true, true, true, false, false, true, false, false, false, false, false, false, false] rfl rfl (take_ofW HT_.out HW_.out (by kernel_rfl)) (fun _ _ _ h => h) (Or.inl ⟨by rfl, ?_⟩) hHeld ?_ ?_
                      rotate_left
                      · rintro w' ⟨s0, s1, s2, s3, s4, s5, s6, s7, s8, s9, s10, s11, s12, s13⟩
                        go_simp
                        with_reducible rfl
                      rotate_left
                      · simp only [Act.put, List.setIfInBounds_toArray, List.set_cons_zero, List.set_cons_succ, i64_w, i32_w]
                        rfl
                      refine pure_ (i := 27) (N := some 112) (v := ?_) (a' := ?_) #[true, true, true, true, true, true, true, true, true, true, true, true, true, true, true, true, true, true, true, true, true, true, true, true, true, true, true, true, false, true, false, false, false, false, false, false, false] rfl rfl (any_of HT_.out (by kernel_rfl)) (fun _ _ _ h => h) (Or.inl ⟨by rfl, ?_⟩) ?_ ?_
                      rotate_left
                      · intro w'
                        go_simp
                        with_reducible rfl
                      rotate_left
                      · simp only [Act.put, List.setIfInBounds_toArray, List.set_cons_zero, List.set_cons_succ, i64_w, i32_w]
                        rfl
                      refine take_ (i := 28) (N := some 113) (v := ?_) (a' := ?_) #[true, true, true, true, true, true, true, true, true, true, true, true, true, true, true, true, true, true, true, true, true, true, true, true, true, true, true, true, true, true, false, false, false, false, false, false, false] rfl rfl (take_ofW HT_.out HW_.out (by kernel_rfl)) (fun _ _ _ h => h) (Or.inl ⟨by rfl, ?_⟩) hHeld ?_ ?_
                      rotate_left
                      · rintro w' ⟨s0, s1, s2, s3, s4, s5, s6, s7, s8, s9, s10, s11, s12, s13⟩
                        go_simp
                        with_reducible rfl
                      rotate_left
                      · simp only [Act.put, List.setIfInBounds_toArray, List.set_cons_zero, List.set_cons_succ, i64_w, i32_w]
                        rfl
                      refine pure_ (i := 30) (N := some 115) (v := ?_) (a' := ?_) #[true, true, true, true, true, true, true, true, true, true, true, true, true, true, true, true, true, true, true, true, true, true, true, true, true, true, true, true, true, true, true, false, false, false, false, false, false] rfl rfl (any_of HT_.out (by kernel_rfl)) (fun _ _ _ h => h) (Or.inl ⟨by rfl, ?_⟩) ?_ ?_
                      rotate_left
                      · intro w'
                        go_simp
                        with_reducible rfl
                      rotate_left
                      · simp only [Act.put, List.setIfInBounds_toArray, List.set_cons_zero, List.set_cons_succ, i64_w, i32_w]
                        rfl
                      refine take_ (i := 31) (N := some 116) (v := ?_) (a' := ?_) #[true, true, true, true, true, true, true, true, true, true, true, true, true, true, true, true, true, true, true, true, true, true, true, true, true, true, true, true, true, true, true, true, false, false, false, false, false] rfl rfl (take_ofW HT_.out HW_.out (by kernel_rfl)) (fun _ _ _ h => h) (Or.inl ⟨by rfl, ?_⟩) hHeld ?_ ?_
                      rotate_left
                      · rintro w' ⟨s0, s1, s2, s3, s4, s5, s6, s7, s8, s9, s10, s11, s12, s13⟩
                        go_simp
                        with_reducible rfl
                      rotate_left
                      · simp only [Act.put, List.setIfInBounds_toArray, List.set_cons_zero, List.set_cons_succ, i64_w, i32_w]
                        rfl
                      refine pure_ (i := 32) (N := some 117) (v := ?_) (a' := ?_) #[true, true, true, true, true, true, true, true, true, true, true, true, true, true, true, true, true, true, true, true, true, true, true, true, true, true, true, true, true, true, true, true, true, false, false, false, false] rfl rfl (any_of HT_.out (by kernel_rfl)) (fun _ _ _ h => h) (Or.inl ⟨by rfl, ?_⟩) ?_ ?_
                      rotate_left
                      · intro w'
                        go_simp
                        with_reducible rfl
                      rotate_left
                      · simp only [Act.put, List.setIfInBounds_toArray, List.set_cons_zero, List.set_cons_succ, i64_w, i32_w]
                        rfl
                      refine take_ (i := 33) (N := some 118) (v := ?_) (a' := ?_) #[true, true, true, true, true, true, true, true, true, true, true, true, true, true, true, true, true, true, true, true, true, true, true, true, true, true, true, true, true, true, true, true, true, true, false, false, false] rfl rfl (take_ofW HT_.out HW_.out (by kernel_rfl)) (fun _ _ _ h => h) (Or.inl ⟨by rfl, ?_⟩) hHeld ?_ ?_
                      rotate_left
                      · rintro w' ⟨s0, s1, s2, s3, s4, s5, s6, s7, s8, s9, s10, s11, s12, s13⟩
                        go_simp
                        with_reducible rfl
                      rotate_left
                      · simp only [Act.put, List.setIfInBounds_toArray, List.set_cons_zero, List.set_cons_succ, i64_w, i32_w]
                        rfl
                      refine pure_ (i := 34) (N := some 119) (v := ?_) (a' := ?_) #[true, true, true, true, true, true, true, true, true, true, true, true, true, true, true, true, true, true, true, true, true, true, true, true, true, true, true, true, true, true, true, true, true, true, true, false, false] rfl rfl (any_of HT_.out (by kernel_rfl)) (fun _ _ _ h => h) (Or.inl ⟨by rfl, ?_⟩) ?_ ?_
                      rotate_left
                      · intro w'
                        go_simp
                        with_reducible rfl
                      rotate_left
                      · simp only [Act.put, List.setIfInBounds_toArray, List.set_cons_zero, List.set_cons_succ, i64_w, i32_w]
                        rfl
                      refine pure_ (i := 35) (N := some 120) (v := ?_) (a' := ?_) #[true, true, true, true, true, true, true, true, true, true, true, true, true, true, true, true, true, true, true, true, true, true, true, true, true, true, true, true, true, true, true, true, true, true, true, true, false] rfl rfl (any_of HT_.out (by kernel_rfl)) (fun _ _ _ h => h) (Or.inl ⟨by rfl, ?_⟩) ?_ ?_
                      rotate_left
                      · intro w'
                        go_simp
                        with_reducible rfl
                      rotate_left
                      · simp only [Act.put, List.setIfInBounds_toArray, List.set_cons_zero, List.set_cons_succ, i64_w, i32_w]
                        rfl
                      refine last_ (i := 36) (N := none) #[true, true, true, true, true, true, true, true, true, true, true, true, true, true, true, true, true, true, true, true, true, true, true, true, true, true, true, true, true, true, true, true, true, true, true, true, true] rfl rfl (one_of HT_.out (by kernel_rfl)) (by decide) (fun K hK => ?_)
                      refine skip_ (w1 := ?_) (by rfl) rfl ?_ ?_
                      rotate_left
                      · go_simp
                        rfl
                      refine hK.out _ _ ?_
                      clear hK K
                      refine done_ (done_of HT_.out (by kernel_rfl)) ?_
                      try go_wp2
                      (try simp only [← hl13_5])
                      go_roundg k5
                      case measure => have := HK1.out; have := HK2.out; have := HK3.out; have := HK4.out; have := HK5.out; omega
                      case rel => exact ⟨(y254), (wrap64 (x16_5 + 1)), (by first | rfl | (simp; done) | (simp [*]; done)), H', ⟨by have := HK1.out; have := HK2.out; have := HK3.out; have := HK4.out; have := HK5.out; omega⟩, ⟨by (try simp only [hl13_4]); (try simp only [hl13_5]); (with_reducible repeat (first | apply Kd.S_alloc | apply Kd.S_drewN | apply Kd.S_drew)); exact Kd.S_mono (Kd.S_far (p := ⟨go76, (x15_4 : Int).toNat, none⟩) (Kd.S_mono HO_9.out (fun k_ hk => (⟨hk, coppicerref_Told.bef_aft (hk.2) ((HL240_0.out.1 _ rfl).1.2)⟩ : _ ∧ k_ ≠ go76))) (fun _ hk => hk.2) (.bool (rdOf false (rd_L3 x9_2 (rd (rd_L1 l0_2 x14_3) x16_5)) (rd (rd_L1 l0_2 x15_4) x16_5)))) (fun _ hk => ⟨hk.1.1, hk.1.2⟩)⟩, ⟨by (try simp only [hl13_4]); (try simp only [hl13_5]); (with_reducible repeat (first | apply Kd.S_alloc | apply Kd.S_drewN | apply Kd.S_drew)); exact HQ80.out⟩, ⟨by (try simp only [hl13_4]); (try simp only [hl13_5]); (with_reducible repeat (first | refine blk_drewN ?_ _ | refine blk_drew ?_ | refine blk_alloc ?_ _)); refine blk_far ?_ (by have h_ := Kd.R_ne HL240_0.out BK217.out (by decide); intro e_; exact h_ (by rw [e_]; rfl)) _; (with_reducible repeat (first | refine blk_drewN ?_ _ | refine blk_drew ?_ | refine blk_alloc ?_ _)); exact BK217.out⟩, ⟨by repeat (first | (with_reducible first | exact HB.out | apply below_alloc | apply pw_below_drewN | apply below_drew1 | refine below_set ?_ GB76.out | refine below_set ?_ GE217.out) | exact HB.out)⟩⟩
end Go.Proofs.Ytcfodnildhhocaa.PLeastTells
