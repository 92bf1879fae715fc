-- Printed by a turn of a template of the kit, and shortened: remarks and what nothing here uses are left out.
import Derived.Test.YtdoenjnjpenboaaQPLeastApartsx0
import Derived.Test.YtdoenjnjpenboaaQPLeastApartsx7
namespace Go.Proofs.Ytdoenjnjpenboaa.PLeastAparts
open Go.RowKit Go.Proofs.YtdoenjnjpenboaaW.PrintWords Go.Proofs.YtdoenjnjpenboaaW.PrintLast Go.Proofs.YtdoenjnjpenboaaW.PrintMore
attribute [local go_sem] max2_int min2_int max_two min_two max_three min_three max_four min_four
set_option linter.unusedVariables false
set_option linter.unusedSimpArgs false
def Zh.bef_ (k : Nat) (v : Value) : Nat := match v.ownBlock with
  | some g => if k < g then k + 1 else k
  | none => k + 1
def Zh.aft_ (k : Nat) (v : Value) : Nat := match v.ownBlock with
  | some g => if g ≤ k then k + 1 else k
  | none => k + 1
theorem Zh.bef_aft {g k p n c : Nat} (h1 : k ≠ Zh.bef_ k (.slice (some ⟨g, 0, none⟩) n c)) (h2 : p ≠ Zh.aft_ p (.slice (some ⟨g, 0, none⟩) n c)) : k ≠ p := by
  have e : (Value.slice (some ⟨g, 0, none⟩) n c).ownBlock = some g := by simp [Value.ownBlock]
  unfold Zh.bef_ at h1; unfold Zh.aft_ at h2
  rw [e] at h1 h2
  dsimp only at h1 h2
  intro q; subst q
  split at h1 <;> split at h2 <;> omega
theorem Zh.S_aft {α : Type} {d : Kd α} {e : Nat} {w : World} {base N : Nat} {v : Value} {xs : List α} (h : Kd.S d e w base (fun k => k = N) v xs) : Kd.S d e w base (fun k_ => k_ ≠ Zh.aft_ k_ v) v xs := by
  have h0 : ∀ k, v.ownBlock = some k → k = N := by obtain ⟨f, h⟩ := h; exact h.1
  refine Kd.S_mono h (fun k hk => ?_)
  unfold Zh.aft_
  cases hv : v.ownBlock with
  | none => dsimp only; omega
  | some g => have := h0 g hv; dsimp only; split <;> omega
theorem Zh.S_bef {α : Type} {d : Kd α} {e : Nat} {W w1 : World} {base : Nat} {ok : Nat → Prop} {u v : Value} {xs : List α} (h : Kd.S d e W base ok u xs) (hbase : ∀ k, v.ownBlock = some k → W.heap.size ≤ k) (hb : Below W.heap.size W w1) : Kd.S d e w1 base (fun k_ => (ok k_ ∧ some k_ ≠ v.ownBlock) ∧ k_ ≠ Zh.bef_ k_ v) u xs := by
  refine Kd.S_mono (Kd.S_below (Kd.S_bound h) hb) (fun k hk => ⟨⟨hk.1, fun q => ?_⟩, ?_⟩)
  · have := hbase k q.symm; have := hk.2.2.1; omega
  · unfold Zh.bef_
    cases hv : v.ownBlock with
    | none => dsimp only; omega
    | some g => have := hbase g hv; have := hk.2.2.1; dsimp only; split <;> omega
theorem Zh.R_aftnew {α : Type} {d : Kd α} {e : Nat} {W w1 : World} {ok : Nat → Prop} {u v : Value} {xs : List α} (h : Kd.R d e w1 W.heap.size ok v xs) (hlt : ∀ k, u.ownBlock = some k → k < W.heap.size) : Kd.R d e w1 W.heap.size (fun k_ => ok k_ ∧ k_ ≠ Zh.aft_ k_ u) v xs := by
  refine Kd.R_mono (Kd.R_bound h) (fun k hk => ⟨hk.1, ?_⟩)
  unfold Zh.aft_
  cases hv : u.ownBlock with
  | none => dsimp only; omega
  | some g => have := hlt g hv; have := hk.2.1; dsimp only; split <;> omega
mutual
def Zh.l0 : Nat → Int → Int → Int → List (List Bool) → Int → Int → Int → List (List Int) → Int → Int → Option (Bool)
  | 0, _, _, _, _, _, _, _, _, _, _ => none
  | k + 1, x1, x2, x3, x9, x10, x185000, x185001, x185002, x185003, x185004 => if x10 < x185000 then (if 0 ≤ x185000 then (if (x185000 : Int).toNat ≤ 281474976710656 then (if 0 ≤ x10 then (if x10 < (x9.length : Int) then (Zh.l1 k x1 x2 x3 (x9.set (x10 : Int).toNat (List.replicate (x185000 : Int).toNat false)) x10 0 x185000 x185001 x185002 x185003 x185004) else (none)) else (none)) else (none)) else (none)) else (Zh.l2 k x1 x2 x3 x9 0 x185000 x185001 x185002 x185003 x185004)
def Zh.l1 : Nat → Int → Int → Int → List (List Bool) → Int → Int → Int → Int → List (List Int) → Int → Int → Option (Bool)
  | 0, _, _, _, _, _, _, _, _, _, _, _ => none
  | k + 1, x1, x2, x3, x9, x10, x11, x185000, x185001, x185002, x185003, x185004 => if x11 < x185000 then (if 0 ≤ x10 then (if x10 < (x9.length : Int) then ((coppicerref_Bit.f x185004 x10).bind fun t193 => ((coppicerref_Bit.f x185004 x11).bind fun t194 => (if 0 ≤ x11 then (if x11 < ((rd_L4 x9 x10).length : Int) then (Zh.l1 k x1 x2 x3 (x9.set (x10 : Int).toNat ((rd_L4 x9 x10).set (x11 : Int).toNat (t193 != t194))) x10 (wrap64 (x11 + 1)) x185000 x185001 x185002 x185003 x185004) else (none)) else (none)))) else (none)) else (none)) else (Zh.l0 k x1 x2 x3 x9 (wrap64 (x10 + 1)) x185000 x185001 x185002 x185003 x185004)
def Zh.l2 : Nat → Int → Int → Int → List (List Bool) → Int → Int → Int → List (List Int) → Int → Int → Option (Bool)
  | 0, _, _, _, _, _, _, _, _, _, _ => none
  | k + 1, x1, x2, x3, x9, x12, x185000, x185001, x185002, x185003, x185004 => if x12 < x1 then (if 0 ≤ x185000 then (if (x185000 : Int).toNat ≤ 11728124029610 then (Zh.l3 k x1 x2 x3 x9 x12 (List.replicate (x185000 : Int).toNat []) 0 x185000 x185001 x185002 x185003 x185004) else (none)) else (none)) else (if 0 ≤ x2 then (if x2 < (x9.length : Int) then (if 0 ≤ x3 then (if x3 < ((rd_L4 x9 x2).length : Int) then (some (rdOf false (rd_L4 x9 x2) x3)) else (none)) else (none)) else (none)) else (none))
def Zh.l3 : Nat → Int → Int → Int → List (List Bool) → Int → List (List Bool) → Int → Int → Int → List (List Int) → Int → Int → Option (Bool)
  | 0, _, _, _, _, _, _, _, _, _, _, _, _ => none
  | k + 1, x1, x2, x3, x9, x12, x13, x14, x185000, x185001, x185002, x185003, x185004 => if x14 < x185000 then (if 0 ≤ x185000 then (if (x185000 : Int).toNat ≤ 281474976710656 then (if 0 ≤ x14 then (if x14 < (x13.length : Int) then (Zh.l4 k x1 x2 x3 x9 x12 (x13.set (x14 : Int).toNat (List.replicate (x185000 : Int).toNat false)) x14 0 x185000 x185001 x185002 x185003 x185004) else (none)) else (none)) else (none)) else (none)) else (Zh.l2 k x1 x2 x3 x13 (wrap64 (x12 + 1)) x185000 x185001 x185002 x185003 x185004)
def Zh.l4 : Nat → Int → Int → Int → List (List Bool) → Int → List (List Bool) → Int → Int → Int → Int → List (List Int) → Int → Int → Option (Bool)
  | 0, _, _, _, _, _, _, _, _, _, _, _, _, _ => none
  | k + 1, x1, x2, x3, x9, x12, x13, x14, x15, x185000, x185001, x185002, x185003, x185004 => if x15 < x185000 then (Zh.l5 k x1 x2 x3 x9 x12 x13 x14 x15 0 x185000 x185001 x185002 x185003 x185004) else (Zh.l3 k x1 x2 x3 x9 x12 x13 (wrap64 (x14 + 1)) x185000 x185001 x185002 x185003 x185004)
def Zh.l5 : Nat → Int → Int → Int → List (List Bool) → Int → List (List Bool) → Int → Int → Int → Int → Int → List (List Int) → Int → Int → Option (Bool)
  | 0, _, _, _, _, _, _, _, _, _, _, _, _, _, _ => none
  | k + 1, x1, x2, x3, x9, x12, x13, x14, x15, x16, x185000, x185001, x185002, x185003, x185004 => if x16 < x185001 then (if 0 ≤ x14 then (if x14 < (x13.length : Int) then (if 0 ≤ x15 then (if x15 < ((rd_L4 x13 x14).length : Int) then (if rdOf false (rd_L4 x13 x14) x15 = true then (Zh.l5 k x1 x2 x3 x9 x12 (x13.set (x14 : Int).toNat ((rd_L4 x13 x14).set (x15 : Int).toNat true)) x14 x15 (wrap64 (x16 + 1)) x185000 x185001 x185002 x185003 x185004) else (if x14 < (x185002.length : Int) then (if 0 ≤ x16 then (if x16 < ((Zd x185002 x14).length : Int) then (if 0 ≤ (rd (Zd x185002 x14) x16) then (if (rd (Zd x185002 x14) x16) < (x9.length : Int) then (if x15 < (x185002.length : Int) then (if x16 < ((Zd x185002 x15).length : Int) then (if 0 ≤ (rd (Zd x185002 x15) x16) then (if (rd (Zd x185002 x15) x16) < ((rd_L4 x9 (rd (Zd x185002 x14) x16)).length : Int) then (Zh.l5 k x1 x2 x3 x9 x12 (x13.set (x14 : Int).toNat ((rd_L4 x13 x14).set (x15 : Int).toNat (rdOf false (rd_L4 x9 (rd (Zd x185002 x14) x16)) (rd (Zd x185002 x15) x16)))) x14 x15 (wrap64 (x16 + 1)) x185000 x185001 x185002 x185003 x185004) else (none)) else (none)) else (none)) else (none)) else (none)) else (none)) else (none)) else (none)) else (none))) else (none)) else (none)) else (none)) else (none)) else (Zh.l4 k x1 x2 x3 x9 x12 x13 x14 (wrap64 (x15 + 1)) x185000 x185001 x185002 x185003 x185004)
end
def Zh.f (k : Nat) (a0_0 : Int) (a0_1 : Int) (l0_2 : List (List Int)) (a0_3 : Int) (a0_4 : Int) (a1 : Int) (a2 : Int) (a3 : Int) : Option (Bool) := if 0 ≤ a0_0 then (if (a0_0 : Int).toNat ≤ 11728124029610 then (Zh.l0 k a1 a2 a3 (List.replicate (a0_0 : Int).toNat []) 0 a0_0 a0_1 l0_2 a0_3 a0_4) else (none)) else (none)
theorem Zh.mono_l : ∀ k, (∀ y0 y1 y2 y3 y4 y5 y6 y7 y8 y9, LeO (Zh.l0 k y0 y1 y2 y3 y4 y5 y6 y7 y8 y9) (Zh.l0 (k + 1) y0 y1 y2 y3 y4 y5 y6 y7 y8 y9)) ∧ (∀ y0 y1 y2 y3 y4 y5 y6 y7 y8 y9 y10, LeO (Zh.l1 k y0 y1 y2 y3 y4 y5 y6 y7 y8 y9 y10) (Zh.l1 (k + 1) y0 y1 y2 y3 y4 y5 y6 y7 y8 y9 y10)) ∧ (∀ y0 y1 y2 y3 y4 y5 y6 y7 y8 y9, LeO (Zh.l2 k y0 y1 y2 y3 y4 y5 y6 y7 y8 y9) (Zh.l2 (k + 1) y0 y1 y2 y3 y4 y5 y6 y7 y8 y9)) ∧ (∀ y0 y1 y2 y3 y4 y5 y6 y7 y8 y9 y10 y11, LeO (Zh.l3 k y0 y1 y2 y3 y4 y5 y6 y7 y8 y9 y10 y11) (Zh.l3 (k + 1) y0 y1 y2 y3 y4 y5 y6 y7 y8 y9 y10 y11)) ∧ (∀ y0 y1 y2 y3 y4 y5 y6 y7 y8 y9 y10 y11 y12, LeO (Zh.l4 k y0 y1 y2 y3 y4 y5 y6 y7 y8 y9 y10 y11 y12) (Zh.l4 (k + 1) y0 y1 y2 y3 y4 y5 y6 y7 y8 y9 y10 y11 y12)) ∧ (∀ y0 y1 y2 y3 y4 y5 y6 y7 y8 y9 y10 y11 y12 y13, LeO (Zh.l5 k y0 y1 y2 y3 y4 y5 y6 y7 y8 y9 y10 y11 y12 y13) (Zh.l5 (k + 1) y0 y1 y2 y3 y4 y5 y6 y7 y8 y9 y10 y11 y12 y13))
  | 0 => ⟨fun _ _ _ _ _ _ _ _ _ _ r h => by simp [Zh.l0] at h, fun _ _ _ _ _ _ _ _ _ _ _ r h => by simp [Zh.l1] at h, fun _ _ _ _ _ _ _ _ _ _ r h => by simp [Zh.l2] at h, fun _ _ _ _ _ _ _ _ _ _ _ _ r h => by simp [Zh.l3] at h, fun _ _ _ _ _ _ _ _ _ _ _ _ _ r h => by simp [Zh.l4] at h, fun _ _ _ _ _ _ _ _ _ _ _ _ _ _ r h => by simp [Zh.l5] at h⟩
  | k + 1 => by
    obtain ⟨ih0, ih1, ih2, ih3, ih4, ih5⟩ := Zh.mono_l k
    refine ⟨?_, ?_, ?_, ?_, ?_, ?_⟩
    · intro y0 y1 y2 y3 y4 y5 y6 y7 y8 y9
      unfold Zh.l0
      repeat' first
      | (with_reducible exact ih0 _ _ _ _ _ _ _ _ _ _)
      | (with_reducible exact ih1 _ _ _ _ _ _ _ _ _ _ _)
      | (with_reducible exact ih2 _ _ _ _ _ _ _ _ _ _)
      | (with_reducible exact ih3 _ _ _ _ _ _ _ _ _ _ _ _)
      | (with_reducible exact ih4 _ _ _ _ _ _ _ _ _ _ _ _ _)
      | (with_reducible exact ih5 _ _ _ _ _ _ _ _ _ _ _ _ _ _)
      | (with_reducible exact LeO.refl _)
      | (with_reducible exact LeO.none _)
      | (with_reducible refine LeO.ite ?_ ?_)
      | (with_reducible refine LeO.bind ?_ (fun _ => ?_))
      | exact ih0 _ _ _ _ _ _ _ _ _ _
      | exact ih1 _ _ _ _ _ _ _ _ _ _ _
      | exact ih2 _ _ _ _ _ _ _ _ _ _
      | exact ih3 _ _ _ _ _ _ _ _ _ _ _ _
      | exact ih4 _ _ _ _ _ _ _ _ _ _ _ _ _
      | exact ih5 _ _ _ _ _ _ _ _ _ _ _ _ _ _
      | exact LeO.none _
      | refine LeO.ite ?_ ?_
      | refine LeO.bind ?_ (fun _ => ?_)
    · intro y0 y1 y2 y3 y4 y5 y6 y7 y8 y9 y10
      unfold Zh.l1
      repeat' first
      | (with_reducible exact ih0 _ _ _ _ _ _ _ _ _ _)
      | (with_reducible exact ih1 _ _ _ _ _ _ _ _ _ _ _)
      | (with_reducible exact ih2 _ _ _ _ _ _ _ _ _ _)
      | (with_reducible exact ih3 _ _ _ _ _ _ _ _ _ _ _ _)
      | (with_reducible exact ih4 _ _ _ _ _ _ _ _ _ _ _ _ _)
      | (with_reducible exact ih5 _ _ _ _ _ _ _ _ _ _ _ _ _ _)
      | (with_reducible exact LeO.refl _)
      | (with_reducible exact LeO.none _)
      | (with_reducible refine LeO.ite ?_ ?_)
      | (with_reducible refine LeO.bind ?_ (fun _ => ?_))
      | exact ih0 _ _ _ _ _ _ _ _ _ _
      | exact ih1 _ _ _ _ _ _ _ _ _ _ _
      | exact ih2 _ _ _ _ _ _ _ _ _ _
      | exact ih3 _ _ _ _ _ _ _ _ _ _ _ _
      | exact ih4 _ _ _ _ _ _ _ _ _ _ _ _ _
      | exact ih5 _ _ _ _ _ _ _ _ _ _ _ _ _ _
      | exact LeO.none _
      | refine LeO.ite ?_ ?_
      | refine LeO.bind ?_ (fun _ => ?_)
    · intro y0 y1 y2 y3 y4 y5 y6 y7 y8 y9
      unfold Zh.l2
      repeat' first
      | (with_reducible exact ih0 _ _ _ _ _ _ _ _ _ _)
      | (with_reducible exact ih1 _ _ _ _ _ _ _ _ _ _ _)
      | (with_reducible exact ih2 _ _ _ _ _ _ _ _ _ _)
      | (with_reducible exact ih3 _ _ _ _ _ _ _ _ _ _ _ _)
      | (with_reducible exact ih4 _ _ _ _ _ _ _ _ _ _ _ _ _)
      | (with_reducible exact ih5 _ _ _ _ _ _ _ _ _ _ _ _ _ _)
      | (with_reducible exact LeO.refl _)
      | (with_reducible exact LeO.none _)
      | (with_reducible refine LeO.ite ?_ ?_)
      | (with_reducible refine LeO.bind ?_ (fun _ => ?_))
      | exact ih0 _ _ _ _ _ _ _ _ _ _
      | exact ih1 _ _ _ _ _ _ _ _ _ _ _
      | exact ih2 _ _ _ _ _ _ _ _ _ _
      | exact ih3 _ _ _ _ _ _ _ _ _ _ _ _
      | exact ih4 _ _ _ _ _ _ _ _ _ _ _ _ _
      | exact ih5 _ _ _ _ _ _ _ _ _ _ _ _ _ _
      | exact LeO.none _
      | refine LeO.ite ?_ ?_
      | refine LeO.bind ?_ (fun _ => ?_)
    · intro y0 y1 y2 y3 y4 y5 y6 y7 y8 y9 y10 y11
      unfold Zh.l3
      repeat' first
      | (with_reducible exact ih0 _ _ _ _ _ _ _ _ _ _)
      | (with_reducible exact ih1 _ _ _ _ _ _ _ _ _ _ _)
      | (with_reducible exact ih2 _ _ _ _ _ _ _ _ _ _)
      | (with_reducible exact ih3 _ _ _ _ _ _ _ _ _ _ _ _)
      | (with_reducible exact ih4 _ _ _ _ _ _ _ _ _ _ _ _ _)
      | (with_reducible exact ih5 _ _ _ _ _ _ _ _ _ _ _ _ _ _)
      | (with_reducible exact LeO.refl _)
      | (with_reducible exact LeO.none _)
      | (with_reducible refine LeO.ite ?_ ?_)
      | (with_reducible refine LeO.bind ?_ (fun _ => ?_))
      | exact ih0 _ _ _ _ _ _ _ _ _ _
      | exact ih1 _ _ _ _ _ _ _ _ _ _ _
      | exact ih2 _ _ _ _ _ _ _ _ _ _
      | exact ih3 _ _ _ _ _ _ _ _ _ _ _ _
      | exact ih4 _ _ _ _ _ _ _ _ _ _ _ _ _
      | exact ih5 _ _ _ _ _ _ _ _ _ _ _ _ _ _
      | exact LeO.none _
      | refine LeO.ite ?_ ?_
      | refine LeO.bind ?_ (fun _ => ?_)
    · intro y0 y1 y2 y3 y4 y5 y6 y7 y8 y9 y10 y11 y12
      unfold Zh.l4
      repeat' first
      | (with_reducible exact ih0 _ _ _ _ _ _ _ _ _ _)
      | (with_reducible exact ih1 _ _ _ _ _ _ _ _ _ _ _)
      | (with_reducible exact ih2 _ _ _ _ _ _ _ _ _ _)
      | (with_reducible exact ih3 _ _ _ _ _ _ _ _ _ _ _ _)
      | (with_reducible exact ih4 _ _ _ _ _ _ _ _ _ _ _ _ _)
      | (with_reducible exact ih5 _ _ _ _ _ _ _ _ _ _ _ _ _ _)
      | (with_reducible exact LeO.refl _)
      | (with_reducible exact LeO.none _)
      | (with_reducible refine LeO.ite ?_ ?_)
      | (with_reducible refine LeO.bind ?_ (fun _ => ?_))
      | exact ih0 _ _ _ _ _ _ _ _ _ _
      | exact ih1 _ _ _ _ _ _ _ _ _ _ _
      | exact ih2 _ _ _ _ _ _ _ _ _ _
      | exact ih3 _ _ _ _ _ _ _ _ _ _ _ _
      | exact ih4 _ _ _ _ _ _ _ _ _ _ _ _ _
      | exact ih5 _ _ _ _ _ _ _ _ _ _ _ _ _ _
      | exact LeO.none _
      | refine LeO.ite ?_ ?_
      | refine LeO.bind ?_ (fun _ => ?_)
    · intro y0 y1 y2 y3 y4 y5 y6 y7 y8 y9 y10 y11 y12 y13
      unfold Zh.l5
      repeat' first
      | (with_reducible exact ih0 _ _ _ _ _ _ _ _ _ _)
      | (with_reducible exact ih1 _ _ _ _ _ _ _ _ _ _ _)
      | (with_reducible exact ih2 _ _ _ _ _ _ _ _ _ _)
      | (with_reducible exact ih3 _ _ _ _ _ _ _ _ _ _ _ _)
      | (with_reducible exact ih4 _ _ _ _ _ _ _ _ _ _ _ _ _)
      | (with_reducible exact ih5 _ _ _ _ _ _ _ _ _ _ _ _ _ _)
      | (with_reducible exact LeO.refl _)
      | (with_reducible exact LeO.none _)
      | (with_reducible refine LeO.ite ?_ ?_)
      | (with_reducible refine LeO.bind ?_ (fun _ => ?_))
      | exact ih0 _ _ _ _ _ _ _ _ _ _
      | exact ih1 _ _ _ _ _ _ _ _ _ _ _
      | exact ih2 _ _ _ _ _ _ _ _ _ _
      | exact ih3 _ _ _ _ _ _ _ _ _ _ _ _
      | exact ih4 _ _ _ _ _ _ _ _ _ _ _ _ _
      | exact ih5 _ _ _ _ _ _ _ _ _ _ _ _ _ _
      | exact LeO.none _
      | refine LeO.ite ?_ ?_
      | refine LeO.bind ?_ (fun _ => ?_)
theorem Zh.mono : ∀ a0 a1 a2 a3 a4 a5 a6 a7 k, LeO (Zh.f k a0 a1 a2 a3 a4 a5 a6 a7) (Zh.f (k + 1) a0 a1 a2 a3 a4 a5 a6 a7) := by
  intro a0 a1 a2 a3 a4 a5 a6 a7 k
  obtain ⟨ih0, ih1, ih2, ih3, ih4, ih5⟩ := Zh.mono_l k
  unfold Zh.f
  repeat' first
      | (with_reducible exact ih0 _ _ _ _ _ _ _ _ _ _)
      | (with_reducible exact ih1 _ _ _ _ _ _ _ _ _ _ _)
      | (with_reducible exact ih2 _ _ _ _ _ _ _ _ _ _)
      | (with_reducible exact ih3 _ _ _ _ _ _ _ _ _ _ _ _)
      | (with_reducible exact ih4 _ _ _ _ _ _ _ _ _ _ _ _ _)
      | (with_reducible exact ih5 _ _ _ _ _ _ _ _ _ _ _ _ _ _)
      | (with_reducible exact LeO.refl _)
      | (with_reducible exact LeO.none _)
      | (with_reducible refine LeO.ite ?_ ?_)
      | (with_reducible refine LeO.bind ?_ (fun _ => ?_))
      | exact ih0 _ _ _ _ _ _ _ _ _ _
      | exact ih1 _ _ _ _ _ _ _ _ _ _ _
      | exact ih2 _ _ _ _ _ _ _ _ _ _
      | exact ih3 _ _ _ _ _ _ _ _ _ _ _ _
      | exact ih4 _ _ _ _ _ _ _ _ _ _ _ _ _
      | exact ih5 _ _ _ _ _ _ _ _ _ _ _ _ _ _
      | exact LeO.none _
      | refine LeO.ite ?_ ?_
      | refine LeO.bind ?_ (fun _ => ?_)
def Zh.T9 : Bool × List (List Nat × List Nat) := (true, [([], []), ([], []), ([0, 1], [0, 1]), ([2], [2]), ([], []), ([], []), ([5], [5]), ([], []), ([6, 7], [6, 7]), ([], []), ([9], [9]), ([], []), ([10, 11, 8], [10, 11]), ([8, 12], [8, 12]), ([3, 4, 0, 1, 2, 3, 4, 5, 6, 7, 8, 9, 10, 11, 12, 13], [3, 4]), ([14, 13, 12, 0, 1, 2, 3, 4, 5, 6, 7, 8, 9, 10, 11, 12, 13], [13, 14])])
def Zh.B9 : List Nat := [0, 0, 3, 7, 0, 0, 32, 0, 224, 0, 512, 0, 4064, 8160, 16383, 32767]
theorem Zh.tab9 : rtab .any (opsOf Try.f12 9) = Zh.T9 := by kernel_rfl
theorem Zh.bits9 : waitsOk Zh.T9.2 Zh.B9 = true := by kernel_rfl
def Zh.T24 : Bool × List (List Nat × List Nat) := (true, [([], []), ([], []), ([0, 1], [0, 1]), ([2], [2]), ([], []), ([], []), ([], []), ([5, 6], [5, 6]), ([7], [7]), ([], []), ([8, 9], [8, 9]), ([10], [10]), ([11], [11]), ([12], [12]), ([12], [12]), ([14, 12], [12, 14]), ([12], [12]), ([15, 16, 12], [12, 15, 16]), ([17, 12], [12, 17]), ([12], [12]), ([18, 19, 12], [12, 18, 19]), ([20, 12], [12, 20]), ([13, 21, 12], [12, 13, 21]), ([22, 12], [12, 22]), ([12], [12]), ([24, 12], [12, 24]), ([12], [12]), ([25, 26, 12], [12, 25, 26]), ([27, 12], [12, 27]), ([12], [12]), ([28, 29, 12], [12, 28, 29]), ([30, 12], [12, 30]), ([23, 31, 12], [12, 23, 31]), ([32, 12], [12, 32]), ([12, 33], [12, 33]), ([3, 4, 0, 1, 2, 3, 4, 5, 6, 7, 8, 9, 10, 11, 12, 13, 14, 15, 16, 17, 18, 19, 20, 21, 22, 23, 24, 25, 26, 27, 28, 29, 30, 31, 32, 33, 34], [3, 4]), ([35, 34, 12, 0, 1, 2, 3, 4, 5, 6, 7, 8, 9, 10, 11, 12, 13, 14, 15, 16, 17, 18, 19, 20, 21, 22, 23, 24, 25, 26, 27, 28, 29, 30, 31, 32, 33, 34], [34, 35])])
def Zh.B24 : List Nat := [0, 0, 3, 7, 0, 0, 0, 96, 224, 0, 992, 2016, 4064, 8160, 8160, 24544, 8160, 122848, 253920, 8160, 1040352, 2088928, 4194272, 8388576, 8160, 16785376, 8160, 117448672, 251666400, 8160, 1056972768, 2130714592, 4294967264, 8589934560, 17179869152, 34359738367, 68719476735]
theorem Zh.tab24 : rtab .any (opsOf Try.f12 24) = Zh.T24 := by kernel_rfl
theorem Zh.bits24 : waitsOk Zh.T24.2 Zh.B24 = true := by kernel_rfl
set_option maxHeartbeats 8000000 in
set_option maxRecDepth 100000 in
theorem Zh.calls (k : Nat) (a0_0 : Int) (a0_1 : Int) (A0_2 : Option Addr) (c0_2 : Nat) (l0_2 : List (List Int)) (a0_3 : Int) (a0_4 : Int) (a1 : Int) (a2 : Int) (a3 : Int) (r : Bool) (w : World) (hr0_2 : Kd.C (Kd.slice 3 (Kd.int .i64)) w A0_2 l0_2.length l0_2) (hc0_2 : l0_2.length ≤ c0_2) (h : Zh.f k a0_0 a0_1 l0_2 a0_3 a0_4 a1 a2 a3 = some r) :
    Calls Try.prog 12 #[.agg #[.int .i64 a0_0, .int .i64 a0_1, .slice A0_2 l0_2.length c0_2, .int .i64 a0_3, .int .u32 a0_4], .int .i64 a1, .int .i64 a2, .int .i64 a3] w fun e w' => e = .returned (.bool r) ∧ Below w.heap.size w w' := by
 (have hu25 := Try.underlying25); (have hu26 := Try.underlying26); (have HR0_2 := Za.mk hr0_2); (have HC0_2 := Za.mk hc0_2); (clear hr0_2 hc0_2); (have HB := Za.mk (Below.refl w.heap.size w)); (have H : (if 0 ≤ a0_0 then (if (a0_0 : Int).toNat ≤ 11728124029610 then (Zh.l0 k a1 a2 a3 (List.replicate (a0_0 : Int).toNat []) 0 a0_0 a0_1 l0_2 a0_3 a0_4) else (none)) else (none)) = some r := h); (clear h)
 by_cases c5 : 0 ≤ a0_0
 rotate_left
 ·rw [if_neg c5] at H
  exact absurd H (by simp)
 (rw [if_pos c5] at H); (have c5b0 := eq_true c5); (have c5b1 : decide (0 ≤ a0_0) = true := decide_eq_true c5); (clear c5)
 by_cases c6 : (a0_0 : Int).toNat ≤ 11728124029610
 rotate_left
 ·rw [if_neg c6] at H
  exact absurd H (by simp)
 (rw [if_pos c6] at H); (have c6b0 := eq_true c6); (have c6b1 : decide ((a0_0 : Int).toNat ≤ 11728124029610) = true := decide_eq_true c6); (clear c6); (obtain ⟨y185, hy185⟩ : ∃ y_ : List (List Bool), y_ = (List.replicate (a0_0 : Int).toNat []) := ⟨_, rfl⟩); (replace H : (Zh.l0 k a1 a2 a3 y185 0 a0_0 a0_1 l0_2 a0_3 a0_4) = some r := by first | (rw [hy185]; with_reducible exact H) | (have H2_ := (Option.bind_some _ _).symm.trans H; rw [hy185]; with_reducible exact H2_) | (have H2_ := (Option.bind_some _ _).symm.trans H; with_reducible exact H2_) | with_reducible exact H | (rw [hy185]; exact H) | exact H); (have Ny185 := Za.mk hy185); (clear hy185); (have H' := Za.mk H); (clear H)
 go_enter Try.func12, Try.ntmps12
 go_wp2_with (first | ((with_reducible refine Zc1 (N := 4) rfl ?_); refine Zd1 ?hg (N := 4) ?hd (cs := #[.int .i64 a0_0, .int .i64 a0_1, .slice A0_2 l0_2.length c0_2, .int .i64 a0_3, .int .u32 a0_4]) (t := 25) ?hr ?_; (case hd => rfl); (case hg => rfl); (case hr => first | (go_simp; done) | (go_simp; rfl)); intro gb184 hg w7 hbox hb; have BK184 := Za.mk (hbox); have GW184 := Za.mk ((by rw [hg]; exact (Zk (by repeat (first | (with_reducible first | exact HB.out | apply zc1 | apply zc2 | apply zc3) | exact HB.out))) : w.heap.size ≤ gb184)); have GE184 := Za.mk ((by rw [hg]; exact (Zk (by repeat (first | (with_reducible first | exact HB.out | apply zc1 | apply zc2 | apply zc3) | exact HB.out))) : w.heap.size ≤ gb184)); replace HB := Za.mk (Zm (by repeat (first | (with_reducible first | exact HB.out | apply zc1 | apply zc2 | apply zc3) | exact HB.out)) hb); clear hb hbox hg; have hcz8_0 : w7.cell? ⟨gb184, 0, none⟩ = some (.int .i64 a0_0) := (Zb BK184.out 0).trans rfl; have hcz8_1 : w7.cell? ⟨gb184, 1, none⟩ = some (.int .i64 a0_1) := (Zb BK184.out 1).trans rfl; have hcz8_2 : w7.cell? ⟨gb184, 2, none⟩ = some (.slice A0_2 l0_2.length c0_2) := (Zb BK184.out 2).trans rfl; have hcz8_3 : w7.cell? ⟨gb184, 3, none⟩ = some (.int .i64 a0_3) := (Zb BK184.out 3).trans rfl; have hcz8_4 : w7.cell? ⟨gb184, 4, none⟩ = some (.int .u32 a0_4) := (Zb BK184.out 4).trans rfl; have hfz8_0 := Zc BK184.out 0; have hfz8_1 := Zc BK184.out 1; have hfz8_2 := Zc BK184.out 2; have hfz8_3 := Zc BK184.out 3; have hfz8_4 := Zc BK184.out 4) | ((with_reducible refine Zc1 (N := 19) rfl ?_); refine Kd.S_make (Kd.slice 4 Kd.bool) _ 45 rfl (N := 19) rfl 44 _ _ rfl a0_0 rfl rfl Try.underlying44 (.slice none 0 0) 24 info45 rfl (by decide) (by omega) [] (ok := fun k_ => k_ = w7.heap.size) (okp := fun _ => False) ⟨_, rfl, Kd.R_nil _ _ _ _ _⟩ (fun _ hk => hk.elim) rfl (of_decide_eq_true (by assumption)) (Nat.le_trans (Nat.mul_le_mul_right _ (of_decide_eq_true (by assumption) : a0_0.toNat ≤ 11728124029610)) (by omega)) (Below.refl _ _) (Nat.le_refl _) ?_; intro v186 w9 ho10 hb hg_ hnew_; clear hg_ hnew_; (first | rw [← Ny185.out] at ho10 | (simp only [Int.reduceToNat] at ho10; rw [← Ny185.out] at ho10)); have HO187 := Za.mk (Kd.S_lower (Zh.S_aft ho10) (Zk (by repeat (first | (with_reducible first | exact HB.out | apply zc1 | apply zc2 | apply zc3 | refine zc4 ?_ (by assumption)) | exact HB.out)))); replace BK184 := Za.mk (Zi (g := gb184) (by (with_reducible repeat (first | apply zb3 | apply zb2 | apply zb1)); exact BK184.out) hb); replace HB := Za.mk (Zm (by repeat (first | (with_reducible first | exact HB.out | apply zc1 | apply zc2 | apply zc3 | refine zc4 ?_ (by assumption)) | exact HB.out)) hb); clear hb ho10))
 go_loopg [10] k (fun kq v10 w' => ∃ (x9_1 : List (List Bool)) (x10_1 : Int), v10 = .int .i64 x10_1 ∧ Za (Zh.l0 kq a1 a2 a3 x9_1 x10_1 a0_0 a0_1 l0_2 a0_3 a0_4 = some r) ∧ Za (kq ≤ k) ∧ Za (Kd.S (Kd.slice 4 Kd.bool) 45 w' w.heap.size (fun k_ => k_ ≠ (Zh.aft_ k_ v186)) v186 x9_1) ∧ Za (w'.heap[gb184]? = some (.cells #[.int .i64 a0_0, .int .i64 a0_1, (.slice A0_2 l0_2.length c0_2), .int .i64 a0_3, .int .u32 a0_4] 25 (0, 0))) ∧ Za (Below w.heap.size w w'))
 case atStart => exact ⟨(y185), (0), (by first | rfl | (simp; done) | (simp [*]; done)), H', ⟨Nat.le_refl _⟩, ⟨by (with_reducible repeat (first | apply Kd.S_alloc | apply Kd.S_drewN | apply Kd.S_drew)); exact HO187.out⟩, ⟨by (with_reducible repeat (first | apply zb3 | apply zb2 | apply zb1)); exact BK184.out⟩, ⟨by repeat (first | (with_reducible first | exact HB.out | apply zc1 | apply zc2 | apply zc3 | refine zc4 ?_ (by assumption)) | exact HB.out)⟩⟩
 case round =>
  (clear H'); (try clear c1); (try clear p2); (try clear c5); (try clear c5b0); (try clear c5b1); (try clear c6); (try clear c6b0); (try clear c6b1); (try clear hcz8_0 hcz8_1 hcz8_2 hcz8_3 hcz8_4 hfz8_0 hfz8_1 hfz8_2 hfz8_3 hfz8_4); (obtain ⟨x9_1, x10_1, rfl, HA, HK1, HO_9, BK184, HB⟩ := hrel)
  cases gk with
  | zero => exact absurd HA.out (by simp [Zh.l0])
  | succ k1 =>
   (have H := HA.out); (clear HA); (simp only [Zh.l0] at H)
   by_cases c11 : x10_1 < a0_0
   ·rw [if_pos c11] at H
    (have c11b0 : decide (x10_1 < a0_0) = true := decide_eq_true c11); (clear c11)
    by_cases c12 : 0 ≤ a0_0
    rotate_left
    ·rw [if_neg c12] at H
     exact absurd H (by simp)
    (rw [if_pos c12] at H); (have c12b0 := eq_true c12); (have c12b1 : decide (0 ≤ a0_0) = true := decide_eq_true c12); (clear c12)
    by_cases c13 : (a0_0 : Int).toNat ≤ 281474976710656
    rotate_left
    ·rw [if_neg c13] at H
     exact absurd H (by simp)
    (rw [if_pos c13] at H); (have c13b0 := eq_true c13); (have c13b1 : decide ((a0_0 : Int).toNat ≤ 281474976710656) = true := decide_eq_true c13); (clear c13); (obtain ⟨y188, hy188⟩ : ∃ y_ : List Bool, y_ = (List.replicate (a0_0 : Int).toNat false) := ⟨_, rfl⟩); (replace H : (if 0 ≤ x10_1 then (if x10_1 < (x9_1.length : Int) then (Zh.l1 k1 a1 a2 a3 (x9_1.set (x10_1 : Int).toNat y188) x10_1 0 a0_0 a0_1 l0_2 a0_3 a0_4) else (none)) else (none)) = some r := by first | (rw [hy188]; with_reducible exact H) | (have H2_ := (Option.bind_some _ _).symm.trans H; rw [hy188]; with_reducible exact H2_) | (have H2_ := (Option.bind_some _ _).symm.trans H; with_reducible exact H2_) | with_reducible exact H | (rw [hy188]; exact H) | exact H); (have Ny188 := Za.mk hy188); (clear hy188)
    by_cases c14 : 0 ≤ x10_1
    rotate_left
    ·rw [if_neg c14] at H
     exact absurd H (by simp)
    (rw [if_pos c14] at H); (have c14b0 : decide (0 ≤ x10_1) = true := decide_eq_true c14); (clear c14)
    by_cases c15 : x10_1 < (x9_1.length : Int)
    rotate_left
    ·rw [if_neg c15] at H
     exact absurd H (by simp)
    (rw [if_pos c15] at H); (have c15b0 : decide (x10_1 < (x9_1.length : Int)) = true := decide_eq_true c15); (clear c15); (obtain ⟨y191, hy191⟩ : ∃ y_ : List (List Bool), y_ = (x9_1.set (x10_1 : Int).toNat y188) := ⟨_, rfl⟩); (replace H : (Zh.l1 k1 a1 a2 a3 y191 x10_1 0 a0_0 a0_1 l0_2 a0_3 a0_4) = some r := by first | (rw [hy191]; with_reducible exact H) | (have H2_ := (Option.bind_some _ _).symm.trans H; rw [hy191]; with_reducible exact H2_) | (have H2_ := (Option.bind_some _ _).symm.trans H; with_reducible exact H2_) | with_reducible exact H | (rw [hy191]; exact H) | exact H); (have Ny191 := Za.mk hy191); (clear hy191); (have H' := Za.mk H); (clear H); (have hcz17_0 : wr.cell? ⟨gb184, 0, none⟩ = some (.int .i64 a0_0) := (Zb BK184.out 0).trans rfl); (have hcz17_1 : wr.cell? ⟨gb184, 1, none⟩ = some (.int .i64 a0_1) := (Zb BK184.out 1).trans rfl); (have hcz17_2 : wr.cell? ⟨gb184, 2, none⟩ = some (.slice A0_2 l0_2.length c0_2) := (Zb BK184.out 2).trans rfl); (have hcz17_3 : wr.cell? ⟨gb184, 3, none⟩ = some (.int .i64 a0_3) := (Zb BK184.out 3).trans rfl); (have hcz17_4 : wr.cell? ⟨gb184, 4, none⟩ = some (.int .u32 a0_4) := (Zb BK184.out 4).trans rfl); (have hfz17_0 := Zc BK184.out 0); (have hfz17_1 := Zc BK184.out 1); (have hfz17_2 := Zc BK184.out 2); (have hfz17_3 := Zc BK184.out 3); (have hfz17_4 := Zc BK184.out 4)
    go_wp2_with (first | ((with_reducible refine Zc1 (N := 30) rfl ?_); refine Kd.R_make Kd.bool _ 4 rfl (N := 30) rfl 45 _ _ rfl a0_0 rfl rfl Try.underlying45 (.bool false) 1 info4 rfl (by decide) (by omega) false (ok := fun _ => True) (okp := fun _ => True) rfl (fun _ hk => hk) trivial (of_decide_eq_true (by assumption)) (Nat.le_trans (Nat.mul_le_mul_right _ (of_decide_eq_true (by assumption) : a0_0.toNat ≤ 281474976710656)) (by omega)) (Below.refl _ _) (Nat.le_refl _) ?_; intro v189 w18 ho19 hb hg_ hnew_; clear hg_ hnew_; (first | rw [← Ny188.out] at ho19 | (simp only [Int.reduceToNat] at ho19; rw [← Ny188.out] at ho19)); have HO190 := Za.mk (Kd.R_lower (Zh.R_aftnew ho19 (Kd.S_lt (by (with_reducible repeat (first | apply Kd.S_alloc | apply Kd.S_drewN | apply Kd.S_drew)); exact HO_9.out))) (Zk (by repeat (first | (with_reducible first | exact HB.out | apply zc1 | apply zc2 | apply zc3 | refine zc4 ?_ (by assumption)) | exact HB.out)))); replace HO_9 := Za.mk (Kd.S_elder' (by (with_reducible repeat (first | apply Kd.S_alloc | apply Kd.S_drewN | apply Kd.S_drew)); exact HO_9.out) (Kd.R_base ho19) hb); replace BK184 := Za.mk (Zi (g := gb184) (by (with_reducible repeat (first | apply zb3 | apply zb2 | apply zb1)); exact BK184.out) hb); replace HB := Za.mk (Zm (by repeat (first | (with_reducible first | exact HB.out | apply zc1 | apply zc2 | apply zc3 | refine zc4 ?_ (by assumption)) | exact HB.out)) hb); clear hb ho19; have p16 : 0 ≤ (x10_1 : Int) := of_decide_eq_true (by assumption); have q16 : (x10_1 : Int) < ((x9_1.length : Int) : Int) := of_decide_eq_true (by assumption); obtain ⟨go16, co16, eo16, gb16, gl16, cl16, HG16⟩ := Kd.S_form HO_9.out (by omega); (first | cases eo16 | (injection eo16 with ea_ en_ ec_; (first | subst ea_ | (injection ea_ with ea_; subst ea_)); subst ec_; clear en_)); have GB16 := Za.mk gb16; have GG16 := Za.mk HG16; clear gb16 gl16 HG16; obtain ⟨_, ce16, hcl16, hM16, hcc16, hfr16, _, _⟩ := Kd.S_elem HO_9.out [] (x10_1 : Int) p16 q16; obtain ⟨ve16_0, rfl, ge16_0⟩ := hM16; have hx16_0 := hcc16 0 _ rfl; have hf16_0 := hfr16 0; (try simp only [show ((Kd.slice 4 Kd.bool)).sz = 1 from rfl, Nat.mul_one, Nat.add_zero] at hx16_0); (try simp only [show ((Kd.slice 4 Kd.bool)).sz = 1 from rfl, Nat.mul_one, Nat.add_zero] at hf16_0); (try clear hcl16); (try clear hcc16); (try clear hfr16); (try clear hM16); replace p16 := eq_true p16; replace q16 := eq_true q16; have HX20 := Za.mk (show Kd.S (Kd.slice 4 Kd.bool) 45 w18 w.heap.size (fun k_ => ((fun k_ => k_ ≠ (Zh.aft_ k_ (.slice (some ⟨go16, 0, none⟩) x9_1.length co16)))) k_ ∧ ¬ ((fun k_ => some k_ = (v189 : Value).ownBlock)) k_) (.slice (some ⟨go16, 0, none⟩) x9_1.length co16) x9_1 from (by (with_reducible repeat (first | apply Kd.S_alloc | apply Kd.S_drewN | apply Kd.S_drew)); exact Kd.S_mono HO_9.out (fun k_ hk => ⟨hk.1, fun e_ => hk.2 e_⟩))); obtain ⟨oki20, ce20, hcl20, hM20, hcc20, hfr20, hoki20, hH20⟩ := Kd.S_elem HX20.out [] (x10_1 : Int) (of_decide_eq_true (by assumption)) (by have h_ : (x10_1 : Int) < ((x9_1.length : Int) : Int) := of_decide_eq_true (by assumption); first | exact h_ | (have e_ := (Kd.S_reads' HO_9.out).1; omega) | simpa using h_); obtain ⟨ve20_0, rfl, ge20_0⟩ := hM20; have HP20 := Kd.S_seg hH20 (of_decide_eq_true (by assumption)) (by have h_ : (x10_1 : Int) < ((x9_1.length : Int) : Int) := of_decide_eq_true (by assumption); first | exact h_ | (have e_ := (Kd.S_reads' HO_9.out).1; omega) | simpa using h_) (seg := [v189]) (j := 0) (show 1 ≤ 1 from by decide) (x' := y188) (Kd.M_row (Kd.R_mono (Kd.R_tight rfl (Kd.R_mono (ok' := fun k_ => ((fun k_ => k_ ≠ (Zh.aft_ k_ (.slice (some ⟨go16, 0, none⟩) x9_1.length co16)))) k_ ∧ k_ ≠ go16) (Kd.R_apart' (HO190.out) (Kd.S_typed HO_9.out) (by decide)) (fun k_ hk => ⟨hk.1.2, fun e_ => (hk.2) (by rw [e_]; rfl)⟩))) (fun _ h_ => Or.inr (h_)))) (fun _ hk => hk) (fun k_ hk_ => ((Kd.R_mono (ok' := fun k_ => ((fun k_ => k_ ≠ (Zh.aft_ k_ (.slice (some ⟨go16, 0, none⟩) x9_1.length co16)))) k_ ∧ k_ ≠ go16) (Kd.R_apart' (HO190.out) (Kd.S_typed HO_9.out) (by decide)) (fun k_ hk => ⟨hk.1.2, fun e_ => (hk.2) (by rw [e_]; rfl)⟩))).1 k_ hk_.symm); have hx20_0 := hcc20 0 _ rfl; (try simp only [show ((Kd.slice 4 Kd.bool)).sz = 1 from rfl, Nat.mul_one, Nat.add_zero] at hx20_0); have hf20_0 := hfr20 0; (try simp only [show ((Kd.slice 4 Kd.bool)).sz = 1 from rfl, Nat.mul_one, Nat.add_zero] at hf20_0); (try clear hcl20); (try clear hcc20); (try clear hfr20); (try clear hM20); (try clear hoki20); (try clear hH20); (try simp only [show ((Kd.slice 4 Kd.bool)).sz = 1 from rfl, Nat.mul_one, Nat.add_zero] at HP20)) | ((with_reducible refine gate_store (t := 45) (p := 31) rfl ?_); refine store_event (t := 45) (p := 31) (v := ?vo_w21) (w1 := (w18.setCell ⟨go16, (x10_1 : Int).toNat, none⟩ (v189))) ?hg ?ho ?hn ?hr ?_; (case ho => rfl); (case hg => rfl); (case hn => rfl); (case hr => first | (go_simp; done) | (go_simp; rfl) | (obtain ⟨_, _, rfl⟩ := Kd.R_slice HO190.out; (first | (go_simp; done) | (go_simp; rfl)))); intro w21 hw; have hg : w18.grownBy w21 (some go16) := (by rw [hw]; exact HP20.2); have hp_ : Kd.S (Kd.slice 4 Kd.bool) 45 w21 w.heap.size (fun k_ => k_ ≠ (Zh.aft_ k_ (.slice (some ⟨go16, 0, none⟩) x9_1.length co16))) (.slice (some ⟨go16, 0, none⟩) x9_1.length co16) y191 := (by rw [hw, Ny191.out]; exact HP20.1); clear HP20; replace BK184 := Za.mk (Zf1 (g := gb184) (by (with_reducible repeat (first | apply zb3 | apply zb2 | apply zb1)); exact BK184.out) hg (Kd.S_ne HO_9.out BK184.out (by decide))); replace HO_9 := Za.mk (hp_); replace HB := Za.mk ((by rw [hw]; exact below_set (HB.out) GB16.out : Below w.heap.size w w21)); clear HO190; clear hg hw hp_))
    go_loopg [11] k1 (fun kq v11 w' => ∃ (x9_2 : List (List Bool)) (x11_2 : Int), v11 = .int .i64 x11_2 ∧ Za (Zh.l1 kq a1 a2 a3 x9_2 x10_1 x11_2 a0_0 a0_1 l0_2 a0_3 a0_4 = some r) ∧ Za (kq ≤ k1) ∧ Za (Kd.S (Kd.slice 4 Kd.bool) 45 w' w.heap.size (fun k_ => k_ ≠ (Zh.aft_ k_ (.slice (some ⟨go16, 0, none⟩) x9_1.length co16))) (.slice (some ⟨go16, 0, none⟩) x9_1.length co16) x9_2) ∧ Za (w'.heap[gb184]? = some (.cells #[.int .i64 a0_0, .int .i64 a0_1, (.slice A0_2 l0_2.length c0_2), .int .i64 a0_3, .int .u32 a0_4] 25 (0, 0))) ∧ Za (Below w.heap.size w w'))
    case atStart => exact ⟨(y191), (0), (by first | rfl | (simp; done) | (simp [*]; done)), H', ⟨Nat.le_refl _⟩, ⟨by (with_reducible repeat (first | apply Kd.S_alloc | apply Kd.S_drewN | apply Kd.S_drew)); exact HO_9.out⟩, ⟨by (with_reducible repeat (first | apply zb3 | apply zb2 | apply zb1)); exact BK184.out⟩, ⟨by repeat (first | (with_reducible first | exact HB.out | apply zc1 | apply zc2 | apply zc3 | refine zc4 ?_ (by assumption)) | exact HB.out)⟩⟩
    case round =>
     (clear H'); (try clear c1); (try clear p1); (try clear q1); (try clear hx1); (try clear c2); (try clear p2); (try clear hx2); (try clear c5); (try clear c5b0); (try clear c5b1); (try clear c6); (try clear c6b0); (try clear c6b1); (try clear c11); (try clear c11b0); (try clear c12); (try clear c12b0); (try clear c12b1); (try clear c13); (try clear c13b0); (try clear c13b1); (try clear c14); (try clear c14b0); (try clear c15); (try clear c15b0); (try clear c16); (try clear p16); (try clear q16); (try clear hx16); (try clear hf16); (try clear c20); (try clear hx20); (try clear hf20); (try clear hcz17_0 hcz17_1 hcz17_2 hcz17_3 hcz17_4 hcz8_0 hcz8_1 hcz8_2 hcz8_3 hcz8_4 hfz17_0 hfz17_1 hfz17_2 hfz17_3 hfz17_4 hfz8_0 hfz8_1 hfz8_2 hfz8_3 hfz8_4); (try clear hx16_0); (try clear hx20_0); (try clear p16); (try clear p2); (try clear q16); (obtain ⟨x9_2, x11_2, rfl, HA, HK2, HO_9, BK184, HB⟩ := hrel); (have hl9_2 := (Kd.S_reads' HO_9.out).1); (rw [hl9_2] at HO_9); ((try simp only [hl9_2])); ((try simp only [hl9_2] at BK184))
     cases gk with
     | zero => exact absurd HA.out (by simp [Zh.l1])
     | succ k2 =>
      (have H := HA.out); (clear HA); (simp only [Zh.l1] at H)
      by_cases c22 : x11_2 < a0_0
      rotate_left
      ·rw [if_neg c22] at H
       (have c22b0 : decide (x11_2 < a0_0) = false := decide_eq_false c22); (clear c22); (have H' := Za.mk H); (clear H); (have hcz34_0 : wr.cell? ⟨gb184, 0, none⟩ = some (.int .i64 a0_0) := (Zb BK184.out 0).trans rfl); (have hcz34_1 : wr.cell? ⟨gb184, 1, none⟩ = some (.int .i64 a0_1) := (Zb BK184.out 1).trans rfl); (have hcz34_2 : wr.cell? ⟨gb184, 2, none⟩ = some (.slice A0_2 l0_2.length c0_2) := (Zb BK184.out 2).trans rfl); (have hcz34_3 : wr.cell? ⟨gb184, 3, none⟩ = some (.int .i64 a0_3) := (Zb BK184.out 3).trans rfl); (have hcz34_4 : wr.cell? ⟨gb184, 4, none⟩ = some (.int .u32 a0_4) := (Zb BK184.out 4).trans rfl); (have hfz34_0 := Zc BK184.out 0); (have hfz34_1 := Zc BK184.out 1); (have hfz34_2 := Zc BK184.out 2); (have hfz34_3 := Zc BK184.out 3); (have hfz34_4 := Zc BK184.out 4)
       go_wp2
       (try simp only [← hl9_2])
       go_roundg k2
       case measure => have := HK1.out; have := HK2.out; omega
       case rel => exact ⟨(x9_2), (wrap64 (x10_1 + 1)), (by first | rfl | (simp; done) | (simp [*]; done)), H', ⟨by have := HK1.out; have := HK2.out; omega⟩, ⟨by (try simp only [hl9_2]); (with_reducible repeat (first | apply Kd.S_alloc | apply Kd.S_drewN | apply Kd.S_drew)); exact HO_9.out⟩, ⟨by (try simp only [hl9_2]); (with_reducible repeat (first | apply zb3 | apply zb2 | apply zb1)); exact BK184.out⟩, ⟨by repeat (first | (with_reducible first | exact HB.out | apply zc1 | apply zc2 | apply zc3 | refine zc4 ?_ (by assumption)) | exact HB.out)⟩⟩
      (rw [if_pos c22] at H); (have c22b0 : decide (x11_2 < a0_0) = true := decide_eq_true c22); (clear c22)
      by_cases c23 : 0 ≤ x10_1
      rotate_left
      ·rw [if_neg c23] at H
       exact absurd H (by simp)
      (rw [if_pos c23] at H); (have c23b0 : decide (0 ≤ x10_1) = true := decide_eq_true c23); (clear c23)
      by_cases c24 : x10_1 < (x9_2.length : Int)
      rotate_left
      ·rw [if_neg c24] at H
       exact absurd H (by simp)
      (rw [if_pos c24] at H); (have c24b0 : decide (x10_1 < (x9_2.length : Int)) = true := decide_eq_true c24); ((try (have c24b0h := c24b0; simp only [hl9_2] at c24b0h))); (clear c24); (replace H := Option.bind_eq_some_iff.mp H); (obtain ⟨t193, A250, H⟩ := H); (replace H : ((coppicerref_Bit.f a0_4 x11_2).bind fun t194 => (if 0 ≤ x11_2 then (if x11_2 < ((rd_L4 x9_2 x10_1).length : Int) then (Zh.l1 k2 a1 a2 a3 (x9_2.set (x10_1 : Int).toNat ((rd_L4 x9_2 x10_1).set (x11_2 : Int).toNat (t193 != t194))) x10_1 (wrap64 (x11_2 + 1)) a0_0 a0_1 l0_2 a0_3 a0_4) else (none)) else (none))) = some r := H); (have A25 := Za.mk A250); (clear A250); (replace H := Option.bind_eq_some_iff.mp H); (obtain ⟨t194, A260, H⟩ := H); (replace H : (if 0 ≤ x11_2 then (if x11_2 < ((rd_L4 x9_2 x10_1).length : Int) then (Zh.l1 k2 a1 a2 a3 (x9_2.set (x10_1 : Int).toNat ((rd_L4 x9_2 x10_1).set (x11_2 : Int).toNat (t193 != t194))) x10_1 (wrap64 (x11_2 + 1)) a0_0 a0_1 l0_2 a0_3 a0_4) else (none)) else (none)) = some r := H); (have A26 := Za.mk A260); (clear A260)
      by_cases c27 : 0 ≤ x11_2
      rotate_left
      ·rw [if_neg c27] at H
       exact absurd H (by simp)
      (rw [if_pos c27] at H); (have c27b0 : decide (0 ≤ x11_2) = true := decide_eq_true c27); (clear c27)
      by_cases c28 : x11_2 < ((rd_L4 x9_2 x10_1).length : Int)
      rotate_left
      ·rw [if_neg c28] at H
       exact absurd H (by simp)
      (rw [if_pos c28] at H); (have c28b0 : decide (x11_2 < ((rd_L4 x9_2 x10_1).length : Int)) = true := decide_eq_true c28); ((try (have c28b0h := c28b0; simp only [hl9_2] at c28b0h))); (clear c28); (obtain ⟨y195, hy195⟩ : ∃ y_ : List Bool, y_ = ((rd_L4 x9_2 x10_1).set (x11_2 : Int).toNat (t193 != t194)) := ⟨_, rfl⟩); (replace H : (Zh.l1 k2 a1 a2 a3 (x9_2.set (x10_1 : Int).toNat y195) x10_1 (wrap64 (x11_2 + 1)) a0_0 a0_1 l0_2 a0_3 a0_4) = some r := by first | (rw [hy195]; with_reducible exact H) | (have H2_ := (Option.bind_some _ _).symm.trans H; rw [hy195]; with_reducible exact H2_) | (have H2_ := (Option.bind_some _ _).symm.trans H; with_reducible exact H2_) | with_reducible exact H | (rw [hy195]; exact H) | exact H); (have Ny195 := Za.mk hy195); (clear hy195); (obtain ⟨y197, hy197⟩ : ∃ y_ : List (List Bool), y_ = (x9_2.set (x10_1 : Int).toNat y195) := ⟨_, rfl⟩); (replace H : (Zh.l1 k2 a1 a2 a3 y197 x10_1 (wrap64 (x11_2 + 1)) a0_0 a0_1 l0_2 a0_3 a0_4) = some r := by first | (rw [hy197]; with_reducible exact H) | (have H2_ := (Option.bind_some _ _).symm.trans H; rw [hy197]; with_reducible exact H2_) | (have H2_ := (Option.bind_some _ _).symm.trans H; with_reducible exact H2_) | with_reducible exact H | (rw [hy197]; exact H) | exact H); (have Ny197 := Za.mk hy197); (clear hy197); (have H' := Za.mk H); (clear H); (have hcz30_0 : wr.cell? ⟨gb184, 0, none⟩ = some (.int .i64 a0_0) := (Zb BK184.out 0).trans rfl); (have hcz30_1 : wr.cell? ⟨gb184, 1, none⟩ = some (.int .i64 a0_1) := (Zb BK184.out 1).trans rfl)
      (have hcz30_2 : wr.cell? ⟨gb184, 2, none⟩ = some (.slice A0_2 l0_2.length c0_2) := (Zb BK184.out 2).trans rfl); (have hcz30_3 : wr.cell? ⟨gb184, 3, none⟩ = some (.int .i64 a0_3) := (Zb BK184.out 3).trans rfl); (have hcz30_4 : wr.cell? ⟨gb184, 4, none⟩ = some (.int .u32 a0_4) := (Zb BK184.out 4).trans rfl); (have hfz30_0 := Zc BK184.out 0); (have hfz30_1 := Zc BK184.out 1); (have hfz30_2 := Zc BK184.out 2); (have hfz30_3 := Zc BK184.out 3); (have hfz30_4 := Zc BK184.out 4)
      try go_wp2
      (replace HO_9 := Za.mk (Kd.S_drew HO_9.out)); (replace BK184 := Za.mk (Zl BK184.out)); (replace HB := Za.mk (below_drew1 HB.out)); (have p192 : 0 ≤ (x10_1 : Int) := of_decide_eq_true (by assumption)); (have q192 : x10_1 < (x9_2.length : Int) := of_decide_eq_true (by assumption)); (obtain ⟨ad192, A192_0, c192_0, e192, hx192_0, hl192_0, hi192_0⟩ := at_L4 (Kd.S_reads' HO_9.out).2.2 x10_1 p192 q192); (obtain rfl : (⟨go16, 0, none⟩ : Addr) = ad192 := (by injection e192)); (obtain ⟨ce192, hce192, hMe192, hcc192⟩ := Kd.S_get HO_9.out [] x10_1 p192 (by first | exact q192 | exact of_decide_eq_true (by assumption) | (have e_ := (Kd.S_reads' HO_9.out).1; omega))); (obtain ⟨ve192_0, rfl, ge192_0⟩ := hMe192); (have hv192_0 := hcc192 0 _ rfl); (rw [Nat.add_zero, show ((Kd.slice 4 Kd.bool)).sz = 1 from rfl, Nat.mul_one] at hv192_0); (replace hv192_0 := Option.some.inj (hv192_0.symm.trans hx192_0)); (rw [hv192_0] at ge192_0); (have HL192_0 := Za.mk (show Kd.R Kd.bool 4 _ _ _ _ (rd_L4 x9_2 x10_1) from ge192_0)); (clear hv192_0 ge192_0); (have HX192_0 := Za.mk hx192_0); (clear hcc192 hce192)
      (first | simp only [add_plain] at hx192_0 | simp only [add_at] at hx192_0 | simp only [Addr.add, Nat.zero_add] at hx192_0 | skip)
      (have HR192_0 := Za.mk hi192_0); (have HC192_0 := Za.mk hl192_0); (clear hi192_0 hl192_0); (replace p192 := eq_true p192); (replace q192 := eq_true q192)
      refine start_ (n := 16) (S := fun w' => w'.cell? ⟨gb184, 0, none⟩ = some (.int .i64 a0_0) ∧ w'.cell? ⟨gb184, 1, none⟩ = some (.int .i64 a0_1) ∧ w'.cell? ⟨gb184, 2, none⟩ = some (.slice A0_2 l0_2.length c0_2) ∧ w'.cell? ⟨gb184, 3, none⟩ = some (.int .i64 a0_3) ∧ w'.cell? ⟨gb184, 4, none⟩ = some (.int .u32 a0_4) ∧ w'.cell? ⟨go16, (x10_1).toNat, none⟩ = some (.slice A192_0 (rd_L4 x9_2 x10_1).length c192_0)) (ds := [15]) #[false, false, false, false, false, false, false, false, false, false, false, false, false, false, false, false] (by kernel_rfl) rfl rfl ⟨(Zb BK184.out 0).trans rfl, (Zb BK184.out 1).trans rfl, (Zb BK184.out 2).trans rfl, (Zb BK184.out 3).trans rfl, (Zb BK184.out 4).trans rfl, hx192_0⟩ (fun hHeld => ?_); refine with_tabW Zh.tab9 Zh.bits9 (fun HT_ HW_ => ?_)
      generalize wr.drew = w31 at HO_9 BK184 HB HL192_0 HR192_0 HX192_0 hx192_0 hHeld ⊢
      refine pure_ (i := 0) (N := some 38) (v := ?_) (a' := ?_) #[true, false, false, false, false, false, false, false, false, false, false, false, false, false, false, false] rfl rfl (Zj HT_.out (by kernel_rfl)) (fun _ _ _ h => h) (Or.inl ⟨by rfl, ?_⟩) ?_ ?_
      rotate_left
      ·intro w'
       go_simp
       with_reducible rfl
      rotate_left
      ·simp only [Act.put, List.setIfInBounds_toArray, List.set_cons_zero, List.set_cons_succ, Zg, Zf]
       rfl
      refine pure_ (i := 1) (N := some 39) (v := ?_) (a' := ?_) #[true, true, false, false, false, false, false, false, false, false, false, false, false, false, false, false] rfl rfl (Zj HT_.out (by kernel_rfl)) (fun _ _ _ h => h) (Or.inl ⟨by rfl, ?_⟩) ?_ ?_
      rotate_left
      ·intro w'
       go_simp
       with_reducible rfl
      rotate_left
      ·simp only [Act.put, List.setIfInBounds_toArray, List.set_cons_zero, List.set_cons_succ, Zg, Zf]
       rfl
      refine pure_ (i := 2) (N := some 40) (v := ?_) (a' := ?_) #[true, true, true, false, false, false, false, false, false, false, false, false, false, false, false, false] rfl rfl (Zj HT_.out (by kernel_rfl)) (fun _ _ _ h => h) (Or.inl ⟨by rfl, ?_⟩) ?_ ?_
      rotate_left
      ·intro w'
       go_simp
       with_reducible rfl
      rotate_left
      ·simp only [Act.put, List.setIfInBounds_toArray, List.set_cons_zero, List.set_cons_succ, Zg, Zf]
       rfl
      refine pure_ (i := 4) (N := some 42) (v := ?_) (a' := ?_) #[true, true, true, false, true, false, false, false, false, false, false, false, false, false, false, false] rfl rfl (Zj HT_.out (by kernel_rfl)) (fun _ _ _ h => h) (Or.inl ⟨by rfl, ?_⟩) ?_ ?_
      rotate_left
      ·intro w'
       go_simp
       with_reducible rfl
      rotate_left
      ·simp only [Act.put, List.setIfInBounds_toArray, List.set_cons_zero, List.set_cons_succ, Zg, Zf]
       rfl
      refine pure_ (i := 5) (N := some 43) (v := ?_) (a' := ?_) #[true, true, true, false, true, true, false, false, false, false, false, false, false, false, false, false] rfl rfl (Zj HT_.out (by kernel_rfl)) (fun _ _ _ h => h) (Or.inl ⟨by rfl, ?_⟩) ?_ ?_
      rotate_left
      ·intro w'
       go_simp
       with_reducible rfl
      rotate_left
      ·simp only [Act.put, List.setIfInBounds_toArray, List.set_cons_zero, List.set_cons_succ, Zg, Zf]
       rfl
      refine pure_ (i := 7) (N := some 45) (v := ?_) (a' := ?_) #[true, true, true, false, true, true, false, true, false, false, false, false, false, false, false, false] rfl rfl (Zj HT_.out (by kernel_rfl)) (fun _ _ _ h => h) (Or.inl ⟨by rfl, ?_⟩) ?_ ?_
      rotate_left
      ·intro w'
       go_simp
       with_reducible rfl
      rotate_left
      ·simp only [Act.put, List.setIfInBounds_toArray, List.set_cons_zero, List.set_cons_succ, Zg, Zf]
       rfl
      refine pure_ (i := 9) (N := some 47) (v := ?_) (a' := ?_) #[true, true, true, false, true, true, false, true, false, true, false, false, false, false, false, false] rfl rfl (Zj HT_.out (by kernel_rfl)) (fun _ _ _ h => h) (Or.inl ⟨by rfl, ?_⟩) ?_ ?_
      rotate_left
      ·intro w'
       go_simp
       with_reducible rfl
      rotate_left
      ·simp only [Act.put, List.setIfInBounds_toArray, List.set_cons_zero, List.set_cons_succ, Zg, Zf]
       rfl
      refine pure_ (i := 11) (N := some 49) (v := ?_) (a' := ?_) #[true, true, true, false, true, true, false, true, false, true, false, true, false, false, false, false] rfl rfl (Zj HT_.out (by kernel_rfl)) (fun _ _ _ h => h) (Or.inl ⟨by rfl, ?_⟩) ?_ ?_
      rotate_left
      ·intro w'
       go_simp
       with_reducible rfl
      rotate_left
      ·simp only [Act.put, List.setIfInBounds_toArray, List.set_cons_zero, List.set_cons_succ, Zg, Zf]
       rfl
      refine take_ (i := 3) (N := some 41) (v := ?_) (a' := ?_) #[true, true, true, true, true, true, false, true, false, true, false, true, false, false, false, false] rfl rfl (Zz HT_.out HW_.out (by kernel_rfl)) (fun _ _ _ h => h) (Or.inl ⟨by rfl, ?_⟩) hHeld ?_ ?_
      rotate_left
      ·rintro w' ⟨s0, s1, s2, s3, s4, s5⟩
       go_simp
       with_reducible rfl
      rotate_left
      ·simp only [Act.put, List.setIfInBounds_toArray, List.set_cons_zero, List.set_cons_succ, Zg, Zf]
       rfl
      refine take_ (i := 6) (N := some 44) (v := ?_) (a' := ?_) #[true, true, true, true, true, true, true, true, false, true, false, true, false, false, false, false] rfl rfl (Zz HT_.out HW_.out (by kernel_rfl)) (fun _ _ _ h => h) (Or.inl ⟨by rfl, ?_⟩) hHeld ?_ ?_
      rotate_left
      ·rintro w' ⟨s0, s1, s2, s3, s4, s5⟩
       go_simp
       with_reducible rfl
      rotate_left
      ·simp only [Act.put, List.setIfInBounds_toArray, List.set_cons_zero, List.set_cons_succ, Zg, Zf]
       rfl
      refine take_ (i := 10) (N := some 48) (v := ?_) (a' := ?_) #[true, true, true, true, true, true, true, true, false, true, true, true, false, false, false, false] rfl rfl (Zz HT_.out HW_.out (by kernel_rfl)) (fun _ _ _ h => h) (Or.inl ⟨by rfl, ?_⟩) hHeld ?_ ?_
      rotate_left
      ·rintro w' ⟨s0, s1, s2, s3, s4, s5⟩
       go_simp
       with_reducible rfl
      rotate_left
      ·simp only [Act.put, List.setIfInBounds_toArray, List.set_cons_zero, List.set_cons_succ, Zg, Zf]
       rfl
      refine one_ (i := 8) (N := some 46) #[true, true, true, true, true, true, true, true, true, true, true, true, false, false, false, false] rfl rfl (one_of HT_.out (by kernel_rfl)) (by decide) (fun K hK => ?_)
      refine goes_ Try.func14 (by kernel_rfl) rfl #[.int .u32 a0_4, .int .i64 x10_1] (by rfl) rfl rfl (by (try simp only [List.map_toArray, List.map_cons, List.map_nil]); first | done | rfl | (simp only [List.length_drop, List.length_take]; rfl)) ?_
      with_reducible refine (coppicerref_Bit.calls a0_4 x10_1 t193 _ A25.out).mono ?_
      rintro e w' ⟨rfl, ⟨nd, rfl⟩⟩
      refine ⟨_, rfl, ?_⟩
      refine hK.out _ _ ⟨(Zb BK184.out 0).trans rfl, (Zb BK184.out 1).trans rfl, (Zb BK184.out 2).trans rfl, (Zb BK184.out 3).trans rfl, (Zb BK184.out 4).trans rfl, hHeld.2.2.2.2.2⟩ (fun hHeld => ?_)
      clear hK K
      refine norm_ (a' := ?_) ?_ ?_
      rotate_left
      ·show Act.put _ (some 46) _ = _
       simp only [Act.put, List.setIfInBounds_toArray, List.set_cons_zero, List.set_cons_succ, Zg, Zf]
       rfl
      refine one_ (i := 12) (N := some 50) #[true, true, true, true, true, true, true, true, true, true, true, true, true, false, false, false] rfl rfl (one_of HT_.out (by kernel_rfl)) (by decide) (fun K hK => ?_)
      refine goes_ Try.func14 (by kernel_rfl) rfl #[.int .u32 a0_4, .int .i64 x11_2] (by rfl) rfl rfl (by (try simp only [List.map_toArray, List.map_cons, List.map_nil]); first | done | rfl | (simp only [List.length_drop, List.length_take]; rfl)) ?_
      with_reducible refine (coppicerref_Bit.calls a0_4 x11_2 t194 _ A26.out).mono ?_
      rintro e w' ⟨rfl, ⟨nd, rfl⟩⟩
      refine ⟨_, rfl, ?_⟩
      (have p29 : 0 ≤ (x11_2 : Int) := of_decide_eq_true (by assumption)); (have q29 : (x11_2 : Int) < (((rd_L4 x9_2 x10_1).length : Int) : Int) := of_decide_eq_true (by assumption)); (obtain ⟨go29, co29, eo29, gb29, gl29, cl29, HG29⟩ := Kd.R_form HL192_0.out (by omega))
      (first | cases eo29 | (injection eo29 with ea_ en_ ec_; (first | subst ea_ | (injection ea_ with ea_; subst ea_)); subst ec_; clear en_))
      (have GB29 := Za.mk gb29); (have GG29 := Za.mk HG29); (clear gb29 gl29 HG29); (obtain ⟨hx29_0, hf29_0⟩ := Kd.R_celln false HL192_0.out (x11_2 : Int) p29 q29); (replace p29 := eq_true p29); (replace q29 := eq_true q29); (have hq32 : (x10_1 : Int) < (x9_2.length : Int) := (by have h_ : (x10_1 : Int) < ((x9_2.length : Int) : Int) := of_decide_eq_true (by assumption); first | exact h_ | (have e_ := (Kd.S_reads' HO_9.out).1; omega) | simpa only [List.length_set, List.length_set] using h_)); (obtain ⟨oki32, ce32, hcl32, hM32, hcc32, hok32, hbk32⟩ := Kd.S_borrow HO_9.out [] (x10_1 : Int) (of_decide_eq_true (by assumption)) hq32); (obtain ⟨ve32_0, rfl, ge32_0⟩ := hM32); (have hv32 := hcc32 0 _ rfl); (rw [Nat.add_zero, show ((Kd.slice 4 Kd.bool)).sz = 1 from rfl, Nat.mul_one] at hv32); (replace hv32 := Option.some.inj (hv32.symm.trans HX192_0.out)); (subst hv32); (clear hcc32 hcl32); (replace ge32_0 := (show Kd.R Kd.bool 4 _ _ _ _ (rd_L4 x9_2 x10_1) from ge32_0)); ((try (obtain ⟨hy32_, hz32_⟩ := Kd.R_celln false ge32_0 (x11_2 : Int) (of_decide_eq_true (by assumption)) (by have h_ : (x11_2 : Int) < (((rd_L4 x9_2 x10_1).length : Int) : Int) := of_decide_eq_true (by assumption); first | exact h_ | (have e_ := (Kd.R_reads' HR192_0.out).1; omega) | simpa using h_)))); (have HP32 := Kd.R_putg ge32_0 (x11_2 : Int) (t193 != t194)); (rw [← Ny195.out] at HP32); (have HS32 := hbk32 HP32.2 (fun k_ e_ => by injection e_ with e_; subst e_; exact ge32_0.1 _ rfl) (x' := y195) (Kd.M_row HP32.1)); (rw [← Ny197.out] at HS32); (have HQ32 := Za.mk HS32); (clear HP32 HS32 hbk32 hok32)
      refine hK.out _ _ ⟨(Zb BK184.out 0).trans rfl, (Zb BK184.out 1).trans rfl, (Zb BK184.out 2).trans rfl, (Zb BK184.out 3).trans rfl, (Zb BK184.out 4).trans rfl, hHeld.2.2.2.2.2⟩ (fun hHeld => ?_)
      clear hK K
      refine norm_ (a' := ?_) ?_ ?_
      rotate_left
      ·show Act.put _ (some 50) _ = _
       simp only [Act.put, List.setIfInBounds_toArray, List.set_cons_zero, List.set_cons_succ, Zg, Zf]
       rfl
      refine pure_ (i := 13) (N := some 51) (v := ?_) (a' := ?_) #[true, true, true, true, true, true, true, true, true, true, true, true, true, true, false, false] rfl rfl (Zj HT_.out (by kernel_rfl)) (fun _ _ _ h => h) (Or.inl ⟨by rfl, ?_⟩) ?_ ?_
      rotate_left
      ·intro w'
       go_simp
       with_reducible rfl
      rotate_left
      ·simp only [Act.put, List.setIfInBounds_toArray, List.set_cons_zero, List.set_cons_succ, Zg, Zf]
       rfl
      refine pure_ (i := 14) (N := some 52) (v := ?_) (a' := ?_) #[true, true, true, true, true, true, true, true, true, true, true, true, true, true, true, false] rfl rfl (Zj HT_.out (by kernel_rfl)) (fun _ _ _ h => h) (Or.inl ⟨by rfl, ?_⟩) ?_ ?_
      rotate_left
      ·intro w'
       go_simp
       with_reducible rfl
      rotate_left
      ·simp only [Act.put, List.setIfInBounds_toArray, List.set_cons_zero, List.set_cons_succ, Zg, Zf]
       rfl
      refine last_ (i := 15) (N := none) #[true, true, true, true, true, true, true, true, true, true, true, true, true, true, true, true] rfl rfl (one_of HT_.out (by kernel_rfl)) (by decide) (fun K hK => ?_)
      refine skip_ (w1 := ?_) (by rfl) rfl ?_ ?_
      rotate_left
      ·go_simp
       rfl
      refine hK.out _ _ ?_
      clear hK K
      refine done_ (done_of HT_.out (by kernel_rfl)) ?_
      try go_wp2
      (try simp only [← hl9_2])
      go_roundg k2
      case measure => have := HK1.out; have := HK2.out; omega
      case rel => exact ⟨(y197), (wrap64 (x11_2 + 1)), (by first | rfl | (simp; done) | (simp [*]; done)), H', ⟨by have := HK1.out; have := HK2.out; omega⟩, ⟨by (try simp only [hl9_2]); (with_reducible repeat (first | apply Kd.S_alloc | apply Kd.S_drewN | apply Kd.S_drew)); exact HQ32.out⟩, ⟨by (try simp only [hl9_2]); (with_reducible repeat (first | refine Zq ?_ _ | refine Zl ?_ | refine Zn ?_ _)); refine Za1 ?_ (by have h_ := Kd.R_ne HL192_0.out BK184.out (by decide); intro e_; exact h_ (by rw [e_]; rfl)) _; (with_reducible repeat (first | apply zb3 | apply zb2 | apply zb1)); exact BK184.out⟩, ⟨by repeat (first | (with_reducible first | exact HB.out | apply below_alloc | apply pw_below_drewN | apply below_drew1 | refine below_set ?_ GB29.out | refine below_set ?_ GE184.out) | exact HB.out)⟩⟩
   (rw [if_neg c11] at H); (have c11b0 : decide (x10_1 < a0_0) = false := decide_eq_false c11); (clear c11); (have H' := Za.mk H); (clear H); (have hcz35_0 : wr.cell? ⟨gb184, 0, none⟩ = some (.int .i64 a0_0) := (Zb BK184.out 0).trans rfl); (have hcz35_1 : wr.cell? ⟨gb184, 1, none⟩ = some (.int .i64 a0_1) := (Zb BK184.out 1).trans rfl); (have hcz35_2 : wr.cell? ⟨gb184, 2, none⟩ = some (.slice A0_2 l0_2.length c0_2) := (Zb BK184.out 2).trans rfl); (have hcz35_3 : wr.cell? ⟨gb184, 3, none⟩ = some (.int .i64 a0_3) := (Zb BK184.out 3).trans rfl); (have hcz35_4 : wr.cell? ⟨gb184, 4, none⟩ = some (.int .u32 a0_4) := (Zb BK184.out 4).trans rfl); (have hfz35_0 := Zc BK184.out 0); (have hfz35_1 := Zc BK184.out 1); (have hfz35_2 := Zc BK184.out 2); (have hfz35_3 := Zc BK184.out 3); (have hfz35_4 := Zc BK184.out 4)
   go_wp2
   go_loopg [9, 12] k1 (fun kq v9 v12 w' => ∃ (x9_2 : List (List Bool)) (x12_2 : Int), v12 = .int .i64 x12_2 ∧ Za (Zh.l2 kq a1 a2 a3 x9_2 x12_2 a0_0 a0_1 l0_2 a0_3 a0_4 = some r) ∧ Za (kq ≤ k1) ∧ Za (Kd.S (Kd.slice 4 Kd.bool) 45 w' w.heap.size (fun _ => True) v9 x9_2) ∧ Za (w'.heap[gb184]? = some (.cells #[.int .i64 a0_0, .int .i64 a0_1, (.slice A0_2 l0_2.length c0_2), .int .i64 a0_3, .int .u32 a0_4] 25 (0, 0))) ∧ Za (Below w.heap.size w w'))
   case atStart => exact ⟨(x9_1), (0), (by first | rfl | (simp; done) | (simp [*]; done)), H', ⟨Nat.le_refl _⟩, ⟨by (with_reducible repeat (first | apply Kd.S_alloc | apply Kd.S_drewN | apply Kd.S_drew)); exact Kd.S_mono HO_9.out (fun _ hk => trivial)⟩, ⟨by (with_reducible repeat (first | apply zb3 | apply zb2 | apply zb1)); exact BK184.out⟩, ⟨by repeat (first | (with_reducible first | exact HB.out | apply zc1 | apply zc2 | apply zc3 | refine zc4 ?_ (by assumption)) | exact HB.out)⟩⟩
   case round =>
    (clear H'); (try clear c1); (try clear p1); (try clear q1); (try clear hx1); (try clear c2); (try clear p2); (try clear q2); (try clear hx2); (try clear c3); (try clear q3); (try clear c5); (try clear c5b0); (try clear c5b1); (try clear c6); (try clear c6b0); (try clear c6b1); (try clear p6); (try clear c11); (try clear c11b0); (try clear c12); (try clear c12b0); (try clear c12b1); (try clear c13); (try clear c13b0); (try clear c13b1); (try clear c14); (try clear c14b0); (try clear c15); (try clear c15b0); (try clear c16); (try clear p16); (try clear q16); (try clear hx16); (try clear hf16); (try clear c19); (try clear p19); (try clear q19); (try clear hx19); (try clear c20); (try clear hx20); (try clear hf20); (try clear c22); (try clear c22b0); (try clear c23); (try clear c23b0); (try clear c24); (try clear c24b0); (try clear c27); (try clear c27b0); (try clear c28); (try clear c28b0); (try clear p29); (try clear q29); (try clear hx29); (try clear hf29); (try clear c32); (try clear q32); (try clear hcz17_0 hcz17_1 hcz17_2 hcz17_3 hcz17_4 hcz30_0 hcz30_1 hcz30_2 hcz30_3 hcz30_4 hcz34_0 hcz34_1 hcz34_2 hcz34_3 hcz34_4 hcz35_0 hcz35_1 hcz35_2 hcz35_3 hcz35_4 hcz8_0 hcz8_1 hcz8_2 hcz8_3 hcz8_4 hfz17_0 hfz17_1 hfz17_2 hfz17_3 hfz17_4 hfz30_0 hfz30_1 hfz30_2 hfz30_3 hfz30_4 hfz34_0 hfz34_1 hfz34_2 hfz34_3 hfz34_4 hfz35_0 hfz35_1 hfz35_2 hfz35_3 hfz35_4 hfz8_0 hfz8_1 hfz8_2 hfz8_3 hfz8_4); (try clear hx16_0); (try clear hx192_0); (try clear hx20_0); (try clear hx29_0); (try clear p1); (try clear p16); (try clear p192); (try clear p2); (try clear p29); (try clear q1); (try clear q16); (try clear q192); (try clear q29); (obtain ⟨x9_2, x12_2, rfl, HA, HK2, HO_9, BK184, HB⟩ := hrel)
    cases gk with
    | zero => exact absurd HA.out (by simp [Zh.l2])
    | succ k2 =>
     (have H := HA.out); (clear HA); (simp only [Zh.l2] at H)
     by_cases c36 : x12_2 < a1
     rotate_left
     ·rw [if_neg c36] at H
      (have c36b0 : decide (x12_2 < a1) = false := decide_eq_false c36); (clear c36)
      by_cases c85 : 0 ≤ a2
      rotate_left
      ·rw [if_neg c85] at H
       exact absurd H (by simp)
      (rw [if_pos c85] at H); (have c85b0 : decide (0 ≤ a2) = true := decide_eq_true c85); (clear c85)
      by_cases c86 : a2 < (x9_2.length : Int)
      rotate_left
      ·rw [if_neg c86] at H
       exact absurd H (by simp)
      (rw [if_pos c86] at H); (have c86b0 : decide (a2 < (x9_2.length : Int)) = true := decide_eq_true c86); (clear c86)
      by_cases c87 : 0 ≤ a3
      rotate_left
      ·rw [if_neg c87] at H
       exact absurd H (by simp)
      (rw [if_pos c87] at H); (have c87b0 : decide (0 ≤ a3) = true := decide_eq_true c87); (clear c87)
      by_cases c88 : a3 < ((rd_L4 x9_2 a2).length : Int)
      rotate_left
      ·rw [if_neg c88] at H
       exact absurd H (by simp)
      (rw [if_pos c88] at H); (have c88b0 : decide (a3 < ((rd_L4 x9_2 a2).length : Int)) = true := decide_eq_true c88); (clear c88); (obtain rfl := Option.some.inj H); (obtain ⟨Ao89, co89, eo89⟩ := Kd.S_slice HO_9.out); (subst eo89); (have p198 : 0 ≤ (a2 : Int) := of_decide_eq_true (by assumption)); (have q198 : a2 < (x9_2.length : Int) := of_decide_eq_true (by assumption)); (obtain ⟨ad198, A198_0, c198_0, e198, hx198_0, hl198_0, hi198_0⟩ := at_L4 (Kd.S_reads' HO_9.out).2.2 a2 p198 q198); (cases e198); (obtain ⟨ce198, hce198, hMe198, hcc198⟩ := Kd.S_get HO_9.out [] a2 p198 (by first | exact q198 | exact of_decide_eq_true (by assumption) | (have e_ := (Kd.S_reads' HO_9.out).1; omega))); (obtain ⟨ve198_0, rfl, ge198_0⟩ := hMe198); (have hv198_0 := hcc198 0 _ rfl); (rw [Nat.add_zero, show ((Kd.slice 4 Kd.bool)).sz = 1 from rfl, Nat.mul_one] at hv198_0); (replace hv198_0 := Option.some.inj (hv198_0.symm.trans hx198_0)); (rw [hv198_0] at ge198_0); (have HL198_0 := Za.mk (show Kd.R Kd.bool 4 _ _ _ _ (rd_L4 x9_2 a2) from ge198_0)); (clear hv198_0 ge198_0); (have HX198_0 := Za.mk hx198_0); (clear hcc198 hce198); (have HR198_0 := Za.mk hi198_0); (have HC198_0 := Za.mk hl198_0); (clear hi198_0 hl198_0); (replace p198 := eq_true p198); (replace q198 := eq_true q198); (have p199 : 0 ≤ (a3 : Int) := of_decide_eq_true (by assumption)); (have q199 : a3 < ((rd_L4 x9_2 a2).length : Int) := of_decide_eq_true (by assumption)); (obtain ⟨ad199, e199, hx199_0⟩ := Kd.at_bool (by repeat (first | (with_reducible exact HR198_0.out) | (with_reducible refine Kd.C_alloc ?_ _) | (with_reducible refine Kd.C_drewN ?_ _) | (with_reducible refine Kd.C_drew ?_) | exact HR198_0.out)) a3 p199 q199)
      (cases e199); (replace p199 := eq_true p199); (replace q199 := eq_true q199)
      go_wp2
      go_ret
      exact ⟨by first | rfl | (simp [Zv, Zw] <;> rfl) | (simp [*, Zv, Zw] <;> rfl), by repeat (first | (with_reducible first | exact HB.out | apply zc1 | apply zc2 | apply zc3 | refine zc4 ?_ (by assumption)) | exact HB.out)⟩
     (rw [if_pos c36] at H); (have c36b0 : decide (x12_2 < a1) = true := decide_eq_true c36); (clear c36)
     by_cases c37 : 0 ≤ a0_0
     rotate_left
     ·rw [if_neg c37] at H
      exact absurd H (by simp)
     (rw [if_pos c37] at H); (have c37b0 := eq_true c37); (have c37b1 : decide (0 ≤ a0_0) = true := decide_eq_true c37); (clear c37)
     by_cases c38 : (a0_0 : Int).toNat ≤ 11728124029610
     rotate_left
     ·rw [if_neg c38] at H
      exact absurd H (by simp)
     (rw [if_pos c38] at H); (have c38b0 := eq_true c38); (have c38b1 : decide ((a0_0 : Int).toNat ≤ 11728124029610) = true := decide_eq_true c38); (clear c38); (obtain ⟨y200, hy200⟩ : ∃ y_ : List (List Bool), y_ = (List.replicate (a0_0 : Int).toNat []) := ⟨_, rfl⟩); (replace H : (Zh.l3 k2 a1 a2 a3 x9_2 x12_2 y200 0 a0_0 a0_1 l0_2 a0_3 a0_4) = some r := by first | (rw [hy200]; with_reducible exact H) | (have H2_ := (Option.bind_some _ _).symm.trans H; rw [hy200]; with_reducible exact H2_) | (have H2_ := (Option.bind_some _ _).symm.trans H; with_reducible exact H2_) | with_reducible exact H | (rw [hy200]; exact H) | exact H); (have Ny200 := Za.mk hy200); (clear hy200); (have H' := Za.mk H); (clear H); (have hcz39_0 : wr.cell? ⟨gb184, 0, none⟩ = some (.int .i64 a0_0) := (Zb BK184.out 0).trans rfl); (have hcz39_1 : wr.cell? ⟨gb184, 1, none⟩ = some (.int .i64 a0_1) := (Zb BK184.out 1).trans rfl); (have hcz39_2 : wr.cell? ⟨gb184, 2, none⟩ = some (.slice A0_2 l0_2.length c0_2) := (Zb BK184.out 2).trans rfl); (have hcz39_3 : wr.cell? ⟨gb184, 3, none⟩ = some (.int .i64 a0_3) := (Zb BK184.out 3).trans rfl); (have hcz39_4 : wr.cell? ⟨gb184, 4, none⟩ = some (.int .u32 a0_4) := (Zb BK184.out 4).trans rfl); (have hfz39_0 := Zc BK184.out 0); (have hfz39_1 := Zc BK184.out 1); (have hfz39_2 := Zc BK184.out 2); (have hfz39_3 := Zc BK184.out 3); (have hfz39_4 := Zc BK184.out 4)
     go_wp2_with (first | ((with_reducible refine Zc1 (N := 60) rfl ?_); refine Kd.S_make (Kd.slice 4 Kd.bool) _ 45 rfl (N := 60) rfl 44 _ _ rfl a0_0 rfl rfl Try.underlying44 (.slice none 0 0) 24 info45 rfl (by decide) (by omega) [] (ok := fun k_ => k_ = wr.heap.size) (okp := fun _ => False) ⟨_, rfl, Kd.R_nil _ _ _ _ _⟩ (fun _ hk => hk.elim) rfl (of_decide_eq_true (by assumption)) (Nat.le_trans (Nat.mul_le_mul_right _ (of_decide_eq_true (by assumption) : a0_0.toNat ≤ 11728124029610)) (by omega)) (Below.refl _ _) (Nat.le_refl _) ?_; intro v201 w40 ho41 hb hg_ hnew_; clear hg_ hnew_; (first | rw [← Ny200.out] at ho41 | (simp only [Int.reduceToNat] at ho41; rw [← Ny200.out] at ho41)); have HO202 := Za.mk (Kd.S_lower (Kd.S_new' (Zh.S_aft ho41) (Kd.S_lt (by (with_reducible repeat (first | apply Kd.S_alloc | apply Kd.S_drewN | apply Kd.S_drew)); exact HO_9.out))) (Zk (by repeat (first | (with_reducible first | exact HB.out | apply zc1 | apply zc2 | apply zc3 | refine zc4 ?_ (by assumption)) | exact HB.out)))); replace HO_9 := Za.mk (Zh.S_bef (by (with_reducible repeat (first | apply Kd.S_alloc | apply Kd.S_drewN | apply Kd.S_drew)); exact HO_9.out) (Kd.S_base ho41) hb); replace BK184 := Za.mk (Zi (g := gb184) (by (with_reducible repeat (first | apply zb3 | apply zb2 | apply zb1)); exact BK184.out) hb); replace HB := Za.mk (Zm (by repeat (first | (with_reducible first | exact HB.out | apply zc1 | apply zc2 | apply zc3 | refine zc4 ?_ (by assumption)) | exact HB.out)) hb); clear hb ho41))
     go_loopg [14] k2 (fun kq v14 w' => ∃ (x13_3 : List (List Bool)) (x14_3 : Int), v14 = .int .i64 x14_3 ∧ Za (Zh.l3 kq a1 a2 a3 x9_2 x12_2 x13_3 x14_3 a0_0 a0_1 l0_2 a0_3 a0_4 = some r) ∧ Za (kq ≤ k2) ∧ Za (Kd.S (Kd.slice 4 Kd.bool) 45 w' w.heap.size (fun k_ => some k_ ≠ (v201 : Value).ownBlock ∧ k_ ≠ (Zh.bef_ k_ v201)) u9 x9_2) ∧ Za (Kd.S (Kd.slice 4 Kd.bool) 45 w' w.heap.size (fun k_ => some k_ ≠ (u9 : Value).ownBlock ∧ k_ ≠ (Zh.aft_ k_ v201)) v201 x13_3) ∧ Za (w'.heap[gb184]? = some (.cells #[.int .i64 a0_0, .int .i64 a0_1, (.slice A0_2 l0_2.length c0_2), .int .i64 a0_3, .int .u32 a0_4] 25 (0, 0))) ∧ Za (Below w.heap.size w w'))
     case atStart => exact ⟨(y200), (0), (by first | rfl | (simp; done) | (simp [*]; done)), H', ⟨Nat.le_refl _⟩, ⟨by (with_reducible repeat (first | apply Kd.S_alloc | apply Kd.S_drewN | apply Kd.S_drew)); exact Kd.S_mono HO_9.out (fun _ hk => ⟨hk.1.2, hk.2⟩)⟩, ⟨by (with_reducible repeat (first | apply Kd.S_alloc | apply Kd.S_drewN | apply Kd.S_drew)); exact Kd.S_mono HO202.out (fun _ hk => ⟨hk.2, hk.1⟩)⟩, ⟨by (with_reducible repeat (first | apply zb3 | apply zb2 | apply zb1)); exact BK184.out⟩, ⟨by repeat (first | (with_reducible first | exact HB.out | apply zc1 | apply zc2 | apply zc3 | refine zc4 ?_ (by assumption)) | exact HB.out)⟩⟩
     case round =>
      (clear H'); (try clear c1); (try clear p1); (try clear q1); (try clear hx1); (try clear c2); (try clear p2); (try clear q2); (try clear hx2); (try clear c3); (try clear q3); (try clear c5); (try clear c5b0); (try clear c5b1); (try clear c6); (try clear c6b0); (try clear c6b1); (try clear p6); (try clear c11); (try clear c11b0); (try clear c12); (try clear c12b0); (try clear c12b1); (try clear c13); (try clear c13b0); (try clear c13b1); (try clear c14); (try clear c14b0); (try clear c15); (try clear c15b0); (try clear c16); (try clear p16); (try clear q16); (try clear hx16); (try clear hf16); (try clear c19); (try clear p19); (try clear q19); (try clear hx19); (try clear c20); (try clear hx20); (try clear hf20); (try clear c22); (try clear c22b0); (try clear c23); (try clear c23b0); (try clear c24); (try clear c24b0); (try clear c27); (try clear c27b0); (try clear c28); (try clear c28b0); (try clear p29); (try clear q29); (try clear hx29); (try clear hf29); (try clear c32); (try clear q32); (try clear c36); (try clear c36b0); (try clear c37); (try clear c37b0); (try clear c37b1); (try clear c38); (try clear c38b0); (try clear c38b1); (try clear hcz17_0 hcz17_1 hcz17_2 hcz17_3 hcz17_4 hcz30_0 hcz30_1 hcz30_2 hcz30_3 hcz30_4 hcz34_0 hcz34_1 hcz34_2 hcz34_3 hcz34_4 hcz35_0 hcz35_1 hcz35_2 hcz35_3 hcz35_4 hcz39_0 hcz39_1 hcz39_2 hcz39_3 hcz39_4 hcz8_0 hcz8_1 hcz8_2 hcz8_3 hcz8_4 hfz17_0 hfz17_1 hfz17_2 hfz17_3 hfz17_4 hfz30_0 hfz30_1 hfz30_2 hfz30_3 hfz30_4 hfz34_0 hfz34_1 hfz34_2 hfz34_3 hfz34_4 hfz35_0 hfz35_1 hfz35_2 hfz35_3 hfz35_4 hfz39_0 hfz39_1 hfz39_2 hfz39_3 hfz39_4 hfz8_0 hfz8_1 hfz8_2 hfz8_3 hfz8_4); (try clear hx16_0); (try clear hx192_0); (try clear hx20_0); (try clear hx29_0); (try clear p1); (try clear p16); (try clear p19); (try clear p192); (try clear p2); (try clear p29)
      (try clear p6); (try clear q1); (try clear q16); (try clear q19); (try clear q192); (try clear q2); (try clear q29); (try clear q3); (try clear q32); (obtain ⟨x13_3, x14_3, rfl, HA, HK3, HO_9, HO_13, BK184, HB⟩ := hrel)
      cases gk with
      | zero => exact absurd HA.out (by simp [Zh.l3])
      | succ k3 =>
       (have H := HA.out); (clear HA); (simp only [Zh.l3] at H)
       by_cases c42 : x14_3 < a0_0
       rotate_left
       ·rw [if_neg c42] at H
        (have c42b0 : decide (x14_3 < a0_0) = false := decide_eq_false c42); (clear c42); (have H' := Za.mk H); (clear H); (have hcz84_0 : wr.cell? ⟨gb184, 0, none⟩ = some (.int .i64 a0_0) := (Zb BK184.out 0).trans rfl); (have hcz84_1 : wr.cell? ⟨gb184, 1, none⟩ = some (.int .i64 a0_1) := (Zb BK184.out 1).trans rfl); (have hcz84_2 : wr.cell? ⟨gb184, 2, none⟩ = some (.slice A0_2 l0_2.length c0_2) := (Zb BK184.out 2).trans rfl); (have hcz84_3 : wr.cell? ⟨gb184, 3, none⟩ = some (.int .i64 a0_3) := (Zb BK184.out 3).trans rfl); (have hcz84_4 : wr.cell? ⟨gb184, 4, none⟩ = some (.int .u32 a0_4) := (Zb BK184.out 4).trans rfl); (have hfz84_0 := Zc BK184.out 0); (have hfz84_1 := Zc BK184.out 1); (have hfz84_2 := Zc BK184.out 2); (have hfz84_3 := Zc BK184.out 3); (have hfz84_4 := Zc BK184.out 4)
        go_wp2
        go_roundg k3
        case measure => have := HK1.out; have := HK2.out; have := HK3.out; omega
        case rel => exact ⟨(x13_3), (wrap64 (x12_2 + 1)), (by first | rfl | (simp; done) | (simp [*]; done)), H', ⟨by have := HK1.out; have := HK2.out; have := HK3.out; omega⟩, ⟨by (with_reducible repeat (first | apply Kd.S_alloc | apply Kd.S_drewN | apply Kd.S_drew)); exact Kd.S_mono HO_13.out (fun _ hk => trivial)⟩, ⟨by (with_reducible repeat (first | apply zb3 | apply zb2 | apply zb1)); exact BK184.out⟩, ⟨by repeat (first | (with_reducible first | exact HB.out | apply zc1 | apply zc2 | apply zc3 | refine zc4 ?_ (by assumption)) | exact HB.out)⟩⟩
       (rw [if_pos c42] at H); (have c42b0 : decide (x14_3 < a0_0) = true := decide_eq_true c42); (clear c42)
       by_cases c43 : 0 ≤ a0_0
       rotate_left
       ·rw [if_neg c43] at H
        exact absurd H (by simp)
       (rw [if_pos c43] at H); (have c43b0 := eq_true c43); (have c43b1 : decide (0 ≤ a0_0) = true := decide_eq_true c43); (clear c43)
       by_cases c44 : (a0_0 : Int).toNat ≤ 281474976710656
       rotate_left
       ·rw [if_neg c44] at H
        exact absurd H (by simp)
       (rw [if_pos c44] at H); (have c44b0 := eq_true c44); (have c44b1 : decide ((a0_0 : Int).toNat ≤ 281474976710656) = true := decide_eq_true c44); (clear c44); (obtain ⟨y203, hy203⟩ : ∃ y_ : List Bool, y_ = (List.replicate (a0_0 : Int).toNat false) := ⟨_, rfl⟩); (replace H : (if 0 ≤ x14_3 then (if x14_3 < (x13_3.length : Int) then (Zh.l4 k3 a1 a2 a3 x9_2 x12_2 (x13_3.set (x14_3 : Int).toNat y203) x14_3 0 a0_0 a0_1 l0_2 a0_3 a0_4) else (none)) else (none)) = some r := by first | (rw [hy203]; with_reducible exact H) | (have H2_ := (Option.bind_some _ _).symm.trans H; rw [hy203]; with_reducible exact H2_) | (have H2_ := (Option.bind_some _ _).symm.trans H; with_reducible exact H2_) | with_reducible exact H | (rw [hy203]; exact H) | exact H); (have Ny203 := Za.mk hy203); (clear hy203)
       by_cases c45 : 0 ≤ x14_3
       rotate_left
       ·rw [if_neg c45] at H
        exact absurd H (by simp)
       (rw [if_pos c45] at H); (have c45b0 : decide (0 ≤ x14_3) = true := decide_eq_true c45); (clear c45)
       by_cases c46 : x14_3 < (x13_3.length : Int)
       rotate_left
       ·rw [if_neg c46] at H
        exact absurd H (by simp)
       (rw [if_pos c46] at H); (have c46b0 : decide (x14_3 < (x13_3.length : Int)) = true := decide_eq_true c46); (clear c46); (obtain ⟨y206, hy206⟩ : ∃ y_ : List (List Bool), y_ = (x13_3.set (x14_3 : Int).toNat y203) := ⟨_, rfl⟩); (replace H : (Zh.l4 k3 a1 a2 a3 x9_2 x12_2 y206 x14_3 0 a0_0 a0_1 l0_2 a0_3 a0_4) = some r := by first | (rw [hy206]; with_reducible exact H) | (have H2_ := (Option.bind_some _ _).symm.trans H; rw [hy206]; with_reducible exact H2_) | (have H2_ := (Option.bind_some _ _).symm.trans H; with_reducible exact H2_) | with_reducible exact H | (rw [hy206]; exact H) | exact H); (have Ny206 := Za.mk hy206); (clear hy206); (have H' := Za.mk H); (clear H); (have hcz48_0 : wr.cell? ⟨gb184, 0, none⟩ = some (.int .i64 a0_0) := (Zb BK184.out 0).trans rfl); (have hcz48_1 : wr.cell? ⟨gb184, 1, none⟩ = some (.int .i64 a0_1) := (Zb BK184.out 1).trans rfl); (have hcz48_2 : wr.cell? ⟨gb184, 2, none⟩ = some (.slice A0_2 l0_2.length c0_2) := (Zb BK184.out 2).trans rfl); (have hcz48_3 : wr.cell? ⟨gb184, 3, none⟩ = some (.int .i64 a0_3) := (Zb BK184.out 3).trans rfl); (have hcz48_4 : wr.cell? ⟨gb184, 4, none⟩ = some (.int .u32 a0_4) := (Zb BK184.out 4).trans rfl); (have hfz48_0 := Zc BK184.out 0); (have hfz48_1 := Zc BK184.out 1); (have hfz48_2 := Zc BK184.out 2); (have hfz48_3 := Zc BK184.out 3); (have hfz48_4 := Zc BK184.out 4)
       go_wp2_with (first | ((with_reducible refine Zc1 (N := 71) rfl ?_); refine Kd.R_make Kd.bool _ 4 rfl (N := 71) rfl 45 _ _ rfl a0_0 rfl rfl Try.underlying45 (.bool false) 1 info4 rfl (by decide) (by omega) false (ok := fun _ => True) (okp := fun _ => True) rfl (fun _ hk => hk) trivial (of_decide_eq_true (by assumption)) (Nat.le_trans (Nat.mul_le_mul_right _ (of_decide_eq_true (by assumption) : a0_0.toNat ≤ 281474976710656)) (by omega)) (Below.refl _ _) (Nat.le_refl _) ?_; intro v204 w49 ho50 hb hg_ hnew_; clear hg_ hnew_; (first | rw [← Ny203.out] at ho50 | (simp only [Int.reduceToNat] at ho50; rw [← Ny203.out] at ho50)); replace HO_9 := Za.mk (Kd.S_elder' (by (with_reducible repeat (first | apply Kd.S_alloc | apply Kd.S_drewN | apply Kd.S_drew)); exact HO_9.out) (Kd.R_base ho50) hb); have HO205 := Za.mk (Kd.R_lower (Zh.R_aftnew ho50 (Kd.S_lt (by (with_reducible repeat (first | apply Kd.S_alloc | apply Kd.S_drewN | apply Kd.S_drew)); exact HO_13.out))) (Zk (by repeat (first | (with_reducible first | exact HB.out | apply zc1 | apply zc2 | apply zc3 | refine zc4 ?_ (by assumption)) | exact HB.out)))); replace HO_13 := Za.mk (Kd.S_elder' (by (with_reducible repeat (first | apply Kd.S_alloc | apply Kd.S_drewN | apply Kd.S_drew)); exact HO_13.out) (Kd.R_base ho50) hb); replace BK184 := Za.mk (Zi (g := gb184) (by (with_reducible repeat (first | apply zb3 | apply zb2 | apply zb1)); exact BK184.out) hb); replace HB := Za.mk (Zm (by repeat (first | (with_reducible first | exact HB.out | apply zc1 | apply zc2 | apply zc3 | refine zc4 ?_ (by assumption)) | exact HB.out)) hb); clear hb ho50; have p47 : 0 ≤ (x14_3 : Int) := of_decide_eq_true (by assumption); have q47 : (x14_3 : Int) < ((x13_3.length : Int) : Int) := of_decide_eq_true (by assumption); obtain ⟨go47, co47, eo47, gb47, gl47, cl47, HG47⟩ := Kd.S_form HO_13.out (by omega); (first | cases eo47 | (injection eo47 with ea_ en_ ec_; (first | subst ea_ | (injection ea_ with ea_; subst ea_)); subst ec_; clear en_)); have GB47 := Za.mk gb47; have GG47 := Za.mk HG47; clear gb47 gl47 HG47; obtain ⟨_, ce47, hcl47, hM47, hcc47, hfr47, _, _⟩ := Kd.S_elem HO_13.out [] (x14_3 : Int) p47 q47; obtain ⟨ve47_0, rfl, ge47_0⟩ := hM47; have hx47_0 := hcc47 0 _ rfl; have hf47_0 := hfr47 0; (try simp only [show ((Kd.slice 4 Kd.bool)).sz = 1 from rfl, Nat.mul_one, Nat.add_zero] at hx47_0); (try simp only [show ((Kd.slice 4 Kd.bool)).sz = 1 from rfl, Nat.mul_one, Nat.add_zero] at hf47_0); (try clear hcl47); (try clear hcc47); (try clear hfr47); (try clear hM47); replace p47 := eq_true p47; replace q47 := eq_true q47; have n_ := Za.mk (Kd.S_mono (ok' := (fun k_ => some k_ ≠ (u9 : Value).ownBlock ∧ some k_ ≠ (v204 : Value).ownBlock ∧ k_ ≠ (Zh.aft_ k_ (.slice (some ⟨go47, 0, none⟩) x13_3.length co47)))) HO_13.out (fun k_ hk => ⟨hk.1.1, ⟨hk.2, hk.1.2⟩⟩)); clear HO_13; have HO_13 := n_; clear n_; have HX51 := Za.mk (show Kd.S (Kd.slice 4 Kd.bool) 45 w49 w.heap.size (fun k_ => ((fun k_ => some k_ ≠ (u9 : Value).ownBlock ∧ k_ ≠ (Zh.aft_ k_ (.slice (some ⟨go47, 0, none⟩) x13_3.length co47)))) k_ ∧ ¬ ((fun k_ => some k_ = (v204 : Value).ownBlock)) k_) (.slice (some ⟨go47, 0, none⟩) x13_3.length co47) x13_3 from (by (with_reducible repeat (first | apply Kd.S_alloc | apply Kd.S_drewN | apply Kd.S_drew)); exact Kd.S_mono HO_13.out (fun k_ hk => ⟨⟨hk.1, hk.2.2⟩, fun e_ => hk.2.1 e_⟩))); obtain ⟨oki51, ce51, hcl51, hM51, hcc51, hfr51, hoki51, hH51⟩ := Kd.S_elem HX51.out [] (x14_3 : Int) (of_decide_eq_true (by assumption)) (by have h_ : (x14_3 : Int) < ((x13_3.length : Int) : Int) := of_decide_eq_true (by assumption); first | exact h_ | (have e_ := (Kd.S_reads' HO_13.out).1; omega) | simpa using h_); obtain ⟨ve51_0, rfl, ge51_0⟩ := hM51; have HP51 := Kd.S_seg hH51 (of_decide_eq_true (by assumption)) (by have h_ : (x14_3 : Int) < ((x13_3.length : Int) : Int) := of_decide_eq_true (by assumption); first | exact h_ | (have e_ := (Kd.S_reads' HO_13.out).1; omega) | simpa using h_) (seg := [v204]) (j := 0) (show 1 ≤ 1 from by decide) (x' := y203) (Kd.M_row (Kd.R_mono (Kd.R_tight rfl (Kd.R_mono (ok' := fun k_ => ((fun k_ => some k_ ≠ (u9 : Value).ownBlock ∧ k_ ≠ (Zh.aft_ k_ (.slice (some ⟨go47, 0, none⟩) x13_3.length co47)))) k_ ∧ k_ ≠ go47) (Kd.R_apart' (Kd.R_apart' (HO205.out) (Kd.S_typed HO_9.out) (by decide)) (Kd.S_typed HO_13.out) (by decide)) (fun k_ hk => ⟨⟨hk.1.2, hk.1.1.2⟩, fun e_ => (hk.2) (by rw [e_]; rfl)⟩))) (fun _ h_ => Or.inr (h_)))) (fun _ hk => hk) (fun k_ hk_ => ((Kd.R_mono (ok' := fun k_ => ((fun k_ => some k_ ≠ (u9 : Value).ownBlock ∧ k_ ≠ (Zh.aft_ k_ (.slice (some ⟨go47, 0, none⟩) x13_3.length co47)))) k_ ∧ k_ ≠ go47) (Kd.R_apart' (Kd.R_apart' (HO205.out) (Kd.S_typed HO_9.out) (by decide)) (Kd.S_typed HO_13.out) (by decide)) (fun k_ hk => ⟨⟨hk.1.2, hk.1.1.2⟩, fun e_ => (hk.2) (by rw [e_]; rfl)⟩))).1 k_ hk_.symm); have hx51_0 := hcc51 0 _ rfl; (try simp only [show ((Kd.slice 4 Kd.bool)).sz = 1 from rfl, Nat.mul_one, Nat.add_zero] at hx51_0); have hf51_0 := hfr51 0; (try simp only [show ((Kd.slice 4 Kd.bool)).sz = 1 from rfl, Nat.mul_one, Nat.add_zero] at hf51_0); (try clear hcl51); (try clear hcc51); (try clear hfr51); (try clear hM51); (try clear hoki51); (try clear hH51); (try simp only [show ((Kd.slice 4 Kd.bool)).sz = 1 from rfl, Nat.mul_one, Nat.add_zero] at HP51)) | ((with_reducible refine gate_store (t := 45) (p := 72) rfl ?_); refine store_event (t := 45) (p := 72) (v := ?vo_w52) (w1 := (w49.setCell ⟨go47, (x14_3 : Int).toNat, none⟩ (v204))) ?hg ?ho ?hn ?hr ?_; (case ho => rfl); (case hg => rfl); (case hn => rfl); (case hr => first | (go_simp; done) | (go_simp; rfl) | (obtain ⟨_, _, rfl⟩ := Kd.R_slice HO205.out; (first | (go_simp; done) | (go_simp; rfl)))); intro w52 hw; have hg : w49.grownBy w52 (some go47) := (by rw [hw]; exact HP51.2); have hp_ : Kd.S (Kd.slice 4 Kd.bool) 45 w52 w.heap.size (fun k_ => some k_ ≠ (u9 : Value).ownBlock ∧ k_ ≠ (Zh.aft_ k_ (.slice (some ⟨go47, 0, none⟩) x13_3.length co47))) (.slice (some ⟨go47, 0, none⟩) x13_3.length co47) y206 := (by rw [hw, Ny206.out]; exact HP51.1); clear HP51; replace HO_9 := Za.mk (Kd.S_after (v := (.slice (some ⟨go47, 0, none⟩) x13_3.length co47)) (v1 := (.slice (some ⟨go47, 0, none⟩) x13_3.length co47)) (ok := (fun k_ => some k_ ≠ (v204 : Value).ownBlock ∧ k_ ≠ (Zh.bef_ k_ (.slice (some ⟨go47, 0, none⟩) x13_3.length co47)))) (by (with_reducible repeat (first | apply Kd.S_alloc | apply Kd.S_drewN | apply Kd.S_drew)); exact Kd.S_mono HO_9.out (fun _ hk => ⟨⟨hk.2, hk.1.2⟩, hk.1.1⟩)) hg (.inl rfl)); replace BK184 := Za.mk (Zf1 (g := gb184) (by (with_reducible repeat (first | apply zb3 | apply zb2 | apply zb1)); exact BK184.out) hg (Kd.S_ne HO_13.out BK184.out (by decide))); replace HO_13 := Za.mk (hp_); replace HB := Za.mk ((by rw [hw]; exact below_set (HB.out) GB47.out : Below w.heap.size w w52)); clear HO205; clear hg hw hp_))
       go_loopg [15] k3 (fun kq v15 w' => ∃ (x13_4 : List (List Bool)) (x15_4 : Int), v15 = .int .i64 x15_4 ∧ Za (Zh.l4 kq a1 a2 a3 x9_2 x12_2 x13_4 x14_3 x15_4 a0_0 a0_1 l0_2 a0_3 a0_4 = some r) ∧ Za (kq ≤ k3) ∧ Za (Kd.S (Kd.slice 4 Kd.bool) 45 w' w.heap.size (fun k_ => some k_ ≠ ((.slice (some ⟨go47, 0, none⟩) x13_3.length co47) : Value).ownBlock ∧ k_ ≠ (Zh.bef_ k_ (.slice (some ⟨go47, 0, none⟩) x13_3.length co47))) u9 x9_2) ∧ Za (Kd.S (Kd.slice 4 Kd.bool) 45 w' w.heap.size (fun k_ => some k_ ≠ (u9 : Value).ownBlock ∧ k_ ≠ (Zh.aft_ k_ (.slice (some ⟨go47, 0, none⟩) x13_3.length co47))) (.slice (some ⟨go47, 0, none⟩) x13_3.length co47) x13_4) ∧ Za (w'.heap[gb184]? = some (.cells #[.int .i64 a0_0, .int .i64 a0_1, (.slice A0_2 l0_2.length c0_2), .int .i64 a0_3, .int .u32 a0_4] 25 (0, 0))) ∧ Za (Below w.heap.size w w'))
       case atStart => exact ⟨(y206), (0), (by first | rfl | (simp; done) | (simp [*]; done)), H', ⟨Nat.le_refl _⟩, ⟨by (with_reducible repeat (first | apply Kd.S_alloc | apply Kd.S_drewN | apply Kd.S_drew)); exact Kd.S_mono HO_9.out (fun _ hk => ⟨hk.2, hk.1.2⟩)⟩, ⟨by (with_reducible repeat (first | apply Kd.S_alloc | apply Kd.S_drewN | apply Kd.S_drew)); exact HO_13.out⟩, ⟨by (with_reducible repeat (first | apply zb3 | apply zb2 | apply zb1)); exact BK184.out⟩, ⟨by repeat (first | (with_reducible first | exact HB.out | apply zc1 | apply zc2 | apply zc3 | refine zc4 ?_ (by assumption)) | exact HB.out)⟩⟩
       case round =>
        (clear H'); (try clear c1); (try clear p1); (try clear q1); (try clear hx1); (try clear c2); (try clear p2); (try clear q2); (try clear hx2); (try clear c3); (try clear q3); (try clear c4); (try clear p4); (try clear q4); (try clear hx4); (try clear hf4); (try clear c5); (try clear c5b0); (try clear c5b1); (try clear hx5); (try clear hf5); (try clear c6); (try clear c6b0); (try clear c6b1); (try clear p6); (try clear c11); (try clear c11b0); (try clear c12); (try clear c12b0); (try clear c12b1); (try clear c13); (try clear c13b0); (try clear c13b1); (try clear c14); (try clear c14b0); (try clear c15); (try clear c15b0); (try clear c16); (try clear p16); (try clear q16); (try clear hx16); (try clear hf16); (try clear c19); (try clear p19); (try clear q19); (try clear hx19); (try clear c20); (try clear hx20); (try clear hf20); (try clear c22); (try clear c22b0); (try clear c23); (try clear c23b0); (try clear c24); (try clear c24b0); (try clear c27); (try clear c27b0); (try clear c28); (try clear c28b0); (try clear p29); (try clear q29); (try clear hx29); (try clear hf29); (try clear c32); (try clear q32); (try clear c36); (try clear c36b0); (try clear c37); (try clear c37b0); (try clear c37b1); (try clear c38); (try clear c38b0); (try clear c38b1); (try clear c42); (try clear c42b0); (try clear c43); (try clear c43b0); (try clear c43b1); (try clear c44); (try clear c44b0); (try clear c44b1); (try clear c45); (try clear c45b0); (try clear c46); (try clear c46b0); (try clear c47); (try clear p47); (try clear q47); (try clear hx47); (try clear hf47); (try clear c51); (try clear hx51); (try clear hf51); (try clear hcz17_0 hcz17_1 hcz17_2 hcz17_3 hcz17_4 hcz30_0 hcz30_1 hcz30_2 hcz30_3 hcz30_4 hcz34_0 hcz34_1 hcz34_2 hcz34_3 hcz34_4 hcz35_0 hcz35_1 hcz35_2 hcz35_3 hcz35_4 hcz39_0 hcz39_1 hcz39_2 hcz39_3 hcz39_4 hcz48_0 hcz48_1 hcz48_2 hcz48_3 hcz48_4 hcz8_0 hcz8_1 hcz8_2 hcz8_3 hcz8_4 hfz17_0 hfz17_1 hfz17_2 hfz17_3 hfz17_4 hfz30_0 hfz30_1 hfz30_2 hfz30_3 hfz30_4 hfz34_0 hfz34_1 hfz34_2 hfz34_3 hfz34_4 hfz35_0 hfz35_1 hfz35_2 hfz35_3 hfz35_4 hfz39_0 hfz39_1 hfz39_2 hfz39_3 hfz39_4 hfz48_0 hfz48_1 hfz48_2 hfz48_3 hfz48_4 hfz8_0 hfz8_1 hfz8_2 hfz8_3 hfz8_4)
        (try clear hx16_0); (try clear hx192_0); (try clear hx20_0); (try clear hx29_0); (try clear hx47_0); (try clear hx51_0); (try clear p1); (try clear p16); (try clear p19); (try clear p192); (try clear p2); (try clear p29); (try clear p47); (try clear p6); (try clear q1); (try clear q16); (try clear q19); (try clear q192); (try clear q2); (try clear q29); (try clear q3); (try clear q32); (try clear q47); (obtain ⟨x13_4, x15_4, rfl, HA, HK4, HO_9, HO_13, BK184, HB⟩ := hrel); (have hl13_4 := (Kd.S_reads' HO_13.out).1); (rw [hl13_4] at HO_13); ((try simp only [hl13_4])); ((try simp only [hl13_4] at BK184)); ((try simp only [hl13_4] at HO_9))
        cases gk with
        | zero => exact absurd HA.out (by simp [Zh.l4])
        | succ k4 =>
         (have H := HA.out); (clear HA); (simp only [Zh.l4] at H)
         by_cases c53 : x15_4 < a0_0
         rotate_left
         ·rw [if_neg c53] at H
          (have c53b0 : decide (x15_4 < a0_0) = false := decide_eq_false c53); (clear c53); (have H' := Za.mk H); (clear H); (have hcz83_0 : wr.cell? ⟨gb184, 0, none⟩ = some (.int .i64 a0_0) := (Zb BK184.out 0).trans rfl); (have hcz83_1 : wr.cell? ⟨gb184, 1, none⟩ = some (.int .i64 a0_1) := (Zb BK184.out 1).trans rfl); (have hcz83_2 : wr.cell? ⟨gb184, 2, none⟩ = some (.slice A0_2 l0_2.length c0_2) := (Zb BK184.out 2).trans rfl); (have hcz83_3 : wr.cell? ⟨gb184, 3, none⟩ = some (.int .i64 a0_3) := (Zb BK184.out 3).trans rfl); (have hcz83_4 : wr.cell? ⟨gb184, 4, none⟩ = some (.int .u32 a0_4) := (Zb BK184.out 4).trans rfl); (have hfz83_0 := Zc BK184.out 0); (have hfz83_1 := Zc BK184.out 1); (have hfz83_2 := Zc BK184.out 2); (have hfz83_3 := Zc BK184.out 3); (have hfz83_4 := Zc BK184.out 4)
          go_wp2
          (try simp only [← hl13_4])
          go_roundg k4
          case measure => have := HK1.out; have := HK2.out; have := HK3.out; have := HK4.out; omega
          case rel => exact ⟨(x13_4), (wrap64 (x14_3 + 1)), (by first | rfl | (simp; done) | (simp [*]; done)), H', ⟨by have := HK1.out; have := HK2.out; have := HK3.out; have := HK4.out; omega⟩, ⟨by (try simp only [hl13_4]); (with_reducible repeat (first | apply Kd.S_alloc | apply Kd.S_drewN | apply Kd.S_drew)); exact HO_9.out⟩, ⟨by (try simp only [hl13_4]); (with_reducible repeat (first | apply Kd.S_alloc | apply Kd.S_drewN | apply Kd.S_drew)); exact HO_13.out⟩, ⟨by (try simp only [hl13_4]); (with_reducible repeat (first | apply zb3 | apply zb2 | apply zb1)); exact BK184.out⟩, ⟨by repeat (first | (with_reducible first | exact HB.out | apply zc1 | apply zc2 | apply zc3 | refine zc4 ?_ (by assumption)) | exact HB.out)⟩⟩
         (rw [if_pos c53] at H); (have c53b0 : decide (x15_4 < a0_0) = true := decide_eq_true c53); (clear c53); (have H' := Za.mk H); (clear H); (have hcz54_0 : wr.cell? ⟨gb184, 0, none⟩ = some (.int .i64 a0_0) := (Zb BK184.out 0).trans rfl); (have hcz54_1 : wr.cell? ⟨gb184, 1, none⟩ = some (.int .i64 a0_1) := (Zb BK184.out 1).trans rfl); (have hcz54_2 : wr.cell? ⟨gb184, 2, none⟩ = some (.slice A0_2 l0_2.length c0_2) := (Zb BK184.out 2).trans rfl); (have hcz54_3 : wr.cell? ⟨gb184, 3, none⟩ = some (.int .i64 a0_3) := (Zb BK184.out 3).trans rfl); (have hcz54_4 : wr.cell? ⟨gb184, 4, none⟩ = some (.int .u32 a0_4) := (Zb BK184.out 4).trans rfl); (have hfz54_0 := Zc BK184.out 0); (have hfz54_1 := Zc BK184.out 1); (have hfz54_2 := Zc BK184.out 2); (have hfz54_3 := Zc BK184.out 3); (have hfz54_4 := Zc BK184.out 4)
         go_wp2
         go_loopg [16] k4 (fun kq v16 w' => ∃ (x13_5 : List (List Bool)) (x16_5 : Int), v16 = .int .i64 x16_5 ∧ Za (Zh.l5 kq a1 a2 a3 x9_2 x12_2 x13_5 x14_3 x15_4 x16_5 a0_0 a0_1 l0_2 a0_3 a0_4 = some r) ∧ Za (kq ≤ k4) ∧ Za (Kd.S (Kd.slice 4 Kd.bool) 45 w' w.heap.size (fun k_ => some k_ ≠ ((.slice (some ⟨go47, 0, none⟩) x13_4.length co47) : Value).ownBlock ∧ k_ ≠ (Zh.bef_ k_ (.slice (some ⟨go47, 0, none⟩) x13_4.length co47))) u9 x9_2) ∧ Za (Kd.S (Kd.slice 4 Kd.bool) 45 w' w.heap.size (fun k_ => some k_ ≠ (u9 : Value).ownBlock ∧ k_ ≠ (Zh.aft_ k_ (.slice (some ⟨go47, 0, none⟩) x13_4.length co47))) (.slice (some ⟨go47, 0, none⟩) x13_4.length co47) x13_5) ∧ Za (w'.heap[gb184]? = some (.cells #[.int .i64 a0_0, .int .i64 a0_1, (.slice A0_2 l0_2.length c0_2), .int .i64 a0_3, .int .u32 a0_4] 25 (0, 0))) ∧ Za (Below w.heap.size w w'))
         case atStart => exact ⟨(x13_4), (0), (by first | rfl | (simp; done) | (simp [*]; done)), H', ⟨Nat.le_refl _⟩, ⟨by (try simp only [hl13_4]); (with_reducible repeat (first | apply Kd.S_alloc | apply Kd.S_drewN | apply Kd.S_drew)); exact HO_9.out⟩, ⟨by (try simp only [hl13_4]); (with_reducible repeat (first | apply Kd.S_alloc | apply Kd.S_drewN | apply Kd.S_drew)); exact HO_13.out⟩, ⟨by (try simp only [hl13_4]); (with_reducible repeat (first | apply zb3 | apply zb2 | apply zb1)); exact BK184.out⟩, ⟨by repeat (first | (with_reducible first | exact HB.out | apply zc1 | apply zc2 | apply zc3 | refine zc4 ?_ (by assumption)) | exact HB.out)⟩⟩
         case round =>
          (clear H'); (try clear c1); (try clear p1); (try clear q1); (try clear hx1); (try clear c2); (try clear p2); (try clear q2); (try clear hx2); (try clear c3); (try clear q3); (try clear c4); (try clear p4); (try clear q4); (try clear hx4); (try clear hf4); (try clear c5); (try clear c5b0); (try clear c5b1); (try clear hx5); (try clear hf5); (try clear c6); (try clear c6b0); (try clear c6b1); (try clear p6); (try clear c11); (try clear c11b0); (try clear c12); (try clear c12b0); (try clear c12b1); (try clear c13); (try clear c13b0); (try clear c13b1); (try clear c14); (try clear c14b0); (try clear c15); (try clear c15b0); (try clear c16); (try clear p16); (try clear q16); (try clear hx16); (try clear hf16); (try clear c19); (try clear p19); (try clear q19); (try clear hx19); (try clear c20); (try clear hx20); (try clear hf20); (try clear c22); (try clear c22b0); (try clear c23); (try clear c23b0); (try clear c24); (try clear c24b0); (try clear c27); (try clear c27b0); (try clear c28); (try clear c28b0); (try clear p29); (try clear q29); (try clear hx29); (try clear hf29); (try clear c32); (try clear q32); (try clear c36); (try clear c36b0); (try clear c37); (try clear c37b0); (try clear c37b1); (try clear c38); (try clear c38b0); (try clear c38b1); (try clear c42); (try clear c42b0); (try clear c43); (try clear c43b0); (try clear c43b1); (try clear c44); (try clear c44b0); (try clear c44b1); (try clear c45); (try clear c45b0); (try clear c46); (try clear c46b0); (try clear c47); (try clear p47); (try clear q47); (try clear hx47); (try clear hf47); (try clear c51); (try clear hx51); (try clear hf51); (try clear c53); (try clear c53b0); (try clear hcz17_0 hcz17_1 hcz17_2 hcz17_3 hcz17_4 hcz30_0 hcz30_1 hcz30_2 hcz30_3 hcz30_4 hcz34_0 hcz34_1 hcz34_2 hcz34_3 hcz34_4 hcz35_0 hcz35_1 hcz35_2 hcz35_3 hcz35_4 hcz39_0 hcz39_1 hcz39_2 hcz39_3 hcz39_4 hcz48_0 hcz48_1 hcz48_2 hcz48_3 hcz48_4 hcz54_0 hcz54_1 hcz54_2 hcz54_3 hcz54_4 hcz8_0 hcz8_1 hcz8_2 hcz8_3 hcz8_4 hfz17_0 hfz17_1 hfz17_2 hfz17_3 hfz17_4 hfz30_0 hfz30_1 hfz30_2 hfz30_3 hfz30_4 hfz34_0 hfz34_1 hfz34_2 hfz34_3 hfz34_4 hfz35_0 hfz35_1 hfz35_2 hfz35_3 hfz35_4 hfz39_0 hfz39_1 hfz39_2 hfz39_3 hfz39_4 hfz48_0 hfz48_1 hfz48_2 hfz48_3 hfz48_4 hfz54_0 hfz54_1 hfz54_2 hfz54_3 hfz54_4 hfz8_0 hfz8_1 hfz8_2 hfz8_3 hfz8_4)
          (try clear hx16_0); (try clear hx192_0); (try clear hx20_0); (try clear hx29_0); (try clear hx47_0); (try clear hx51_0); (try clear p1); (try clear p16); (try clear p19); (try clear p192); (try clear p2); (try clear p29); (try clear p4); (try clear p47); (try clear p6); (try clear q1); (try clear q16); (try clear q19); (try clear q192); (try clear q2); (try clear q29); (try clear q3); (try clear q32); (try clear q4); (try clear q47); (obtain ⟨x13_5, x16_5, rfl, HA, HK5, HO_9, HO_13, BK184, HB⟩ := hrel); (have hl13_5 := (Kd.S_reads' HO_13.out).1); (rw [hl13_5] at HO_13); ((try simp only [hl13_5])); ((try simp only [hl13_5] at BK184)); ((try simp only [hl13_5] at HO_9))
          cases gk with
          | zero => exact absurd HA.out (by simp [Zh.l5])
          | succ k5 =>
           (have H := HA.out); (clear HA); (simp only [Zh.l5] at H)
           by_cases c55 : x16_5 < a0_1
           rotate_left
           ·rw [if_neg c55] at H
            (have c55b0 : decide (x16_5 < a0_1) = false := decide_eq_false c55); (clear c55); (have H' := Za.mk H); (clear H); (have hcz82_0 : wr.cell? ⟨gb184, 0, none⟩ = some (.int .i64 a0_0) := (Zb BK184.out 0).trans rfl); (have hcz82_1 : wr.cell? ⟨gb184, 1, none⟩ = some (.int .i64 a0_1) := (Zb BK184.out 1).trans rfl); (have hcz82_2 : wr.cell? ⟨gb184, 2, none⟩ = some (.slice A0_2 l0_2.length c0_2) := (Zb BK184.out 2).trans rfl); (have hcz82_3 : wr.cell? ⟨gb184, 3, none⟩ = some (.int .i64 a0_3) := (Zb BK184.out 3).trans rfl); (have hcz82_4 : wr.cell? ⟨gb184, 4, none⟩ = some (.int .u32 a0_4) := (Zb BK184.out 4).trans rfl); (have hfz82_0 := Zc BK184.out 0); (have hfz82_1 := Zc BK184.out 1); (have hfz82_2 := Zc BK184.out 2); (have hfz82_3 := Zc BK184.out 3); (have hfz82_4 := Zc BK184.out 4)
            go_wp2
            (try simp only [← hl13_4, ← hl13_5])
            go_roundg k5
            case measure => have := HK1.out; have := HK2.out; have := HK3.out; have := HK4.out; have := HK5.out; omega
            case rel => exact ⟨(x13_5), (wrap64 (x15_4 + 1)), (by first | rfl | (simp; done) | (simp [*]; done)), H', ⟨by have := HK1.out; have := HK2.out; have := HK3.out; have := HK4.out; have := HK5.out; omega⟩, ⟨by (try simp only [hl13_4]); (try simp only [hl13_5]); (with_reducible repeat (first | apply Kd.S_alloc | apply Kd.S_drewN | apply Kd.S_drew)); exact HO_9.out⟩, ⟨by (try simp only [hl13_4]); (try simp only [hl13_5]); (with_reducible repeat (first | apply Kd.S_alloc | apply Kd.S_drewN | apply Kd.S_drew)); exact HO_13.out⟩, ⟨by (try simp only [hl13_4]); (try simp only [hl13_5]); (with_reducible repeat (first | apply zb3 | apply zb2 | apply zb1)); exact BK184.out⟩, ⟨by repeat (first | (with_reducible first | exact HB.out | apply zc1 | apply zc2 | apply zc3 | refine zc4 ?_ (by assumption)) | exact HB.out)⟩⟩
           (rw [if_pos c55] at H); (have c55b0 : decide (x16_5 < a0_1) = true := decide_eq_true c55); (clear c55)
           by_cases c56 : 0 ≤ x14_3
           rotate_left
           ·rw [if_neg c56] at H
            exact absurd H (by simp)
           (rw [if_pos c56] at H); (have c56b0 : decide (0 ≤ x14_3) = true := decide_eq_true c56); (clear c56)
           by_cases c57 : x14_3 < (x13_5.length : Int)
           rotate_left
           ·rw [if_neg c57] at H
            exact absurd H (by simp)
           (rw [if_pos c57] at H); (have c57b0 : decide (x14_3 < (x13_5.length : Int)) = true := decide_eq_true c57); ((try (have c57b0h := c57b0; simp only [hl13_4, hl13_5] at c57b0h))); (clear c57)
           by_cases c58 : 0 ≤ x15_4
           rotate_left
           ·rw [if_neg c58] at H
            exact absurd H (by simp)
           (rw [if_pos c58] at H); (have c58b0 : decide (0 ≤ x15_4) = true := decide_eq_true c58); (clear c58)
           by_cases c59 : x15_4 < ((rd_L4 x13_5 x14_3).length : Int)
           rotate_left
           ·rw [if_neg c59] at H
            exact absurd H (by simp)
           (rw [if_pos c59] at H); (have c59b0 : decide (x15_4 < ((rd_L4 x13_5 x14_3).length : Int)) = true := decide_eq_true c59); ((try (have c59b0h := c59b0; simp only [hl13_4, hl13_5] at c59b0h))); (clear c59); (obtain ⟨bq60, hbq60⟩ : ∃ b_ : Bool, b_ = (rdOf false (rd_L4 x13_5 x14_3) x15_4) := ⟨_, rfl⟩); (replace H : (if bq60 = true then (Zh.l5 k5 a1 a2 a3 x9_2 x12_2 (x13_5.set (x14_3 : Int).toNat ((rd_L4 x13_5 x14_3).set (x15_4 : Int).toNat true)) x14_3 x15_4 (wrap64 (x16_5 + 1)) a0_0 a0_1 l0_2 a0_3 a0_4) else (if x14_3 < (l0_2.length : Int) then (if 0 ≤ x16_5 then (if x16_5 < ((Zd l0_2 x14_3).length : Int) then (if 0 ≤ (rd (Zd l0_2 x14_3) x16_5) then (if (rd (Zd l0_2 x14_3) x16_5) < (x9_2.length : Int) then (if x15_4 < (l0_2.length : Int) then (if x16_5 < ((Zd l0_2 x15_4).length : Int) then (if 0 ≤ (rd (Zd l0_2 x15_4) x16_5) then (if (rd (Zd l0_2 x15_4) x16_5) < ((rd_L4 x9_2 (rd (Zd l0_2 x14_3) x16_5)).length : Int) then (Zh.l5 k5 a1 a2 a3 x9_2 x12_2 (x13_5.set (x14_3 : Int).toNat ((rd_L4 x13_5 x14_3).set (x15_4 : Int).toNat (rdOf false (rd_L4 x9_2 (rd (Zd l0_2 x14_3) x16_5)) (rd (Zd l0_2 x15_4) x16_5)))) x14_3 x15_4 (wrap64 (x16_5 + 1)) a0_0 a0_1 l0_2 a0_3 a0_4) else (none)) else (none)) else (none)) else (none)) else (none)) else (none)) else (none)) else (none)) else (none))) = some r := by rw [← hbq60] at H; exact H); (have Nbq60 := Za.mk hbq60); (clear hbq60)
           by_cases c61 : bq60 = true
           ·subst c61
            (have H1 : (Zh.l5 k5 a1 a2 a3 x9_2 x12_2 (x13_5.set (x14_3 : Int).toNat ((rd_L4 x13_5 x14_3).set (x15_4 : Int).toNat true)) x14_3 x15_4 (wrap64 (x16_5 + 1)) a0_0 a0_1 l0_2 a0_3 a0_4) = some r := by rw [if_pos rfl] at H; exact H); (clear H); (have H := H1); (clear H1); (obtain ⟨y210, hy210⟩ : ∃ y_ : List Bool, y_ = ((rd_L4 x13_5 x14_3).set (x15_4 : Int).toNat true) := ⟨_, rfl⟩); (replace H : (Zh.l5 k5 a1 a2 a3 x9_2 x12_2 (x13_5.set (x14_3 : Int).toNat y210) x14_3 x15_4 (wrap64 (x16_5 + 1)) a0_0 a0_1 l0_2 a0_3 a0_4) = some r := by first | (rw [hy210]; with_reducible exact H) | (have H2_ := (Option.bind_some _ _).symm.trans H; rw [hy210]; with_reducible exact H2_) | (have H2_ := (Option.bind_some _ _).symm.trans H; with_reducible exact H2_) | with_reducible exact H | (rw [hy210]; exact H) | exact H); (have Ny210 := Za.mk hy210); (clear hy210); (obtain ⟨y212, hy212⟩ : ∃ y_ : List (List Bool), y_ = (x13_5.set (x14_3 : Int).toNat y210) := ⟨_, rfl⟩); (replace H : (Zh.l5 k5 a1 a2 a3 x9_2 x12_2 y212 x14_3 x15_4 (wrap64 (x16_5 + 1)) a0_0 a0_1 l0_2 a0_3 a0_4) = some r := by first | (rw [hy212]; with_reducible exact H) | (have H2_ := (Option.bind_some _ _).symm.trans H; rw [hy212]; with_reducible exact H2_) | (have H2_ := (Option.bind_some _ _).symm.trans H; with_reducible exact H2_) | with_reducible exact H | (rw [hy212]; exact H) | exact H); (have Ny212 := Za.mk hy212); (clear hy212); (have H' := Za.mk H); (clear H); (have hcz63_0 : wr.cell? ⟨gb184, 0, none⟩ = some (.int .i64 a0_0) := (Zb BK184.out 0).trans rfl)
            (have hcz63_1 : wr.cell? ⟨gb184, 1, none⟩ = some (.int .i64 a0_1) := (Zb BK184.out 1).trans rfl); (have hcz63_2 : wr.cell? ⟨gb184, 2, none⟩ = some (.slice A0_2 l0_2.length c0_2) := (Zb BK184.out 2).trans rfl); (have hcz63_3 : wr.cell? ⟨gb184, 3, none⟩ = some (.int .i64 a0_3) := (Zb BK184.out 3).trans rfl); (have hcz63_4 : wr.cell? ⟨gb184, 4, none⟩ = some (.int .u32 a0_4) := (Zb BK184.out 4).trans rfl); (have hfz63_0 := Zc BK184.out 0); (have hfz63_1 := Zc BK184.out 1); (have hfz63_2 := Zc BK184.out 2); (have hfz63_3 := Zc BK184.out 3); (have hfz63_4 := Zc BK184.out 4)
            try go_wp2
            (replace HO_9 := Za.mk (Kd.S_drew HO_9.out)); (replace HO_13 := Za.mk (Kd.S_drew HO_13.out)); (replace BK184 := Za.mk (Zl BK184.out)); (replace HB := Za.mk (below_drew1 HB.out)); (have p207 : 0 ≤ (x14_3 : Int) := of_decide_eq_true (by assumption)); (have q207 : x14_3 < (x13_5.length : Int) := of_decide_eq_true (by assumption)); (obtain ⟨ad207, A207_0, c207_0, e207, hx207_0, hl207_0, hi207_0⟩ := at_L4 (Kd.S_reads' HO_13.out).2.2 x14_3 p207 q207); (obtain rfl : (⟨go47, 0, none⟩ : Addr) = ad207 := (by injection e207)); (obtain ⟨ce207, hce207, hMe207, hcc207⟩ := Kd.S_get HO_13.out [] x14_3 p207 (by first | exact q207 | exact of_decide_eq_true (by assumption) | (have e_ := (Kd.S_reads' HO_13.out).1; omega))); (obtain ⟨ve207_0, rfl, ge207_0⟩ := hMe207); (have hv207_0 := hcc207 0 _ rfl); (rw [Nat.add_zero, show ((Kd.slice 4 Kd.bool)).sz = 1 from rfl, Nat.mul_one] at hv207_0); (replace hv207_0 := Option.some.inj (hv207_0.symm.trans hx207_0)); (rw [hv207_0] at ge207_0); (have HL207_0 := Za.mk (show Kd.R Kd.bool 4 _ _ _ _ (rd_L4 x13_5 x14_3) from ge207_0)); (clear hv207_0 ge207_0); (have HX207_0 := Za.mk hx207_0); (clear hcc207 hce207)
            (first | simp only [add_plain] at hx207_0 | simp only [add_at] at hx207_0 | simp only [Addr.add, Nat.zero_add] at hx207_0 | skip)
            (have HR207_0 := Za.mk hi207_0); (have HC207_0 := Za.mk hl207_0); (clear hi207_0 hl207_0); (replace p207 := eq_true p207); (replace q207 := eq_true q207); (have p208 : 0 ≤ (x14_3 : Int) := of_decide_eq_true (by assumption)); (have q208 : x14_3 < (x13_5.length : Int) := of_decide_eq_true (by assumption)); (obtain ⟨ad208, A208_0, c208_0, e208, hx208_0, hl208_0, hi208_0⟩ := at_L4 (Kd.S_reads' HO_13.out).2.2 x14_3 p208 q208); (obtain rfl : (⟨go47, 0, none⟩ : Addr) = ad208 := (by injection e208)); (obtain ⟨ce208, hce208, hMe208, hcc208⟩ := Kd.S_get HO_13.out [] x14_3 p208 (by first | exact q208 | exact of_decide_eq_true (by assumption) | (have e_ := (Kd.S_reads' HO_13.out).1; omega))); (obtain ⟨ve208_0, rfl, ge208_0⟩ := hMe208); (have hv208_0 := hcc208 0 _ rfl); (rw [Nat.add_zero, show ((Kd.slice 4 Kd.bool)).sz = 1 from rfl, Nat.mul_one] at hv208_0); (replace hv208_0 := Option.some.inj (hv208_0.symm.trans hx208_0)); (rw [hv208_0] at ge208_0); (have HL208_0 := Za.mk (show Kd.R Kd.bool 4 _ _ _ _ (rd_L4 x13_5 x14_3) from ge208_0)); (clear hv208_0 ge208_0); (have HX208_0 := Za.mk hx208_0); (clear hcc208 hce208)
            (first | simp only [add_plain] at hx208_0 | simp only [add_at] at hx208_0 | simp only [Addr.add, Nat.zero_add] at hx208_0 | skip)
            (have HR208_0 := Za.mk hi208_0); (have HC208_0 := Za.mk hl208_0); (clear hi208_0 hl208_0); (replace p208 := eq_true p208); (replace q208 := eq_true q208); (have ea_ := Option.some.inj (hx207_0.symm.trans hx208_0)); (injection ea_ with ea_ en_ ec_); (subst ea_); (subst ec_); (clear en_); (have p209 : 0 ≤ (x15_4 : Int) := of_decide_eq_true (by assumption)); (have q209 : x15_4 < ((rd_L4 x13_5 x14_3).length : Int) := of_decide_eq_true (by assumption)); (obtain ⟨ad209, e209, hx209_0⟩ := Kd.at_bool (by repeat (first | (with_reducible exact HR208_0.out) | (with_reducible refine Kd.C_alloc ?_ _) | (with_reducible refine Kd.C_drewN ?_ _) | (with_reducible refine Kd.C_drew ?_) | exact HR208_0.out)) x15_4 p209 q209); ((try rw [← Nbq60.out] at hx209_0)); (cases e209); (replace p209 := eq_true p209); (replace q209 := eq_true q209); (have p62 : 0 ≤ (x15_4 : Int) := of_decide_eq_true (by assumption)); (have q62 : (x15_4 : Int) < (((rd_L4 x13_5 x14_3).length : Int) : Int) := of_decide_eq_true (by assumption)); (obtain ⟨go62, co62, eo62, gb62, gl62, cl62, HG62⟩ := Kd.R_form HL207_0.out (by omega))
            (first | cases eo62 | (injection eo62 with ea_ en_ ec_; (first | subst ea_ | (injection ea_ with ea_; subst ea_)); subst ec_; clear en_))
            (have GB62 := Za.mk gb62); (have GG62 := Za.mk HG62); (clear gb62 gl62 HG62)
            (first | simp only [add_plain] at hx209_0 | skip)
            (obtain ⟨hx62_0, hf62_0⟩ := Kd.R_celln false HL207_0.out (x15_4 : Int) p62 q62); (replace p62 := eq_true p62); (replace q62 := eq_true q62); (have hq65 : (x14_3 : Int) < (x13_5.length : Int) := (by have h_ : (x14_3 : Int) < ((x13_5.length : Int) : Int) := of_decide_eq_true (by assumption); first | exact h_ | (have e_ := (Kd.S_reads' HO_13.out).1; omega) | simpa only [List.length_set, List.length_set] using h_)); (obtain ⟨oki65, ce65, hcl65, hM65, hcc65, hok65, hbk65⟩ := Kd.S_borrow HO_13.out [] (x14_3 : Int) (of_decide_eq_true (by assumption)) hq65); (obtain ⟨ve65_0, rfl, ge65_0⟩ := hM65); (have hv65 := hcc65 0 _ rfl); (rw [Nat.add_zero, show ((Kd.slice 4 Kd.bool)).sz = 1 from rfl, Nat.mul_one] at hv65); (replace hv65 := Option.some.inj (hv65.symm.trans HX207_0.out)); (subst hv65); (clear hcc65 hcl65); (replace ge65_0 := (show Kd.R Kd.bool 4 _ _ _ _ (rd_L4 x13_5 x14_3) from ge65_0)); ((try (obtain ⟨hy65_, hz65_⟩ := Kd.R_celln false ge65_0 (x15_4 : Int) (of_decide_eq_true (by assumption)) (by have h_ : (x15_4 : Int) < (((rd_L4 x13_5 x14_3).length : Int) : Int) := of_decide_eq_true (by assumption); first | exact h_ | (have e_ := (Kd.R_reads' HR207_0.out).1; omega) | simpa using h_)))); (have HP65 := Kd.R_putg ge65_0 (x15_4 : Int) true); (rw [← Ny210.out] at HP65); (have HS65 := hbk65 HP65.2 (fun k_ e_ => by injection e_ with e_; subst e_; exact ge65_0.1 _ rfl) (x' := y210) (Kd.M_row HP65.1)); (rw [← Ny212.out] at HS65); (have HQ65 := Za.mk HS65); (clear HP65 HS65 hbk65 hok65)
            refine start_ (n := 37) (S := fun w' => w'.cell? ⟨go47, (x14_3).toNat, none⟩ = some (.slice (some ⟨go62, 0, none⟩) (rd_L4 x13_5 x14_3).length c207_0) ∧ w'.cell? ⟨go47, (x14_3).toNat, none⟩ = some (.slice (some ⟨go62, 0, none⟩) (rd_L4 x13_5 x14_3).length c207_0) ∧ w'.cell? ⟨go62, (x15_4).toNat, none⟩ = some (.bool true)) (ds := [36]) #[false, false, false, false, false, false, false, false, false, false, false, false, false, false, false, false, false, false, false, false, false, false, false, false, false, false, false, false, false, false, false, false, false, false, false, false, false] (by kernel_rfl) rfl rfl ⟨hx207_0, hx208_0, hx209_0⟩ (fun hHeld => ?_); refine with_tabW Zh.tab24 Zh.bits24 (fun HT_ HW_ => ?_)
            generalize wr.drew = w64 at HO_9 HO_13 BK184 HB GG62 HL207_0 HL208_0 HQ65 HR207_0 HR208_0 HX207_0 HX208_0 hf62_0 hx207_0 hx208_0 hx209_0 hx62_0 hHeld ⊢
            refine pure_ (i := 0) (N := some 85) (v := ?_) (a' := ?_) #[true, false, false, false, false, false, false, false, false, false, false, false, false, false, false, false, false, false, false, false, false, false, false, false, false, false, false, false, false, false, false, false, false, false, false, false, false] rfl rfl (Zj HT_.out (by kernel_rfl)) (fun _ _ _ h => h) (Or.inl ⟨by rfl, ?_⟩) ?_ ?_
            rotate_left
            ·intro w'
             go_simp
             with_reducible rfl
            rotate_left
            ·simp only [Act.put, List.setIfInBounds_toArray, List.set_cons_zero, List.set_cons_succ, Zg, Zf]
             rfl
            refine pure_ (i := 1) (N := some 86) (v := ?_) (a' := ?_) #[true, true, false, false, false, false, false, false, false, false, false, false, false, false, false, false, false, false, false, false, false, false, false, false, false, false, false, false, false, false, false, false, false, false, false, false, false] rfl rfl (Zj HT_.out (by kernel_rfl)) (fun _ _ _ h => h) (Or.inl ⟨by rfl, ?_⟩) ?_ ?_
            rotate_left
            ·intro w'
             go_simp
             with_reducible rfl
            rotate_left
            ·simp only [Act.put, List.setIfInBounds_toArray, List.set_cons_zero, List.set_cons_succ, Zg, Zf]
             rfl
            refine pure_ (i := 2) (N := some 87) (v := ?_) (a' := ?_) #[true, true, true, false, false, false, false, false, false, false, false, false, false, false, false, false, false, false, false, false, false, false, false, false, false, false, false, false, false, false, false, false, false, false, false, false, false] rfl rfl (Zj HT_.out (by kernel_rfl)) (fun _ _ _ h => h) (Or.inl ⟨by rfl, ?_⟩) ?_ ?_
            rotate_left
            ·intro w'
             go_simp
             with_reducible rfl
            rotate_left
            ·simp only [Act.put, List.setIfInBounds_toArray, List.set_cons_zero, List.set_cons_succ, Zg, Zf]
             rfl
            refine pure_ (i := 4) (N := some 89) (v := ?_) (a' := ?_) #[true, true, true, false, true, false, false, false, false, false, false, false, false, false, false, false, false, false, false, false, false, false, false, false, false, false, false, false, false, false, false, false, false, false, false, false, false] rfl rfl (Zj HT_.out (by kernel_rfl)) (fun _ _ _ h => h) (Or.inl ⟨by rfl, ?_⟩) ?_ ?_
            rotate_left
            ·intro w'
             go_simp
             with_reducible rfl
            rotate_left
            ·simp only [Act.put, List.setIfInBounds_toArray, List.set_cons_zero, List.set_cons_succ, Zg, Zf]
             rfl
            refine pure_ (i := 5) (N := some 90) (v := ?_) (a' := ?_) #[true, true, true, false, true, true, false, false, false, false, false, false, false, false, false, false, false, false, false, false, false, false, false, false, false, false, false, false, false, false, false, false, false, false, false, false, false] rfl rfl (Zj HT_.out (by kernel_rfl)) (fun _ _ _ h => h) (Or.inl ⟨by rfl, ?_⟩) ?_ ?_
            rotate_left
            ·intro w'
             go_simp
             with_reducible rfl
            rotate_left
            ·simp only [Act.put, List.setIfInBounds_toArray, List.set_cons_zero, List.set_cons_succ, Zg, Zf]
             rfl
            refine pure_ (i := 6) (N := some 91) (v := ?_) (a' := ?_) #[true, true, true, false, true, true, true, false, false, false, false, false, false, false, false, false, false, false, false, false, false, false, false, false, false, false, false, false, false, false, false, false, false, false, false, false, false] rfl rfl (Zj HT_.out (by kernel_rfl)) (fun _ _ _ h => h) (Or.inl ⟨by rfl, ?_⟩) ?_ ?_
            rotate_left
            ·intro w'
             go_simp
             with_reducible rfl
            rotate_left
            ·simp only [Act.put, List.setIfInBounds_toArray, List.set_cons_zero, List.set_cons_succ, Zg, Zf]
             rfl
            refine pure_ (i := 7) (N := some 92) (v := ?_) (a' := ?_) #[true, true, true, false, true, true, true, true, false, false, false, false, false, false, false, false, false, false, false, false, false, false, false, false, false, false, false, false, false, false, false, false, false, false, false, false, false] rfl rfl (Zj HT_.out (by kernel_rfl)) (fun _ _ _ h => h) (Or.inl ⟨by rfl, ?_⟩) ?_ ?_
            rotate_left
            ·intro w'
             go_simp
             with_reducible rfl
            rotate_left
            ·simp only [Act.put, List.setIfInBounds_toArray, List.set_cons_zero, List.set_cons_succ, Zg, Zf]
             rfl
            refine pure_ (i := 9) (N := some 94) (v := ?_) (a' := ?_) #[true, true, true, false, true, true, true, true, false, true, false, false, false, false, false, false, false, false, false, false, false, false, false, false, false, false, false, false, false, false, false, false, false, false, false, false, false] rfl rfl (Zj HT_.out (by kernel_rfl)) (fun _ _ _ h => h) (Or.inl ⟨by rfl, ?_⟩) ?_ ?_
            rotate_left
            ·intro w'
             go_simp
             with_reducible rfl
            rotate_left
            ·simp only [Act.put, List.setIfInBounds_toArray, List.set_cons_zero, List.set_cons_succ, Zg, Zf]
             rfl
            refine take_ (i := 3) (N := some 88) (v := ?_) (a' := ?_) #[true, true, true, true, true, true, true, true, false, true, false, false, false, false, false, false, false, false, false, false, false, false, false, false, false, false, false, false, false, false, false, false, false, false, false, false, false] rfl rfl (Zz HT_.out HW_.out (by kernel_rfl)) (fun _ _ _ h => h) (Or.inl ⟨by rfl, ?_⟩) hHeld ?_ ?_
            rotate_left
            ·rintro w' ⟨s0, s1, s2⟩
             go_simp
             with_reducible rfl
            rotate_left
            ·simp only [Act.put, List.setIfInBounds_toArray, List.set_cons_zero, List.set_cons_succ, Zg, Zf]
             rfl
            refine take_ (i := 8) (N := some 93) (v := ?_) (a' := ?_) #[true, true, true, true, true, true, true, true, true, true, false, false, false, false, false, false, false, false, false, false, false, false, false, false, false, false, false, false, false, false, false, false, false, false, false, false, false] rfl rfl (Zz HT_.out HW_.out (by kernel_rfl)) (fun _ _ _ h => h) (Or.inl ⟨by rfl, ?_⟩) hHeld ?_ ?_
            rotate_left
            ·rintro w' ⟨s0, s1, s2⟩
             go_simp
             with_reducible rfl
            rotate_left
            ·simp only [Act.put, List.setIfInBounds_toArray, List.set_cons_zero, List.set_cons_succ, Zg, Zf]
             rfl
            refine pure_ (i := 10) (N := some 95) (v := ?_) (a' := ?_) #[true, true, true, true, true, true, true, true, true, true, true, false, false, false, false, false, false, false, false, false, false, false, false, false, false, false, false, false, false, false, false, false, false, false, false, false, false] rfl rfl (Zj HT_.out (by kernel_rfl)) (fun _ _ _ h => h) (Or.inl ⟨by rfl, ?_⟩) ?_ ?_
            rotate_left
            ·intro w'
             go_simp
             with_reducible rfl
            rotate_left
            ·simp only [Act.put, List.setIfInBounds_toArray, List.set_cons_zero, List.set_cons_succ, Zg, Zf]
             rfl
            refine take_ (i := 11) (N := some 96) (v := ?_) (a' := ?_) #[true, true, true, true, true, true, true, true, true, true, true, true, false, false, false, false, false, false, false, false, false, false, false, false, false, false, false, false, false, false, false, false, false, false, false, false, false] rfl rfl (Zz HT_.out HW_.out (by kernel_rfl)) (fun _ _ _ h => h) (Or.inl ⟨by rfl, ?_⟩) hHeld ?_ ?_
            rotate_left
            ·rintro w' ⟨s0, s1, s2⟩
             go_simp
             with_reducible rfl
            rotate_left
            ·simp only [Act.put, List.setIfInBounds_toArray, List.set_cons_zero, List.set_cons_succ, Zg, Zf]
             rfl
            refine pure_ (i := 12) (N := some 97) (v := ?_) (a' := ?_) #[true, true, true, true, true, true, true, true, true, true, true, true, true, false, false, false, false, false, false, false, false, false, false, false, false, false, false, false, false, false, false, false, false, false, false, false, false] rfl rfl (Zj HT_.out (by kernel_rfl)) (fun _ _ _ h => h) (Or.inl ⟨by rfl, ?_⟩) ?_ ?_
            rotate_left
            ·intro w'
             go_simp
             with_reducible rfl
            rotate_left
            ·simp only [Act.put, List.setIfInBounds_toArray, List.set_cons_zero, List.set_cons_succ, Zg, Zf]
             rfl
            refine pure_ (i := 13) (N := some 98) (v := undef) (a' := ?_) #[true, true, true, true, true, true, true, true, true, true, true, true, true, true, false, false, false, false, false, false, false, false, false, false, false, false, false, false, false, false, false, false, false, false, false, false, false] rfl rfl (Zj HT_.out (by kernel_rfl)) (fun _ _ _ h => h) (Or.inr ⟨by rfl, rfl⟩) ?_ ?_
            rotate_left
            ·simp only [Act.put, List.setIfInBounds_toArray, List.set_cons_zero, List.set_cons_succ, Zg, Zf]
             rfl
            refine pure_ (i := 14) (N := some 99) (v := undef) (a' := ?_) #[true, true, true, true, true, true, true, true, true, true, true, true, true, true, true, false, false, false, false, false, false, false, false, false, false, false, false, false, false, false, false, false, false, false, false, false, false] rfl rfl (Zj HT_.out (by kernel_rfl)) (fun _ _ _ h => h) (Or.inr ⟨by rfl, rfl⟩) ?_ ?_
            rotate_left
            ·simp only [Act.put, List.setIfInBounds_toArray, List.set_cons_zero, List.set_cons_succ, Zg, Zf]
             rfl
            refine pure_ (i := 15) (N := some 100) (v := undef) (a' := ?_) #[true, true, true, true, true, true, true, true, true, true, true, true, true, true, true, true, false, false, false, false, false, false, false, false, false, false, false, false, false, false, false, false, false, false, false, false, false] rfl rfl (Zj HT_.out (by kernel_rfl)) (fun _ _ _ h => h) (Or.inr ⟨by rfl, rfl⟩) ?_ ?_
            rotate_left
            ·simp only [Act.put, List.setIfInBounds_toArray, List.set_cons_zero, List.set_cons_succ, Zg, Zf]
             rfl
            refine pure_ (i := 16) (N := some 101) (v := undef) (a' := ?_) #[true, true, true, true, true, true, true, true, true, true, true, true, true, true, true, true, true, false, false, false, false, false, false, false, false, false, false, false, false, false, false, false, false, false, false, false, false] rfl rfl (Zj HT_.out (by kernel_rfl)) (fun _ _ _ h => h) (Or.inr ⟨by rfl, rfl⟩) ?_ ?_
            rotate_left
            ·simp only [Act.put, List.setIfInBounds_toArray, List.set_cons_zero, List.set_cons_succ, Zg, Zf]
             rfl
            refine pure_ (i := 17) (N := some 102) (v := undef) (a' := ?_) #[true, true, true, true, true, true, true, true, true, true, true, true, true, true, true, true, true, true, false, false, false, false, false, false, false, false, false, false, false, false, false, false, false, false, false, false, false] rfl rfl (Zj HT_.out (by kernel_rfl)) (fun _ _ _ h => h) (Or.inr ⟨by rfl, rfl⟩) ?_ ?_
            rotate_left
            ·simp only [Act.put, List.setIfInBounds_toArray, List.set_cons_zero, List.set_cons_succ, Zg, Zf]
             rfl
            refine pure_ (i := 18) (N := some 103) (v := undef) (a' := ?_) #[true, true, true, true, true, true, true, true, true, true, true, true, true, true, true, true, true, true, true, false, false, false, false, false, false, false, false, false, false, false, false, false, false, false, false, false, false] rfl rfl (Zj HT_.out (by kernel_rfl)) (fun _ _ _ h => h) (Or.inr ⟨by rfl, rfl⟩) ?_ ?_
            rotate_left
            ·simp only [Act.put, List.setIfInBounds_toArray, List.set_cons_zero, List.set_cons_succ, Zg, Zf]
             rfl
            refine pure_ (i := 19) (N := some 104) (v := undef) (a' := ?_) #[true, true, true, true, true, true, true, true, true, true, true, true, true, true, true, true, true, true, true, true, false, false, false, false, false, false, false, false, false, false, false, false, false, false, false, false, false] rfl rfl (Zj HT_.out (by kernel_rfl)) (fun _ _ _ h => h) (Or.inr ⟨by rfl, rfl⟩) ?_ ?_
            rotate_left
            ·simp only [Act.put, List.setIfInBounds_toArray, List.set_cons_zero, List.set_cons_succ, Zg, Zf]
             rfl
            refine pure_ (i := 20) (N := some 105) (v := undef) (a' := ?_) #[true, true, true, true, true, true, true, true, true, true, true, true, true, true, true, true, true, true, true, true, true, false, false, false, false, false, false, false, false, false, false, false, false, false, false, false, false] rfl rfl (Zj HT_.out (by kernel_rfl)) (fun _ _ _ h => h) (Or.inr ⟨by rfl, rfl⟩) ?_ ?_
            rotate_left
            ·simp only [Act.put, List.setIfInBounds_toArray, List.set_cons_zero, List.set_cons_succ, Zg, Zf]
             rfl
            refine pure_ (i := 21) (N := some 106) (v := undef) (a' := ?_) #[true, true, true, true, true, true, true, true, true, true, true, true, true, true, true, true, true, true, true, true, true, true, false, false, false, false, false, false, false, false, false, false, false, false, false, false, false] rfl rfl (Zj HT_.out (by kernel_rfl)) (fun _ _ _ h => h) (Or.inr ⟨by rfl, rfl⟩) ?_ ?_
            rotate_left
            ·simp only [Act.put, List.setIfInBounds_toArray, List.set_cons_zero, List.set_cons_succ, Zg, Zf]
             rfl
            refine pure_ (i := 22) (N := some 107) (v := undef) (a' := ?_) #[true, true, true, true, true, true, true, true, true, true, true, true, true, true, true, true, true, true, true, true, true, true, true, false, false, false, false, false, false, false, false, false, false, false, false, false, false] rfl rfl (Zj HT_.out (by kernel_rfl)) (fun _ _ _ h => h) (Or.inr ⟨by rfl, rfl⟩) ?_ ?_
            rotate_left
            ·simp only [Act.put, List.setIfInBounds_toArray, List.set_cons_zero, List.set_cons_succ, Zg, Zf]
             rfl
            refine pure_ (i := 23) (N := some 108) (v := undef) (a' := ?_) #[true, true, true, true, true, true, true, true, true, true, true, true, true, true, true, true, true, true, true, true, true, true, true, true, false, false, false, false, false, false, false, false, false, false, false, false, false] rfl rfl (Zj HT_.out (by kernel_rfl)) (fun _ _ _ h => h) (Or.inr ⟨by rfl, rfl⟩) ?_ ?_
            rotate_left
            ·simp only [Act.put, List.setIfInBounds_toArray, List.set_cons_zero, List.set_cons_succ, Zg, Zf]
             rfl
            refine pure_ (i := 24) (N := some 109) (v := undef) (a' := ?_) #[true, true, true, true, true, true, true, true, true, true, true, true, true, true, true, true, true, true, true, true, true, true, true, true, true, false, false, false, false, false, false, false, false, false, false, false, false] rfl rfl (Zj HT_.out (by kernel_rfl)) (fun _ _ _ h => h) (Or.inr ⟨by rfl, rfl⟩) ?_ ?_
            rotate_left
            ·simp only [Act.put, List.setIfInBounds_toArray, List.set_cons_zero, List.set_cons_succ, Zg, Zf]
             rfl
            refine pure_ (i := 25) (N := some 110) (v := undef) (a' := ?_) #[true, true, true, true, true, true, true, true, true, true, true, true, true, true, true, true, true, true, true, true, true, true, true, true, true, true, false, false, false, false, false, false, false, false, false, false, false] rfl rfl (Zj HT_.out (by kernel_rfl)) (fun _ _ _ h => h) (Or.inr ⟨by rfl, rfl⟩) ?_ ?_
            rotate_left
            ·simp only [Act.put, List.setIfInBounds_toArray, List.set_cons_zero, List.set_cons_succ, Zg, Zf]
             rfl
            refine pure_ (i := 26) (N := some 111) (v := undef) (a' := ?_) #[true, true, true, true, true, true, true, true, true, true, true, true, true, true, true, true, true, true, true, true, true, true, true, true, true, true, true, false, false, false, false, false, false, false, false, false, false] rfl rfl (Zj HT_.out (by kernel_rfl)) (fun _ _ _ h => h) (Or.inr ⟨by rfl, rfl⟩) ?_ ?_
            rotate_left
            ·simp only [Act.put, List.setIfInBounds_toArray, List.set_cons_zero, List.set_cons_succ, Zg, Zf]
             rfl
            refine pure_ (i := 27) (N := some 112) (v := undef) (a' := ?_) #[true, true, true, true, true, true, true, true, true, true, true, true, true, true, true, true, true, true, true, true, true, true, true, true, true, true, true, true, false, false, false, false, false, false, false, false, false] rfl rfl (Zj HT_.out (by kernel_rfl)) (fun _ _ _ h => h) (Or.inr ⟨by rfl, rfl⟩) ?_ ?_
            rotate_left
            ·simp only [Act.put, List.setIfInBounds_toArray, List.set_cons_zero, List.set_cons_succ, Zg, Zf]
             rfl
            refine pure_ (i := 28) (N := some 113) (v := undef) (a' := ?_) #[true, true, true, true, true, true, true, true, true, true, true, true, true, true, true, true, true, true, true, true, true, true, true, true, true, true, true, true, true, false, false, false, false, false, false, false, false] rfl rfl (Zj HT_.out (by kernel_rfl)) (fun _ _ _ h => h) (Or.inr ⟨by rfl, rfl⟩) ?_ ?_
            rotate_left
            ·simp only [Act.put, List.setIfInBounds_toArray, List.set_cons_zero, List.set_cons_succ, Zg, Zf]
             rfl
            refine pure_ (i := 29) (N := some 114) (v := undef) (a' := ?_) #[true, true, true, true, true, true, true, true, true, true, true, true, true, true, true, true, true, true, true, true, true, true, true, true, true, true, true, true, true, true, false, false, false, false, false, false, false] rfl rfl (Zj HT_.out (by kernel_rfl)) (fun _ _ _ h => h) (Or.inr ⟨by rfl, rfl⟩) ?_ ?_
            rotate_left
            ·simp only [Act.put, List.setIfInBounds_toArray, List.set_cons_zero, List.set_cons_succ, Zg, Zf]
             rfl
            refine pure_ (i := 30) (N := some 115) (v := undef) (a' := ?_) #[true, true, true, true, true, true, true, true, true, true, true, true, true, true, true, true, true, true, true, true, true, true, true, true, true, true, true, true, true, true, true, false, false, false, false, false, false] rfl rfl (Zj HT_.out (by kernel_rfl)) (fun _ _ _ h => h) (Or.inr ⟨by rfl, rfl⟩) ?_ ?_
            rotate_left
            ·simp only [Act.put, List.setIfInBounds_toArray, List.set_cons_zero, List.set_cons_succ, Zg, Zf]
             rfl
            refine pure_ (i := 31) (N := some 116) (v := undef) (a' := ?_) #[true, true, true, true, true, true, true, true, true, true, true, true, true, true, true, true, true, true, true, true, true, true, true, true, true, true, true, true, true, true, true, true, false, false, false, false, false] rfl rfl (Zj HT_.out (by kernel_rfl)) (fun _ _ _ h => h) (Or.inr ⟨by rfl, rfl⟩) ?_ ?_
            rotate_left
            ·simp only [Act.put, List.setIfInBounds_toArray, List.set_cons_zero, List.set_cons_succ, Zg, Zf]
             rfl
            refine pure_ (i := 32) (N := some 117) (v := undef) (a' := ?_) #[true, true, true, true, true, true, true, true, true, true, true, true, true, true, true, true, true, true, true, true, true, true, true, true, true, true, true, true, true, true, true, true, true, false, false, false, false] rfl rfl (Zj HT_.out (by kernel_rfl)) (fun _ _ _ h => h) (Or.inr ⟨by rfl, rfl⟩) ?_ ?_
            rotate_left
            ·simp only [Act.put, List.setIfInBounds_toArray, List.set_cons_zero, List.set_cons_succ, Zg, Zf]
             rfl
            refine pure_ (i := 33) (N := some 118) (v := undef) (a' := ?_) #[true, true, true, true, true, true, true, true, true, true, true, true, true, true, true, true, true, true, true, true, true, true, true, true, true, true, true, true, true, true, true, true, true, true, false, false, false] rfl rfl (Zj HT_.out (by kernel_rfl)) (fun _ _ _ h => h) (Or.inr ⟨by rfl, rfl⟩) ?_ ?_
            rotate_left
            ·simp only [Act.put, List.setIfInBounds_toArray, List.set_cons_zero, List.set_cons_succ, Zg, Zf]
             rfl
            refine pure_ (i := 34) (N := some 119) (v := ?_) (a' := ?_) #[true, true, true, true, true, true, true, true, true, true, true, true, true, true, true, true, true, true, true, true, true, true, true, true, true, true, true, true, true, true, true, true, true, true, true, false, false] rfl rfl (Zj HT_.out (by kernel_rfl)) (fun _ _ _ h => h) (Or.inl ⟨by rfl, ?_⟩) ?_ ?_
            rotate_left
            ·intro w'
             go_simp
             with_reducible rfl
            rotate_left
            ·simp only [Act.put, List.setIfInBounds_toArray, List.set_cons_zero, List.set_cons_succ, Zg, Zf]
             rfl
            refine pure_ (i := 35) (N := some 120) (v := ?_) (a' := ?_) #[true, true, true, true, true, true, true, true, true, true, true, true, true, true, true, true, true, true, true, true, true, true, true, true, true, true, true, true, true, true, true, true, true, true, true, true, false] rfl rfl (Zj HT_.out (by kernel_rfl)) (fun _ _ _ h => h) (Or.inl ⟨by rfl, ?_⟩) ?_ ?_
            rotate_left
            ·intro w'
             go_simp
             with_reducible rfl
            rotate_left
            ·simp only [Act.put, List.setIfInBounds_toArray, List.set_cons_zero, List.set_cons_succ, Zg, Zf]
             rfl
            refine last_ (i := 36) (N := none) #[true, true, true, true, true, true, true, true, true, true, true, true, true, true, true, true, true, true, true, true, true, true, true, true, true, true, true, true, true, true, true, true, true, true, true, true, true] rfl rfl (one_of HT_.out (by kernel_rfl)) (by decide) (fun K hK => ?_)
            refine skip_ (w1 := ?_) (by rfl) rfl ?_ ?_
            rotate_left
            ·go_simp
             rfl
            refine hK.out _ _ ?_
            clear hK K
            refine done_ (done_of HT_.out (by kernel_rfl)) ?_
            try go_wp2
            (try simp only [← hl13_5])
            go_roundg k5
            case measure => have := HK1.out; have := HK2.out; have := HK3.out; have := HK4.out; have := HK5.out; omega
            case rel => exact ⟨(y212), (wrap64 (x16_5 + 1)), (by first | rfl | (simp; done) | (simp [*]; done)), H', ⟨by have := HK1.out; have := HK2.out; have := HK3.out; have := HK4.out; have := HK5.out; omega⟩, ⟨by (try simp only [hl13_4]); (try simp only [hl13_5]); (with_reducible repeat (first | apply Kd.S_alloc | apply Kd.S_drewN | apply Kd.S_drew)); exact Kd.S_mono (Kd.S_far (p := ⟨go62, (x15_4 : Int).toNat, none⟩) (Kd.S_mono HO_9.out (fun k_ hk => (⟨hk, Zh.bef_aft (hk.2) ((HL207_0.out.1 _ rfl).1.2)⟩ : _ ∧ k_ ≠ go62))) (fun _ hk => hk.2) (.bool true)) (fun _ hk => ⟨hk.1.1, hk.1.2⟩)⟩, ⟨by (try simp only [hl13_4]); (try simp only [hl13_5]); (with_reducible repeat (first | apply Kd.S_alloc | apply Kd.S_drewN | apply Kd.S_drew)); exact HQ65.out⟩, ⟨by (try simp only [hl13_4]); (try simp only [hl13_5]); (with_reducible repeat (first | refine Zq ?_ _ | refine Zl ?_ | refine Zn ?_ _)); refine Za1 ?_ (by have h_ := Kd.R_ne HL207_0.out BK184.out (by decide); intro e_; exact h_ (by rw [e_]; rfl)) _; (with_reducible repeat (first | apply zb3 | apply zb2 | apply zb1)); exact BK184.out⟩, ⟨by repeat (first | (with_reducible first | exact HB.out | apply below_alloc | apply pw_below_drewN | apply below_drew1 | refine below_set ?_ GB62.out | refine below_set ?_ GE184.out) | exact HB.out)⟩⟩
           (replace c61 := Bool.eq_false_iff.mpr c61); (subst c61); (have H1 : (if x14_3 < (l0_2.length : Int) then (if 0 ≤ x16_5 then (if x16_5 < ((Zd l0_2 x14_3).length : Int) then (if 0 ≤ (rd (Zd l0_2 x14_3) x16_5) then (if (rd (Zd l0_2 x14_3) x16_5) < (x9_2.length : Int) then (if x15_4 < (l0_2.length : Int) then (if x16_5 < ((Zd l0_2 x15_4).length : Int) then (if 0 ≤ (rd (Zd l0_2 x15_4) x16_5) then (if (rd (Zd l0_2 x15_4) x16_5) < ((rd_L4 x9_2 (rd (Zd l0_2 x14_3) x16_5)).length : Int) then (Zh.l5 k5 a1 a2 a3 x9_2 x12_2 (x13_5.set (x14_3 : Int).toNat ((rd_L4 x13_5 x14_3).set (x15_4 : Int).toNat (rdOf false (rd_L4 x9_2 (rd (Zd l0_2 x14_3) x16_5)) (rd (Zd l0_2 x15_4) x16_5)))) x14_3 x15_4 (wrap64 (x16_5 + 1)) a0_0 a0_1 l0_2 a0_3 a0_4) else (none)) else (none)) else (none)) else (none)) else (none)) else (none)) else (none)) else (none)) else (none)) = some r := by rw [if_neg (show ¬ (false = true) by decide)] at H; exact H); (clear H); (have H := H1); (clear H1)
           by_cases c67 : x14_3 < (l0_2.length : Int)
           rotate_left
           ·rw [if_neg c67] at H
            exact absurd H (by simp)
           (rw [if_pos c67] at H); (have c67b0 : decide (x14_3 < (l0_2.length : Int)) = true := decide_eq_true c67); ((try (have c67b0h := c67b0; simp only [hl13_4, hl13_5] at c67b0h))); (clear c67)
           by_cases c68 : 0 ≤ x16_5
           rotate_left
           ·rw [if_neg c68] at H
            exact absurd H (by simp)
           (rw [if_pos c68] at H); (have c68b0 : decide (0 ≤ x16_5) = true := decide_eq_true c68); (clear c68)
           by_cases c69 : x16_5 < ((Zd l0_2 x14_3).length : Int)
           rotate_left
           ·rw [if_neg c69] at H
            exact absurd H (by simp)
           (rw [if_pos c69] at H); (have c69b0 : decide (x16_5 < ((Zd l0_2 x14_3).length : Int)) = true := decide_eq_true c69); ((try (have c69b0h := c69b0; simp only [hl13_4, hl13_5] at c69b0h))); (clear c69)
           by_cases c70 : 0 ≤ (rd (Zd l0_2 x14_3) x16_5)
           rotate_left
           ·rw [if_neg c70] at H
            exact absurd H (by simp)
           (rw [if_pos c70] at H); (have c70b0 : decide (0 ≤ (rd (Zd l0_2 x14_3) x16_5)) = true := decide_eq_true c70); (clear c70)
           by_cases c71 : (rd (Zd l0_2 x14_3) x16_5) < (x9_2.length : Int)
           rotate_left
           ·rw [if_neg c71] at H
            exact absurd H (by simp)
           (rw [if_pos c71] at H); (have c71b0 : decide ((rd (Zd l0_2 x14_3) x16_5) < (x9_2.length : Int)) = true := decide_eq_true c71); ((try (have c71b0h := c71b0; simp only [hl13_4, hl13_5] at c71b0h))); (clear c71)
           by_cases c72 : x15_4 < (l0_2.length : Int)
           rotate_left
           ·rw [if_neg c72] at H
            exact absurd H (by simp)
           (rw [if_pos c72] at H); (have c72b0 : decide (x15_4 < (l0_2.length : Int)) = true := decide_eq_true c72); ((try (have c72b0h := c72b0; simp only [hl13_4, hl13_5] at c72b0h))); (clear c72)
           by_cases c73 : x16_5 < ((Zd l0_2 x15_4).length : Int)
           rotate_left
           ·rw [if_neg c73] at H
            exact absurd H (by simp)
           (rw [if_pos c73] at H); (have c73b0 : decide (x16_5 < ((Zd l0_2 x15_4).length : Int)) = true := decide_eq_true c73); ((try (have c73b0h := c73b0; simp only [hl13_4, hl13_5] at c73b0h))); (clear c73)
           by_cases c74 : 0 ≤ (rd (Zd l0_2 x15_4) x16_5)
           rotate_left
           ·rw [if_neg c74] at H
            exact absurd H (by simp)
           (rw [if_pos c74] at H); (have c74b0 : decide (0 ≤ (rd (Zd l0_2 x15_4) x16_5)) = true := decide_eq_true c74); (clear c74)
           by_cases c75 : (rd (Zd l0_2 x15_4) x16_5) < ((rd_L4 x9_2 (rd (Zd l0_2 x14_3) x16_5)).length : Int)
           rotate_left
           ·rw [if_neg c75] at H
            exact absurd H (by simp)
           (rw [if_pos c75] at H); (have c75b0 : decide ((rd (Zd l0_2 x15_4) x16_5) < ((rd_L4 x9_2 (rd (Zd l0_2 x14_3) x16_5)).length : Int)) = true := decide_eq_true c75); ((try (have c75b0h := c75b0; simp only [hl13_4, hl13_5] at c75b0h))); (clear c75); (obtain ⟨y219, hy219⟩ : ∃ y_ : List Bool, y_ = ((rd_L4 x13_5 x14_3).set (x15_4 : Int).toNat (rdOf false (rd_L4 x9_2 (rd (Zd l0_2 x14_3) x16_5)) (rd (Zd l0_2 x15_4) x16_5))) := ⟨_, rfl⟩); (replace H : (Zh.l5 k5 a1 a2 a3 x9_2 x12_2 (x13_5.set (x14_3 : Int).toNat y219) x14_3 x15_4 (wrap64 (x16_5 + 1)) a0_0 a0_1 l0_2 a0_3 a0_4) = some r := by first | (rw [hy219]; with_reducible exact H) | (have H2_ := (Option.bind_some _ _).symm.trans H; rw [hy219]; with_reducible exact H2_) | (have H2_ := (Option.bind_some _ _).symm.trans H; with_reducible exact H2_) | with_reducible exact H | (rw [hy219]; exact H) | exact H); (have Ny219 := Za.mk hy219); (clear hy219); (obtain ⟨y221, hy221⟩ : ∃ y_ : List (List Bool), y_ = (x13_5.set (x14_3 : Int).toNat y219) := ⟨_, rfl⟩); (replace H : (Zh.l5 k5 a1 a2 a3 x9_2 x12_2 y221 x14_3 x15_4 (wrap64 (x16_5 + 1)) a0_0 a0_1 l0_2 a0_3 a0_4) = some r := by first | (rw [hy221]; with_reducible exact H) | (have H2_ := (Option.bind_some _ _).symm.trans H; rw [hy221]; with_reducible exact H2_) | (have H2_ := (Option.bind_some _ _).symm.trans H; with_reducible exact H2_) | with_reducible exact H | (rw [hy221]; exact H) | exact H); (have Ny221 := Za.mk hy221); (clear hy221); (have H' := Za.mk H); (clear H); (have hcz77_0 : wr.cell? ⟨gb184, 0, none⟩ = some (.int .i64 a0_0) := (Zb BK184.out 0).trans rfl)
           (have hcz77_1 : wr.cell? ⟨gb184, 1, none⟩ = some (.int .i64 a0_1) := (Zb BK184.out 1).trans rfl); (have hcz77_2 : wr.cell? ⟨gb184, 2, none⟩ = some (.slice A0_2 l0_2.length c0_2) := (Zb BK184.out 2).trans rfl); (have hcz77_3 : wr.cell? ⟨gb184, 3, none⟩ = some (.int .i64 a0_3) := (Zb BK184.out 3).trans rfl); (have hcz77_4 : wr.cell? ⟨gb184, 4, none⟩ = some (.int .u32 a0_4) := (Zb BK184.out 4).trans rfl); (have hfz77_0 := Zc BK184.out 0); (have hfz77_1 := Zc BK184.out 1); (have hfz77_2 := Zc BK184.out 2); (have hfz77_3 := Zc BK184.out 3); (have hfz77_4 := Zc BK184.out 4)
           try go_wp2
           (replace HO_9 := Za.mk (Kd.S_drew HO_9.out)); (replace HO_13 := Za.mk (Kd.S_drew HO_13.out)); (replace BK184 := Za.mk (Zl BK184.out)); (replace HB := Za.mk (below_drew1 HB.out)); (have p207 : 0 ≤ (x14_3 : Int) := of_decide_eq_true (by assumption)); (have q207 : x14_3 < (x13_5.length : Int) := of_decide_eq_true (by assumption)); (obtain ⟨ad207, A207_0, c207_0, e207, hx207_0, hl207_0, hi207_0⟩ := at_L4 (Kd.S_reads' HO_13.out).2.2 x14_3 p207 q207); (obtain rfl : (⟨go47, 0, none⟩ : Addr) = ad207 := (by injection e207)); (obtain ⟨ce207, hce207, hMe207, hcc207⟩ := Kd.S_get HO_13.out [] x14_3 p207 (by first | exact q207 | exact of_decide_eq_true (by assumption) | (have e_ := (Kd.S_reads' HO_13.out).1; omega))); (obtain ⟨ve207_0, rfl, ge207_0⟩ := hMe207); (have hv207_0 := hcc207 0 _ rfl); (rw [Nat.add_zero, show ((Kd.slice 4 Kd.bool)).sz = 1 from rfl, Nat.mul_one] at hv207_0); (replace hv207_0 := Option.some.inj (hv207_0.symm.trans hx207_0)); (rw [hv207_0] at ge207_0); (have HL207_0 := Za.mk (show Kd.R Kd.bool 4 _ _ _ _ (rd_L4 x13_5 x14_3) from ge207_0)); (clear hv207_0 ge207_0); (have HX207_0 := Za.mk hx207_0); (clear hcc207 hce207)
           (first | simp only [add_plain] at hx207_0 | simp only [add_at] at hx207_0 | simp only [Addr.add, Nat.zero_add] at hx207_0 | skip)
           (have HR207_0 := Za.mk hi207_0); (have HC207_0 := Za.mk hl207_0); (clear hi207_0 hl207_0); (replace p207 := eq_true p207); (replace q207 := eq_true q207); (have p208 : 0 ≤ (x14_3 : Int) := of_decide_eq_true (by assumption)); (have q208 : x14_3 < (x13_5.length : Int) := of_decide_eq_true (by assumption)); (obtain ⟨ad208, A208_0, c208_0, e208, hx208_0, hl208_0, hi208_0⟩ := at_L4 (Kd.S_reads' HO_13.out).2.2 x14_3 p208 q208); (obtain rfl : (⟨go47, 0, none⟩ : Addr) = ad208 := (by injection e208)); (obtain ⟨ce208, hce208, hMe208, hcc208⟩ := Kd.S_get HO_13.out [] x14_3 p208 (by first | exact q208 | exact of_decide_eq_true (by assumption) | (have e_ := (Kd.S_reads' HO_13.out).1; omega))); (obtain ⟨ve208_0, rfl, ge208_0⟩ := hMe208); (have hv208_0 := hcc208 0 _ rfl); (rw [Nat.add_zero, show ((Kd.slice 4 Kd.bool)).sz = 1 from rfl, Nat.mul_one] at hv208_0); (replace hv208_0 := Option.some.inj (hv208_0.symm.trans hx208_0)); (rw [hv208_0] at ge208_0); (have HL208_0 := Za.mk (show Kd.R Kd.bool 4 _ _ _ _ (rd_L4 x13_5 x14_3) from ge208_0)); (clear hv208_0 ge208_0); (have HX208_0 := Za.mk hx208_0); (clear hcc208 hce208)
           (first | simp only [add_plain] at hx208_0 | simp only [add_at] at hx208_0 | simp only [Addr.add, Nat.zero_add] at hx208_0 | skip)
           (have HR208_0 := Za.mk hi208_0); (have HC208_0 := Za.mk hl208_0); (clear hi208_0 hl208_0); (replace p208 := eq_true p208); (replace q208 := eq_true q208); (have ea_ := Option.some.inj (hx207_0.symm.trans hx208_0)); (injection ea_ with ea_ en_ ec_); (subst ea_); (subst ec_); (clear en_); (have p209 : 0 ≤ (x15_4 : Int) := of_decide_eq_true (by assumption)); (have q209 : x15_4 < ((rd_L4 x13_5 x14_3).length : Int) := of_decide_eq_true (by assumption)); (obtain ⟨ad209, e209, hx209_0⟩ := Kd.at_bool (by repeat (first | (with_reducible exact HR208_0.out) | (with_reducible refine Kd.C_alloc ?_ _) | (with_reducible refine Kd.C_drewN ?_ _) | (with_reducible refine Kd.C_drew ?_) | exact HR208_0.out)) x15_4 p209 q209); ((try rw [← Nbq60.out] at hx209_0)); (cases e209); (replace p209 := eq_true p209); (replace q209 := eq_true q209); (have p213 : 0 ≤ (x14_3 : Int) := of_decide_eq_true (by assumption)); (have q213 : x14_3 < (l0_2.length : Int) := of_decide_eq_true (by assumption)); (obtain ⟨ad213, A213_0, c213_0, e213, hx213_0, hl213_0, hi213_0⟩ := at_L1 HR0_2.out x14_3 p213 q213); (have hw213_0 := hx213_0); (cases e213); (replace hx213_0 := (HB.out.cell (World.block_lt_of_cell? w _ hx213_0)).trans hx213_0); (have HR213_0 := Za.mk hi213_0); (have HC213_0 := Za.mk hl213_0); (clear hi213_0 hl213_0); (replace p213 := eq_true p213); (replace q213 := eq_true q213); (have p214 : 0 ≤ (x16_5 : Int) := of_decide_eq_true (by assumption)); (have q214 : x16_5 < ((Zd l0_2 x14_3).length : Int) := of_decide_eq_true (by assumption)); (obtain ⟨ad214, e214, hx214_0⟩ := Kd.at_int HR213_0.out x16_5 p214 q214); (have hw214_0 := hx214_0)
           (cases e214); (replace hx214_0 := (HB.out.cell (World.block_lt_of_cell? w _ hx214_0)).trans hx214_0); (replace p214 := eq_true p214); (replace q214 := eq_true q214); (obtain ⟨Ao79, co79, eo79⟩ := Kd.S_slice HO_9.out)
           (first | subst eo79 | (injection eo79 with f1_ f2_ f3_; have f4_ := f1_.symm; have f5_ := f3_.symm; clear f1_ f2_ f3_; subst f4_; subst f5_))
           (have p215 : 0 ≤ ((rd (Zd l0_2 x14_3) x16_5) : Int) := of_decide_eq_true (by assumption)); (have q215 : (rd (Zd l0_2 x14_3) x16_5) < (x9_2.length : Int) := of_decide_eq_true (by assumption)); (obtain ⟨ad215, A215_0, c215_0, e215, hx215_0, hl215_0, hi215_0⟩ := at_L4 (Kd.S_reads' HO_9.out).2.2 (rd (Zd l0_2 x14_3) x16_5) p215 q215); (cases e215); (obtain ⟨ce215, hce215, hMe215, hcc215⟩ := Kd.S_get HO_9.out [] (rd (Zd l0_2 x14_3) x16_5) p215 (by first | exact q215 | exact of_decide_eq_true (by assumption) | (have e_ := (Kd.S_reads' HO_9.out).1; omega))); (obtain ⟨ve215_0, rfl, ge215_0⟩ := hMe215); (have hv215_0 := hcc215 0 _ rfl); (rw [Nat.add_zero, show ((Kd.slice 4 Kd.bool)).sz = 1 from rfl, Nat.mul_one] at hv215_0); (replace hv215_0 := Option.some.inj (hv215_0.symm.trans hx215_0)); (rw [hv215_0] at ge215_0); (have HL215_0 := Za.mk (show Kd.R Kd.bool 4 _ _ _ _ (rd_L4 x9_2 (rd (Zd l0_2 x14_3) x16_5)) from ge215_0)); (clear hv215_0 ge215_0); (have HX215_0 := Za.mk hx215_0); (clear hcc215 hce215); (have HR215_0 := Za.mk hi215_0); (have HC215_0 := Za.mk hl215_0); (clear hi215_0 hl215_0); (replace p215 := eq_true p215); (replace q215 := eq_true q215); (have p216 : 0 ≤ (x15_4 : Int) := of_decide_eq_true (by assumption)); (have q216 : x15_4 < (l0_2.length : Int) := of_decide_eq_true (by assumption)); (obtain ⟨ad216, A216_0, c216_0, e216, hx216_0, hl216_0, hi216_0⟩ := at_L1 HR0_2.out x15_4 p216 q216); (have hw216_0 := hx216_0); (obtain rfl : ad213 = ad216 := (by injection e216)); (replace hx216_0 := (HB.out.cell (World.block_lt_of_cell? w _ hx216_0)).trans hx216_0)
           (have HR216_0 := Za.mk hi216_0); (have HC216_0 := Za.mk hl216_0); (clear hi216_0 hl216_0); (replace p216 := eq_true p216); (replace q216 := eq_true q216); (have p217 : 0 ≤ (x16_5 : Int) := of_decide_eq_true (by assumption)); (have q217 : x16_5 < ((Zd l0_2 x15_4).length : Int) := of_decide_eq_true (by assumption)); (obtain ⟨ad217, e217, hx217_0⟩ := Kd.at_int HR216_0.out x16_5 p217 q217); (have hw217_0 := hx217_0); (cases e217); (replace hx217_0 := (HB.out.cell (World.block_lt_of_cell? w _ hx217_0)).trans hx217_0); (replace p217 := eq_true p217); (replace q217 := eq_true q217); (have p218 : 0 ≤ ((rd (Zd l0_2 x15_4) x16_5) : Int) := of_decide_eq_true (by assumption)); (have q218 : (rd (Zd l0_2 x15_4) x16_5) < ((rd_L4 x9_2 (rd (Zd l0_2 x14_3) x16_5)).length : Int) := of_decide_eq_true (by assumption)); (obtain ⟨ad218, e218, hx218_0⟩ := Kd.at_bool (by repeat (first | (with_reducible exact HR215_0.out) | (with_reducible refine Kd.C_alloc ?_ _) | (with_reducible refine Kd.C_drewN ?_ _) | (with_reducible refine Kd.C_drew ?_) | exact HR215_0.out)) (rd (Zd l0_2 x15_4) x16_5) p218 q218); ((try rw [← Nbq60.out] at hx218_0)); (cases e218); (replace p218 := eq_true p218); (replace q218 := eq_true q218); (have p76 : 0 ≤ (x15_4 : Int) := of_decide_eq_true (by assumption)); (have q76 : (x15_4 : Int) < (((rd_L4 x13_5 x14_3).length : Int) : Int) := of_decide_eq_true (by assumption)); (obtain ⟨go76, co76, eo76, gb76, gl76, cl76, HG76⟩ := Kd.R_form HL207_0.out (by omega))
           (first | cases eo76 | (injection eo76 with ea_ en_ ec_; (first | subst ea_ | (injection ea_ with ea_; subst ea_)); subst ec_; clear en_))
           (have GB76 := Za.mk gb76); (have GG76 := Za.mk HG76); (clear gb76 gl76 HG76)
           (first | simp only [add_plain] at hx209_0 | skip)
           (obtain ⟨hx76_0, hf76_0⟩ := Kd.R_celln false HL207_0.out (x15_4 : Int) p76 q76); (replace p76 := eq_true p76); (replace q76 := eq_true q76); (have hq80 : (x14_3 : Int) < (x13_5.length : Int) := (by have h_ : (x14_3 : Int) < ((x13_5.length : Int) : Int) := of_decide_eq_true (by assumption); first | exact h_ | (have e_ := (Kd.S_reads' HO_13.out).1; omega) | simpa only [List.length_set, List.length_set] using h_)); (obtain ⟨oki80, ce80, hcl80, hM80, hcc80, hok80, hbk80⟩ := Kd.S_borrow HO_13.out [] (x14_3 : Int) (of_decide_eq_true (by assumption)) hq80); (obtain ⟨ve80_0, rfl, ge80_0⟩ := hM80); (have hv80 := hcc80 0 _ rfl); (rw [Nat.add_zero, show ((Kd.slice 4 Kd.bool)).sz = 1 from rfl, Nat.mul_one] at hv80); (replace hv80 := Option.some.inj (hv80.symm.trans HX207_0.out)); (subst hv80); (clear hcc80 hcl80); (replace ge80_0 := (show Kd.R Kd.bool 4 _ _ _ _ (rd_L4 x13_5 x14_3) from ge80_0)); ((try (obtain ⟨hy80_, hz80_⟩ := Kd.R_celln false ge80_0 (x15_4 : Int) (of_decide_eq_true (by assumption)) (by have h_ : (x15_4 : Int) < (((rd_L4 x13_5 x14_3).length : Int) : Int) := of_decide_eq_true (by assumption); first | exact h_ | (have e_ := (Kd.R_reads' HR207_0.out).1; omega) | simpa using h_)))); (have HP80 := Kd.R_putg ge80_0 (x15_4 : Int) (rdOf false (rd_L4 x9_2 (rd (Zd l0_2 x14_3) x16_5)) (rd (Zd l0_2 x15_4) x16_5))); (rw [← Ny219.out] at HP80); (have HS80 := hbk80 HP80.2 (fun k_ e_ => by injection e_ with e_; subst e_; exact ge80_0.1 _ rfl) (x' := y219) (Kd.M_row HP80.1)); (rw [← Ny221.out] at HS80); (have HQ80 := Za.mk HS80); (clear HP80 HS80 hbk80 hok80)
           refine start_ (n := 37) (S := fun w' => w'.cell? ⟨gb184, 0, none⟩ = some (.int .i64 a0_0) ∧ w'.cell? ⟨gb184, 1, none⟩ = some (.int .i64 a0_1) ∧ w'.cell? ⟨gb184, 2, none⟩ = some (.slice (some ad213) l0_2.length c0_2) ∧ w'.cell? ⟨gb184, 3, none⟩ = some (.int .i64 a0_3) ∧ w'.cell? ⟨gb184, 4, none⟩ = some (.int .u32 a0_4) ∧ w'.cell? ⟨go47, (x14_3).toNat, none⟩ = some (.slice (some ⟨go76, 0, none⟩) (rd_L4 x13_5 x14_3).length c207_0) ∧ w'.cell? ⟨go47, (x14_3).toNat, none⟩ = some (.slice (some ⟨go76, 0, none⟩) (rd_L4 x13_5 x14_3).length c207_0) ∧ w'.cell? ⟨go76, (x15_4).toNat, none⟩ = some (.bool false) ∧ w'.cell? (ad213.add (x14_3).toNat) = some (.slice (some ad214) (Zd l0_2 x14_3).length c213_0) ∧ w'.cell? (ad214.add (x16_5).toNat) = some (.int .i64 (rd (Zd l0_2 x14_3) x16_5)) ∧ w'.cell? (ad215.add ((rd (Zd l0_2 x14_3) x16_5)).toNat) = some (.slice (some ad218) (rd_L4 x9_2 (rd (Zd l0_2 x14_3) x16_5)).length c215_0) ∧ w'.cell? (ad213.add (x15_4).toNat) = some (.slice (some ad217) (Zd l0_2 x15_4).length c216_0) ∧ w'.cell? (ad217.add (x16_5).toNat) = some (.int .i64 (rd (Zd l0_2 x15_4) x16_5)) ∧ w'.cell? (ad218.add ((rd (Zd l0_2 x15_4) x16_5)).toNat) = some (.bool (rdOf false (rd_L4 x9_2 (rd (Zd l0_2 x14_3) x16_5)) (rd (Zd l0_2 x15_4) x16_5)))) (ds := [36]) #[false, false, false, false, false, false, false, false, false, false, false, false, false, false, false, false, false, false, false, false, false, false, false, false, false, false, false, false, false, false, false, false, false, false, false, false, false] (by kernel_rfl) rfl rfl ⟨(Zb BK184.out 0).trans rfl, (Zb BK184.out 1).trans rfl, (Zb BK184.out 2).trans rfl, (Zb BK184.out 3).trans rfl, (Zb BK184.out 4).trans rfl, hx207_0, hx208_0, hx209_0, ((HB.out.cell (World.block_lt_of_cell? w _ hw213_0)).trans hw213_0), ((HB.out.cell (World.block_lt_of_cell? w _ hw214_0)).trans hw214_0), hx215_0, ((HB.out.cell (World.block_lt_of_cell? w _ hw216_0)).trans hw216_0), ((HB.out.cell (World.block_lt_of_cell? w _ hw217_0)).trans hw217_0), hx218_0⟩ (fun hHeld => ?_); refine with_tabW Zh.tab24 Zh.bits24 (fun HT_ HW_ => ?_)
           generalize wr.drew = w78 at HO_9 HO_13 BK184 HB GG76 HL207_0 HL208_0 HL215_0 HQ80 HR207_0 HR208_0 HR213_0 HR215_0 HR216_0 HX207_0 HX208_0 HX215_0 hf76_0 hx207_0 hx208_0 hx209_0 hx213_0 hx214_0 hx215_0 hx216_0 hx217_0 hx218_0 hx76_0 hHeld ⊢
           refine pure_ (i := 0) (N := some 85) (v := ?_) (a' := ?_) #[true, false, false, false, false, false, false, false, false, false, false, false, false, false, false, false, false, false, false, false, false, false, false, false, false, false, false, false, false, false, false, false, false, false, false, false, false] rfl rfl (Zj HT_.out (by kernel_rfl)) (fun _ _ _ h => h) (Or.inl ⟨by rfl, ?_⟩) ?_ ?_
           rotate_left
           ·intro w'
            go_simp
            with_reducible rfl
           rotate_left
           ·simp only [Act.put, List.setIfInBounds_toArray, List.set_cons_zero, List.set_cons_succ, Zg, Zf]
            rfl
           refine pure_ (i := 1) (N := some 86) (v := ?_) (a' := ?_) #[true, true, false, false, false, false, false, false, false, false, false, false, false, false, false, false, false, false, false, false, false, false, false, false, false, false, false, false, false, false, false, false, false, false, false, false, false] rfl rfl (Zj HT_.out (by kernel_rfl)) (fun _ _ _ h => h) (Or.inl ⟨by rfl, ?_⟩) ?_ ?_
           rotate_left
           ·intro w'
            go_simp
            with_reducible rfl
           rotate_left
           ·simp only [Act.put, List.setIfInBounds_toArray, List.set_cons_zero, List.set_cons_succ, Zg, Zf]
            rfl
           refine pure_ (i := 2) (N := some 87) (v := ?_) (a' := ?_) #[true, true, true, false, false, false, false, false, false, false, false, false, false, false, false, false, false, false, false, false, false, false, false, false, false, false, false, false, false, false, false, false, false, false, false, false, false] rfl rfl (Zj HT_.out (by kernel_rfl)) (fun _ _ _ h => h) (Or.inl ⟨by rfl, ?_⟩) ?_ ?_
           rotate_left
           ·intro w'
            go_simp
            with_reducible rfl
           rotate_left
           ·simp only [Act.put, List.setIfInBounds_toArray, List.set_cons_zero, List.set_cons_succ, Zg, Zf]
            rfl
           refine pure_ (i := 4) (N := some 89) (v := ?_) (a' := ?_) #[true, true, true, false, true, false, false, false, false, false, false, false, false, false, false, false, false, false, false, false, false, false, false, false, false, false, false, false, false, false, false, false, false, false, false, false, false] rfl rfl (Zj HT_.out (by kernel_rfl)) (fun _ _ _ h => h) (Or.inl ⟨by rfl, ?_⟩) ?_ ?_
           rotate_left
           ·intro w'
            go_simp
            with_reducible rfl
           rotate_left
           ·simp only [Act.put, List.setIfInBounds_toArray, List.set_cons_zero, List.set_cons_succ, Zg, Zf]
            rfl
           refine pure_ (i := 5) (N := some 90) (v := ?_) (a' := ?_) #[true, true, true, false, true, true, false, false, false, false, false, false, false, false, false, false, false, false, false, false, false, false, false, false, false, false, false, false, false, false, false, false, false, false, false, false, false] rfl rfl (Zj HT_.out (by kernel_rfl)) (fun _ _ _ h => h) (Or.inl ⟨by rfl, ?_⟩) ?_ ?_
           rotate_left
           ·intro w'
            go_simp
            with_reducible rfl
           rotate_left
           ·simp only [Act.put, List.setIfInBounds_toArray, List.set_cons_zero, List.set_cons_succ, Zg, Zf]
            rfl
           refine pure_ (i := 6) (N := some 91) (v := ?_) (a' := ?_) #[true, true, true, false, true, true, true, false, false, false, false, false, false, false, false, false, false, false, false, false, false, false, false, false, false, false, false, false, false, false, false, false, false, false, false, false, false] rfl rfl (Zj HT_.out (by kernel_rfl)) (fun _ _ _ h => h) (Or.inl ⟨by rfl, ?_⟩) ?_ ?_
           rotate_left
           ·intro w'
            go_simp
            with_reducible rfl
           rotate_left
           ·simp only [Act.put, List.setIfInBounds_toArray, List.set_cons_zero, List.set_cons_succ, Zg, Zf]
            rfl
           refine pure_ (i := 7) (N := some 92) (v := ?_) (a' := ?_) #[true, true, true, false, true, true, true, true, false, false, false, false, false, false, false, false, false, false, false, false, false, false, false, false, false, false, false, false, false, false, false, false, false, false, false, false, false] rfl rfl (Zj HT_.out (by kernel_rfl)) (fun _ _ _ h => h) (Or.inl ⟨by rfl, ?_⟩) ?_ ?_
           rotate_left
           ·intro w'
            go_simp
            with_reducible rfl
           rotate_left
           ·simp only [Act.put, List.setIfInBounds_toArray, List.set_cons_zero, List.set_cons_succ, Zg, Zf]
            rfl
           refine pure_ (i := 9) (N := some 94) (v := ?_) (a' := ?_) #[true, true, true, false, true, true, true, true, false, true, false, false, false, false, false, false, false, false, false, false, false, false, false, false, false, false, false, false, false, false, false, false, false, false, false, false, false] rfl rfl (Zj HT_.out (by kernel_rfl)) (fun _ _ _ h => h) (Or.inl ⟨by rfl, ?_⟩) ?_ ?_
           rotate_left
           ·intro w'
            go_simp
            with_reducible rfl
           rotate_left
           ·simp only [Act.put, List.setIfInBounds_toArray, List.set_cons_zero, List.set_cons_succ, Zg, Zf]
            rfl
           refine take_ (i := 3) (N := some 88) (v := ?_) (a' := ?_) #[true, true, true, true, true, true, true, true, false, true, false, false, false, false, false, false, false, false, false, false, false, false, false, false, false, false, false, false, false, false, false, false, false, false, false, false, false] rfl rfl (Zz HT_.out HW_.out (by kernel_rfl)) (fun _ _ _ h => h) (Or.inl ⟨by rfl, ?_⟩) hHeld ?_ ?_
           rotate_left
           ·rintro w' ⟨s0, s1, s2, s3, s4, s5, s6, s7, s8, s9, s10, s11, s12, s13⟩
            go_simp
            with_reducible rfl
           rotate_left
           ·simp only [Act.put, List.setIfInBounds_toArray, List.set_cons_zero, List.set_cons_succ, Zg, Zf]
            rfl
           refine take_ (i := 8) (N := some 93) (v := ?_) (a' := ?_) #[true, true, true, true, true, true, true, true, true, true, false, false, false, false, false, false, false, false, false, false, false, false, false, false, false, false, false, false, false, false, false, false, false, false, false, false, false] rfl rfl (Zz HT_.out HW_.out (by kernel_rfl)) (fun _ _ _ h => h) (Or.inl ⟨by rfl, ?_⟩) hHeld ?_ ?_
           rotate_left
           ·rintro w' ⟨s0, s1, s2, s3, s4, s5, s6, s7, s8, s9, s10, s11, s12, s13⟩
            go_simp
            with_reducible rfl
           rotate_left
           ·simp only [Act.put, List.setIfInBounds_toArray, List.set_cons_zero, List.set_cons_succ, Zg, Zf]
            rfl
           refine pure_ (i := 10) (N := some 95) (v := ?_) (a' := ?_) #[true, true, true, true, true, true, true, true, true, true, true, false, false, false, false, false, false, false, false, false, false, false, false, false, false, false, false, false, false, false, false, false, false, false, false, false, false] rfl rfl (Zj HT_.out (by kernel_rfl)) (fun _ _ _ h => h) (Or.inl ⟨by rfl, ?_⟩) ?_ ?_
           rotate_left
           ·intro w'
            go_simp
            with_reducible rfl
           rotate_left
           ·simp only [Act.put, List.setIfInBounds_toArray, List.set_cons_zero, List.set_cons_succ, Zg, Zf]
            rfl
           refine take_ (i := 11) (N := some 96) (v := ?_) (a' := ?_) #[true, true, true, true, true, true, true, true, true, true, true, true, false, false, false, false, false, false, false, false, false, false, false, false, false, false, false, false, false, false, false, false, false, false, false, false, false] rfl rfl (Zz HT_.out HW_.out (by kernel_rfl)) (fun _ _ _ h => h) (Or.inl ⟨by rfl, ?_⟩) hHeld ?_ ?_
           rotate_left
           ·rintro w' ⟨s0, s1, s2, s3, s4, s5, s6, s7, s8, s9, s10, s11, s12, s13⟩
            go_simp
            with_reducible rfl
           rotate_left
           ·simp only [Act.put, List.setIfInBounds_toArray, List.set_cons_zero, List.set_cons_succ, Zg, Zf]
            rfl
           refine pure_ (i := 12) (N := some 97) (v := ?_) (a' := ?_) #[true, true, true, true, true, true, true, true, true, true, true, true, true, false, false, false, false, false, false, false, false, false, false, false, false, false, false, false, false, false, false, false, false, false, false, false, false] rfl rfl (Zj HT_.out (by kernel_rfl)) (fun _ _ _ h => h) (Or.inl ⟨by rfl, ?_⟩) ?_ ?_
           rotate_left
           ·intro w'
            go_simp
            with_reducible rfl
           rotate_left
           ·simp only [Act.put, List.setIfInBounds_toArray, List.set_cons_zero, List.set_cons_succ, Zg, Zf]
            rfl
           refine pure_ (i := 13) (N := some 98) (v := ?_) (a' := ?_) #[true, true, true, true, true, true, true, true, true, true, true, true, true, true, false, false, false, false, false, false, false, false, false, false, false, false, false, false, false, false, false, false, false, false, false, false, false] rfl rfl (Zj HT_.out (by kernel_rfl)) (fun _ _ _ h => h) (Or.inl ⟨by rfl, ?_⟩) ?_ ?_
           rotate_left
           ·intro w'
            go_simp
            with_reducible rfl
           rotate_left
           ·simp only [Act.put, List.setIfInBounds_toArray, List.set_cons_zero, List.set_cons_succ, Zg, Zf]
            rfl
           refine pure_ (i := 14) (N := some 99) (v := ?_) (a' := ?_) #[true, true, true, true, true, true, true, true, true, true, true, true, true, true, true, false, false, false, false, false, false, false, false, false, false, false, false, false, false, false, false, false, false, false, false, false, false] rfl rfl (Zj HT_.out (by kernel_rfl)) (fun _ _ _ h => h) (Or.inl ⟨by rfl, ?_⟩) ?_ ?_
           rotate_left
           ·intro w'
            go_simp
            with_reducible rfl
           rotate_left
           ·simp only [Act.put, List.setIfInBounds_toArray, List.set_cons_zero, List.set_cons_succ, Zg, Zf]
            rfl
           refine pure_ (i := 16) (N := some 101) (v := ?_) (a' := ?_) #[true, true, true, true, true, true, true, true, true, true, true, true, true, true, true, false, true, false, false, false, false, false, false, false, false, false, false, false, false, false, false, false, false, false, false, false, false] rfl rfl (Zj HT_.out (by kernel_rfl)) (fun _ _ _ h => h) (Or.inl ⟨by rfl, ?_⟩) ?_ ?_
           rotate_left
           ·intro w'
            go_simp
            with_reducible rfl
           rotate_left
           ·simp only [Act.put, List.setIfInBounds_toArray, List.set_cons_zero, List.set_cons_succ, Zg, Zf]
            rfl
           refine pure_ (i := 19) (N := some 104) (v := ?_) (a' := ?_) #[true, true, true, true, true, true, true, true, true, true, true, true, true, true, true, false, true, false, false, true, false, false, false, false, false, false, false, false, false, false, false, false, false, false, false, false, false] rfl rfl (Zj HT_.out (by kernel_rfl)) (fun _ _ _ h => h) (Or.inl ⟨by rfl, ?_⟩) ?_ ?_
           rotate_left
           ·intro w'
            go_simp
            with_reducible rfl
           rotate_left
           ·simp only [Act.put, List.setIfInBounds_toArray, List.set_cons_zero, List.set_cons_succ, Zg, Zf]
            rfl
           refine pure_ (i := 24) (N := some 109) (v := ?_) (a' := ?_) #[true, true, true, true, true, true, true, true, true, true, true, true, true, true, true, false, true, false, false, true, false, false, false, false, true, false, false, false, false, false, false, false, false, false, false, false, false] rfl rfl (Zj HT_.out (by kernel_rfl)) (fun _ _ _ h => h) (Or.inl ⟨by rfl, ?_⟩) ?_ ?_
           rotate_left
           ·intro w'
            go_simp
            with_reducible rfl
           rotate_left
           ·simp only [Act.put, List.setIfInBounds_toArray, List.set_cons_zero, List.set_cons_succ, Zg, Zf]
            rfl
           refine pure_ (i := 26) (N := some 111) (v := ?_) (a' := ?_) #[true, true, true, true, true, true, true, true, true, true, true, true, true, true, true, false, true, false, false, true, false, false, false, false, true, false, true, false, false, false, false, false, false, false, false, false, false] rfl rfl (Zj HT_.out (by kernel_rfl)) (fun _ _ _ h => h) (Or.inl ⟨by rfl, ?_⟩) ?_ ?_
           rotate_left
           ·intro w'
            go_simp
            with_reducible rfl
           rotate_left
           ·simp only [Act.put, List.setIfInBounds_toArray, List.set_cons_zero, List.set_cons_succ, Zg, Zf]
            rfl
           refine pure_ (i := 29) (N := some 114) (v := ?_) (a' := ?_) #[true, true, true, true, true, true, true, true, true, true, true, true, true, true, true, false, true, false, false, true, false, false, false, false, true, false, true, false, false, true, false, false, false, false, false, false, false] rfl rfl (Zj HT_.out (by kernel_rfl)) (fun _ _ _ h => h) (Or.inl ⟨by rfl, ?_⟩) ?_ ?_
           rotate_left
           ·intro w'
            go_simp
            with_reducible rfl
           rotate_left
           ·simp only [Act.put, List.setIfInBounds_toArray, List.set_cons_zero, List.set_cons_succ, Zg, Zf]
            rfl
           refine take_ (i := 15) (N := some 100) (v := ?_) (a' := ?_) #[true, true, true, true, true, true, true, true, true, true, true, true, true, true, true, true, true, false, false, true, false, false, false, false, true, false, true, false, false, true, false, false, false, false, false, false, false] rfl rfl (Zz HT_.out HW_.out (by kernel_rfl)) (fun _ _ _ h => h) (Or.inl ⟨by rfl, ?_⟩) hHeld ?_ ?_
           rotate_left
           ·rintro w' ⟨s0, s1, s2, s3, s4, s5, s6, s7, s8, s9, s10, s11, s12, s13⟩
            go_simp
            with_reducible rfl
           rotate_left
           ·simp only [Act.put, List.setIfInBounds_toArray, List.set_cons_zero, List.set_cons_succ, Zg, Zf]
            rfl
           refine pure_ (i := 17) (N := some 102) (v := ?_) (a' := ?_) #[true, true, true, true, true, true, true, true, true, true, true, true, true, true, true, true, true, true, false, true, false, false, false, false, true, false, true, false, false, true, false, false, false, false, false, false, false] rfl rfl (Zj HT_.out (by kernel_rfl)) (fun _ _ _ h => h) (Or.inl ⟨by rfl, ?_⟩) ?_ ?_
           rotate_left
           ·intro w'
            go_simp
            with_reducible rfl
           rotate_left
           ·simp only [Act.put, List.setIfInBounds_toArray, List.set_cons_zero, List.set_cons_succ, Zg, Zf]
            rfl
           refine take_ (i := 18) (N := some 103) (v := ?_) (a' := ?_) #[true, true, true, true, true, true, true, true, true, true, true, true, true, true, true, true, true, true, true, true, false, false, false, false, true, false, true, false, false, true, false, false, false, false, false, false, false] rfl rfl (Zz HT_.out HW_.out (by kernel_rfl)) (fun _ _ _ h => h) (Or.inl ⟨by rfl, ?_⟩) hHeld ?_ ?_
           rotate_left
           ·rintro w' ⟨s0, s1, s2, s3, s4, s5, s6, s7, s8, s9, s10, s11, s12, s13⟩
            go_simp
            with_reducible rfl
           rotate_left
           ·simp only [Act.put, List.setIfInBounds_toArray, List.set_cons_zero, List.set_cons_succ, Zg, Zf]
            rfl
           refine pure_ (i := 20) (N := some 105) (v := ?_) (a' := ?_) #[true, true, true, true, true, true, true, true, true, true, true, true, true, true, true, true, true, true, true, true, true, false, false, false, true, false, true, false, false, true, false, false, false, false, false, false, false] rfl rfl (Zj HT_.out (by kernel_rfl)) (fun _ _ _ h => h) (Or.inl ⟨by rfl, ?_⟩) ?_ ?_
           rotate_left
           ·intro w'
            go_simp
            with_reducible rfl
           rotate_left
           ·simp only [Act.put, List.setIfInBounds_toArray, List.set_cons_zero, List.set_cons_succ, Zg, Zf]
            rfl
           refine take_ (i := 21) (N := some 106) (v := ?_) (a' := ?_) #[true, true, true, true, true, true, true, true, true, true, true, true, true, true, true, true, true, true, true, true, true, true, false, false, true, false, true, false, false, true, false, false, false, false, false, false, false] rfl rfl (Zz HT_.out HW_.out (by kernel_rfl)) (fun _ _ _ h => h) (Or.inl ⟨by rfl, ?_⟩) hHeld ?_ ?_
           rotate_left
           ·rintro w' ⟨s0, s1, s2, s3, s4, s5, s6, s7, s8, s9, s10, s11, s12, s13⟩
            go_simp
            with_reducible rfl
           rotate_left
           ·simp only [Act.put, List.setIfInBounds_toArray, List.set_cons_zero, List.set_cons_succ, Zg, Zf]
            rfl
           refine pure_ (i := 22) (N := some 107) (v := ?_) (a' := ?_) #[true, true, true, true, true, true, true, true, true, true, true, true, true, true, true, true, true, true, true, true, true, true, true, false, true, false, true, false, false, true, false, false, false, false, false, false, false] rfl rfl (Zj HT_.out (by kernel_rfl)) (fun _ _ _ h => h) (Or.inl ⟨by rfl, ?_⟩) ?_ ?_
           rotate_left
           ·intro w'
            go_simp
            with_reducible rfl
           rotate_left
           ·simp only [Act.put, List.setIfInBounds_toArray, List.set_cons_zero, List.set_cons_succ, Zg, Zf]
            rfl
           refine take_ (i := 23) (N := some 108) (v := ?_) (a' := ?_) #[true, true, true, true, true, true, true, true, true, true, true, true, true, true, true, true, true, true, true, true, true, true, true, true, true, false, true, false, false, true, false, false, false, false, false, false, false] rfl rfl (Zz HT_.out HW_.out (by kernel_rfl)) (fun _ _ _ h => h) (Or.inl ⟨by rfl, ?_⟩) hHeld ?_ ?_
           rotate_left
           ·rintro w' ⟨s0, s1, s2, s3, s4, s5, s6, s7, s8, s9, s10, s11, s12, s13⟩
            go_simp
            with_reducible rfl
           rotate_left
           ·simp only [Act.put, List.setIfInBounds_toArray, List.set_cons_zero, List.set_cons_succ, Zg, Zf]
            rfl
           refine take_ (i := 25) (N := some 110) (v := ?_) (a' := ?_) #[true, true, true, true, true, true, true, true, true, true, true, true, true, true, true, true, true, true, true, true, true, true, true, true, true, true, true, false, false, true, false, false, false, false, false, false, false] rfl rfl (Zz HT_.out HW_.out (by kernel_rfl)) (fun _ _ _ h => h) (Or.inl ⟨by rfl, ?_⟩) hHeld ?_ ?_
           rotate_left
           ·rintro w' ⟨s0, s1, s2, s3, s4, s5, s6, s7, s8, s9, s10, s11, s12, s13⟩
            go_simp
            with_reducible rfl
           rotate_left
           ·simp only [Act.put, List.setIfInBounds_toArray, List.set_cons_zero, List.set_cons_succ, Zg, Zf]
            rfl
           refine pure_ (i := 27) (N := some 112) (v := ?_) (a' := ?_) #[true, true, true, true, true, true, true, true, true, true, true, true, true, true, true, true, true, true, true, true, true, true, true, true, true, true, true, true, false, true, false, false, false, false, false, false, false] rfl rfl (Zj HT_.out (by kernel_rfl)) (fun _ _ _ h => h) (Or.inl ⟨by rfl, ?_⟩) ?_ ?_
           rotate_left
           ·intro w'
            go_simp
            with_reducible rfl
           rotate_left
           ·simp only [Act.put, List.setIfInBounds_toArray, List.set_cons_zero, List.set_cons_succ, Zg, Zf]
            rfl
           refine take_ (i := 28) (N := some 113) (v := ?_) (a' := ?_) #[true, true, true, true, true, true, true, true, true, true, true, true, true, true, true, true, true, true, true, true, true, true, true, true, true, true, true, true, true, true, false, false, false, false, false, false, false] rfl rfl (Zz HT_.out HW_.out (by kernel_rfl)) (fun _ _ _ h => h) (Or.inl ⟨by rfl, ?_⟩) hHeld ?_ ?_
           rotate_left
           ·rintro w' ⟨s0, s1, s2, s3, s4, s5, s6, s7, s8, s9, s10, s11, s12, s13⟩
            go_simp
            with_reducible rfl
           rotate_left
           ·simp only [Act.put, List.setIfInBounds_toArray, List.set_cons_zero, List.set_cons_succ, Zg, Zf]
            rfl
           refine pure_ (i := 30) (N := some 115) (v := ?_) (a' := ?_) #[true, true, true, true, true, true, true, true, true, true, true, true, true, true, true, true, true, true, true, true, true, true, true, true, true, true, true, true, true, true, true, false, false, false, false, false, false] rfl rfl (Zj HT_.out (by kernel_rfl)) (fun _ _ _ h => h) (Or.inl ⟨by rfl, ?_⟩) ?_ ?_
           rotate_left
           ·intro w'
            go_simp
            with_reducible rfl
           rotate_left
           ·simp only [Act.put, List.setIfInBounds_toArray, List.set_cons_zero, List.set_cons_succ, Zg, Zf]
            rfl
           refine take_ (i := 31) (N := some 116) (v := ?_) (a' := ?_) #[true, true, true, true, true, true, true, true, true, true, true, true, true, true, true, true, true, true, true, true, true, true, true, true, true, true, true, true, true, true, true, true, false, false, false, false, false] rfl rfl (Zz HT_.out HW_.out (by kernel_rfl)) (fun _ _ _ h => h) (Or.inl ⟨by rfl, ?_⟩) hHeld ?_ ?_
           rotate_left
           ·rintro w' ⟨s0, s1, s2, s3, s4, s5, s6, s7, s8, s9, s10, s11, s12, s13⟩
            go_simp
            with_reducible rfl
           rotate_left
           ·simp only [Act.put, List.setIfInBounds_toArray, List.set_cons_zero, List.set_cons_succ, Zg, Zf]
            rfl
           refine pure_ (i := 32) (N := some 117) (v := ?_) (a' := ?_) #[true, true, true, true, true, true, true, true, true, true, true, true, true, true, true, true, true, true, true, true, true, true, true, true, true, true, true, true, true, true, true, true, true, false, false, false, false] rfl rfl (Zj HT_.out (by kernel_rfl)) (fun _ _ _ h => h) (Or.inl ⟨by rfl, ?_⟩) ?_ ?_
           rotate_left
           ·intro w'
            go_simp
            with_reducible rfl
           rotate_left
           ·simp only [Act.put, List.setIfInBounds_toArray, List.set_cons_zero, List.set_cons_succ, Zg, Zf]
            rfl
           refine take_ (i := 33) (N := some 118) (v := ?_) (a' := ?_) #[true, true, true, true, true, true, true, true, true, true, true, true, true, true, true, true, true, true, true, true, true, true, true, true, true, true, true, true, true, true, true, true, true, true, false, false, false] rfl rfl (Zz HT_.out HW_.out (by kernel_rfl)) (fun _ _ _ h => h) (Or.inl ⟨by rfl, ?_⟩) hHeld ?_ ?_
           rotate_left
           ·rintro w' ⟨s0, s1, s2, s3, s4, s5, s6, s7, s8, s9, s10, s11, s12, s13⟩
            go_simp
            with_reducible rfl
           rotate_left
           ·simp only [Act.put, List.setIfInBounds_toArray, List.set_cons_zero, List.set_cons_succ, Zg, Zf]
            rfl
           refine pure_ (i := 34) (N := some 119) (v := ?_) (a' := ?_) #[true, true, true, true, true, true, true, true, true, true, true, true, true, true, true, true, true, true, true, true, true, true, true, true, true, true, true, true, true, true, true, true, true, true, true, false, false] rfl rfl (Zj HT_.out (by kernel_rfl)) (fun _ _ _ h => h) (Or.inl ⟨by rfl, ?_⟩) ?_ ?_
           rotate_left
           ·intro w'
            go_simp
            with_reducible rfl
           rotate_left
           ·simp only [Act.put, List.setIfInBounds_toArray, List.set_cons_zero, List.set_cons_succ, Zg, Zf]
            rfl
           refine pure_ (i := 35) (N := some 120) (v := ?_) (a' := ?_) #[true, true, true, true, true, true, true, true, true, true, true, true, true, true, true, true, true, true, true, true, true, true, true, true, true, true, true, true, true, true, true, true, true, true, true, true, false] rfl rfl (Zj HT_.out (by kernel_rfl)) (fun _ _ _ h => h) (Or.inl ⟨by rfl, ?_⟩) ?_ ?_
           rotate_left
           ·intro w'
            go_simp
            with_reducible rfl
           rotate_left
           ·simp only [Act.put, List.setIfInBounds_toArray, List.set_cons_zero, List.set_cons_succ, Zg, Zf]
            rfl
           refine last_ (i := 36) (N := none) #[true, true, true, true, true, true, true, true, true, true, true, true, true, true, true, true, true, true, true, true, true, true, true, true, true, true, true, true, true, true, true, true, true, true, true, true, true] rfl rfl (one_of HT_.out (by kernel_rfl)) (by decide) (fun K hK => ?_)
           refine skip_ (w1 := ?_) (by rfl) rfl ?_ ?_
           rotate_left
           ·go_simp
            rfl
           refine hK.out _ _ ?_
           clear hK K
           refine done_ (done_of HT_.out (by kernel_rfl)) ?_
           try go_wp2
           (try simp only [← hl13_5])
           go_roundg k5
           case measure => have := HK1.out; have := HK2.out; have := HK3.out; have := HK4.out; have := HK5.out; omega
           case rel => exact ⟨(y221), (wrap64 (x16_5 + 1)), (by first | rfl | (simp; done) | (simp [*]; done)), H', ⟨by have := HK1.out; have := HK2.out; have := HK3.out; have := HK4.out; have := HK5.out; omega⟩, ⟨by (try simp only [hl13_4]); (try simp only [hl13_5]); (with_reducible repeat (first | apply Kd.S_alloc | apply Kd.S_drewN | apply Kd.S_drew)); exact Kd.S_mono (Kd.S_far (p := ⟨go76, (x15_4 : Int).toNat, none⟩) (Kd.S_mono HO_9.out (fun k_ hk => (⟨hk, Zh.bef_aft (hk.2) ((HL207_0.out.1 _ rfl).1.2)⟩ : _ ∧ k_ ≠ go76))) (fun _ hk => hk.2) (.bool (rdOf false (rd_L4 x9_2 (rd (Zd l0_2 x14_3) x16_5)) (rd (Zd l0_2 x15_4) x16_5)))) (fun _ hk => ⟨hk.1.1, hk.1.2⟩)⟩, ⟨by (try simp only [hl13_4]); (try simp only [hl13_5]); (with_reducible repeat (first | apply Kd.S_alloc | apply Kd.S_drewN | apply Kd.S_drew)); exact HQ80.out⟩, ⟨by (try simp only [hl13_4]); (try simp only [hl13_5]); (with_reducible repeat (first | refine Zq ?_ _ | refine Zl ?_ | refine Zn ?_ _)); refine Za1 ?_ (by have h_ := Kd.R_ne HL207_0.out BK184.out (by decide); intro e_; exact h_ (by rw [e_]; rfl)) _; (with_reducible repeat (first | apply zb3 | apply zb2 | apply zb1)); exact BK184.out⟩, ⟨by repeat (first | (with_reducible first | exact HB.out | apply below_alloc | apply pw_below_drewN | apply below_drew1 | refine below_set ?_ GB76.out | refine below_set ?_ GE184.out) | exact HB.out)⟩⟩
end Go.Proofs.Ytdoenjnjpenboaa.PLeastAparts
