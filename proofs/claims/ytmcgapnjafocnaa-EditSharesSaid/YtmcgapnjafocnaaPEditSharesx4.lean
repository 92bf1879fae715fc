-- Written by a program of this session: a turn of the print kit's own.
import Derived.Test.YtmcgapnjafocnaaPEditSharesx0
namespace Go.Proofs.Ytmcgapnjafocnaa.PEditShares
open Go.RowKit Go.Proofs.YtmcgapnjafocnaaW.PrintWords Go.Proofs.YtmcgapnjafocnaaW.PrintLast Go.Proofs.YtmcgapnjafocnaaW.PrintMore
attribute [local go_sem] max2_int min2_int max_two min_two max_three min_three max_four min_four   -- for this text's walks alone
set_option linter.unusedVariables false
set_option linter.unusedSimpArgs false

def coppicerref_shared.bef_ (k : Nat) (v : Value) : Nat := match v.ownBlock with
  | some g => if k < g then k + 1 else k
  | none => k + 1
def coppicerref_shared.aft_ (k : Nat) (v : Value) : Nat := match v.ownBlock with
  | some g => if g ≤ k then k + 1 else k
  | none => k + 1
theorem coppicerref_shared.bef_aft {g k p n c : Nat} (h1 : k ≠ coppicerref_shared.bef_ k (.slice (some ⟨g, 0, none⟩) n c)) (h2 : p ≠ coppicerref_shared.aft_ p (.slice (some ⟨g, 0, none⟩) n c)) : k ≠ p := by
  have e : (Value.slice (some ⟨g, 0, none⟩) n c).ownBlock = some g := by simp [Value.ownBlock]
  unfold coppicerref_shared.bef_ at h1; unfold coppicerref_shared.aft_ at h2
  rw [e] at h1 h2
  dsimp only at h1 h2
  intro q; subst q
  split at h1 <;> split at h2 <;> omega
theorem coppicerref_shared.S_aft {α : Type} {d : Kd α} {e : Nat} {w : World} {base N : Nat} {v : Value} {xs : List α} (h : Kd.S d e w base (fun k => k = N) v xs) : Kd.S d e w base (fun k_ => k_ ≠ coppicerref_shared.aft_ k_ v) v xs := by
  have h0 : ∀ k, v.ownBlock = some k → k = N := by obtain ⟨f, h⟩ := h; exact h.1
  refine Kd.S_mono h (fun k hk => ?_)
  unfold coppicerref_shared.aft_
  cases hv : v.ownBlock with
  | none => dsimp only; omega
  | some g => have := h0 g hv; dsimp only; split <;> omega
theorem coppicerref_shared.S_bef {α : Type} {d : Kd α} {e : Nat} {W w1 : World} {base : Nat} {ok : Nat → Prop} {u v : Value} {xs : List α} (h : Kd.S d e W base ok u xs) (hbase : ∀ k, v.ownBlock = some k → W.heap.size ≤ k) (hb : Below W.heap.size W w1) : Kd.S d e w1 base (fun k_ => (ok k_ ∧ some k_ ≠ v.ownBlock) ∧ k_ ≠ coppicerref_shared.bef_ k_ v) u xs := by
  refine Kd.S_mono (Kd.S_below (Kd.S_bound h) hb) (fun k hk => ⟨⟨hk.1, fun q => ?_⟩, ?_⟩)
  · have := hbase k q.symm; have := hk.2.2.1; omega
  · unfold coppicerref_shared.bef_
    cases hv : v.ownBlock with
    | none => dsimp only; omega
    | some g => have := hbase g hv; have := hk.2.2.1; dsimp only; split <;> omega
theorem coppicerref_shared.R_aftnew {α : Type} {d : Kd α} {e : Nat} {W w1 : World} {ok : Nat → Prop} {u v : Value} {xs : List α} (h : Kd.R d e w1 W.heap.size ok v xs) (hlt : ∀ k, u.ownBlock = some k → k < W.heap.size) : Kd.R d e w1 W.heap.size (fun k_ => ok k_ ∧ k_ ≠ coppicerref_shared.aft_ k_ u) v xs := by
  refine Kd.R_mono (Kd.R_bound h) (fun k hk => ⟨hk.1, ?_⟩)
  unfold coppicerref_shared.aft_
  cases hv : u.ownBlock with
  | none => dsimp only; omega
  | some g => have := hlt g hv; have := hk.2.1; dsimp only; split <;> omega
def zl (n m : Nat) : List Bool := (List.range n).map fun i => m.testBit i
def zt (n m : Nat) : Array Bool := (zl n m).toArray
theorem zb1 {w : World} {g : Nat} {o o' : Obj} (h : w.heap[g]? = some o) : (w.alloc o').heap[g]? = some o := blk_alloc h o'
theorem zb2 {w : World} {g : Nat} {o : Obj} (h : w.heap[g]? = some o) : w.drew.heap[g]? = some o := h
theorem zb3 {w : World} {g : Nat} {o : Obj} {n : Nat} (h : w.heap[g]? = some o) : (w.drewN n).heap[g]? = some o := h
theorem zc1 {w W : World} {o : Obj} (h : Below w.heap.size w W) : Below w.heap.size w (W.alloc o) := below_alloc h o
theorem zc2 {w W : World} {n : Nat} (h : Below w.heap.size w W) : Below w.heap.size w (W.drewN n) := pw_below_drewN h n
theorem zc3 {w W : World} (h : Below w.heap.size w W) : Below w.heap.size w W.drew := below_drew1 h
theorem zc4 {w W : World} {g j : Nat} {v : Value} (h : Below w.heap.size w W) (hg : Aside0 (w.heap.size ≤ g)) : Below w.heap.size w (W.setCell ⟨g, j, none⟩ v) := below_set h hg.out
theorem zn1 {α : Type} {d : Kd α} {e : Nat} {w : World} {b : Nat} {ok : Nat → Prop} {v : Value} {xs : List α} {o : Obj} (h : Kd.N d e w b ok v xs) : Kd.N d e (w.alloc o) b ok v xs := Kd.N_alloc h o
theorem zn2 {α : Type} {d : Kd α} {e : Nat} {w : World} {b : Nat} {ok : Nat → Prop} {v : Value} {xs : List α} {n : Nat} (h : Kd.N d e w b ok v xs) : Kd.N d e (w.drewN n) b ok v xs := Kd.N_drewN h n
theorem zn3 {α : Type} {d : Kd α} {e : Nat} {w : World} {b : Nat} {ok : Nat → Prop} {v : Value} {xs : List α} (h : Kd.N d e w b ok v xs) : Kd.N d e w.drew b ok v xs := Kd.N_drew h

/-! ### coppicerref_shared: function 10 -/
mutual
def coppicerref_shared.l0 : Nat → List Int → List Int → List (List Int) → Int → Option ((List (List Int)))
  | 0, _, _, _, _ => none
  | k + 1, x0, x1, x5, x6 => if x6 ≥ 0 then (if 0 ≤ (wrap64 ((x1.length : Int) + 1)) then (if (wrap64 ((x1.length : Int) + 1) : Int).toNat ≤ 35184372088832 then (if 0 ≤ x6 then (if x6 < (x5.length : Int) then (coppicerref_shared.l1 k x0 x1 (x5.set (x6 : Int).toNat (List.replicate (wrap64 ((x1.length : Int) + 1) : Int).toNat 0)) x6 (x1.length : Int)) else (none)) else (none)) else (none)) else (none)) else (some x5)
def coppicerref_shared.l1 : Nat → List Int → List Int → List (List Int) → Int → Int → Option ((List (List Int)))
  | 0, _, _, _, _, _ => none
  | k + 1, x0, x1, x5, x6, x7 => if x7 ≥ 0 then (if x6 < (x0.length : Int) then (if 0 ≤ (wrap64 (x6 + 1)) then (if (wrap64 (x6 + 1)) < (x5.length : Int) then (if 0 ≤ x7 then (if x7 < ((rd_L3 x5 (wrap64 (x6 + 1))).length : Int) then (if 0 ≤ x6 then (if x6 < (x5.length : Int) then (if x7 < ((rd_L3 x5 x6).length : Int) then (coppicerref_shared.j2 k x0 x1 x5 x6 x7 (decide ((rd (rd_L3 x5 (wrap64 (x6 + 1))) x7) > (rd (rd_L3 x5 x6) x7)))) else (none)) else (none)) else (none)) else (none)) else (none)) else (none)) else (none)) else (coppicerref_shared.j2 k x0 x1 x5 x6 x7 false)) else (coppicerref_shared.l0 k x0 x1 x5 (wrap64 (x6 - 1)))
def coppicerref_shared.j7 : Nat → List Int → List Int → List (List Int) → Int → Int → Option ((List (List Int)))
  | 0, _, _, _, _, _ => none
  | k + 1, x0, x1, x5, x6, x7 => coppicerref_shared.l1 k x0 x1 x5 x6 (wrap64 (x7 - 1))
def coppicerref_shared.j2 : Nat → List Int → List Int → List (List Int) → Int → Int → Bool → Option ((List (List Int)))
  | 0, _, _, _, _, _, _ => none
  | k + 1, x0, x1, x5, x6, x7, x52 => if x52 = true then (if 0 ≤ x6 then (if x6 < (x5.length : Int) then (if 0 ≤ (wrap64 (x6 + 1)) then (if (wrap64 (x6 + 1)) < (x5.length : Int) then (if 0 ≤ x7 then (if x7 < ((rd_L3 x5 (wrap64 (x6 + 1))).length : Int) then (if x7 < ((rd_L3 x5 x6).length : Int) then (coppicerref_shared.j3 k x0 x1 (x5.set (x6 : Int).toNat ((rd_L3 x5 x6).set (x7 : Int).toNat (rd (rd_L3 x5 (wrap64 (x6 + 1))) x7))) x6 x7) else (none)) else (none)) else (none)) else (none)) else (none)) else (none)) else (none)) else (coppicerref_shared.j3 k x0 x1 x5 x6 x7)
def coppicerref_shared.j3 : Nat → List Int → List Int → List (List Int) → Int → Int → Option ((List (List Int)))
  | 0, _, _, _, _, _ => none
  | k + 1, x0, x1, x5, x6, x7 => if x7 < (x1.length : Int) then (if 0 ≤ x6 then (if x6 < (x5.length : Int) then (if 0 ≤ (wrap64 (x7 + 1)) then (if (wrap64 (x7 + 1)) < ((rd_L3 x5 x6).length : Int) then (if 0 ≤ x7 then (if x7 < ((rd_L3 x5 x6).length : Int) then (coppicerref_shared.j4 k x0 x1 x5 x6 x7 (decide ((rd (rd_L3 x5 x6) (wrap64 (x7 + 1))) > (rd (rd_L3 x5 x6) x7)))) else (none)) else (none)) else (none)) else (none)) else (none)) else (none)) else (coppicerref_shared.j4 k x0 x1 x5 x6 x7 false)
def coppicerref_shared.j4 : Nat → List Int → List Int → List (List Int) → Int → Int → Bool → Option ((List (List Int)))
  | 0, _, _, _, _, _, _ => none
  | k + 1, x0, x1, x5, x6, x7, x88 => if x88 = true then (if 0 ≤ x6 then (if x6 < (x5.length : Int) then (if 0 ≤ (wrap64 (x7 + 1)) then (if (wrap64 (x7 + 1)) < ((rd_L3 x5 x6).length : Int) then (if 0 ≤ x7 then (if x7 < ((rd_L3 x5 x6).length : Int) then (coppicerref_shared.j5 k x0 x1 (x5.set (x6 : Int).toNat ((rd_L3 x5 x6).set (x7 : Int).toNat (rd (rd_L3 x5 x6) (wrap64 (x7 + 1))))) x6 x7) else (none)) else (none)) else (none)) else (none)) else (none)) else (none)) else (coppicerref_shared.j5 k x0 x1 x5 x6 x7)
def coppicerref_shared.j5 : Nat → List Int → List Int → List (List Int) → Int → Int → Option ((List (List Int)))
  | 0, _, _, _, _, _ => none
  | k + 1, x0, x1, x5, x6, x7 => if x6 < (x0.length : Int) then (if x7 < (x1.length : Int) then (if 0 ≤ x6 then (if 0 ≤ x7 then (if (rd x0 x6) = (rd x1 x7) then (if 0 ≤ (wrap64 (x6 + 1)) then (if (wrap64 (x6 + 1)) < (x5.length : Int) then (if 0 ≤ (wrap64 (x7 + 1)) then (if (wrap64 (x7 + 1)) < ((rd_L3 x5 (wrap64 (x6 + 1))).length : Int) then (if x6 < (x5.length : Int) then (if x7 < ((rd_L3 x5 x6).length : Int) then (coppicerref_shared.j6 k x0 x1 x5 x6 x7 (decide ((wrap64 ((rd (rd_L3 x5 (wrap64 (x6 + 1))) (wrap64 (x7 + 1))) + 1)) > (rd (rd_L3 x5 x6) x7)))) else (none)) else (none)) else (none)) else (none)) else (none)) else (none)) else (coppicerref_shared.j6 k x0 x1 x5 x6 x7 false)) else (none)) else (none)) else (coppicerref_shared.j6 k x0 x1 x5 x6 x7 false)) else (coppicerref_shared.j6 k x0 x1 x5 x6 x7 false)
def coppicerref_shared.j6 : Nat → List Int → List Int → List (List Int) → Int → Int → Bool → Option ((List (List Int)))
  | 0, _, _, _, _, _, _ => none
  | k + 1, x0, x1, x5, x6, x7, x143 => if x143 = true then (if 0 ≤ x6 then (if x6 < (x5.length : Int) then (if 0 ≤ (wrap64 (x6 + 1)) then (if (wrap64 (x6 + 1)) < (x5.length : Int) then (if 0 ≤ (wrap64 (x7 + 1)) then (if (wrap64 (x7 + 1)) < ((rd_L3 x5 (wrap64 (x6 + 1))).length : Int) then (if 0 ≤ x7 then (if x7 < ((rd_L3 x5 x6).length : Int) then (coppicerref_shared.j7 k x0 x1 (x5.set (x6 : Int).toNat ((rd_L3 x5 x6).set (x7 : Int).toNat (wrap64 ((rd (rd_L3 x5 (wrap64 (x6 + 1))) (wrap64 (x7 + 1))) + 1)))) x6 x7) else (none)) else (none)) else (none)) else (none)) else (none)) else (none)) else (none)) else (none)) else (coppicerref_shared.j7 k x0 x1 x5 x6 x7)
end
def coppicerref_shared.f (k : Nat) (l0 : List Int) (l1 : List Int) : Option ((List (List Int))) := if 0 ≤ (wrap64 ((l0.length : Int) + 1)) then (if (wrap64 ((l0.length : Int) + 1) : Int).toNat ≤ 11728124029610 then (coppicerref_shared.l0 k l0 l1 (List.replicate (wrap64 ((l0.length : Int) + 1) : Int).toNat []) (l0.length : Int)) else (none)) else (none)
theorem coppicerref_shared.mono_l : ∀ k, (∀ y0 y1 y2 y3, LeO (coppicerref_shared.l0 k y0 y1 y2 y3) (coppicerref_shared.l0 (k + 1) y0 y1 y2 y3)) ∧ (∀ y0 y1 y2 y3 y4, LeO (coppicerref_shared.l1 k y0 y1 y2 y3 y4) (coppicerref_shared.l1 (k + 1) y0 y1 y2 y3 y4)) ∧ (∀ y0 y1 y2 y3 y4, LeO (coppicerref_shared.j7 k y0 y1 y2 y3 y4) (coppicerref_shared.j7 (k + 1) y0 y1 y2 y3 y4)) ∧ (∀ y0 y1 y2 y3 y4 y5, LeO (coppicerref_shared.j2 k y0 y1 y2 y3 y4 y5) (coppicerref_shared.j2 (k + 1) y0 y1 y2 y3 y4 y5)) ∧ (∀ y0 y1 y2 y3 y4, LeO (coppicerref_shared.j3 k y0 y1 y2 y3 y4) (coppicerref_shared.j3 (k + 1) y0 y1 y2 y3 y4)) ∧ (∀ y0 y1 y2 y3 y4 y5, LeO (coppicerref_shared.j4 k y0 y1 y2 y3 y4 y5) (coppicerref_shared.j4 (k + 1) y0 y1 y2 y3 y4 y5)) ∧ (∀ y0 y1 y2 y3 y4, LeO (coppicerref_shared.j5 k y0 y1 y2 y3 y4) (coppicerref_shared.j5 (k + 1) y0 y1 y2 y3 y4)) ∧ (∀ y0 y1 y2 y3 y4 y5, LeO (coppicerref_shared.j6 k y0 y1 y2 y3 y4 y5) (coppicerref_shared.j6 (k + 1) y0 y1 y2 y3 y4 y5))
  | 0 => ⟨fun _ _ _ _ r h => by simp [coppicerref_shared.l0] at h, fun _ _ _ _ _ r h => by simp [coppicerref_shared.l1] at h, fun _ _ _ _ _ r h => by simp [coppicerref_shared.j7] at h, fun _ _ _ _ _ _ r h => by simp [coppicerref_shared.j2] at h, fun _ _ _ _ _ r h => by simp [coppicerref_shared.j3] at h, fun _ _ _ _ _ _ r h => by simp [coppicerref_shared.j4] at h, fun _ _ _ _ _ r h => by simp [coppicerref_shared.j5] at h, fun _ _ _ _ _ _ r h => by simp [coppicerref_shared.j6] at h⟩
  | k + 1 => by
    obtain ⟨ih0, ih1, ih2, ih3, ih4, ih5, ih6, ih7⟩ := coppicerref_shared.mono_l k
    refine ⟨?_, ?_, ?_, ?_, ?_, ?_, ?_, ?_⟩
    · intro y0 y1 y2 y3
      unfold coppicerref_shared.l0
      repeat' first
      | (with_reducible exact ih0 _ _ _ _)
      | (with_reducible exact ih1 _ _ _ _ _)
      | (with_reducible exact ih2 _ _ _ _ _)
      | (with_reducible exact ih3 _ _ _ _ _ _)
      | (with_reducible exact ih4 _ _ _ _ _)
      | (with_reducible exact ih5 _ _ _ _ _ _)
      | (with_reducible exact ih6 _ _ _ _ _)
      | (with_reducible exact ih7 _ _ _ _ _ _)
      | (with_reducible exact LeO.refl _)
      | (with_reducible exact LeO.none _)
      | (with_reducible refine LeO.ite ?_ ?_)
      | (with_reducible refine LeO.bind ?_ (fun _ => ?_))
      | exact ih0 _ _ _ _
      | exact ih1 _ _ _ _ _
      | exact ih2 _ _ _ _ _
      | exact ih3 _ _ _ _ _ _
      | exact ih4 _ _ _ _ _
      | exact ih5 _ _ _ _ _ _
      | exact ih6 _ _ _ _ _
      | exact ih7 _ _ _ _ _ _
      | exact LeO.none _
      | refine LeO.ite ?_ ?_
      | refine LeO.bind ?_ (fun _ => ?_)
    · intro y0 y1 y2 y3 y4
      unfold coppicerref_shared.l1
      repeat' first
      | (with_reducible exact ih0 _ _ _ _)
      | (with_reducible exact ih1 _ _ _ _ _)
      | (with_reducible exact ih2 _ _ _ _ _)
      | (with_reducible exact ih3 _ _ _ _ _ _)
      | (with_reducible exact ih4 _ _ _ _ _)
      | (with_reducible exact ih5 _ _ _ _ _ _)
      | (with_reducible exact ih6 _ _ _ _ _)
      | (with_reducible exact ih7 _ _ _ _ _ _)
      | (with_reducible exact LeO.refl _)
      | (with_reducible exact LeO.none _)
      | (with_reducible refine LeO.ite ?_ ?_)
      | (with_reducible refine LeO.bind ?_ (fun _ => ?_))
      | exact ih0 _ _ _ _
      | exact ih1 _ _ _ _ _
      | exact ih2 _ _ _ _ _
      | exact ih3 _ _ _ _ _ _
      | exact ih4 _ _ _ _ _
      | exact ih5 _ _ _ _ _ _
      | exact ih6 _ _ _ _ _
      | exact ih7 _ _ _ _ _ _
      | exact LeO.none _
      | refine LeO.ite ?_ ?_
      | refine LeO.bind ?_ (fun _ => ?_)
    · intro y0 y1 y2 y3 y4
      unfold coppicerref_shared.j7
      repeat' first
      | (with_reducible exact ih0 _ _ _ _)
      | (with_reducible exact ih1 _ _ _ _ _)
      | (with_reducible exact ih2 _ _ _ _ _)
      | (with_reducible exact ih3 _ _ _ _ _ _)
      | (with_reducible exact ih4 _ _ _ _ _)
      | (with_reducible exact ih5 _ _ _ _ _ _)
      | (with_reducible exact ih6 _ _ _ _ _)
      | (with_reducible exact ih7 _ _ _ _ _ _)
      | (with_reducible exact LeO.refl _)
      | (with_reducible exact LeO.none _)
      | (with_reducible refine LeO.ite ?_ ?_)
      | (with_reducible refine LeO.bind ?_ (fun _ => ?_))
      | exact ih0 _ _ _ _
      | exact ih1 _ _ _ _ _
      | exact ih2 _ _ _ _ _
      | exact ih3 _ _ _ _ _ _
      | exact ih4 _ _ _ _ _
      | exact ih5 _ _ _ _ _ _
      | exact ih6 _ _ _ _ _
      | exact ih7 _ _ _ _ _ _
      | exact LeO.none _
      | refine LeO.ite ?_ ?_
      | refine LeO.bind ?_ (fun _ => ?_)
    · intro y0 y1 y2 y3 y4 y5
      unfold coppicerref_shared.j2
      repeat' first
      | (with_reducible exact ih0 _ _ _ _)
      | (with_reducible exact ih1 _ _ _ _ _)
      | (with_reducible exact ih2 _ _ _ _ _)
      | (with_reducible exact ih3 _ _ _ _ _ _)
      | (with_reducible exact ih4 _ _ _ _ _)
      | (with_reducible exact ih5 _ _ _ _ _ _)
      | (with_reducible exact ih6 _ _ _ _ _)
      | (with_reducible exact ih7 _ _ _ _ _ _)
      | (with_reducible exact LeO.refl _)
      | (with_reducible exact LeO.none _)
      | (with_reducible refine LeO.ite ?_ ?_)
      | (with_reducible refine LeO.bind ?_ (fun _ => ?_))
      | exact ih0 _ _ _ _
      | exact ih1 _ _ _ _ _
      | exact ih2 _ _ _ _ _
      | exact ih3 _ _ _ _ _ _
      | exact ih4 _ _ _ _ _
      | exact ih5 _ _ _ _ _ _
      | exact ih6 _ _ _ _ _
      | exact ih7 _ _ _ _ _ _
      | exact LeO.none _
      | refine LeO.ite ?_ ?_
      | refine LeO.bind ?_ (fun _ => ?_)
    · intro y0 y1 y2 y3 y4
      unfold coppicerref_shared.j3
      repeat' first
      | (with_reducible exact ih0 _ _ _ _)
      | (with_reducible exact ih1 _ _ _ _ _)
      | (with_reducible exact ih2 _ _ _ _ _)
      | (with_reducible exact ih3 _ _ _ _ _ _)
      | (with_reducible exact ih4 _ _ _ _ _)
      | (with_reducible exact ih5 _ _ _ _ _ _)
      | (with_reducible exact ih6 _ _ _ _ _)
      | (with_reducible exact ih7 _ _ _ _ _ _)
      | (with_reducible exact LeO.refl _)
      | (with_reducible exact LeO.none _)
      | (with_reducible refine LeO.ite ?_ ?_)
      | (with_reducible refine LeO.bind ?_ (fun _ => ?_))
      | exact ih0 _ _ _ _
      | exact ih1 _ _ _ _ _
      | exact ih2 _ _ _ _ _
      | exact ih3 _ _ _ _ _ _
      | exact ih4 _ _ _ _ _
      | exact ih5 _ _ _ _ _ _
      | exact ih6 _ _ _ _ _
      | exact ih7 _ _ _ _ _ _
      | exact LeO.none _
      | refine LeO.ite ?_ ?_
      | refine LeO.bind ?_ (fun _ => ?_)
    · intro y0 y1 y2 y3 y4 y5
      unfold coppicerref_shared.j4
      repeat' first
      | (with_reducible exact ih0 _ _ _ _)
      | (with_reducible exact ih1 _ _ _ _ _)
      | (with_reducible exact ih2 _ _ _ _ _)
      | (with_reducible exact ih3 _ _ _ _ _ _)
      | (with_reducible exact ih4 _ _ _ _ _)
      | (with_reducible exact ih5 _ _ _ _ _ _)
      | (with_reducible exact ih6 _ _ _ _ _)
      | (with_reducible exact ih7 _ _ _ _ _ _)
      | (with_reducible exact LeO.refl _)
      | (with_reducible exact LeO.none _)
      | (with_reducible refine LeO.ite ?_ ?_)
      | (with_reducible refine LeO.bind ?_ (fun _ => ?_))
      | exact ih0 _ _ _ _
      | exact ih1 _ _ _ _ _
      | exact ih2 _ _ _ _ _
      | exact ih3 _ _ _ _ _ _
      | exact ih4 _ _ _ _ _
      | exact ih5 _ _ _ _ _ _
      | exact ih6 _ _ _ _ _
      | exact ih7 _ _ _ _ _ _
      | exact LeO.none _
      | refine LeO.ite ?_ ?_
      | refine LeO.bind ?_ (fun _ => ?_)
    · intro y0 y1 y2 y3 y4
      unfold coppicerref_shared.j5
      repeat' first
      | (with_reducible exact ih0 _ _ _ _)
      | (with_reducible exact ih1 _ _ _ _ _)
      | (with_reducible exact ih2 _ _ _ _ _)
      | (with_reducible exact ih3 _ _ _ _ _ _)
      | (with_reducible exact ih4 _ _ _ _ _)
      | (with_reducible exact ih5 _ _ _ _ _ _)
      | (with_reducible exact ih6 _ _ _ _ _)
      | (with_reducible exact ih7 _ _ _ _ _ _)
      | (with_reducible exact LeO.refl _)
      | (with_reducible exact LeO.none _)
      | (with_reducible refine LeO.ite ?_ ?_)
      | (with_reducible refine LeO.bind ?_ (fun _ => ?_))
      | exact ih0 _ _ _ _
      | exact ih1 _ _ _ _ _
      | exact ih2 _ _ _ _ _
      | exact ih3 _ _ _ _ _ _
      | exact ih4 _ _ _ _ _
      | exact ih5 _ _ _ _ _ _
      | exact ih6 _ _ _ _ _
      | exact ih7 _ _ _ _ _ _
      | exact LeO.none _
      | refine LeO.ite ?_ ?_
      | refine LeO.bind ?_ (fun _ => ?_)
    · intro y0 y1 y2 y3 y4 y5
      unfold coppicerref_shared.j6
      repeat' first
      | (with_reducible exact ih0 _ _ _ _)
      | (with_reducible exact ih1 _ _ _ _ _)
      | (with_reducible exact ih2 _ _ _ _ _)
      | (with_reducible exact ih3 _ _ _ _ _ _)
      | (with_reducible exact ih4 _ _ _ _ _)
      | (with_reducible exact ih5 _ _ _ _ _ _)
      | (with_reducible exact ih6 _ _ _ _ _)
      | (with_reducible exact ih7 _ _ _ _ _ _)
      | (with_reducible exact LeO.refl _)
      | (with_reducible exact LeO.none _)
      | (with_reducible refine LeO.ite ?_ ?_)
      | (with_reducible refine LeO.bind ?_ (fun _ => ?_))
      | exact ih0 _ _ _ _
      | exact ih1 _ _ _ _ _
      | exact ih2 _ _ _ _ _
      | exact ih3 _ _ _ _ _ _
      | exact ih4 _ _ _ _ _
      | exact ih5 _ _ _ _ _ _
      | exact ih6 _ _ _ _ _
      | exact ih7 _ _ _ _ _ _
      | exact LeO.none _
      | refine LeO.ite ?_ ?_
      | refine LeO.bind ?_ (fun _ => ?_)
theorem coppicerref_shared.mono : ∀ a0 a1 k, LeO (coppicerref_shared.f k a0 a1) (coppicerref_shared.f (k + 1) a0 a1) := by
  intro a0 a1 k
  obtain ⟨ih0, ih1, ih2, ih3, ih4, ih5, ih6, ih7⟩ := coppicerref_shared.mono_l k
  unfold coppicerref_shared.f
  repeat' first
      | (with_reducible exact ih0 _ _ _ _)
      | (with_reducible exact ih1 _ _ _ _ _)
      | (with_reducible exact ih2 _ _ _ _ _)
      | (with_reducible exact ih3 _ _ _ _ _ _)
      | (with_reducible exact ih4 _ _ _ _ _)
      | (with_reducible exact ih5 _ _ _ _ _ _)
      | (with_reducible exact ih6 _ _ _ _ _)
      | (with_reducible exact ih7 _ _ _ _ _ _)
      | (with_reducible exact LeO.refl _)
      | (with_reducible exact LeO.none _)
      | (with_reducible refine LeO.ite ?_ ?_)
      | (with_reducible refine LeO.bind ?_ (fun _ => ?_))
      | exact ih0 _ _ _ _
      | exact ih1 _ _ _ _ _
      | exact ih2 _ _ _ _ _
      | exact ih3 _ _ _ _ _ _
      | exact ih4 _ _ _ _ _
      | exact ih5 _ _ _ _ _ _
      | exact ih6 _ _ _ _ _
      | exact ih7 _ _ _ _ _ _
      | exact LeO.none _
      | refine LeO.ite ?_ ?_
      | refine LeO.bind ?_ (fun _ => ?_)
def coppicerref_shared.T9 : Bool × List (List Nat × List Nat) := (true, [([], []), ([], []), ([1], [1]), ([0, 2], [0, 2]), ([3], [3]), ([4], [4]), ([4], [4]), ([6, 4], [4, 6]), ([5, 7, 4], [4, 5, 7]), ([8, 4], [4, 8]), ([4], [4]), ([9, 10, 4], [4, 9, 10]), ([11, 4], [4, 11]), ([4], [4]), ([4], [4]), ([13, 14, 4], [4, 13, 14]), ([15, 4], [4, 15]), ([4], [4]), ([16, 17, 4], [4, 16, 17]), ([18, 4], [4, 18]), ([12, 19, 4], [4, 12, 19]), ([4, 20], [4, 20])])
def coppicerref_shared.B9 : List Nat := [0, 0, 2, 7, 15, 31, 31, 95, 255, 511, 31, 2047, 4095, 31, 31, 24607, 57375, 31, 253983, 516127, 1048575, 2097151]
theorem coppicerref_shared.tab9 : rtab .any (opsOf Try.f10 9) = coppicerref_shared.T9 := by kernel_rfl
theorem coppicerref_shared.bits9 : waitsOk coppicerref_shared.T9.2 coppicerref_shared.B9 = true := by kernel_rfl
def coppicerref_shared.T10 : Bool × List (List Nat × List Nat) := (true, [([], []), ([], []), ([0, 1], [0, 1]), ([2], [2]), ([], []), ([], []), ([], []), ([6], [6]), ([5, 7], [5, 7]), ([8], [8]), ([], []), ([9, 10], [9, 10]), ([11], [11]), ([3, 4, 0, 1, 2, 3, 4, 5, 6, 7, 8, 9, 10, 11, 12], [3, 4]), ([13, 12, 0, 1, 2, 3, 4, 5, 6, 7, 8, 9, 10, 11, 12], [12, 13])])
def coppicerref_shared.B10 : List Nat := [0, 0, 3, 7, 0, 0, 0, 64, 224, 480, 0, 2016, 4064, 8191, 16383]
theorem coppicerref_shared.tab10 : rtab .any (opsOf Try.f10 10) = coppicerref_shared.T10 := by kernel_rfl
theorem coppicerref_shared.bits10 : waitsOk coppicerref_shared.T10.2 coppicerref_shared.B10 = true := by kernel_rfl
def coppicerref_shared.T11 : Bool × List (List Nat × List Nat) := (true, [([], []), ([], []), ([1], [1]), ([0, 2], [0, 2]), ([3], [3]), ([4], [4]), ([4], [4]), ([5, 6, 4], [4, 5, 6]), ([7, 4], [4, 7]), ([4], [4]), ([9, 4], [4, 9]), ([8, 10, 4], [4, 8, 10]), ([11, 4], [4, 11]), ([4], [4]), ([4], [4]), ([13, 14, 4], [4, 13, 14]), ([15, 4], [4, 15]), ([4], [4]), ([16, 17, 4], [4, 16, 17]), ([18, 4], [4, 18]), ([12, 19, 4], [4, 12, 19]), ([4, 20], [4, 20])])
def coppicerref_shared.B11 : List Nat := [0, 0, 2, 7, 15, 31, 31, 127, 255, 31, 543, 2047, 4095, 31, 31, 24607, 57375, 31, 253983, 516127, 1048575, 2097151]
theorem coppicerref_shared.tab11 : rtab .any (opsOf Try.f10 11) = coppicerref_shared.T11 := by kernel_rfl
theorem coppicerref_shared.bits11 : waitsOk coppicerref_shared.T11.2 coppicerref_shared.B11 = true := by kernel_rfl
def coppicerref_shared.T12 : Bool × List (List Nat × List Nat) := (true, [([], []), ([], []), ([0, 1], [0, 1]), ([2], [2]), ([], []), ([], []), ([], []), ([5, 6], [5, 6]), ([7], [7]), ([], []), ([9], [9]), ([8, 10], [8, 10]), ([11], [11]), ([3, 4, 0, 1, 2, 3, 4, 5, 6, 7, 8, 9, 10, 11, 12], [3, 4]), ([13, 12, 0, 1, 2, 3, 4, 5, 6, 7, 8, 9, 10, 11, 12], [12, 13])])
def coppicerref_shared.B12 : List Nat := [0, 0, 3, 7, 0, 0, 0, 96, 224, 0, 512, 2016, 4064, 8191, 16383]
theorem coppicerref_shared.tab12 : rtab .any (opsOf Try.f10 12) = coppicerref_shared.T12 := by kernel_rfl
theorem coppicerref_shared.bits12 : waitsOk coppicerref_shared.T12.2 coppicerref_shared.B12 = true := by kernel_rfl
def coppicerref_shared.T13 : Bool × List (List Nat × List Nat) := (true, [([], []), ([], []), ([1], [1]), ([0, 2], [0, 2]), ([3], [3]), ([4], [4]), ([4], [4]), ([6, 4], [4, 6]), ([5, 7, 4], [4, 5, 7]), ([4, 8], [4, 8]), ([9, 4], [9]), ([10], [10]), ([10], [10]), ([11, 12, 10], [10, 11, 12]), ([13, 10], [10, 13]), ([10], [10]), ([10], [10]), ([15, 16, 10], [10, 15, 16]), ([17, 10], [10, 17]), ([14, 18, 10], [10, 14, 18]), ([10, 19], [10, 19]), ([20, 10], [20]), ([21], [21]), ([21], [21]), ([23, 21], [21, 23]), ([22, 24, 21], [21, 22, 24]), ([25, 21], [21, 25]), ([21], [21]), ([27, 21], [21, 27]), ([26, 28, 21], [21, 26, 28]), ([29, 21], [21, 29]), ([30, 21], [21, 30]), ([21], [21]), ([21], [21]), ([32, 33, 21], [21, 32, 33]), ([34, 21], [21, 34]), ([21], [21]), ([35, 36, 21], [21, 35, 36]), ([37, 21], [21, 37]), ([31, 38, 21], [21, 31, 38]), ([21, 39], [21, 39])])
def coppicerref_shared.B13 : List Nat := [0, 0, 2, 7, 15, 31, 31, 95, 255, 511, 1023, 2047, 2047, 8191, 16383, 2047, 2047, 100351, 231423, 524287, 1048575, 2097151, 4194303, 4194303, 12582911, 33554431, 67108863, 4194303, 138412031, 536870911, 1073741823, 2147483647, 4194303, 4194303, 12889096191, 30068965375, 4194303, 133148180479, 270587133951, 549755813887, 1099511627775]
theorem coppicerref_shared.tab13 : rtab .any (opsOf Try.f10 13) = coppicerref_shared.T13 := by kernel_rfl
theorem coppicerref_shared.bits13 : waitsOk coppicerref_shared.T13.2 coppicerref_shared.B13 = true := by kernel_rfl
def coppicerref_shared.T14 : Bool × List (List Nat × List Nat) := (true, [([], []), ([], []), ([0, 1], [0, 1]), ([2], [2]), ([], []), ([], []), ([], []), ([6], [6]), ([5, 7], [5, 7]), ([8], [8]), ([], []), ([10], [10]), ([9, 11], [9, 11]), ([12], [12]), ([13], [13]), ([3, 4, 0, 1, 2, 3, 4, 5, 6, 7, 8, 9, 10, 11, 12, 13, 14], [3, 4]), ([15, 14, 0, 1, 2, 3, 4, 5, 6, 7, 8, 9, 10, 11, 12, 13, 14], [14, 15])])
def coppicerref_shared.B14 : List Nat := [0, 0, 3, 7, 0, 0, 0, 64, 224, 480, 0, 1024, 4064, 8160, 16352, 32767, 65535]
theorem coppicerref_shared.tab14 : rtab .any (opsOf Try.f10 14) = coppicerref_shared.T14 := by kernel_rfl
theorem coppicerref_shared.bits14 : waitsOk coppicerref_shared.T14.2 coppicerref_shared.B14 = true := by kernel_rfl
set_option maxHeartbeats 8000000 in
set_option maxRecDepth 100000 in
theorem coppicerref_shared.calls (k : Nat) (A0 : Option Addr) (c0 : Nat) (l0 : List Int) (A1 : Option Addr) (c1 : Nat) (l1 : List Int) (r : List (List Int)) (w : World) (hr0 : Kd.C (Kd.int .u8) w A0 l0.length l0) (hc0 : l0.length ≤ c0) (hr1 : Kd.C (Kd.int .u8) w A1 l1.length l1) (hc1 : l1.length ≤ c1) (h : coppicerref_shared.f k l0 l1 = some r) :
    Calls Try.prog 10 #[.slice A0 l0.length c0, .slice A1 l1.length c1] w fun e w' => ∃ v0_ : Value, e = .returned (v0_) ∧ Kd.S (Kd.slice 3 (Kd.int .i64)) 33 w' w.heap.size (fun _ => True) v0_ r ∧ Below w.heap.size w w' := by
 (have HR0 := Aside0.mk hr0); (have HC0 := Aside0.mk hc0); (clear hr0 hc0); (have HR1 := Aside0.mk hr1); (have HC1 := Aside0.mk hc1); (clear hr1 hc1); (have HB := Aside0.mk (Below.refl w.heap.size w)); (have H : (if 0 ≤ (wrap64 ((l0.length : Int) + 1)) then (if (wrap64 ((l0.length : Int) + 1) : Int).toNat ≤ 11728124029610 then (coppicerref_shared.l0 k l0 l1 (List.replicate (wrap64 ((l0.length : Int) + 1) : Int).toNat []) (l0.length : Int)) else (none)) else (none)) = some r := h); (clear h); (obtain ⟨ji3, hji3⟩ : ∃ j_ : Int, (wrap64 ((l0.length : Int) + 1)) = j_ := ⟨_, rfl⟩); (replace H : (if 0 ≤ (ji3) then (if (ji3 : Int).toNat ≤ 11728124029610 then (coppicerref_shared.l0 k l0 l1 (List.replicate (ji3 : Int).toNat []) (l0.length : Int)) else (none)) else (none)) = some r := by first | (rw [hji3] at H; exact H) | (simp only [hji3] at H ⊢; exact H)); (have hji3w : (IntKind.i64.wrap ((l0.length : Int) + 1)) = ji3 := (i64_w _).trans hji3)
 by_cases c4 : 0 ≤ (ji3)
 rotate_left
 ·rw [if_neg c4] at H
  exact absurd H (by simp)
 (rw [if_pos c4] at H); (have c4b0 := eq_true c4); (have c4b1 : decide (0 ≤ (ji3)) = true := decide_eq_true c4); (clear c4)
 by_cases c5 : (ji3 : Int).toNat ≤ 11728124029610
 rotate_left
 ·rw [if_neg c5] at H
  exact absurd H (by simp)
 (rw [if_pos c5] at H); (have c5b0 := eq_true c5); (have c5b1 : decide ((ji3 : Int).toNat ≤ 11728124029610) = true := decide_eq_true c5); (clear c5); (obtain ⟨y134, hy134⟩ : ∃ y_ : List (List Int), y_ = (List.replicate (ji3 : Int).toNat []) := ⟨_, rfl⟩); (replace H : (coppicerref_shared.l0 k l0 l1 y134 (l0.length : Int)) = some r := by first | (rw [hy134]; with_reducible exact H) | (have H2_ := (Option.bind_some _ _).symm.trans H; rw [hy134]; with_reducible exact H2_) | (have H2_ := (Option.bind_some _ _).symm.trans H; with_reducible exact H2_) | with_reducible exact H | (rw [hy134]; exact H) | exact H); (have Ny134 := Aside0.mk hy134); (clear hy134); (have H' := Aside0.mk H); (clear H)
 go_enter Try.func10, Try.ntmps10
 go_wp2_with (first | ((with_reducible refine gate_dst (N := 11) rfl ?_); (try (refine gate_guard (by rfl) ?_; dsimp only)); refine Kd.S_make (Kd.slice 3 (Kd.int .i64)) _ 33 rfl (N := 11) rfl 31 _ _ rfl ji3 rfl rfl Try.underlying31 (.slice none 0 0) 24 info33 rfl (by decide) (by omega) [] (ok := fun k_ => k_ = w.heap.size) (okp := fun _ => False) ⟨_, rfl, Kd.R_nil _ _ _ _ _⟩ (fun _ hk => hk.elim) rfl (of_decide_eq_true (by assumption)) (Nat.le_trans (Nat.mul_le_mul_right _ (of_decide_eq_true (by assumption) : ji3.toNat ≤ 11728124029610)) (by omega)) (Below.refl _ _) (Nat.le_refl _) ?_; intro v135 w6 ho7 hb hg_ hnew_; clear hg_ hnew_; (first | rw [← Ny134.out] at ho7 | (simp only [Int.reduceToNat] at ho7; rw [← Ny134.out] at ho7)); have HO136 := Aside0.mk (Kd.S_lower (coppicerref_shared.S_aft ho7) (below_size (by repeat (first | (with_reducible first | exact HB.out | apply zc1 | apply zc2 | apply zc3) | exact HB.out)))); replace HB := Aside0.mk (below_step (by repeat (first | (with_reducible first | exact HB.out | apply zc1 | apply zc2 | apply zc3) | exact HB.out)) hb); clear hb ho7))
 go_loopg [6] k (fun kq v6 w' => ∃ (x5_1 : List (List Int)) (x6_1 : Int), v6 = .int .i64 x6_1 ∧ Aside0 (coppicerref_shared.l0 kq l0 l1 x5_1 x6_1 = some r) ∧ Aside0 (kq ≤ k) ∧ Aside0 (Kd.S (Kd.slice 3 (Kd.int .i64)) 33 w' w.heap.size (fun k_ => k_ ≠ (coppicerref_shared.aft_ k_ v135)) v135 x5_1) ∧ Aside0 (Below w.heap.size w w'))
 case atStart => exact ⟨(y134), ((l0.length : Int)), (by first | rfl | (simp; done) | (simp [*]; done)), H', ⟨Nat.le_refl _⟩, ⟨by (with_reducible repeat (first | apply Kd.S_alloc | apply Kd.S_drewN | apply Kd.S_drew)); exact HO136.out⟩, ⟨by repeat (first | (with_reducible first | exact HB.out | apply zc1 | apply zc2 | apply zc3) | exact HB.out)⟩⟩
 case round =>
  (clear H'); (try clear c1); (try clear p2); (try clear c4); (try clear c4b0); (try clear c4b1); (try clear c5); (try clear c5b0); (try clear c5b1); (try clear p6); (obtain ⟨x5_1, x6_1, rfl, HA, HK1, HO_5, HB⟩ := hrel)
  cases gk with
  | zero => exact absurd HA.out (by simp [coppicerref_shared.l0])
  | succ k1 =>
   (have H := HA.out); (clear HA); (simp only [coppicerref_shared.l0] at H)
   by_cases c8 : x6_1 ≥ 0
   rotate_left
   ·rw [if_neg c8] at H
    (have c8b0 : decide (0 ≤ x6_1) = false := decide_eq_false c8); (clear c8)
    as_aux_lemma =>
     obtain rfl := Option.some.inj H
     go_wp2
     go_ret
     exact ⟨_, by first | rfl | (simp [errW_none, errW_some] <;> rfl) | (simp only [← hji3]; first | rfl | (simp [errW_none, errW_some] <;> rfl)) | (simp [*, errW_none, errW_some] <;> rfl), by (with_reducible repeat (first | apply Kd.S_alloc | apply Kd.S_drewN | apply Kd.S_drew)); exact Kd.S_mono HO_5.out (fun _ hk => trivial), by repeat (first | (with_reducible first | exact HB.out | apply zc1 | apply zc2 | apply zc3) | exact HB.out)⟩
   (rw [if_pos c8] at H); (have c8b0 : decide (0 ≤ x6_1) = true := decide_eq_true c8); (clear c8); (obtain ⟨ji9, hji9⟩ : ∃ j_ : Int, (wrap64 ((l1.length : Int) + 1)) = j_ := ⟨_, rfl⟩); (replace H : (if 0 ≤ (ji9) then (if (ji9 : Int).toNat ≤ 35184372088832 then (if 0 ≤ x6_1 then (if x6_1 < (x5_1.length : Int) then (coppicerref_shared.l1 k1 l0 l1 (x5_1.set (x6_1 : Int).toNat (List.replicate (ji9 : Int).toNat 0)) x6_1 (l1.length : Int)) else (none)) else (none)) else (none)) else (none)) = some r := by first | (rw [hji9] at H; exact H) | (simp only [hji9] at H ⊢; exact H)); (have hji9w : (IntKind.i64.wrap ((l1.length : Int) + 1)) = ji9 := (i64_w _).trans hji9)
   by_cases c10 : 0 ≤ (ji9)
   rotate_left
   ·rw [if_neg c10] at H
    exact absurd H (by simp)
   (rw [if_pos c10] at H); (have c10b0 := eq_true c10); (have c10b1 : decide (0 ≤ (ji9)) = true := decide_eq_true c10); (clear c10)
   by_cases c11 : (ji9 : Int).toNat ≤ 35184372088832
   rotate_left
   ·rw [if_neg c11] at H
    exact absurd H (by simp)
   (rw [if_pos c11] at H); (have c11b0 := eq_true c11); (have c11b1 : decide ((ji9 : Int).toNat ≤ 35184372088832) = true := decide_eq_true c11); (clear c11); (obtain ⟨y137, hy137⟩ : ∃ y_ : List Int, y_ = (List.replicate (ji9 : Int).toNat 0) := ⟨_, rfl⟩); (replace H : (if 0 ≤ x6_1 then (if x6_1 < (x5_1.length : Int) then (coppicerref_shared.l1 k1 l0 l1 (x5_1.set (x6_1 : Int).toNat y137) x6_1 (l1.length : Int)) else (none)) else (none)) = some r := by first | (rw [hy137]; with_reducible exact H) | (have H2_ := (Option.bind_some _ _).symm.trans H; rw [hy137]; with_reducible exact H2_) | (have H2_ := (Option.bind_some _ _).symm.trans H; with_reducible exact H2_) | with_reducible exact H | (rw [hy137]; exact H) | exact H); (have Ny137 := Aside0.mk hy137); (clear hy137)
   by_cases c12 : 0 ≤ x6_1
   rotate_left
   ·rw [if_neg c12] at H
    exact absurd H (by simp)
   (rw [if_pos c12] at H); (have c12b0 : decide (0 ≤ x6_1) = true := decide_eq_true c12); (clear c12)
   by_cases c13 : x6_1 < (x5_1.length : Int)
   rotate_left
   ·rw [if_neg c13] at H
    exact absurd H (by simp)
   (rw [if_pos c13] at H); (have c13b0 : decide (x6_1 < (x5_1.length : Int)) = true := decide_eq_true c13); (clear c13); (obtain ⟨y140, hy140⟩ : ∃ y_ : List (List Int), y_ = (x5_1.set (x6_1 : Int).toNat y137) := ⟨_, rfl⟩); (replace H : (coppicerref_shared.l1 k1 l0 l1 y140 x6_1 (l1.length : Int)) = some r := by first | (rw [hy140]; with_reducible exact H) | (have H2_ := (Option.bind_some _ _).symm.trans H; rw [hy140]; with_reducible exact H2_) | (have H2_ := (Option.bind_some _ _).symm.trans H; with_reducible exact H2_) | with_reducible exact H | (rw [hy140]; exact H) | exact H); (have Ny140 := Aside0.mk hy140); (clear hy140); (have H' := Aside0.mk H); (clear H)
   go_wp2_with (first | ((with_reducible refine gate_dst (N := 23) rfl ?_); (try (refine gate_guard (by rfl) ?_; dsimp only)); refine Kd.R_make (Kd.int .i64) _ 3 rfl (N := 23) rfl 33 _ _ rfl ji9 rfl rfl Try.underlying33 (.int .i64 0) 8 info3 rfl (by decide) (by omega) 0 (ok := fun _ => True) (okp := fun _ => True) rfl (fun _ hk => hk) trivial (of_decide_eq_true (by assumption)) (Nat.le_trans (Nat.mul_le_mul_right _ (of_decide_eq_true (by assumption) : ji9.toNat ≤ 35184372088832)) (by omega)) (Below.refl _ _) (Nat.le_refl _) ?_; intro v138 w15 ho16 hb hg_ hnew_; clear hg_ hnew_; (first | rw [← Ny137.out] at ho16 | (simp only [Int.reduceToNat] at ho16; rw [← Ny137.out] at ho16)); have HO139 := Aside0.mk (Kd.R_lower (coppicerref_shared.R_aftnew ho16 (Kd.S_lt (by (with_reducible repeat (first | apply Kd.S_alloc | apply Kd.S_drewN | apply Kd.S_drew)); exact HO_5.out))) (below_size (by repeat (first | (with_reducible first | exact HB.out | apply zc1 | apply zc2 | apply zc3) | exact HB.out)))); replace HO_5 := Aside0.mk (Kd.S_elder' (by (with_reducible repeat (first | apply Kd.S_alloc | apply Kd.S_drewN | apply Kd.S_drew)); exact HO_5.out) (Kd.R_base ho16) hb); replace HB := Aside0.mk (below_step (by repeat (first | (with_reducible first | exact HB.out | apply zc1 | apply zc2 | apply zc3) | exact HB.out)) hb); clear hb ho16; have p14 : 0 ≤ (x6_1 : Int) := of_decide_eq_true (by assumption); have q14 : (x6_1 : Int) < ((x5_1.length : Int) : Int) := of_decide_eq_true (by assumption); obtain ⟨go14, co14, eo14, gb14, gl14, cl14, HG14⟩ := Kd.S_form HO_5.out (by omega); (first | cases eo14 | (injection eo14 with ea_ en_ ec_; (first | subst ea_ | (injection ea_ with ea_; subst ea_)); subst ec_; clear en_)); have GB14 := Aside0.mk gb14; have GG14 := Aside0.mk HG14; clear gb14 gl14 HG14; obtain ⟨_, ce14, hcl14, hM14, hcc14, hfr14, _, _⟩ := Kd.S_elem HO_5.out [] (x6_1 : Int) p14 q14; obtain ⟨ve14_0, rfl, ge14_0⟩ := hM14; have hx14_0 := hcc14 0 _ rfl; have hf14_0 := hfr14 0; (try simp only [show ((Kd.slice 3 (Kd.int .i64))).sz = 1 from rfl, Nat.mul_one, Nat.add_zero] at hx14_0); (try simp only [show ((Kd.slice 3 (Kd.int .i64))).sz = 1 from rfl, Nat.mul_one, Nat.add_zero] at hf14_0); (try clear hcl14); (try clear hcc14); (try clear hfr14); (try clear hM14); replace p14 := eq_true p14; replace q14 := eq_true q14; have HX17 := Aside0.mk (show Kd.S (Kd.slice 3 (Kd.int .i64)) 33 w15 w.heap.size (fun k_ => ((fun k_ => k_ ≠ (coppicerref_shared.aft_ k_ (.slice (some ⟨go14, 0, none⟩) x5_1.length co14)))) k_ ∧ ¬ ((fun k_ => some k_ = (v138 : Value).ownBlock)) k_) (.slice (some ⟨go14, 0, none⟩) x5_1.length co14) x5_1 from (by (with_reducible repeat (first | apply Kd.S_alloc | apply Kd.S_drewN | apply Kd.S_drew)); exact Kd.S_mono HO_5.out (fun k_ hk => ⟨hk.1, fun e_ => hk.2 e_⟩))); obtain ⟨oki17, ce17, hcl17, hM17, hcc17, hfr17, hoki17, hH17⟩ := Kd.S_elem HX17.out [] (x6_1 : Int) (of_decide_eq_true (by assumption)) (by have h_ : (x6_1 : Int) < ((x5_1.length : Int) : Int) := of_decide_eq_true (by assumption); first | exact h_ | (have e_ := (Kd.S_reads' HO_5.out).1; omega) | simpa using h_); obtain ⟨ve17_0, rfl, ge17_0⟩ := hM17; have HP17 := Kd.S_seg hH17 (of_decide_eq_true (by assumption)) (by have h_ : (x6_1 : Int) < ((x5_1.length : Int) : Int) := of_decide_eq_true (by assumption); first | exact h_ | (have e_ := (Kd.S_reads' HO_5.out).1; omega) | simpa using h_) (seg := [v138]) (j := 0) (show 1 ≤ 1 from by decide) (x' := y137) (Kd.M_row (Kd.R_mono (Kd.R_tight rfl (Kd.R_mono (ok' := fun k_ => ((fun k_ => k_ ≠ (coppicerref_shared.aft_ k_ (.slice (some ⟨go14, 0, none⟩) x5_1.length co14)))) k_ ∧ k_ ≠ go14) (Kd.R_apart' (HO139.out) (Kd.S_typed HO_5.out) (by decide)) (fun k_ hk => ⟨hk.1.2, fun e_ => (hk.2) (by rw [e_]; rfl)⟩))) (fun _ h_ => Or.inr (h_)))) (fun _ hk => hk) (fun k_ hk_ => ((Kd.R_mono (ok' := fun k_ => ((fun k_ => k_ ≠ (coppicerref_shared.aft_ k_ (.slice (some ⟨go14, 0, none⟩) x5_1.length co14)))) k_ ∧ k_ ≠ go14) (Kd.R_apart' (HO139.out) (Kd.S_typed HO_5.out) (by decide)) (fun k_ hk => ⟨hk.1.2, fun e_ => (hk.2) (by rw [e_]; rfl)⟩))).1 k_ hk_.symm); have hx17_0 := hcc17 0 _ rfl; (try simp only [show ((Kd.slice 3 (Kd.int .i64))).sz = 1 from rfl, Nat.mul_one, Nat.add_zero] at hx17_0); have hf17_0 := hfr17 0; (try simp only [show ((Kd.slice 3 (Kd.int .i64))).sz = 1 from rfl, Nat.mul_one, Nat.add_zero] at hf17_0); (try clear hcl17); (try clear hcc17); (try clear hfr17); (try clear hM17); (try clear hoki17); (try clear hH17); (try simp only [show ((Kd.slice 3 (Kd.int .i64))).sz = 1 from rfl, Nat.mul_one, Nat.add_zero] at HP17)) | ((with_reducible refine gate_store (t := 33) (p := 24) rfl ?_); refine store_event (t := 33) (p := 24) (v := ?vo_w18) (w1 := (w15.setCell ⟨go14, (x6_1 : Int).toNat, none⟩ (v138))) ?hg ?ho ?hn ?hr ?_; (case ho => rfl); (case hg => rfl); (case hn => rfl); (case hr => first | (go_simp; done) | (go_simp; rfl) | (obtain ⟨_, _, rfl⟩ := Kd.R_slice HO139.out; (first | (go_simp; done) | (go_simp; rfl)))); intro w18 hw; have hg : w15.grownBy w18 (some go14) := (by rw [hw]; exact HP17.2); have hp_ : Kd.S (Kd.slice 3 (Kd.int .i64)) 33 w18 w.heap.size (fun k_ => k_ ≠ (coppicerref_shared.aft_ k_ (.slice (some ⟨go14, 0, none⟩) x5_1.length co14))) (.slice (some ⟨go14, 0, none⟩) x5_1.length co14) y140 := (by rw [hw, Ny140.out]; exact HP17.1); clear HP17; replace HO_5 := Aside0.mk (hp_); replace HB := Aside0.mk ((by rw [hw]; exact below_set (HB.out) GB14.out : Below w.heap.size w w18)); clear HO139; clear hg hw hp_))
   go_loopg [7] k1 (fun kq v7 w' => ∃ (x5_2 : List (List Int)) (x7_2 : Int), v7 = .int .i64 x7_2 ∧ Aside0 (coppicerref_shared.l1 kq l0 l1 x5_2 x6_1 x7_2 = some r) ∧ Aside0 (kq ≤ k1) ∧ Aside0 (Kd.S (Kd.slice 3 (Kd.int .i64)) 33 w' w.heap.size (fun k_ => k_ ≠ (coppicerref_shared.aft_ k_ (.slice (some ⟨go14, 0, none⟩) x5_1.length co14))) (.slice (some ⟨go14, 0, none⟩) x5_1.length co14) x5_2) ∧ Aside0 (Below w.heap.size w w'))
   case atStart => exact ⟨(y140), ((l1.length : Int)), (by first | rfl | (simp; done) | (simp [*]; done)), H', ⟨Nat.le_refl _⟩, ⟨by (with_reducible repeat (first | apply Kd.S_alloc | apply Kd.S_drewN | apply Kd.S_drew)); exact HO_5.out⟩, ⟨by repeat (first | (with_reducible first | exact HB.out | apply zc1 | apply zc2 | apply zc3) | exact HB.out)⟩⟩
   case round =>
    (clear H'); (try clear c1); (try clear p1); (try clear q1); (try clear hx1); (try clear p2); (try clear c4); (try clear c4b0); (try clear c4b1); (try clear c5); (try clear c5b0); (try clear c5b1); (try clear p6); (try clear c8); (try clear c8b0); (try clear c10); (try clear c10b0); (try clear c10b1); (try clear c11); (try clear c11b0); (try clear c11b1); (try clear c12); (try clear c12b0); (try clear c13); (try clear c13b0); (try clear c14); (try clear p14); (try clear q14); (try clear hx14); (try clear hf14); (try clear c17); (try clear hx17); (try clear hf17); (try clear hx14_0); (try clear hx17_0); (try clear p14); (try clear p2); (try clear p6); (try clear q14); (obtain ⟨x5_2, x7_2, rfl, HA, HK2, HO_5, HB⟩ := hrel); (have hl5_2 := (Kd.S_reads' HO_5.out).1); (rw [hl5_2] at HO_5); ((try simp only [hl5_2]))
    cases gk with
    | zero => exact absurd HA.out (by simp [coppicerref_shared.l1])
    | succ k2 =>
     (have H := HA.out); (clear HA); (simp only [coppicerref_shared.l1] at H)
     by_cases c19 : x7_2 ≥ 0
     rotate_left
     ·rw [if_neg c19] at H
      (have c19b0 : decide (0 ≤ x7_2) = false := decide_eq_false c19); (clear c19)
      as_aux_lemma =>
       (have H' := Aside0.mk H); (clear H)
       go_wp2
       (try simp only [← hl5_2])
       (first | go_roundg k2 | (simp only [← hji9]; go_roundg k2) | (simp only [← hji3, ← hji9]; go_roundg k2))
       case measure => have := HK1.out; have := HK2.out; omega
       case rel => first | exact ⟨(x5_2), (wrap64 (x6_1 - 1)), (by first | rfl | (simp; done) | (simp [*]; done)), H', ⟨by have := HK1.out; have := HK2.out; omega⟩, ⟨by (try simp only [hl5_2]); (with_reducible repeat (first | apply Kd.S_alloc | apply Kd.S_drewN | apply Kd.S_drew)); exact HO_5.out⟩, ⟨by repeat (first | (with_reducible first | exact HB.out | apply zc1 | apply zc2 | apply zc3) | exact HB.out)⟩⟩ | (subst hji9; subst hji3; exact ⟨(x5_2), (wrap64 (x6_1 - 1)), (by first | rfl | (simp; done) | (simp [*]; done)), H', ⟨by have := HK1.out; have := HK2.out; omega⟩, ⟨by (try simp only [hl5_2]); (with_reducible repeat (first | apply Kd.S_alloc | apply Kd.S_drewN | apply Kd.S_drew)); exact HO_5.out⟩, ⟨by repeat (first | (with_reducible first | exact HB.out | apply zc1 | apply zc2 | apply zc3) | exact HB.out)⟩⟩)
     (rw [if_pos c19] at H); (have c19b0 : decide (0 ≤ x7_2) = true := decide_eq_true c19); (clear c19); (have HC20 := Aside0.mk H); (clear H)
     go_upto_block 3 with (fail)
     go_cut [] (fun wc => ∃ (kq : Nat) (x5_19 : List (List Int)), Aside0 (coppicerref_shared.j7 kq l0 l1 x5_19 x6_1 x7_2 = some r) ∧ Aside0 (kq ≤ k2) ∧ Aside0 (Kd.S (Kd.slice 3 (Kd.int .i64)) 33 wc w.heap.size (fun k_ => k_ ≠ (coppicerref_shared.aft_ k_ (.slice (some ⟨go14, 0, none⟩) x5_2.length co14))) (.slice (some ⟨go14, 0, none⟩) x5_2.length co14) x5_19) ∧ Aside0 (Below w.heap.size w wc))
     case first =>
      (have H := HC20.out); (clear HC20); (have HC21 := Aside0.mk H); (clear H)
      go_upto_region 9 with (fail)
      go_cut [52] (fun v52 wc => ∃ (kq : Nat) (x52_20 : Bool), v52 = .bool x52_20 ∧ Aside0 (coppicerref_shared.j2 kq l0 l1 x5_2 x6_1 x7_2 x52_20 = some r) ∧ Aside0 (kq ≤ k2) ∧ Aside0 (Kd.S (Kd.slice 3 (Kd.int .i64)) 33 wc w.heap.size (fun k_ => k_ ≠ (coppicerref_shared.aft_ k_ (.slice (some ⟨go14, 0, none⟩) x5_2.length co14))) (.slice (some ⟨go14, 0, none⟩) x5_2.length co14) x5_2) ∧ Aside0 (Below w.heap.size w wc))
      case first =>
       (have H := HC21.out); (clear HC21)
       by_cases c22 : x6_1 < (l0.length : Int)
       rotate_left
       ·rw [if_neg c22] at H
        (have c22b0 : decide (x6_1 < (l0.length : Int)) = false := decide_eq_false c22); ((try (have c22b0h := c22b0; simp only [hl5_2] at c22b0h))); (clear c22)
        (first | rw [c22b0] | (simp only [i64_w, i32_w]; rw [c22b0]) | skip)
        as_aux_lemma =>
         (have H' := Aside0.mk H); (clear H)
         try go_wp2
         (replace HO_5 := Aside0.mk (Kd.S_drew HO_5.out)); (replace HB := Aside0.mk (below_drew1 HB.out))
         refine start_ (n := 22) (S := fun w' => True) (ds := []) #[false, false, false, false, false, false, false, false, false, false, false, false, false, false, false, false, false, false, false, false, false, false] (by kernel_rfl) rfl rfl trivial (fun hHeld => ?_); refine with_tabW coppicerref_shared.tab9 coppicerref_shared.bits9 (fun HT_ HW_ => ?_)
         generalize wr.drew = w32 at HO_5 HB hHeld ⊢
         refine pure_ (i := 0) (N := some 31) (v := ?_) (a' := ?_) (zt 22 1) rfl rfl (any_of HT_.out (by kernel_rfl)) (fun _ _ _ h => h) (Or.inl ⟨by rfl, ?_⟩) ?_ ?_
         rotate_left
         ·intro w'
          go_simp
          with_reducible rfl
         rotate_left
         ·simp only [Act.put, List.setIfInBounds_toArray, List.set_cons_zero, List.set_cons_succ, i64_w, i32_w]
          rfl
         refine pure_ (i := 1) (N := some 32) (v := ?_) (a' := ?_) (zt 22 3) rfl rfl (any_of HT_.out (by kernel_rfl)) (fun _ _ _ h => h) (Or.inl ⟨by rfl, ?_⟩) ?_ ?_
         rotate_left
         ·intro w'
          go_simp
          with_reducible rfl
         rotate_left
         ·simp only [Act.put, List.setIfInBounds_toArray, List.set_cons_zero, List.set_cons_succ, i64_w, i32_w]
          rfl
         refine pure_ (i := 2) (N := some 33) (v := ?_) (a' := ?_) (zt 22 7) rfl rfl (any_of HT_.out (by kernel_rfl)) (fun _ _ _ h => h) (Or.inl ⟨by rfl, ?_⟩) ?_ ?_
         rotate_left
         ·intro w'
          go_simp
          with_reducible rfl
         rotate_left
         ·simp only [Act.put, List.setIfInBounds_toArray, List.set_cons_zero, List.set_cons_succ, i64_w, i32_w]
          rfl
         refine pure_ (i := 3) (N := some 34) (v := ?_) (a' := ?_) (zt 22 15) rfl rfl (any_of HT_.out (by kernel_rfl)) (fun _ _ _ h => h) (Or.inl ⟨by rfl, ?_⟩) ?_ ?_
         rotate_left
         ·intro w'
          go_simp
          with_reducible rfl
         rotate_left
         ·simp only [Act.put, List.setIfInBounds_toArray, List.set_cons_zero, List.set_cons_succ, i64_w, i32_w]
          rfl
         refine pure_ (i := 4) (N := some 35) (v := ?_) (a' := ?_) (zt 22 31) rfl rfl (any_of HT_.out (by kernel_rfl)) (fun _ _ _ h => h) (Or.inl ⟨by rfl, ?_⟩) ?_ ?_
         rotate_left
         ·intro w'
          go_simp
          with_reducible rfl
         rotate_left
         ·simp only [Act.put, List.setIfInBounds_toArray, List.set_cons_zero, List.set_cons_succ, i64_w, i32_w]
          rfl
         refine pure_ (i := 5) (N := some 36) (v := undef) (a' := ?_) (zt 22 63) rfl rfl (any_of HT_.out (by kernel_rfl)) (fun _ _ _ h => h) (Or.inr ⟨by rfl, rfl⟩) ?_ ?_
         rotate_left
         ·simp only [Act.put, List.setIfInBounds_toArray, List.set_cons_zero, List.set_cons_succ, i64_w, i32_w]
          rfl
         refine pure_ (i := 6) (N := some 37) (v := undef) (a' := ?_) (zt 22 127) rfl rfl (any_of HT_.out (by kernel_rfl)) (fun _ _ _ h => h) (Or.inr ⟨by rfl, rfl⟩) ?_ ?_
         rotate_left
         ·simp only [Act.put, List.setIfInBounds_toArray, List.set_cons_zero, List.set_cons_succ, i64_w, i32_w]
          rfl
         refine pure_ (i := 7) (N := some 38) (v := undef) (a' := ?_) (zt 22 255) rfl rfl (any_of HT_.out (by kernel_rfl)) (fun _ _ _ h => h) (Or.inr ⟨by rfl, rfl⟩) ?_ ?_
         rotate_left
         ·simp only [Act.put, List.setIfInBounds_toArray, List.set_cons_zero, List.set_cons_succ, i64_w, i32_w]
          rfl
         refine pure_ (i := 8) (N := some 39) (v := undef) (a' := ?_) (zt 22 511) rfl rfl (any_of HT_.out (by kernel_rfl)) (fun _ _ _ h => h) (Or.inr ⟨by rfl, rfl⟩) ?_ ?_
         rotate_left
         ·simp only [Act.put, List.setIfInBounds_toArray, List.set_cons_zero, List.set_cons_succ, i64_w, i32_w]
          rfl
         refine pure_ (i := 9) (N := some 40) (v := undef) (a' := ?_) (zt 22 1023) rfl rfl (any_of HT_.out (by kernel_rfl)) (fun _ _ _ h => h) (Or.inr ⟨by rfl, rfl⟩) ?_ ?_
         rotate_left
         ·simp only [Act.put, List.setIfInBounds_toArray, List.set_cons_zero, List.set_cons_succ, i64_w, i32_w]
          rfl
         refine pure_ (i := 10) (N := some 41) (v := undef) (a' := ?_) (zt 22 2047) rfl rfl (any_of HT_.out (by kernel_rfl)) (fun _ _ _ h => h) (Or.inr ⟨by rfl, rfl⟩) ?_ ?_
         rotate_left
         ·simp only [Act.put, List.setIfInBounds_toArray, List.set_cons_zero, List.set_cons_succ, i64_w, i32_w]
          rfl
         refine pure_ (i := 11) (N := some 42) (v := undef) (a' := ?_) (zt 22 4095) rfl rfl (any_of HT_.out (by kernel_rfl)) (fun _ _ _ h => h) (Or.inr ⟨by rfl, rfl⟩) ?_ ?_
         rotate_left
         ·simp only [Act.put, List.setIfInBounds_toArray, List.set_cons_zero, List.set_cons_succ, i64_w, i32_w]
          rfl
         refine pure_ (i := 12) (N := some 43) (v := undef) (a' := ?_) (zt 22 8191) rfl rfl (any_of HT_.out (by kernel_rfl)) (fun _ _ _ h => h) (Or.inr ⟨by rfl, rfl⟩) ?_ ?_
         rotate_left
         ·simp only [Act.put, List.setIfInBounds_toArray, List.set_cons_zero, List.set_cons_succ, i64_w, i32_w]
          rfl
         refine pure_ (i := 13) (N := some 44) (v := undef) (a' := ?_) (zt 22 16383) rfl rfl (any_of HT_.out (by kernel_rfl)) (fun _ _ _ h => h) (Or.inr ⟨by rfl, rfl⟩) ?_ ?_
         rotate_left
         ·simp only [Act.put, List.setIfInBounds_toArray, List.set_cons_zero, List.set_cons_succ, i64_w, i32_w]
          rfl
         refine pure_ (i := 14) (N := some 45) (v := undef) (a' := ?_) (zt 22 32767) rfl rfl (any_of HT_.out (by kernel_rfl)) (fun _ _ _ h => h) (Or.inr ⟨by rfl, rfl⟩) ?_ ?_
         rotate_left
         ·simp only [Act.put, List.setIfInBounds_toArray, List.set_cons_zero, List.set_cons_succ, i64_w, i32_w]
          rfl
         refine pure_ (i := 15) (N := some 46) (v := undef) (a' := ?_) (zt 22 65535) rfl rfl (any_of HT_.out (by kernel_rfl)) (fun _ _ _ h => h) (Or.inr ⟨by rfl, rfl⟩) ?_ ?_
         rotate_left
         ·simp only [Act.put, List.setIfInBounds_toArray, List.set_cons_zero, List.set_cons_succ, i64_w, i32_w]
          rfl
         refine pure_ (i := 16) (N := some 47) (v := undef) (a' := ?_) (zt 22 131071) rfl rfl (any_of HT_.out (by kernel_rfl)) (fun _ _ _ h => h) (Or.inr ⟨by rfl, rfl⟩) ?_ ?_
         rotate_left
         ·simp only [Act.put, List.setIfInBounds_toArray, List.set_cons_zero, List.set_cons_succ, i64_w, i32_w]
          rfl
         refine pure_ (i := 17) (N := some 48) (v := undef) (a' := ?_) (zt 22 262143) rfl rfl (any_of HT_.out (by kernel_rfl)) (fun _ _ _ h => h) (Or.inr ⟨by rfl, rfl⟩) ?_ ?_
         rotate_left
         ·simp only [Act.put, List.setIfInBounds_toArray, List.set_cons_zero, List.set_cons_succ, i64_w, i32_w]
          rfl
         refine pure_ (i := 18) (N := some 49) (v := undef) (a' := ?_) (zt 22 524287) rfl rfl (any_of HT_.out (by kernel_rfl)) (fun _ _ _ h => h) (Or.inr ⟨by rfl, rfl⟩) ?_ ?_
         rotate_left
         ·simp only [Act.put, List.setIfInBounds_toArray, List.set_cons_zero, List.set_cons_succ, i64_w, i32_w]
          rfl
         refine pure_ (i := 19) (N := some 50) (v := undef) (a' := ?_) (zt 22 1048575) rfl rfl (any_of HT_.out (by kernel_rfl)) (fun _ _ _ h => h) (Or.inr ⟨by rfl, rfl⟩) ?_ ?_
         rotate_left
         ·simp only [Act.put, List.setIfInBounds_toArray, List.set_cons_zero, List.set_cons_succ, i64_w, i32_w]
          rfl
         refine pure_ (i := 20) (N := some 51) (v := undef) (a' := ?_) (zt 22 2097151) rfl rfl (any_of HT_.out (by kernel_rfl)) (fun _ _ _ h => h) (Or.inr ⟨by rfl, rfl⟩) ?_ ?_
         rotate_left
         ·simp only [Act.put, List.setIfInBounds_toArray, List.set_cons_zero, List.set_cons_succ, i64_w, i32_w]
          rfl
         refine pure_ (i := 21) (N := some 52) (v := ?_) (a' := ?_) #[true, true, true, true, true, true, true, true, true, true, true, true, true, true, true, true, true, true, true, true, true, true] rfl rfl (any_of HT_.out (by kernel_rfl)) (fun _ _ _ h => h) (Or.inl ⟨by rfl, ?_⟩) ?_ ?_
         rotate_left
         ·intro w'
          go_simp
          with_reducible rfl
         rotate_left
         ·simp only [Act.put, List.setIfInBounds_toArray, List.set_cons_zero, List.set_cons_succ, i64_w, i32_w]
          rfl
         refine done_ (done_of HT_.out (by kernel_rfl)) ?_
         try go_wp2
         go_meet
         case rel => exact ⟨_, (false), (by first | rfl | (simp; done) | (simp [*]; done)), H', ⟨by have := HK1.out; have := HK2.out; first | omega | exact Nat.le_refl _⟩, ⟨by (try simp only [hl5_2]); (with_reducible repeat (first | apply Kd.S_alloc | apply Kd.S_drewN | apply Kd.S_drew)); exact HO_5.out⟩, ⟨by repeat (first | (with_reducible first | exact HB.out | apply zc1 | apply zc2 | apply zc3) | exact HB.out)⟩⟩
       (rw [if_pos c22] at H); (have c22b0 : decide (x6_1 < (l0.length : Int)) = true := decide_eq_true c22); ((try (have c22b0h := c22b0; simp only [hl5_2] at c22b0h))); (clear c22)
       (first | rw [c22b0] | (simp only [i64_w, i32_w]; rw [c22b0]) | skip)
       (obtain ⟨ji23, hji23⟩ : ∃ j_ : Int, (wrap64 (x6_1 + 1)) = j_ := ⟨_, rfl⟩); (replace H : (if 0 ≤ (ji23) then (if (ji23) < (x5_2.length : Int) then (if 0 ≤ x7_2 then (if x7_2 < ((rd_L3 x5_2 (ji23)).length : Int) then (if 0 ≤ x6_1 then (if x6_1 < (x5_2.length : Int) then (if x7_2 < ((rd_L3 x5_2 x6_1).length : Int) then (coppicerref_shared.j2 k2 l0 l1 x5_2 x6_1 x7_2 (decide ((rd (rd_L3 x5_2 (ji23)) x7_2) > (rd (rd_L3 x5_2 x6_1) x7_2)))) else (none)) else (none)) else (none)) else (none)) else (none)) else (none)) else (none)) = some r := by first | (rw [hji23] at H; exact H) | (simp only [hji23] at H ⊢; exact H)); (have hji23w : (IntKind.i64.wrap (x6_1 + 1)) = ji23 := (i64_w _).trans hji23)
       by_cases c24 : 0 ≤ (ji23)
       rotate_left
       ·rw [if_neg c24] at H
        exact absurd H (by simp)
       (rw [if_pos c24] at H); (have c24b0 : decide (0 ≤ (ji23)) = true := decide_eq_true c24); (clear c24)
       by_cases c25 : (ji23) < (x5_2.length : Int)
       rotate_left
       ·rw [if_neg c25] at H
        exact absurd H (by simp)
       (rw [if_pos c25] at H); (have c25b0 : decide ((ji23) < (x5_2.length : Int)) = true := decide_eq_true c25); ((try (have c25b0h := c25b0; simp only [hl5_2] at c25b0h))); (clear c25)
       by_cases c26 : 0 ≤ x7_2
       rotate_left
       ·rw [if_neg c26] at H
        exact absurd H (by simp)
       (rw [if_pos c26] at H); (have c26b0 : decide (0 ≤ x7_2) = true := decide_eq_true c26); (clear c26)
       by_cases c27 : x7_2 < ((rd_L3 x5_2 (ji23)).length : Int)
       rotate_left
       ·rw [if_neg c27] at H
        exact absurd H (by simp)
       (rw [if_pos c27] at H); (have c27b0 : decide (x7_2 < ((rd_L3 x5_2 (ji23)).length : Int)) = true := decide_eq_true c27); ((try (have c27b0h := c27b0; simp only [hl5_2] at c27b0h))); (clear c27)
       by_cases c28 : 0 ≤ x6_1
       rotate_left
       ·rw [if_neg c28] at H
        exact absurd H (by simp)
       (rw [if_pos c28] at H); (have c28b0 : decide (0 ≤ x6_1) = true := decide_eq_true c28); (clear c28)
       by_cases c29 : x6_1 < (x5_2.length : Int)
       rotate_left
       ·rw [if_neg c29] at H
        exact absurd H (by simp)
       (rw [if_pos c29] at H); (have c29b0 : decide (x6_1 < (x5_2.length : Int)) = true := decide_eq_true c29); ((try (have c29b0h := c29b0; simp only [hl5_2] at c29b0h))); (clear c29)
       by_cases c30 : x7_2 < ((rd_L3 x5_2 x6_1).length : Int)
       rotate_left
       ·rw [if_neg c30] at H
        exact absurd H (by simp)
       (rw [if_pos c30] at H); (have c30b0 : decide (x7_2 < ((rd_L3 x5_2 x6_1).length : Int)) = true := decide_eq_true c30); ((try (have c30b0h := c30b0; simp only [hl5_2] at c30b0h))); (clear c30)
       as_aux_lemma =>
        (have H' := Aside0.mk H); (clear H)
        try go_wp2
        (replace HO_5 := Aside0.mk (Kd.S_drew HO_5.out)); (replace HB := Aside0.mk (below_drew1 HB.out)); (have p141 : 0 ≤ ((ji23) : Int) := of_decide_eq_true (by assumption)); (have q141 : (ji23) < (x5_2.length : Int) := of_decide_eq_true (by assumption)); (obtain ⟨ad141, A141_0, c141_0, e141, hx141_0, hl141_0, hi141_0⟩ := at_L3 (Kd.S_reads' HO_5.out).2.2 (ji23) p141 q141); (obtain rfl : (⟨go14, 0, none⟩ : Addr) = ad141 := (by injection e141)); (obtain ⟨ce141, hce141, hMe141, hcc141⟩ := Kd.S_get HO_5.out [] (ji23) p141 (by first | exact q141 | exact of_decide_eq_true (by assumption) | (have e_ := (Kd.S_reads' HO_5.out).1; omega))); (obtain ⟨ve141_0, rfl, ge141_0⟩ := hMe141); (have hv141_0 := hcc141 0 _ rfl); (rw [Nat.add_zero, show ((Kd.slice 3 (Kd.int .i64))).sz = 1 from rfl, Nat.mul_one] at hv141_0); (replace hv141_0 := Option.some.inj (hv141_0.symm.trans hx141_0)); (rw [hv141_0] at ge141_0); (have HL141_0 := Aside0.mk (show Kd.R (Kd.int .i64) 3 _ _ _ _ (rd_L3 x5_2 (ji23)) from ge141_0)); (clear hv141_0 ge141_0); (have HX141_0 := Aside0.mk hx141_0); (clear hcc141 hce141)
        (first | simp only [add_plain] at hx141_0 | simp only [add_at] at hx141_0 | simp only [Addr.add, Nat.zero_add] at hx141_0 | skip)
        (have HR141_0 := Aside0.mk hi141_0); (have HC141_0 := Aside0.mk hl141_0); (clear hi141_0 hl141_0); (replace p141 := eq_true p141); (replace q141 := eq_true q141); (have p142 : 0 ≤ (x7_2 : Int) := of_decide_eq_true (by assumption)); (have q142 : x7_2 < ((rd_L3 x5_2 (ji23)).length : Int) := of_decide_eq_true (by assumption)); (obtain ⟨ad142, e142, hx142_0⟩ := Kd.at_int (by repeat (first | (with_reducible exact HR141_0.out) | (with_reducible refine Kd.C_alloc ?_ _) | (with_reducible refine Kd.C_drewN ?_ _) | (with_reducible refine Kd.C_drew ?_) | exact HR141_0.out)) x7_2 p142 q142); (cases e142); (replace p142 := eq_true p142); (replace q142 := eq_true q142); (have p143 : 0 ≤ (x6_1 : Int) := of_decide_eq_true (by assumption)); (have q143 : x6_1 < (x5_2.length : Int) := of_decide_eq_true (by assumption)); (obtain ⟨ad143, A143_0, c143_0, e143, hx143_0, hl143_0, hi143_0⟩ := at_L3 (Kd.S_reads' HO_5.out).2.2 x6_1 p143 q143); (obtain rfl : (⟨go14, 0, none⟩ : Addr) = ad143 := (by injection e143)); (obtain ⟨ce143, hce143, hMe143, hcc143⟩ := Kd.S_get HO_5.out [] x6_1 p143 (by first | exact q143 | exact of_decide_eq_true (by assumption) | (have e_ := (Kd.S_reads' HO_5.out).1; omega))); (obtain ⟨ve143_0, rfl, ge143_0⟩ := hMe143); (have hv143_0 := hcc143 0 _ rfl); (rw [Nat.add_zero, show ((Kd.slice 3 (Kd.int .i64))).sz = 1 from rfl, Nat.mul_one] at hv143_0); (replace hv143_0 := Option.some.inj (hv143_0.symm.trans hx143_0)); (rw [hv143_0] at ge143_0); (have HL143_0 := Aside0.mk (show Kd.R (Kd.int .i64) 3 _ _ _ _ (rd_L3 x5_2 x6_1) from ge143_0)); (clear hv143_0 ge143_0); (have HX143_0 := Aside0.mk hx143_0)
        clear hcc143 hce143
        (first | simp only [add_plain] at hx143_0 | simp only [add_at] at hx143_0 | simp only [Addr.add, Nat.zero_add] at hx143_0 | skip)
        (have HR143_0 := Aside0.mk hi143_0); (have HC143_0 := Aside0.mk hl143_0); (clear hi143_0 hl143_0); (replace p143 := eq_true p143); (replace q143 := eq_true q143); (have p144 : 0 ≤ (x7_2 : Int) := of_decide_eq_true (by assumption)); (have q144 : x7_2 < ((rd_L3 x5_2 x6_1).length : Int) := of_decide_eq_true (by assumption)); (obtain ⟨ad144, e144, hx144_0⟩ := Kd.at_int (by repeat (first | (with_reducible exact HR143_0.out) | (with_reducible refine Kd.C_alloc ?_ _) | (with_reducible refine Kd.C_drewN ?_ _) | (with_reducible refine Kd.C_drew ?_) | exact HR143_0.out)) x7_2 p144 q144); (cases e144); (replace p144 := eq_true p144); (replace q144 := eq_true q144)
        refine start_ (n := 22) (S := fun w' => w'.cell? ⟨go14, ((ji23)).toNat, none⟩ = some (.slice (some ad142) (rd_L3 x5_2 (ji23)).length c141_0) ∧ w'.cell? (ad142.add (x7_2).toNat) = some (.int .i64 (rd (rd_L3 x5_2 (ji23)) x7_2)) ∧ w'.cell? ⟨go14, (x6_1).toNat, none⟩ = some (.slice (some ad144) (rd_L3 x5_2 x6_1).length c143_0) ∧ w'.cell? (ad144.add (x7_2).toNat) = some (.int .i64 (rd (rd_L3 x5_2 x6_1) x7_2))) (ds := []) #[false, false, false, false, false, false, false, false, false, false, false, false, false, false, false, false, false, false, false, false, false, false] (by kernel_rfl) rfl rfl ⟨hx141_0, hx142_0, hx143_0, hx144_0⟩ (fun hHeld => ?_); refine with_tabW coppicerref_shared.tab9 coppicerref_shared.bits9 (fun HT_ HW_ => ?_)
        generalize wr.drew = w31 at HO_5 HB HL141_0 HL143_0 HR141_0 HR143_0 HX141_0 HX143_0 hx141_0 hx142_0 hx143_0 hx144_0 hHeld ⊢
        refine pure_ (i := 0) (N := some 31) (v := ?_) (a' := ?_) (zt 22 1) rfl rfl (any_of HT_.out (by kernel_rfl)) (fun _ _ _ h => h) (Or.inl ⟨by rfl, ?_⟩) ?_ ?_
        rotate_left
        ·intro w'
         go_simp
         with_reducible rfl
        rotate_left
        ·simp only [Act.put, List.setIfInBounds_toArray, List.set_cons_zero, List.set_cons_succ, i64_w, i32_w]
         rfl
        refine pure_ (i := 1) (N := some 32) (v := ?_) (a' := ?_) (zt 22 3) rfl rfl (any_of HT_.out (by kernel_rfl)) (fun _ _ _ h => h) (Or.inl ⟨by rfl, ?_⟩) ?_ ?_
        rotate_left
        ·intro w'
         go_simp
         with_reducible rfl
        rotate_left
        ·simp only [Act.put, List.setIfInBounds_toArray, List.set_cons_zero, List.set_cons_succ, i64_w, i32_w]
         rfl
        refine pure_ (i := 2) (N := some 33) (v := ?_) (a' := ?_) (zt 22 7) rfl rfl (any_of HT_.out (by kernel_rfl)) (fun _ _ _ h => h) (Or.inl ⟨by rfl, ?_⟩) ?_ ?_
        rotate_left
        ·intro w'
         go_simp
         with_reducible rfl
        rotate_left
        ·simp only [Act.put, List.setIfInBounds_toArray, List.set_cons_zero, List.set_cons_succ, i64_w, i32_w]
         rfl
        refine pure_ (i := 3) (N := some 34) (v := ?_) (a' := ?_) (zt 22 15) rfl rfl (any_of HT_.out (by kernel_rfl)) (fun _ _ _ h => h) (Or.inl ⟨by rfl, ?_⟩) ?_ ?_
        rotate_left
        ·intro w'
         go_simp
         with_reducible rfl
        rotate_left
        ·simp only [Act.put, List.setIfInBounds_toArray, List.set_cons_zero, List.set_cons_succ, i64_w, i32_w]
         rfl
        refine pure_ (i := 4) (N := some 35) (v := ?_) (a' := ?_) (zt 22 31) rfl rfl (any_of HT_.out (by kernel_rfl)) (fun _ _ _ h => h) (Or.inl ⟨by rfl, ?_⟩) ?_ ?_
        rotate_left
        ·intro w'
         go_simp
         with_reducible rfl
        rotate_left
        ·simp only [Act.put, List.setIfInBounds_toArray, List.set_cons_zero, List.set_cons_succ, i64_w, i32_w]
         rfl
        refine pure_ (i := 5) (N := some 36) (v := ?_) (a' := ?_) (zt 22 63) rfl rfl (any_of HT_.out (by kernel_rfl)) (fun _ _ _ h => h) (Or.inl ⟨by rfl, ?_⟩) ?_ ?_
        rotate_left
        ·intro w'
         go_simp
         with_reducible rfl
        rotate_left
        ·simp only [Act.put, List.setIfInBounds_toArray, List.set_cons_zero, List.set_cons_succ, i64_w, i32_w]
         rfl
        refine pure_ (i := 6) (N := some 37) (v := ?_) (a' := ?_) (zt 22 127) rfl rfl (any_of HT_.out (by kernel_rfl)) (fun _ _ _ h => h) (Or.inl ⟨by rfl, ?_⟩) ?_ ?_
        rotate_left
        ·intro w'
         go_simp
         with_reducible rfl
        rotate_left
        ·simp only [Act.put, List.setIfInBounds_toArray, List.set_cons_zero, List.set_cons_succ, i64_w, i32_w]
         rfl
        refine pure_ (i := 7) (N := some 38) (v := ?_) (a' := ?_) (zt 22 255) rfl rfl (any_of HT_.out (by kernel_rfl)) (fun _ _ _ h => h) (Or.inl ⟨by rfl, ?_⟩) ?_ ?_
        rotate_left
        ·intro w'
         go_simp
         with_reducible rfl
        rotate_left
        ·simp only [Act.put, List.setIfInBounds_toArray, List.set_cons_zero, List.set_cons_succ, i64_w, i32_w]
         rfl
        refine pure_ (i := 8) (N := some 39) (v := ?_) (a' := ?_) (zt 22 511) rfl rfl (any_of HT_.out (by kernel_rfl)) (fun _ _ _ h => h) (Or.inl ⟨by rfl, ?_⟩) ?_ ?_
        rotate_left
        ·intro w'
         go_simp
         with_reducible rfl
        rotate_left
        ·simp only [Act.put, List.setIfInBounds_toArray, List.set_cons_zero, List.set_cons_succ, i64_w, i32_w]
         rfl
        refine pure_ (i := 10) (N := some 41) (v := ?_) (a' := ?_) (zt 22 1535) rfl rfl (any_of HT_.out (by kernel_rfl)) (fun _ _ _ h => h) (Or.inl ⟨by rfl, ?_⟩) ?_ ?_
        rotate_left
        ·intro w'
         go_simp
         with_reducible rfl
        rotate_left
        ·simp only [Act.put, List.setIfInBounds_toArray, List.set_cons_zero, List.set_cons_succ, i64_w, i32_w]
         rfl
        refine pure_ (i := 13) (N := some 44) (v := ?_) (a' := ?_) (zt 22 9727) rfl rfl (any_of HT_.out (by kernel_rfl)) (fun _ _ _ h => h) (Or.inl ⟨by rfl, ?_⟩) ?_ ?_
        rotate_left
        ·intro w'
         go_simp
         with_reducible rfl
        rotate_left
        ·simp only [Act.put, List.setIfInBounds_toArray, List.set_cons_zero, List.set_cons_succ, i64_w, i32_w]
         rfl
        refine pure_ (i := 14) (N := some 45) (v := ?_) (a' := ?_) (zt 22 26111) rfl rfl (any_of HT_.out (by kernel_rfl)) (fun _ _ _ h => h) (Or.inl ⟨by rfl, ?_⟩) ?_ ?_
        rotate_left
        ·intro w'
         go_simp
         with_reducible rfl
        rotate_left
        ·simp only [Act.put, List.setIfInBounds_toArray, List.set_cons_zero, List.set_cons_succ, i64_w, i32_w]
         rfl
        refine pure_ (i := 15) (N := some 46) (v := ?_) (a' := ?_) (zt 22 58879) rfl rfl (any_of HT_.out (by kernel_rfl)) (fun _ _ _ h => h) (Or.inl ⟨by rfl, ?_⟩) ?_ ?_
        rotate_left
        ·intro w'
         go_simp
         with_reducible rfl
        rotate_left
        ·simp only [Act.put, List.setIfInBounds_toArray, List.set_cons_zero, List.set_cons_succ, i64_w, i32_w]
         rfl
        refine pure_ (i := 17) (N := some 48) (v := ?_) (a' := ?_) #[true, true, true, true, true, true, true, true, true, false, true, false, false, true, true, true, false, true, false, false, false, false] rfl rfl (any_of HT_.out (by kernel_rfl)) (fun _ _ _ h => h) (Or.inl ⟨by rfl, ?_⟩) ?_ ?_
        rotate_left
        ·intro w'
         go_simp
         with_reducible rfl
        rotate_left
        ·simp only [Act.put, List.setIfInBounds_toArray, List.set_cons_zero, List.set_cons_succ, i64_w, i32_w]
         rfl
        refine take_ (i := 9) (N := some 40) (v := ?_) (a' := ?_) #[true, true, true, true, true, true, true, true, true, true, true, false, false, true, true, true, false, true, false, false, false, false] rfl rfl (take_ofW HT_.out HW_.out (by kernel_rfl)) (fun _ _ _ h => h) (Or.inl ⟨by rfl, ?_⟩) hHeld ?_ ?_
        rotate_left
        ·rintro w' ⟨s0, s1, s2, s3⟩
         go_simp
         with_reducible rfl
        rotate_left
        ·simp only [Act.put, List.setIfInBounds_toArray, List.set_cons_zero, List.set_cons_succ, i64_w, i32_w]
         rfl
        refine pure_ (i := 11) (N := some 42) (v := ?_) (a' := ?_) #[true, true, true, true, true, true, true, true, true, true, true, true, false, true, true, true, false, true, false, false, false, false] rfl rfl (any_of HT_.out (by kernel_rfl)) (fun _ _ _ h => h) (Or.inl ⟨by rfl, ?_⟩) ?_ ?_
        rotate_left
        ·intro w'
         go_simp
         with_reducible rfl
        rotate_left
        ·simp only [Act.put, List.setIfInBounds_toArray, List.set_cons_zero, List.set_cons_succ, i64_w, i32_w]
         rfl
        refine take_ (i := 12) (N := some 43) (v := ?_) (a' := ?_) #[true, true, true, true, true, true, true, true, true, true, true, true, true, true, true, true, false, true, false, false, false, false] rfl rfl (take_ofW HT_.out HW_.out (by kernel_rfl)) (fun _ _ _ h => h) (Or.inl ⟨by rfl, ?_⟩) hHeld ?_ ?_
        rotate_left
        ·rintro w' ⟨s0, s1, s2, s3⟩
         go_simp
         with_reducible rfl
        rotate_left
        ·simp only [Act.put, List.setIfInBounds_toArray, List.set_cons_zero, List.set_cons_succ, i64_w, i32_w]
         rfl
        refine take_ (i := 16) (N := some 47) (v := ?_) (a' := ?_) #[true, true, true, true, true, true, true, true, true, true, true, true, true, true, true, true, true, true, false, false, false, false] rfl rfl (take_ofW HT_.out HW_.out (by kernel_rfl)) (fun _ _ _ h => h) (Or.inl ⟨by rfl, ?_⟩) hHeld ?_ ?_
        rotate_left
        ·rintro w' ⟨s0, s1, s2, s3⟩
         go_simp
         with_reducible rfl
        rotate_left
        ·simp only [Act.put, List.setIfInBounds_toArray, List.set_cons_zero, List.set_cons_succ, i64_w, i32_w]
         rfl
        refine pure_ (i := 18) (N := some 49) (v := ?_) (a' := ?_) #[true, true, true, true, true, true, true, true, true, true, true, true, true, true, true, true, true, true, true, false, false, false] rfl rfl (any_of HT_.out (by kernel_rfl)) (fun _ _ _ h => h) (Or.inl ⟨by rfl, ?_⟩) ?_ ?_
        rotate_left
        ·intro w'
         go_simp
         with_reducible rfl
        rotate_left
        ·simp only [Act.put, List.setIfInBounds_toArray, List.set_cons_zero, List.set_cons_succ, i64_w, i32_w]
         rfl
        refine take_ (i := 19) (N := some 50) (v := ?_) (a' := ?_) #[true, true, true, true, true, true, true, true, true, true, true, true, true, true, true, true, true, true, true, true, false, false] rfl rfl (take_ofW HT_.out HW_.out (by kernel_rfl)) (fun _ _ _ h => h) (Or.inl ⟨by rfl, ?_⟩) hHeld ?_ ?_
        rotate_left
        ·rintro w' ⟨s0, s1, s2, s3⟩
         go_simp
         with_reducible rfl
        rotate_left
        ·simp only [Act.put, List.setIfInBounds_toArray, List.set_cons_zero, List.set_cons_succ, i64_w, i32_w]
         rfl
        refine pure_ (i := 20) (N := some 51) (v := ?_) (a' := ?_) (zt 22 2097151) rfl rfl (any_of HT_.out (by kernel_rfl)) (fun _ _ _ h => h) (Or.inl ⟨by rfl, ?_⟩) ?_ ?_
        rotate_left
        ·intro w'
         go_simp
         with_reducible rfl
        rotate_left
        ·simp only [Act.put, List.setIfInBounds_toArray, List.set_cons_zero, List.set_cons_succ, i64_w, i32_w]
         rfl
        refine pure_ (i := 21) (N := some 52) (v := ?_) (a' := ?_) #[true, true, true, true, true, true, true, true, true, true, true, true, true, true, true, true, true, true, true, true, true, true] rfl rfl (any_of HT_.out (by kernel_rfl)) (fun _ _ _ h => h) (Or.inl ⟨by rfl, ?_⟩) ?_ ?_
        rotate_left
        ·intro w'
         go_simp
         with_reducible rfl
        rotate_left
        ·simp only [Act.put, List.setIfInBounds_toArray, List.set_cons_zero, List.set_cons_succ, i64_w, i32_w]
         rfl
        refine done_ (done_of HT_.out (by kernel_rfl)) ?_
        try go_wp2
        go_meet
        case rel => exact ⟨_, (decide ((rd (rd_L3 x5_2 (ji23)) x7_2) > (rd (rd_L3 x5_2 x6_1) x7_2))), (by first | rfl | (simp; done) | (simp only [← hji23] <;> (first | rfl | simp)) | (simp [*]; done)), H', ⟨by have := HK1.out; have := HK2.out; first | omega | exact Nat.le_refl _⟩, ⟨by (try simp only [hl5_2]); (with_reducible repeat (first | apply Kd.S_alloc | apply Kd.S_drewN | apply Kd.S_drew)); exact HO_5.out⟩, ⟨by repeat (first | (with_reducible first | exact HB.out | apply zc1 | apply zc2 | apply zc3) | exact HB.out)⟩⟩
      case rest =>
       (clear HC21); (try clear c1); (try clear p1); (try clear q1); (try clear hx1); (try clear c2); (try clear p2); (try clear c3); (try clear c4); (try clear c4b0); (try clear c4b1); (try clear c5); (try clear c5b0); (try clear c5b1); (try clear p6); (try clear c8); (try clear c8b0); (try clear c10); (try clear c10b0); (try clear c10b1); (try clear c11); (try clear c11b0); (try clear c11b1); (try clear c12); (try clear c12b0); (try clear c13); (try clear c13b0); (try clear c14); (try clear p14); (try clear q14); (try clear hx14); (try clear hf14); (try clear c17); (try clear hx17); (try clear hf17); (try clear c19); (try clear c19b0); (try clear c22); (try clear c22b0); (try clear c24); (try clear c24b0); (try clear c25); (try clear c25b0); (try clear c26); (try clear c26b0); (try clear c27); (try clear c27b0); (try clear c28); (try clear c28b0); (try clear c29); (try clear c29b0); (try clear c30); (try clear c30b0); (try clear hx141_0); (try clear hx142_0); (try clear hx143_0); (try clear hx144_0); (try clear hx14_0); (try clear hx17_0); (try clear p1); (try clear p14); (try clear p141); (try clear p142); (try clear p143); (try clear p144); (try clear p2); (try clear p6); (try clear q1); (try clear q14); (try clear q141); (try clear q142); (try clear q143); (try clear q144); (obtain ⟨kq, x52_20, rfl, HA, HJ20, HO_5, HB⟩ := hcut)
       cases kq with
       | zero => exact absurd HA.out (by simp [coppicerref_shared.j2])
       | succ kj20 =>
        (have H := HA.out); (clear HA); (simp only [coppicerref_shared.j2] at H); (have HC33 := Aside0.mk H); (clear H)
        go_upto_if 52 with (fail)
        go_cut [] (fun wc => ∃ (kq : Nat) (x5_32 : List (List Int)), Aside0 (coppicerref_shared.j3 kq l0 l1 x5_32 x6_1 x7_2 = some r) ∧ Aside0 (kq ≤ kj20) ∧ Aside0 (Kd.S (Kd.slice 3 (Kd.int .i64)) 33 wc w.heap.size (fun k_ => k_ ≠ (coppicerref_shared.aft_ k_ (.slice (some ⟨go14, 0, none⟩) x5_2.length co14))) (.slice (some ⟨go14, 0, none⟩) x5_2.length co14) x5_32) ∧ Aside0 (Below w.heap.size w wc))
        case first =>
         (have H := HC33.out); (clear HC33)
         by_cases c34 : x52_20 = true
         rotate_left
         ·replace c34 := Bool.eq_false_iff.mpr c34
          (subst c34); (have H1 : (coppicerref_shared.j3 kj20 l0 l1 x5_2 x6_1 x7_2) = some r := by rw [if_neg (show ¬ (false = true) by decide)] at H; exact H); (clear H); (have H := H1); (clear H1)
          as_aux_lemma =>
           (have H' := Aside0.mk H); (clear H)
           go_wp2
           go_meet
           case rel => exact ⟨_, (x5_2), H', ⟨by have := HK1.out; have := HK2.out; have := HJ20.out; first | omega | exact Nat.le_refl _⟩, ⟨by (try simp only [hl5_2]); (with_reducible repeat (first | apply Kd.S_alloc | apply Kd.S_drewN | apply Kd.S_drew)); exact HO_5.out⟩, ⟨by repeat (first | (with_reducible first | exact HB.out | apply zc1 | apply zc2 | apply zc3) | exact HB.out)⟩⟩
         (subst c34); (have H1 : (if 0 ≤ x6_1 then (if x6_1 < (x5_2.length : Int) then (if 0 ≤ (wrap64 (x6_1 + 1)) then (if (wrap64 (x6_1 + 1)) < (x5_2.length : Int) then (if 0 ≤ x7_2 then (if x7_2 < ((rd_L3 x5_2 (wrap64 (x6_1 + 1))).length : Int) then (if x7_2 < ((rd_L3 x5_2 x6_1).length : Int) then (coppicerref_shared.j3 kj20 l0 l1 (x5_2.set (x6_1 : Int).toNat ((rd_L3 x5_2 x6_1).set (x7_2 : Int).toNat (rd (rd_L3 x5_2 (wrap64 (x6_1 + 1))) x7_2))) x6_1 x7_2) else (none)) else (none)) else (none)) else (none)) else (none)) else (none)) else (none)) = some r := by rw [if_pos rfl] at H; exact H); (clear H); (have H := H1); (clear H1)
         by_cases c35 : 0 ≤ x6_1
         rotate_left
         ·rw [if_neg c35] at H
          exact absurd H (by simp)
         (rw [if_pos c35] at H); (have c35b0 : decide (0 ≤ x6_1) = true := decide_eq_true c35); (clear c35)
         (first | rw [c35b0] | (simp only [i64_w, i32_w]; rw [c35b0]) | skip)
         by_cases c36 : x6_1 < (x5_2.length : Int)
         rotate_left
         ·rw [if_neg c36] at H
          exact absurd H (by simp)
         (rw [if_pos c36] at H); (have c36b0 : decide (x6_1 < (x5_2.length : Int)) = true := decide_eq_true c36); ((try (have c36b0h := c36b0; simp only [hl5_2] at c36b0h))); (clear c36); (obtain ⟨ji37, hji37⟩ : ∃ j_ : Int, (wrap64 (x6_1 + 1)) = j_ := ⟨_, rfl⟩); (replace H : (if 0 ≤ (ji37) then (if (ji37) < (x5_2.length : Int) then (if 0 ≤ x7_2 then (if x7_2 < ((rd_L3 x5_2 (ji37)).length : Int) then (if x7_2 < ((rd_L3 x5_2 x6_1).length : Int) then (coppicerref_shared.j3 kj20 l0 l1 (x5_2.set (x6_1 : Int).toNat ((rd_L3 x5_2 x6_1).set (x7_2 : Int).toNat (rd (rd_L3 x5_2 (ji37)) x7_2))) x6_1 x7_2) else (none)) else (none)) else (none)) else (none)) else (none)) = some r := by first | (rw [hji37] at H; exact H) | (simp only [hji37] at H ⊢; exact H)); (have hji37w : (IntKind.i64.wrap (x6_1 + 1)) = ji37 := (i64_w _).trans hji37)
         by_cases c38 : 0 ≤ (ji37)
         rotate_left
         ·rw [if_neg c38] at H
          exact absurd H (by simp)
         (rw [if_pos c38] at H); (have c38b0 : decide (0 ≤ (ji37)) = true := decide_eq_true c38); (clear c38)
         by_cases c39 : (ji37) < (x5_2.length : Int)
         rotate_left
         ·rw [if_neg c39] at H
          exact absurd H (by simp)
         (rw [if_pos c39] at H); (have c39b0 : decide ((ji37) < (x5_2.length : Int)) = true := decide_eq_true c39); ((try (have c39b0h := c39b0; simp only [hl5_2] at c39b0h))); (clear c39)
         by_cases c40 : 0 ≤ x7_2
         rotate_left
         ·rw [if_neg c40] at H
          exact absurd H (by simp)
         (rw [if_pos c40] at H); (have c40b0 : decide (0 ≤ x7_2) = true := decide_eq_true c40); (clear c40)
         by_cases c41 : x7_2 < ((rd_L3 x5_2 (ji37)).length : Int)
         rotate_left
         ·rw [if_neg c41] at H
          exact absurd H (by simp)
         (rw [if_pos c41] at H); (have c41b0 : decide (x7_2 < ((rd_L3 x5_2 (ji37)).length : Int)) = true := decide_eq_true c41); ((try (have c41b0h := c41b0; simp only [hl5_2] at c41b0h))); (clear c41)
         by_cases c42 : x7_2 < ((rd_L3 x5_2 x6_1).length : Int)
         rotate_left
         ·rw [if_neg c42] at H
          exact absurd H (by simp)
         (rw [if_pos c42] at H); (have c42b0 : decide (x7_2 < ((rd_L3 x5_2 x6_1).length : Int)) = true := decide_eq_true c42); ((try (have c42b0h := c42b0; simp only [hl5_2] at c42b0h))); (clear c42); (obtain ⟨y148, hy148⟩ : ∃ y_ : List Int, y_ = ((rd_L3 x5_2 x6_1).set (x7_2 : Int).toNat (rd (rd_L3 x5_2 (ji37)) x7_2)) := ⟨_, rfl⟩); (replace H : (coppicerref_shared.j3 kj20 l0 l1 (x5_2.set (x6_1 : Int).toNat y148) x6_1 x7_2) = some r := by first | (rw [hy148]; with_reducible exact H) | (have H2_ := (Option.bind_some _ _).symm.trans H; rw [hy148]; with_reducible exact H2_) | (have H2_ := (Option.bind_some _ _).symm.trans H; with_reducible exact H2_) | with_reducible exact H | (rw [hy148]; exact H) | exact H); (have Ny148 := Aside0.mk hy148); (clear hy148); (obtain ⟨y150, hy150⟩ : ∃ y_ : List (List Int), y_ = (x5_2.set (x6_1 : Int).toNat y148) := ⟨_, rfl⟩); (replace H : (coppicerref_shared.j3 kj20 l0 l1 y150 x6_1 x7_2) = some r := by first | (rw [hy150]; with_reducible exact H) | (have H2_ := (Option.bind_some _ _).symm.trans H; rw [hy150]; with_reducible exact H2_) | (have H2_ := (Option.bind_some _ _).symm.trans H; with_reducible exact H2_) | with_reducible exact H | (rw [hy150]; exact H) | exact H); (have Ny150 := Aside0.mk hy150); (clear hy150)
         as_aux_lemma =>
          (have H' := Aside0.mk H); (clear H)
          try go_wp2
          (replace HO_5 := Aside0.mk (Kd.S_drew HO_5.out)); (replace HB := Aside0.mk (below_drew1 HB.out)); (have p145 : 0 ≤ (x6_1 : Int) := of_decide_eq_true (by assumption)); (have q145 : x6_1 < (x5_2.length : Int) := of_decide_eq_true (by assumption)); (obtain ⟨ad145, A145_0, c145_0, e145, hx145_0, hl145_0, hi145_0⟩ := at_L3 (Kd.S_reads' HO_5.out).2.2 x6_1 p145 q145); (obtain rfl : (⟨go14, 0, none⟩ : Addr) = ad145 := (by injection e145)); (obtain ⟨ce145, hce145, hMe145, hcc145⟩ := Kd.S_get HO_5.out [] x6_1 p145 (by first | exact q145 | exact of_decide_eq_true (by assumption) | (have e_ := (Kd.S_reads' HO_5.out).1; omega))); (obtain ⟨ve145_0, rfl, ge145_0⟩ := hMe145); (have hv145_0 := hcc145 0 _ rfl); (rw [Nat.add_zero, show ((Kd.slice 3 (Kd.int .i64))).sz = 1 from rfl, Nat.mul_one] at hv145_0); (replace hv145_0 := Option.some.inj (hv145_0.symm.trans hx145_0)); (rw [hv145_0] at ge145_0); (have HL145_0 := Aside0.mk (show Kd.R (Kd.int .i64) 3 _ _ _ _ (rd_L3 x5_2 x6_1) from ge145_0)); (clear hv145_0 ge145_0); (have HX145_0 := Aside0.mk hx145_0); (clear hcc145 hce145)
          (first | simp only [add_plain] at hx145_0 | simp only [add_at] at hx145_0 | simp only [Addr.add, Nat.zero_add] at hx145_0 | skip)
          (have HR145_0 := Aside0.mk hi145_0); (have HC145_0 := Aside0.mk hl145_0); (clear hi145_0 hl145_0); (replace p145 := eq_true p145); (replace q145 := eq_true q145); (have p146 : 0 ≤ ((ji37) : Int) := of_decide_eq_true (by assumption)); (have q146 : (ji37) < (x5_2.length : Int) := of_decide_eq_true (by assumption)); (obtain ⟨ad146, A146_0, c146_0, e146, hx146_0, hl146_0, hi146_0⟩ := at_L3 (Kd.S_reads' HO_5.out).2.2 (ji37) p146 q146); (obtain rfl : (⟨go14, 0, none⟩ : Addr) = ad146 := (by injection e146)); (obtain ⟨ce146, hce146, hMe146, hcc146⟩ := Kd.S_get HO_5.out [] (ji37) p146 (by first | exact q146 | exact of_decide_eq_true (by assumption) | (have e_ := (Kd.S_reads' HO_5.out).1; omega))); (obtain ⟨ve146_0, rfl, ge146_0⟩ := hMe146); (have hv146_0 := hcc146 0 _ rfl); (rw [Nat.add_zero, show ((Kd.slice 3 (Kd.int .i64))).sz = 1 from rfl, Nat.mul_one] at hv146_0); (replace hv146_0 := Option.some.inj (hv146_0.symm.trans hx146_0)); (rw [hv146_0] at ge146_0); (have HL146_0 := Aside0.mk (show Kd.R (Kd.int .i64) 3 _ _ _ _ (rd_L3 x5_2 (ji37)) from ge146_0)); (clear hv146_0 ge146_0); (have HX146_0 := Aside0.mk hx146_0); (clear hcc146 hce146)
          (first | simp only [add_plain] at hx146_0 | simp only [add_at] at hx146_0 | simp only [Addr.add, Nat.zero_add] at hx146_0 | skip)
          (have HR146_0 := Aside0.mk hi146_0); (have HC146_0 := Aside0.mk hl146_0); (clear hi146_0 hl146_0); (replace p146 := eq_true p146); (replace q146 := eq_true q146); (have p147 : 0 ≤ (x7_2 : Int) := of_decide_eq_true (by assumption)); (have q147 : x7_2 < ((rd_L3 x5_2 (ji37)).length : Int) := of_decide_eq_true (by assumption)); (obtain ⟨ad147, e147, hx147_0⟩ := Kd.at_int (by repeat (first | (with_reducible exact HR146_0.out) | (with_reducible refine Kd.C_alloc ?_ _) | (with_reducible refine Kd.C_drewN ?_ _) | (with_reducible refine Kd.C_drew ?_) | exact HR146_0.out)) x7_2 p147 q147); (cases e147); (replace p147 := eq_true p147); (replace q147 := eq_true q147); (have p43 : 0 ≤ (x7_2 : Int) := of_decide_eq_true (by assumption)); (have q43 : (x7_2 : Int) < (((rd_L3 x5_2 x6_1).length : Int) : Int) := of_decide_eq_true (by assumption)); (obtain ⟨go43, co43, eo43, gb43, gl43, cl43, HG43⟩ := Kd.R_form HL145_0.out (by omega))
          (first | cases eo43 | (injection eo43 with ea_ en_ ec_; (first | subst ea_ | (injection ea_ with ea_; subst ea_)); subst ec_; clear en_))
          (have GB43 := Aside0.mk gb43); (have GG43 := Aside0.mk HG43); (clear gb43 gl43 HG43); (obtain ⟨hx43_0, hf43_0⟩ := Kd.R_celln 0 HL145_0.out (x7_2 : Int) p43 q43); (replace p43 := eq_true p43); (replace q43 := eq_true q43); (have hq45 : (x6_1 : Int) < (x5_2.length : Int) := (by have h_ : (x6_1 : Int) < ((x5_2.length : Int) : Int) := of_decide_eq_true (by assumption); first | exact h_ | (have e_ := (Kd.S_reads' HO_5.out).1; omega) | simpa only [List.length_set, List.length_set] using h_)); (obtain ⟨oki45, ce45, hcl45, hM45, hcc45, hok45, hbk45⟩ := Kd.S_borrow HO_5.out [] (x6_1 : Int) (of_decide_eq_true (by assumption)) hq45); (obtain ⟨ve45_0, rfl, ge45_0⟩ := hM45); (have hv45 := hcc45 0 _ rfl); (rw [Nat.add_zero, show ((Kd.slice 3 (Kd.int .i64))).sz = 1 from rfl, Nat.mul_one] at hv45); (replace hv45 := Option.some.inj (hv45.symm.trans HX145_0.out)); (subst hv45); (clear hcc45 hcl45); (replace ge45_0 := (show Kd.R (Kd.int .i64) 3 _ _ _ _ (rd_L3 x5_2 x6_1) from ge45_0)); ((try (obtain ⟨hy45_, hz45_⟩ := Kd.R_celln 0 ge45_0 (x7_2 : Int) (of_decide_eq_true (by assumption)) (by have h_ : (x7_2 : Int) < (((rd_L3 x5_2 x6_1).length : Int) : Int) := of_decide_eq_true (by assumption); first | exact h_ | (have e_ := (Kd.R_reads' HR145_0.out).1; omega) | simpa using h_)))); (have HP45 := Kd.R_putg ge45_0 (x7_2 : Int) (rd (rd_L3 x5_2 (ji37)) x7_2)); (rw [← Ny148.out] at HP45); (have HS45 := hbk45 HP45.2 (fun k_ e_ => by injection e_ with e_; subst e_; exact ge45_0.1 _ rfl) (x' := y148) (Kd.M_row HP45.1)); (rw [← Ny150.out] at HS45); (have HQ45 := Aside0.mk HS45); (clear HP45 HS45 hbk45 hok45)
          refine start_ (n := 15) (S := fun w' => w'.cell? ⟨go14, (x6_1).toNat, none⟩ = some (.slice (some ⟨go43, 0, none⟩) (rd_L3 x5_2 x6_1).length c145_0) ∧ w'.cell? ⟨go14, ((ji37)).toNat, none⟩ = some (.slice (some ad147) (rd_L3 x5_2 (ji37)).length c146_0) ∧ w'.cell? (ad147.add (x7_2).toNat) = some (.int .i64 (rd (rd_L3 x5_2 (ji37)) x7_2))) (ds := [14]) #[false, false, false, false, false, false, false, false, false, false, false, false, false, false, false] (by kernel_rfl) rfl rfl ⟨hx145_0, hx146_0, hx147_0⟩ (fun hHeld => ?_); refine with_tabW coppicerref_shared.tab10 coppicerref_shared.bits10 (fun HT_ HW_ => ?_)
          generalize wc.drew = w44 at HO_5 HB GG43 HL145_0 HL146_0 HQ45 HR145_0 HR146_0 HX145_0 HX146_0 hf43_0 hx145_0 hx146_0 hx147_0 hx43_0 hHeld ⊢
          refine pure_ (i := 0) (N := some 53) (v := ?_) (a' := ?_) (zt 15 1) rfl rfl (any_of HT_.out (by kernel_rfl)) (fun _ _ _ h => h) (Or.inl ⟨by rfl, ?_⟩) ?_ ?_
          rotate_left
          ·intro w'
           go_simp
           with_reducible rfl
          rotate_left
          ·simp only [Act.put, List.setIfInBounds_toArray, List.set_cons_zero, List.set_cons_succ, i64_w, i32_w]
           rfl
          refine pure_ (i := 1) (N := some 54) (v := ?_) (a' := ?_) (zt 15 3) rfl rfl (any_of HT_.out (by kernel_rfl)) (fun _ _ _ h => h) (Or.inl ⟨by rfl, ?_⟩) ?_ ?_
          rotate_left
          ·intro w'
           go_simp
           with_reducible rfl
          rotate_left
          ·simp only [Act.put, List.setIfInBounds_toArray, List.set_cons_zero, List.set_cons_succ, i64_w, i32_w]
           rfl
          refine pure_ (i := 2) (N := some 55) (v := ?_) (a' := ?_) (zt 15 7) rfl rfl (any_of HT_.out (by kernel_rfl)) (fun _ _ _ h => h) (Or.inl ⟨by rfl, ?_⟩) ?_ ?_
          rotate_left
          ·intro w'
           go_simp
           with_reducible rfl
          rotate_left
          ·simp only [Act.put, List.setIfInBounds_toArray, List.set_cons_zero, List.set_cons_succ, i64_w, i32_w]
           rfl
          refine pure_ (i := 4) (N := some 57) (v := ?_) (a' := ?_) (zt 15 23) rfl rfl (any_of HT_.out (by kernel_rfl)) (fun _ _ _ h => h) (Or.inl ⟨by rfl, ?_⟩) ?_ ?_
          rotate_left
          ·intro w'
           go_simp
           with_reducible rfl
          rotate_left
          ·simp only [Act.put, List.setIfInBounds_toArray, List.set_cons_zero, List.set_cons_succ, i64_w, i32_w]
           rfl
          refine pure_ (i := 5) (N := some 58) (v := ?_) (a' := ?_) (zt 15 55) rfl rfl (any_of HT_.out (by kernel_rfl)) (fun _ _ _ h => h) (Or.inl ⟨by rfl, ?_⟩) ?_ ?_
          rotate_left
          ·intro w'
           go_simp
           with_reducible rfl
          rotate_left
          ·simp only [Act.put, List.setIfInBounds_toArray, List.set_cons_zero, List.set_cons_succ, i64_w, i32_w]
           rfl
          refine pure_ (i := 6) (N := some 59) (v := ?_) (a' := ?_) (zt 15 119) rfl rfl (any_of HT_.out (by kernel_rfl)) (fun _ _ _ h => h) (Or.inl ⟨by rfl, ?_⟩) ?_ ?_
          rotate_left
          ·intro w'
           go_simp
           with_reducible rfl
          rotate_left
          ·simp only [Act.put, List.setIfInBounds_toArray, List.set_cons_zero, List.set_cons_succ, i64_w, i32_w]
           rfl
          refine pure_ (i := 7) (N := some 60) (v := ?_) (a' := ?_) (zt 15 247) rfl rfl (any_of HT_.out (by kernel_rfl)) (fun _ _ _ h => h) (Or.inl ⟨by rfl, ?_⟩) ?_ ?_
          rotate_left
          ·intro w'
           go_simp
           with_reducible rfl
          rotate_left
          ·simp only [Act.put, List.setIfInBounds_toArray, List.set_cons_zero, List.set_cons_succ, i64_w, i32_w]
           rfl
          refine pure_ (i := 8) (N := some 61) (v := ?_) (a' := ?_) (zt 15 503) rfl rfl (any_of HT_.out (by kernel_rfl)) (fun _ _ _ h => h) (Or.inl ⟨by rfl, ?_⟩) ?_ ?_
          rotate_left
          ·intro w'
           go_simp
           with_reducible rfl
          rotate_left
          ·simp only [Act.put, List.setIfInBounds_toArray, List.set_cons_zero, List.set_cons_succ, i64_w, i32_w]
           rfl
          refine pure_ (i := 10) (N := some 63) (v := ?_) (a' := ?_) #[true, true, true, false, true, true, true, true, true, false, true, false, false, false, false] rfl rfl (any_of HT_.out (by kernel_rfl)) (fun _ _ _ h => h) (Or.inl ⟨by rfl, ?_⟩) ?_ ?_
          rotate_left
          ·intro w'
           go_simp
           with_reducible rfl
          rotate_left
          ·simp only [Act.put, List.setIfInBounds_toArray, List.set_cons_zero, List.set_cons_succ, i64_w, i32_w]
           rfl
          refine take_ (i := 3) (N := some 56) (v := ?_) (a' := ?_) #[true, true, true, true, true, true, true, true, true, false, true, false, false, false, false] rfl rfl (take_ofW HT_.out HW_.out (by kernel_rfl)) (fun _ _ _ h => h) (Or.inl ⟨by rfl, ?_⟩) hHeld ?_ ?_
          rotate_left
          ·rintro w' ⟨s0, s1, s2⟩
           go_simp
           with_reducible rfl
          rotate_left
          ·simp only [Act.put, List.setIfInBounds_toArray, List.set_cons_zero, List.set_cons_succ, i64_w, i32_w]
           rfl
          refine take_ (i := 9) (N := some 62) (v := ?_) (a' := ?_) #[true, true, true, true, true, true, true, true, true, true, true, false, false, false, false] rfl rfl (take_ofW HT_.out HW_.out (by kernel_rfl)) (fun _ _ _ h => h) (Or.inl ⟨by rfl, ?_⟩) hHeld ?_ ?_
          rotate_left
          ·rintro w' ⟨s0, s1, s2⟩
           go_simp
           with_reducible rfl
          rotate_left
          ·simp only [Act.put, List.setIfInBounds_toArray, List.set_cons_zero, List.set_cons_succ, i64_w, i32_w]
           rfl
          refine pure_ (i := 11) (N := some 64) (v := ?_) (a' := ?_) #[true, true, true, true, true, true, true, true, true, true, true, true, false, false, false] rfl rfl (any_of HT_.out (by kernel_rfl)) (fun _ _ _ h => h) (Or.inl ⟨by rfl, ?_⟩) ?_ ?_
          rotate_left
          ·intro w'
           go_simp
           with_reducible rfl
          rotate_left
          ·simp only [Act.put, List.setIfInBounds_toArray, List.set_cons_zero, List.set_cons_succ, i64_w, i32_w]
           rfl
          refine take_ (i := 12) (N := some 65) (v := ?_) (a' := ?_) #[true, true, true, true, true, true, true, true, true, true, true, true, true, false, false] rfl rfl (take_ofW HT_.out HW_.out (by kernel_rfl)) (fun _ _ _ h => h) (Or.inl ⟨by rfl, ?_⟩) hHeld ?_ ?_
          rotate_left
          ·rintro w' ⟨s0, s1, s2⟩
           go_simp
           with_reducible rfl
          rotate_left
          ·simp only [Act.put, List.setIfInBounds_toArray, List.set_cons_zero, List.set_cons_succ, i64_w, i32_w]
           rfl
          refine pure_ (i := 13) (N := some 66) (v := ?_) (a' := ?_) #[true, true, true, true, true, true, true, true, true, true, true, true, true, true, false] rfl rfl (any_of HT_.out (by kernel_rfl)) (fun _ _ _ h => h) (Or.inl ⟨by rfl, ?_⟩) ?_ ?_
          rotate_left
          ·intro w'
           go_simp
           with_reducible rfl
          rotate_left
          ·simp only [Act.put, List.setIfInBounds_toArray, List.set_cons_zero, List.set_cons_succ, i64_w, i32_w]
           rfl
          refine last_ (i := 14) (N := none) #[true, true, true, true, true, true, true, true, true, true, true, true, true, true, true] rfl rfl (one_of HT_.out (by kernel_rfl)) (by decide) (fun K hK => ?_)
          refine skip_ (w1 := ?_) (by rfl) rfl ?_ ?_
          rotate_left
          ·go_simp
           rfl
          refine hK.out _ _ ?_
          clear hK K
          refine done_ (done_of HT_.out (by kernel_rfl)) ?_
          try go_wp2
          go_meet
          case rel => exact ⟨_, (y150), H', ⟨by have := HK1.out; have := HK2.out; have := HJ20.out; first | omega | exact Nat.le_refl _⟩, ⟨by (try simp only [hl5_2]); (with_reducible repeat (first | apply Kd.S_alloc | apply Kd.S_drewN | apply Kd.S_drew)); exact HQ45.out⟩, ⟨by repeat (first | (with_reducible first | exact HB.out | apply below_alloc | apply pw_below_drewN | apply below_drew1 | refine below_set ?_ GB43.out) | exact HB.out)⟩⟩
        case rest =>
         (clear HC33); (try clear c1); (try clear p1); (try clear q1); (try clear hx1); (try clear c2); (try clear p2); (try clear c3); (try clear c4); (try clear c4b0); (try clear c4b1); (try clear p4); (try clear q4); (try clear hx4); (try clear hf4); (try clear c5); (try clear c5b0); (try clear c5b1); (try clear p6); (try clear c8); (try clear c8b0); (try clear c10); (try clear c10b0); (try clear c10b1); (try clear c11); (try clear c11b0); (try clear c11b1); (try clear c12); (try clear c12b0); (try clear c13); (try clear c13b0); (try clear c14); (try clear p14); (try clear q14); (try clear hx14); (try clear hf14); (try clear c17); (try clear hx17); (try clear hf17); (try clear c19); (try clear c19b0); (try clear c22); (try clear c22b0); (try clear c24); (try clear c24b0); (try clear c25); (try clear c25b0); (try clear c26); (try clear c26b0); (try clear c27); (try clear c27b0); (try clear c28); (try clear c28b0); (try clear c29); (try clear c29b0); (try clear c30); (try clear c30b0); (try clear c34); (try clear c35); (try clear c35b0); (try clear c36); (try clear c36b0); (try clear c38); (try clear c38b0); (try clear c39); (try clear c39b0); (try clear c40); (try clear c40b0); (try clear c41); (try clear c41b0); (try clear c42); (try clear c42b0); (try clear p43); (try clear q43); (try clear hx43); (try clear hf43); (try clear c45); (try clear q45); (try clear hx141_0); (try clear hx142_0); (try clear hx143_0); (try clear hx144_0); (try clear hx145_0); (try clear hx146_0); (try clear hx147_0); (try clear hx14_0); (try clear hx17_0); (try clear hx43_0); (try clear p1); (try clear p14); (try clear p141); (try clear p142); (try clear p143); (try clear p144); (try clear p145); (try clear p146); (try clear p147); (try clear p2); (try clear p43); (try clear p6); (try clear q1); (try clear q14); (try clear q141); (try clear q142); (try clear q143); (try clear q144); (try clear q145); (try clear q146); (try clear q147)
         (try clear q43); (obtain ⟨kq, x5_32, HA, HJ32, HO_5, HB⟩ := hcut); (have hl5_32 := (Kd.S_reads' HO_5.out).1); (rw [hl5_32] at HO_5); ((try simp only [hl5_32]))
         cases kq with
         | zero => exact absurd HA.out (by simp [coppicerref_shared.j3])
         | succ kj32 =>
          (have H := HA.out); (clear HA); (simp only [coppicerref_shared.j3] at H); (have HC47 := Aside0.mk H); (clear H)
          go_upto_region 11 with (fail)
          go_cut [88] (fun v88 wc => ∃ (kq : Nat) (x88_46 : Bool), v88 = .bool x88_46 ∧ Aside0 (coppicerref_shared.j4 kq l0 l1 x5_32 x6_1 x7_2 x88_46 = some r) ∧ Aside0 (kq ≤ kj32) ∧ Aside0 (Kd.S (Kd.slice 3 (Kd.int .i64)) 33 wc w.heap.size (fun k_ => k_ ≠ (coppicerref_shared.aft_ k_ (.slice (some ⟨go14, 0, none⟩) x5_32.length co14))) (.slice (some ⟨go14, 0, none⟩) x5_32.length co14) x5_32) ∧ Aside0 (Below w.heap.size w wc))
          case first =>
           (have H := HC47.out); (clear HC47)
           by_cases c48 : x7_2 < (l1.length : Int)
           rotate_left
           ·rw [if_neg c48] at H
            (have c48b0 : decide (x7_2 < (l1.length : Int)) = false := decide_eq_false c48); ((try (have c48b0h := c48b0; simp only [hl5_2, hl5_32] at c48b0h))); (clear c48)
            (first | rw [c48b0] | (simp only [i64_w, i32_w]; rw [c48b0]) | skip)
            as_aux_lemma =>
             (have H' := Aside0.mk H); (clear H)
             try go_wp2
             (replace HO_5 := Aside0.mk (Kd.S_drew HO_5.out)); (replace HB := Aside0.mk (below_drew1 HB.out))
             refine start_ (n := 22) (S := fun w' => True) (ds := []) #[false, false, false, false, false, false, false, false, false, false, false, false, false, false, false, false, false, false, false, false, false, false] (by kernel_rfl) rfl rfl trivial (fun hHeld => ?_); refine with_tabW coppicerref_shared.tab11 coppicerref_shared.bits11 (fun HT_ HW_ => ?_)
             generalize wc.drew = w57 at HO_5 HB hHeld ⊢
             refine pure_ (i := 0) (N := some 67) (v := ?_) (a' := ?_) (zt 22 1) rfl rfl (any_of HT_.out (by kernel_rfl)) (fun _ _ _ h => h) (Or.inl ⟨by rfl, ?_⟩) ?_ ?_
             rotate_left
             ·intro w'
              go_simp
              with_reducible rfl
             rotate_left
             ·simp only [Act.put, List.setIfInBounds_toArray, List.set_cons_zero, List.set_cons_succ, i64_w, i32_w]
              rfl
             refine pure_ (i := 1) (N := some 68) (v := ?_) (a' := ?_) (zt 22 3) rfl rfl (any_of HT_.out (by kernel_rfl)) (fun _ _ _ h => h) (Or.inl ⟨by rfl, ?_⟩) ?_ ?_
             rotate_left
             ·intro w'
              go_simp
              with_reducible rfl
             rotate_left
             ·simp only [Act.put, List.setIfInBounds_toArray, List.set_cons_zero, List.set_cons_succ, i64_w, i32_w]
              rfl
             refine pure_ (i := 2) (N := some 69) (v := ?_) (a' := ?_) (zt 22 7) rfl rfl (any_of HT_.out (by kernel_rfl)) (fun _ _ _ h => h) (Or.inl ⟨by rfl, ?_⟩) ?_ ?_
             rotate_left
             ·intro w'
              go_simp
              with_reducible rfl
             rotate_left
             ·simp only [Act.put, List.setIfInBounds_toArray, List.set_cons_zero, List.set_cons_succ, i64_w, i32_w]
              rfl
             refine pure_ (i := 3) (N := some 70) (v := ?_) (a' := ?_) (zt 22 15) rfl rfl (any_of HT_.out (by kernel_rfl)) (fun _ _ _ h => h) (Or.inl ⟨by rfl, ?_⟩) ?_ ?_
             rotate_left
             ·intro w'
              go_simp
              with_reducible rfl
             rotate_left
             ·simp only [Act.put, List.setIfInBounds_toArray, List.set_cons_zero, List.set_cons_succ, i64_w, i32_w]
              rfl
             refine pure_ (i := 4) (N := some 71) (v := ?_) (a' := ?_) (zt 22 31) rfl rfl (any_of HT_.out (by kernel_rfl)) (fun _ _ _ h => h) (Or.inl ⟨by rfl, ?_⟩) ?_ ?_
             rotate_left
             ·intro w'
              go_simp
              with_reducible rfl
             rotate_left
             ·simp only [Act.put, List.setIfInBounds_toArray, List.set_cons_zero, List.set_cons_succ, i64_w, i32_w]
              rfl
             refine pure_ (i := 5) (N := some 72) (v := undef) (a' := ?_) (zt 22 63) rfl rfl (any_of HT_.out (by kernel_rfl)) (fun _ _ _ h => h) (Or.inr ⟨by rfl, rfl⟩) ?_ ?_
             rotate_left
             ·simp only [Act.put, List.setIfInBounds_toArray, List.set_cons_zero, List.set_cons_succ, i64_w, i32_w]
              rfl
             refine pure_ (i := 6) (N := some 73) (v := undef) (a' := ?_) (zt 22 127) rfl rfl (any_of HT_.out (by kernel_rfl)) (fun _ _ _ h => h) (Or.inr ⟨by rfl, rfl⟩) ?_ ?_
             rotate_left
             ·simp only [Act.put, List.setIfInBounds_toArray, List.set_cons_zero, List.set_cons_succ, i64_w, i32_w]
              rfl
             refine pure_ (i := 7) (N := some 74) (v := undef) (a' := ?_) (zt 22 255) rfl rfl (any_of HT_.out (by kernel_rfl)) (fun _ _ _ h => h) (Or.inr ⟨by rfl, rfl⟩) ?_ ?_
             rotate_left
             ·simp only [Act.put, List.setIfInBounds_toArray, List.set_cons_zero, List.set_cons_succ, i64_w, i32_w]
              rfl
             refine pure_ (i := 8) (N := some 75) (v := undef) (a' := ?_) (zt 22 511) rfl rfl (any_of HT_.out (by kernel_rfl)) (fun _ _ _ h => h) (Or.inr ⟨by rfl, rfl⟩) ?_ ?_
             rotate_left
             ·simp only [Act.put, List.setIfInBounds_toArray, List.set_cons_zero, List.set_cons_succ, i64_w, i32_w]
              rfl
             refine pure_ (i := 9) (N := some 76) (v := undef) (a' := ?_) (zt 22 1023) rfl rfl (any_of HT_.out (by kernel_rfl)) (fun _ _ _ h => h) (Or.inr ⟨by rfl, rfl⟩) ?_ ?_
             rotate_left
             ·simp only [Act.put, List.setIfInBounds_toArray, List.set_cons_zero, List.set_cons_succ, i64_w, i32_w]
              rfl
             refine pure_ (i := 10) (N := some 77) (v := undef) (a' := ?_) (zt 22 2047) rfl rfl (any_of HT_.out (by kernel_rfl)) (fun _ _ _ h => h) (Or.inr ⟨by rfl, rfl⟩) ?_ ?_
             rotate_left
             ·simp only [Act.put, List.setIfInBounds_toArray, List.set_cons_zero, List.set_cons_succ, i64_w, i32_w]
              rfl
             refine pure_ (i := 11) (N := some 78) (v := undef) (a' := ?_) (zt 22 4095) rfl rfl (any_of HT_.out (by kernel_rfl)) (fun _ _ _ h => h) (Or.inr ⟨by rfl, rfl⟩) ?_ ?_
             rotate_left
             ·simp only [Act.put, List.setIfInBounds_toArray, List.set_cons_zero, List.set_cons_succ, i64_w, i32_w]
              rfl
             refine pure_ (i := 12) (N := some 79) (v := undef) (a' := ?_) (zt 22 8191) rfl rfl (any_of HT_.out (by kernel_rfl)) (fun _ _ _ h => h) (Or.inr ⟨by rfl, rfl⟩) ?_ ?_
             rotate_left
             ·simp only [Act.put, List.setIfInBounds_toArray, List.set_cons_zero, List.set_cons_succ, i64_w, i32_w]
              rfl
             refine pure_ (i := 13) (N := some 80) (v := undef) (a' := ?_) (zt 22 16383) rfl rfl (any_of HT_.out (by kernel_rfl)) (fun _ _ _ h => h) (Or.inr ⟨by rfl, rfl⟩) ?_ ?_
             rotate_left
             ·simp only [Act.put, List.setIfInBounds_toArray, List.set_cons_zero, List.set_cons_succ, i64_w, i32_w]
              rfl
             refine pure_ (i := 14) (N := some 81) (v := undef) (a' := ?_) (zt 22 32767) rfl rfl (any_of HT_.out (by kernel_rfl)) (fun _ _ _ h => h) (Or.inr ⟨by rfl, rfl⟩) ?_ ?_
             rotate_left
             ·simp only [Act.put, List.setIfInBounds_toArray, List.set_cons_zero, List.set_cons_succ, i64_w, i32_w]
              rfl
             refine pure_ (i := 15) (N := some 82) (v := undef) (a' := ?_) (zt 22 65535) rfl rfl (any_of HT_.out (by kernel_rfl)) (fun _ _ _ h => h) (Or.inr ⟨by rfl, rfl⟩) ?_ ?_
             rotate_left
             ·simp only [Act.put, List.setIfInBounds_toArray, List.set_cons_zero, List.set_cons_succ, i64_w, i32_w]
              rfl
             refine pure_ (i := 16) (N := some 83) (v := undef) (a' := ?_) (zt 22 131071) rfl rfl (any_of HT_.out (by kernel_rfl)) (fun _ _ _ h => h) (Or.inr ⟨by rfl, rfl⟩) ?_ ?_
             rotate_left
             ·simp only [Act.put, List.setIfInBounds_toArray, List.set_cons_zero, List.set_cons_succ, i64_w, i32_w]
              rfl
             refine pure_ (i := 17) (N := some 84) (v := undef) (a' := ?_) (zt 22 262143) rfl rfl (any_of HT_.out (by kernel_rfl)) (fun _ _ _ h => h) (Or.inr ⟨by rfl, rfl⟩) ?_ ?_
             rotate_left
             ·simp only [Act.put, List.setIfInBounds_toArray, List.set_cons_zero, List.set_cons_succ, i64_w, i32_w]
              rfl
             refine pure_ (i := 18) (N := some 85) (v := undef) (a' := ?_) (zt 22 524287) rfl rfl (any_of HT_.out (by kernel_rfl)) (fun _ _ _ h => h) (Or.inr ⟨by rfl, rfl⟩) ?_ ?_
             rotate_left
             ·simp only [Act.put, List.setIfInBounds_toArray, List.set_cons_zero, List.set_cons_succ, i64_w, i32_w]
              rfl
             refine pure_ (i := 19) (N := some 86) (v := undef) (a' := ?_) (zt 22 1048575) rfl rfl (any_of HT_.out (by kernel_rfl)) (fun _ _ _ h => h) (Or.inr ⟨by rfl, rfl⟩) ?_ ?_
             rotate_left
             ·simp only [Act.put, List.setIfInBounds_toArray, List.set_cons_zero, List.set_cons_succ, i64_w, i32_w]
              rfl
             refine pure_ (i := 20) (N := some 87) (v := undef) (a' := ?_) (zt 22 2097151) rfl rfl (any_of HT_.out (by kernel_rfl)) (fun _ _ _ h => h) (Or.inr ⟨by rfl, rfl⟩) ?_ ?_
             rotate_left
             ·simp only [Act.put, List.setIfInBounds_toArray, List.set_cons_zero, List.set_cons_succ, i64_w, i32_w]
              rfl
             refine pure_ (i := 21) (N := some 88) (v := ?_) (a' := ?_) #[true, true, true, true, true, true, true, true, true, true, true, true, true, true, true, true, true, true, true, true, true, true] rfl rfl (any_of HT_.out (by kernel_rfl)) (fun _ _ _ h => h) (Or.inl ⟨by rfl, ?_⟩) ?_ ?_
             rotate_left
             ·intro w'
              go_simp
              with_reducible rfl
             rotate_left
             ·simp only [Act.put, List.setIfInBounds_toArray, List.set_cons_zero, List.set_cons_succ, i64_w, i32_w]
              rfl
             refine done_ (done_of HT_.out (by kernel_rfl)) ?_
             try go_wp2
             go_meet
             case rel => exact ⟨_, (false), (by first | rfl | (simp; done) | (simp [*]; done)), H', ⟨by have := HK1.out; have := HK2.out; have := HJ20.out; have := HJ32.out; first | omega | exact Nat.le_refl _⟩, ⟨by (try simp only [hl5_2]); (try simp only [hl5_32]); (with_reducible repeat (first | apply Kd.S_alloc | apply Kd.S_drewN | apply Kd.S_drew)); exact HO_5.out⟩, ⟨by repeat (first | (with_reducible first | exact HB.out | apply zc1 | apply zc2 | apply zc3) | exact HB.out)⟩⟩
           (rw [if_pos c48] at H); (have c48b0 : decide (x7_2 < (l1.length : Int)) = true := decide_eq_true c48); ((try (have c48b0h := c48b0; simp only [hl5_2, hl5_32] at c48b0h))); (clear c48)
           (first | rw [c48b0] | (simp only [i64_w, i32_w]; rw [c48b0]) | skip)
           by_cases c49 : 0 ≤ x6_1
           rotate_left
           ·rw [if_neg c49] at H
            exact absurd H (by simp)
           (rw [if_pos c49] at H); (have c49b0 : decide (0 ≤ x6_1) = true := decide_eq_true c49); (clear c49)
           by_cases c50 : x6_1 < (x5_32.length : Int)
           rotate_left
           ·rw [if_neg c50] at H
            exact absurd H (by simp)
           (rw [if_pos c50] at H); (have c50b0 : decide (x6_1 < (x5_32.length : Int)) = true := decide_eq_true c50); ((try (have c50b0h := c50b0; simp only [hl5_2, hl5_32] at c50b0h))); (clear c50); (obtain ⟨ji51, hji51⟩ : ∃ j_ : Int, (wrap64 (x7_2 + 1)) = j_ := ⟨_, rfl⟩); (replace H : (if 0 ≤ (ji51) then (if (ji51) < ((rd_L3 x5_32 x6_1).length : Int) then (if 0 ≤ x7_2 then (if x7_2 < ((rd_L3 x5_32 x6_1).length : Int) then (coppicerref_shared.j4 kj32 l0 l1 x5_32 x6_1 x7_2 (decide ((rd (rd_L3 x5_32 x6_1) (ji51)) > (rd (rd_L3 x5_32 x6_1) x7_2)))) else (none)) else (none)) else (none)) else (none)) = some r := by first | (rw [hji51] at H; exact H) | (simp only [hji51] at H ⊢; exact H)); (have hji51w : (IntKind.i64.wrap (x7_2 + 1)) = ji51 := (i64_w _).trans hji51)
           by_cases c52 : 0 ≤ (ji51)
           rotate_left
           ·rw [if_neg c52] at H
            exact absurd H (by simp)
           (rw [if_pos c52] at H); (have c52b0 : decide (0 ≤ (ji51)) = true := decide_eq_true c52); (clear c52)
           by_cases c53 : (ji51) < ((rd_L3 x5_32 x6_1).length : Int)
           rotate_left
           ·rw [if_neg c53] at H
            exact absurd H (by simp)
           (rw [if_pos c53] at H); (have c53b0 : decide ((ji51) < ((rd_L3 x5_32 x6_1).length : Int)) = true := decide_eq_true c53); ((try (have c53b0h := c53b0; simp only [hl5_2, hl5_32] at c53b0h))); (clear c53)
           by_cases c54 : 0 ≤ x7_2
           rotate_left
           ·rw [if_neg c54] at H
            exact absurd H (by simp)
           (rw [if_pos c54] at H); (have c54b0 : decide (0 ≤ x7_2) = true := decide_eq_true c54); (clear c54)
           by_cases c55 : x7_2 < ((rd_L3 x5_32 x6_1).length : Int)
           rotate_left
           ·rw [if_neg c55] at H
            exact absurd H (by simp)
           (rw [if_pos c55] at H); (have c55b0 : decide (x7_2 < ((rd_L3 x5_32 x6_1).length : Int)) = true := decide_eq_true c55); ((try (have c55b0h := c55b0; simp only [hl5_2, hl5_32] at c55b0h))); (clear c55)
           as_aux_lemma =>
            (have H' := Aside0.mk H); (clear H)
            try go_wp2
            (replace HO_5 := Aside0.mk (Kd.S_drew HO_5.out)); (replace HB := Aside0.mk (below_drew1 HB.out)); (have p151 : 0 ≤ (x6_1 : Int) := of_decide_eq_true (by assumption)); (have q151 : x6_1 < (x5_32.length : Int) := of_decide_eq_true (by assumption)); (obtain ⟨ad151, A151_0, c151_0, e151, hx151_0, hl151_0, hi151_0⟩ := at_L3 (Kd.S_reads' HO_5.out).2.2 x6_1 p151 q151); (obtain rfl : (⟨go14, 0, none⟩ : Addr) = ad151 := (by injection e151)); (obtain ⟨ce151, hce151, hMe151, hcc151⟩ := Kd.S_get HO_5.out [] x6_1 p151 (by first | exact q151 | exact of_decide_eq_true (by assumption) | (have e_ := (Kd.S_reads' HO_5.out).1; omega))); (obtain ⟨ve151_0, rfl, ge151_0⟩ := hMe151); (have hv151_0 := hcc151 0 _ rfl); (rw [Nat.add_zero, show ((Kd.slice 3 (Kd.int .i64))).sz = 1 from rfl, Nat.mul_one] at hv151_0); (replace hv151_0 := Option.some.inj (hv151_0.symm.trans hx151_0)); (rw [hv151_0] at ge151_0); (have HL151_0 := Aside0.mk (show Kd.R (Kd.int .i64) 3 _ _ _ _ (rd_L3 x5_32 x6_1) from ge151_0)); (clear hv151_0 ge151_0); (have HX151_0 := Aside0.mk hx151_0); (clear hcc151 hce151)
            (first | simp only [add_plain] at hx151_0 | simp only [add_at] at hx151_0 | simp only [Addr.add, Nat.zero_add] at hx151_0 | skip)
            (have HR151_0 := Aside0.mk hi151_0); (have HC151_0 := Aside0.mk hl151_0); (clear hi151_0 hl151_0); (replace p151 := eq_true p151); (replace q151 := eq_true q151); (have p152 : 0 ≤ ((ji51) : Int) := of_decide_eq_true (by assumption)); (have q152 : (ji51) < ((rd_L3 x5_32 x6_1).length : Int) := of_decide_eq_true (by assumption)); (obtain ⟨ad152, e152, hx152_0⟩ := Kd.at_int (by repeat (first | (with_reducible exact HR151_0.out) | (with_reducible refine Kd.C_alloc ?_ _) | (with_reducible refine Kd.C_drewN ?_ _) | (with_reducible refine Kd.C_drew ?_) | exact HR151_0.out)) (ji51) p152 q152); (cases e152); (replace p152 := eq_true p152); (replace q152 := eq_true q152); (have p153 : 0 ≤ (x6_1 : Int) := of_decide_eq_true (by assumption)); (have q153 : x6_1 < (x5_32.length : Int) := of_decide_eq_true (by assumption)); (obtain ⟨ad153, A153_0, c153_0, e153, hx153_0, hl153_0, hi153_0⟩ := at_L3 (Kd.S_reads' HO_5.out).2.2 x6_1 p153 q153); (obtain rfl : (⟨go14, 0, none⟩ : Addr) = ad153 := (by injection e153)); (obtain ⟨ce153, hce153, hMe153, hcc153⟩ := Kd.S_get HO_5.out [] x6_1 p153 (by first | exact q153 | exact of_decide_eq_true (by assumption) | (have e_ := (Kd.S_reads' HO_5.out).1; omega))); (obtain ⟨ve153_0, rfl, ge153_0⟩ := hMe153); (have hv153_0 := hcc153 0 _ rfl); (rw [Nat.add_zero, show ((Kd.slice 3 (Kd.int .i64))).sz = 1 from rfl, Nat.mul_one] at hv153_0); (replace hv153_0 := Option.some.inj (hv153_0.symm.trans hx153_0)); (rw [hv153_0] at ge153_0); (have HL153_0 := Aside0.mk (show Kd.R (Kd.int .i64) 3 _ _ _ _ (rd_L3 x5_32 x6_1) from ge153_0)); (clear hv153_0 ge153_0); (have HX153_0 := Aside0.mk hx153_0)
            clear hcc153 hce153
            (first | simp only [add_plain] at hx153_0 | simp only [add_at] at hx153_0 | simp only [Addr.add, Nat.zero_add] at hx153_0 | skip)
            (have HR153_0 := Aside0.mk hi153_0); (have HC153_0 := Aside0.mk hl153_0); (clear hi153_0 hl153_0); (replace p153 := eq_true p153); (replace q153 := eq_true q153); (have ea_ := Option.some.inj (hx151_0.symm.trans hx153_0)); (injection ea_ with ea_ en_ ec_); (subst ea_); (subst ec_); (clear en_); (have p154 : 0 ≤ (x7_2 : Int) := of_decide_eq_true (by assumption)); (have q154 : x7_2 < ((rd_L3 x5_32 x6_1).length : Int) := of_decide_eq_true (by assumption)); (obtain ⟨ad154, e154, hx154_0⟩ := Kd.at_int (by repeat (first | (with_reducible exact HR153_0.out) | (with_reducible refine Kd.C_alloc ?_ _) | (with_reducible refine Kd.C_drewN ?_ _) | (with_reducible refine Kd.C_drew ?_) | exact HR153_0.out)) x7_2 p154 q154); (obtain rfl : ad152 = ad154 := (by injection e154)); (replace p154 := eq_true p154); (replace q154 := eq_true q154)
            refine start_ (n := 22) (S := fun w' => w'.cell? ⟨go14, (x6_1).toNat, none⟩ = some (.slice (some ad152) (rd_L3 x5_32 x6_1).length c151_0) ∧ w'.cell? (ad152.add ((ji51)).toNat) = some (.int .i64 (rd (rd_L3 x5_32 x6_1) (ji51))) ∧ w'.cell? ⟨go14, (x6_1).toNat, none⟩ = some (.slice (some ad152) (rd_L3 x5_32 x6_1).length c151_0) ∧ w'.cell? (ad152.add (x7_2).toNat) = some (.int .i64 (rd (rd_L3 x5_32 x6_1) x7_2))) (ds := []) #[false, false, false, false, false, false, false, false, false, false, false, false, false, false, false, false, false, false, false, false, false, false] (by kernel_rfl) rfl rfl ⟨hx151_0, hx152_0, hx153_0, hx154_0⟩ (fun hHeld => ?_); refine with_tabW coppicerref_shared.tab11 coppicerref_shared.bits11 (fun HT_ HW_ => ?_)
            generalize wc.drew = w56 at HO_5 HB HL151_0 HL153_0 HR151_0 HR153_0 HX151_0 HX153_0 hx151_0 hx152_0 hx153_0 hx154_0 hHeld ⊢
            refine pure_ (i := 0) (N := some 67) (v := ?_) (a' := ?_) (zt 22 1) rfl rfl (any_of HT_.out (by kernel_rfl)) (fun _ _ _ h => h) (Or.inl ⟨by rfl, ?_⟩) ?_ ?_
            rotate_left
            ·intro w'
             go_simp
             with_reducible rfl
            rotate_left
            ·simp only [Act.put, List.setIfInBounds_toArray, List.set_cons_zero, List.set_cons_succ, i64_w, i32_w]
             rfl
            refine pure_ (i := 1) (N := some 68) (v := ?_) (a' := ?_) (zt 22 3) rfl rfl (any_of HT_.out (by kernel_rfl)) (fun _ _ _ h => h) (Or.inl ⟨by rfl, ?_⟩) ?_ ?_
            rotate_left
            ·intro w'
             go_simp
             with_reducible rfl
            rotate_left
            ·simp only [Act.put, List.setIfInBounds_toArray, List.set_cons_zero, List.set_cons_succ, i64_w, i32_w]
             rfl
            refine pure_ (i := 2) (N := some 69) (v := ?_) (a' := ?_) (zt 22 7) rfl rfl (any_of HT_.out (by kernel_rfl)) (fun _ _ _ h => h) (Or.inl ⟨by rfl, ?_⟩) ?_ ?_
            rotate_left
            ·intro w'
             go_simp
             with_reducible rfl
            rotate_left
            ·simp only [Act.put, List.setIfInBounds_toArray, List.set_cons_zero, List.set_cons_succ, i64_w, i32_w]
             rfl
            refine pure_ (i := 3) (N := some 70) (v := ?_) (a' := ?_) (zt 22 15) rfl rfl (any_of HT_.out (by kernel_rfl)) (fun _ _ _ h => h) (Or.inl ⟨by rfl, ?_⟩) ?_ ?_
            rotate_left
            ·intro w'
             go_simp
             with_reducible rfl
            rotate_left
            ·simp only [Act.put, List.setIfInBounds_toArray, List.set_cons_zero, List.set_cons_succ, i64_w, i32_w]
             rfl
            refine pure_ (i := 4) (N := some 71) (v := ?_) (a' := ?_) (zt 22 31) rfl rfl (any_of HT_.out (by kernel_rfl)) (fun _ _ _ h => h) (Or.inl ⟨by rfl, ?_⟩) ?_ ?_
            rotate_left
            ·intro w'
             go_simp
             with_reducible rfl
            rotate_left
            ·simp only [Act.put, List.setIfInBounds_toArray, List.set_cons_zero, List.set_cons_succ, i64_w, i32_w]
             rfl
            refine pure_ (i := 5) (N := some 72) (v := ?_) (a' := ?_) (zt 22 63) rfl rfl (any_of HT_.out (by kernel_rfl)) (fun _ _ _ h => h) (Or.inl ⟨by rfl, ?_⟩) ?_ ?_
            rotate_left
            ·intro w'
             go_simp
             with_reducible rfl
            rotate_left
            ·simp only [Act.put, List.setIfInBounds_toArray, List.set_cons_zero, List.set_cons_succ, i64_w, i32_w]
             rfl
            refine pure_ (i := 6) (N := some 73) (v := ?_) (a' := ?_) (zt 22 127) rfl rfl (any_of HT_.out (by kernel_rfl)) (fun _ _ _ h => h) (Or.inl ⟨by rfl, ?_⟩) ?_ ?_
            rotate_left
            ·intro w'
             go_simp
             with_reducible rfl
            rotate_left
            ·simp only [Act.put, List.setIfInBounds_toArray, List.set_cons_zero, List.set_cons_succ, i64_w, i32_w]
             rfl
            refine pure_ (i := 7) (N := some 74) (v := ?_) (a' := ?_) (zt 22 255) rfl rfl (any_of HT_.out (by kernel_rfl)) (fun _ _ _ h => h) (Or.inl ⟨by rfl, ?_⟩) ?_ ?_
            rotate_left
            ·intro w'
             go_simp
             with_reducible rfl
            rotate_left
            ·simp only [Act.put, List.setIfInBounds_toArray, List.set_cons_zero, List.set_cons_succ, i64_w, i32_w]
             rfl
            refine pure_ (i := 9) (N := some 76) (v := ?_) (a' := ?_) (zt 22 767) rfl rfl (any_of HT_.out (by kernel_rfl)) (fun _ _ _ h => h) (Or.inl ⟨by rfl, ?_⟩) ?_ ?_
            rotate_left
            ·intro w'
             go_simp
             with_reducible rfl
            rotate_left
            ·simp only [Act.put, List.setIfInBounds_toArray, List.set_cons_zero, List.set_cons_succ, i64_w, i32_w]
             rfl
            refine pure_ (i := 10) (N := some 77) (v := ?_) (a' := ?_) (zt 22 1791) rfl rfl (any_of HT_.out (by kernel_rfl)) (fun _ _ _ h => h) (Or.inl ⟨by rfl, ?_⟩) ?_ ?_
            rotate_left
            ·intro w'
             go_simp
             with_reducible rfl
            rotate_left
            ·simp only [Act.put, List.setIfInBounds_toArray, List.set_cons_zero, List.set_cons_succ, i64_w, i32_w]
             rfl
            refine pure_ (i := 13) (N := some 80) (v := ?_) (a' := ?_) (zt 22 9983) rfl rfl (any_of HT_.out (by kernel_rfl)) (fun _ _ _ h => h) (Or.inl ⟨by rfl, ?_⟩) ?_ ?_
            rotate_left
            ·intro w'
             go_simp
             with_reducible rfl
            rotate_left
            ·simp only [Act.put, List.setIfInBounds_toArray, List.set_cons_zero, List.set_cons_succ, i64_w, i32_w]
             rfl
            refine pure_ (i := 14) (N := some 81) (v := ?_) (a' := ?_) (zt 22 26367) rfl rfl (any_of HT_.out (by kernel_rfl)) (fun _ _ _ h => h) (Or.inl ⟨by rfl, ?_⟩) ?_ ?_
            rotate_left
            ·intro w'
             go_simp
             with_reducible rfl
            rotate_left
            ·simp only [Act.put, List.setIfInBounds_toArray, List.set_cons_zero, List.set_cons_succ, i64_w, i32_w]
             rfl
            refine pure_ (i := 15) (N := some 82) (v := ?_) (a' := ?_) (zt 22 59135) rfl rfl (any_of HT_.out (by kernel_rfl)) (fun _ _ _ h => h) (Or.inl ⟨by rfl, ?_⟩) ?_ ?_
            rotate_left
            ·intro w'
             go_simp
             with_reducible rfl
            rotate_left
            ·simp only [Act.put, List.setIfInBounds_toArray, List.set_cons_zero, List.set_cons_succ, i64_w, i32_w]
             rfl
            refine pure_ (i := 17) (N := some 84) (v := ?_) (a' := ?_) #[true, true, true, true, true, true, true, true, false, true, true, false, false, true, true, true, false, true, false, false, false, false] rfl rfl (any_of HT_.out (by kernel_rfl)) (fun _ _ _ h => h) (Or.inl ⟨by rfl, ?_⟩) ?_ ?_
            rotate_left
            ·intro w'
             go_simp
             with_reducible rfl
            rotate_left
            ·simp only [Act.put, List.setIfInBounds_toArray, List.set_cons_zero, List.set_cons_succ, i64_w, i32_w]
             rfl
            refine take_ (i := 8) (N := some 75) (v := ?_) (a' := ?_) #[true, true, true, true, true, true, true, true, true, true, true, false, false, true, true, true, false, true, false, false, false, false] rfl rfl (take_ofW HT_.out HW_.out (by kernel_rfl)) (fun _ _ _ h => h) (Or.inl ⟨by rfl, ?_⟩) hHeld ?_ ?_
            rotate_left
            ·rintro w' ⟨s0, s1, s2, s3⟩
             go_simp
             with_reducible rfl
            rotate_left
            ·simp only [Act.put, List.setIfInBounds_toArray, List.set_cons_zero, List.set_cons_succ, i64_w, i32_w]
             rfl
            refine pure_ (i := 11) (N := some 78) (v := ?_) (a' := ?_) #[true, true, true, true, true, true, true, true, true, true, true, true, false, true, true, true, false, true, false, false, false, false] rfl rfl (any_of HT_.out (by kernel_rfl)) (fun _ _ _ h => h) (Or.inl ⟨by rfl, ?_⟩) ?_ ?_
            rotate_left
            ·intro w'
             go_simp
             with_reducible rfl
            rotate_left
            ·simp only [Act.put, List.setIfInBounds_toArray, List.set_cons_zero, List.set_cons_succ, i64_w, i32_w]
             rfl
            refine take_ (i := 12) (N := some 79) (v := ?_) (a' := ?_) #[true, true, true, true, true, true, true, true, true, true, true, true, true, true, true, true, false, true, false, false, false, false] rfl rfl (take_ofW HT_.out HW_.out (by kernel_rfl)) (fun _ _ _ h => h) (Or.inl ⟨by rfl, ?_⟩) hHeld ?_ ?_
            rotate_left
            ·rintro w' ⟨s0, s1, s2, s3⟩
             go_simp
             with_reducible rfl
            rotate_left
            ·simp only [Act.put, List.setIfInBounds_toArray, List.set_cons_zero, List.set_cons_succ, i64_w, i32_w]
             rfl
            refine take_ (i := 16) (N := some 83) (v := ?_) (a' := ?_) #[true, true, true, true, true, true, true, true, true, true, true, true, true, true, true, true, true, true, false, false, false, false] rfl rfl (take_ofW HT_.out HW_.out (by kernel_rfl)) (fun _ _ _ h => h) (Or.inl ⟨by rfl, ?_⟩) hHeld ?_ ?_
            rotate_left
            ·rintro w' ⟨s0, s1, s2, s3⟩
             go_simp
             with_reducible rfl
            rotate_left
            ·simp only [Act.put, List.setIfInBounds_toArray, List.set_cons_zero, List.set_cons_succ, i64_w, i32_w]
             rfl
            refine pure_ (i := 18) (N := some 85) (v := ?_) (a' := ?_) #[true, true, true, true, true, true, true, true, true, true, true, true, true, true, true, true, true, true, true, false, false, false] rfl rfl (any_of HT_.out (by kernel_rfl)) (fun _ _ _ h => h) (Or.inl ⟨by rfl, ?_⟩) ?_ ?_
            rotate_left
            ·intro w'
             go_simp
             with_reducible rfl
            rotate_left
            ·simp only [Act.put, List.setIfInBounds_toArray, List.set_cons_zero, List.set_cons_succ, i64_w, i32_w]
             rfl
            refine take_ (i := 19) (N := some 86) (v := ?_) (a' := ?_) #[true, true, true, true, true, true, true, true, true, true, true, true, true, true, true, true, true, true, true, true, false, false] rfl rfl (take_ofW HT_.out HW_.out (by kernel_rfl)) (fun _ _ _ h => h) (Or.inl ⟨by rfl, ?_⟩) hHeld ?_ ?_
            rotate_left
            ·rintro w' ⟨s0, s1, s2, s3⟩
             go_simp
             with_reducible rfl
            rotate_left
            ·simp only [Act.put, List.setIfInBounds_toArray, List.set_cons_zero, List.set_cons_succ, i64_w, i32_w]
             rfl
            refine pure_ (i := 20) (N := some 87) (v := ?_) (a' := ?_) (zt 22 2097151) rfl rfl (any_of HT_.out (by kernel_rfl)) (fun _ _ _ h => h) (Or.inl ⟨by rfl, ?_⟩) ?_ ?_
            rotate_left
            ·intro w'
             go_simp
             with_reducible rfl
            rotate_left
            ·simp only [Act.put, List.setIfInBounds_toArray, List.set_cons_zero, List.set_cons_succ, i64_w, i32_w]
             rfl
            refine pure_ (i := 21) (N := some 88) (v := ?_) (a' := ?_) #[true, true, true, true, true, true, true, true, true, true, true, true, true, true, true, true, true, true, true, true, true, true] rfl rfl (any_of HT_.out (by kernel_rfl)) (fun _ _ _ h => h) (Or.inl ⟨by rfl, ?_⟩) ?_ ?_
            rotate_left
            ·intro w'
             go_simp
             with_reducible rfl
            rotate_left
            ·simp only [Act.put, List.setIfInBounds_toArray, List.set_cons_zero, List.set_cons_succ, i64_w, i32_w]
             rfl
            refine done_ (done_of HT_.out (by kernel_rfl)) ?_
            try go_wp2
            go_meet
            case rel => exact ⟨_, (decide ((rd (rd_L3 x5_32 x6_1) (ji51)) > (rd (rd_L3 x5_32 x6_1) x7_2))), (by first | rfl | (simp; done) | (simp only [← hji51] <;> (first | rfl | simp)) | (simp [*]; done)), H', ⟨by have := HK1.out; have := HK2.out; have := HJ20.out; have := HJ32.out; first | omega | exact Nat.le_refl _⟩, ⟨by (try simp only [hl5_2]); (try simp only [hl5_32]); (with_reducible repeat (first | apply Kd.S_alloc | apply Kd.S_drewN | apply Kd.S_drew)); exact HO_5.out⟩, ⟨by repeat (first | (with_reducible first | exact HB.out | apply zc1 | apply zc2 | apply zc3) | exact HB.out)⟩⟩
          case rest =>
           (clear HC47); (try clear c1); (try clear p1); (try clear q1); (try clear hx1); (try clear c2); (try clear p2); (try clear c3); (try clear c4); (try clear c4b0); (try clear c4b1); (try clear p4); (try clear q4); (try clear hx4); (try clear hf4); (try clear c5); (try clear c5b0); (try clear c5b1); (try clear p6); (try clear c8); (try clear c8b0); (try clear c10); (try clear c10b0); (try clear c10b1); (try clear c11); (try clear c11b0); (try clear c11b1); (try clear c12); (try clear c12b0); (try clear c13); (try clear c13b0); (try clear c14); (try clear p14); (try clear q14); (try clear hx14); (try clear hf14); (try clear c15); (try clear p15); (try clear q15); (try clear hx15); (try clear c17); (try clear hx17); (try clear hf17); (try clear c19); (try clear c19b0); (try clear c22); (try clear c22b0); (try clear c24); (try clear c24b0); (try clear c25); (try clear c25b0); (try clear c26); (try clear c26b0); (try clear c27); (try clear c27b0); (try clear c28); (try clear c28b0); (try clear c29); (try clear c29b0); (try clear c30); (try clear c30b0); (try clear c34); (try clear c35); (try clear c35b0); (try clear c36); (try clear c36b0); (try clear c38); (try clear c38b0); (try clear c39); (try clear c39b0); (try clear c40); (try clear c40b0); (try clear c41); (try clear c41b0); (try clear c42); (try clear c42b0); (try clear p43); (try clear q43); (try clear hx43); (try clear hf43); (try clear c45); (try clear q45); (try clear c48); (try clear c48b0); (try clear c49); (try clear c49b0); (try clear c50); (try clear c50b0); (try clear c52); (try clear c52b0); (try clear c53); (try clear c53b0); (try clear c54); (try clear c54b0); (try clear c55); (try clear c55b0); (try clear hx141_0); (try clear hx142_0); (try clear hx143_0); (try clear hx144_0); (try clear hx145_0); (try clear hx146_0); (try clear hx147_0); (try clear hx14_0); (try clear hx151_0); (try clear hx152_0); (try clear hx153_0); (try clear hx154_0)
           (try clear hx17_0); (try clear hx43_0); (try clear p1); (try clear p14); (try clear p141); (try clear p142); (try clear p143); (try clear p144); (try clear p145); (try clear p146); (try clear p147); (try clear p151); (try clear p152); (try clear p153); (try clear p154); (try clear p2); (try clear p4); (try clear p43); (try clear p6); (try clear q1); (try clear q14); (try clear q141); (try clear q142); (try clear q143); (try clear q144); (try clear q145); (try clear q146); (try clear q147); (try clear q151); (try clear q152); (try clear q153); (try clear q154); (try clear q4); (try clear q43); (try clear q45); (obtain ⟨kq, x88_46, rfl, HA, HJ46, HO_5, HB⟩ := hcut)
           cases kq with
           | zero => exact absurd HA.out (by simp [coppicerref_shared.j4])
           | succ kj46 =>
            (have H := HA.out); (clear HA); (simp only [coppicerref_shared.j4] at H); (have HC58 := Aside0.mk H); (clear H)
            go_upto_if 88 with (fail)
            go_cut [] (fun wc => ∃ (kq : Nat) (x5_57 : List (List Int)), Aside0 (coppicerref_shared.j5 kq l0 l1 x5_57 x6_1 x7_2 = some r) ∧ Aside0 (kq ≤ kj46) ∧ Aside0 (Kd.S (Kd.slice 3 (Kd.int .i64)) 33 wc w.heap.size (fun k_ => k_ ≠ (coppicerref_shared.aft_ k_ (.slice (some ⟨go14, 0, none⟩) x5_32.length co14))) (.slice (some ⟨go14, 0, none⟩) x5_32.length co14) x5_57) ∧ Aside0 (Below w.heap.size w wc))
            case first =>
             (have H := HC58.out); (clear HC58)
             by_cases c59 : x88_46 = true
             rotate_left
             ·replace c59 := Bool.eq_false_iff.mpr c59
              (subst c59); (have H1 : (coppicerref_shared.j5 kj46 l0 l1 x5_32 x6_1 x7_2) = some r := by rw [if_neg (show ¬ (false = true) by decide)] at H; exact H); (clear H); (have H := H1); (clear H1)
              as_aux_lemma =>
               (have H' := Aside0.mk H); (clear H)
               go_wp2
               go_meet
               case rel => exact ⟨_, (x5_32), H', ⟨by have := HK1.out; have := HK2.out; have := HJ20.out; have := HJ32.out; have := HJ46.out; first | omega | exact Nat.le_refl _⟩, ⟨by (try simp only [hl5_2]); (try simp only [hl5_32]); (with_reducible repeat (first | apply Kd.S_alloc | apply Kd.S_drewN | apply Kd.S_drew)); exact HO_5.out⟩, ⟨by repeat (first | (with_reducible first | exact HB.out | apply zc1 | apply zc2 | apply zc3) | exact HB.out)⟩⟩
             (subst c59); (have H1 : (if 0 ≤ x6_1 then (if x6_1 < (x5_32.length : Int) then (if 0 ≤ (wrap64 (x7_2 + 1)) then (if (wrap64 (x7_2 + 1)) < ((rd_L3 x5_32 x6_1).length : Int) then (if 0 ≤ x7_2 then (if x7_2 < ((rd_L3 x5_32 x6_1).length : Int) then (coppicerref_shared.j5 kj46 l0 l1 (x5_32.set (x6_1 : Int).toNat ((rd_L3 x5_32 x6_1).set (x7_2 : Int).toNat (rd (rd_L3 x5_32 x6_1) (wrap64 (x7_2 + 1))))) x6_1 x7_2) else (none)) else (none)) else (none)) else (none)) else (none)) else (none)) = some r := by rw [if_pos rfl] at H; exact H); (clear H); (have H := H1); (clear H1)
             by_cases c60 : 0 ≤ x6_1
             rotate_left
             ·rw [if_neg c60] at H
              exact absurd H (by simp)
             (rw [if_pos c60] at H); (have c60b0 : decide (0 ≤ x6_1) = true := decide_eq_true c60); (clear c60)
             (first | rw [c60b0] | (simp only [i64_w, i32_w]; rw [c60b0]) | skip)
             by_cases c61 : x6_1 < (x5_32.length : Int)
             rotate_left
             ·rw [if_neg c61] at H
              exact absurd H (by simp)
             (rw [if_pos c61] at H); (have c61b0 : decide (x6_1 < (x5_32.length : Int)) = true := decide_eq_true c61); ((try (have c61b0h := c61b0; simp only [hl5_2, hl5_32] at c61b0h))); (clear c61); (obtain ⟨ji62, hji62⟩ : ∃ j_ : Int, (wrap64 (x7_2 + 1)) = j_ := ⟨_, rfl⟩); (replace H : (if 0 ≤ (ji62) then (if (ji62) < ((rd_L3 x5_32 x6_1).length : Int) then (if 0 ≤ x7_2 then (if x7_2 < ((rd_L3 x5_32 x6_1).length : Int) then (coppicerref_shared.j5 kj46 l0 l1 (x5_32.set (x6_1 : Int).toNat ((rd_L3 x5_32 x6_1).set (x7_2 : Int).toNat (rd (rd_L3 x5_32 x6_1) (ji62)))) x6_1 x7_2) else (none)) else (none)) else (none)) else (none)) = some r := by first | (rw [hji62] at H; exact H) | (simp only [hji62] at H ⊢; exact H)); (have hji62w : (IntKind.i64.wrap (x7_2 + 1)) = ji62 := (i64_w _).trans hji62)
             by_cases c63 : 0 ≤ (ji62)
             rotate_left
             ·rw [if_neg c63] at H
              exact absurd H (by simp)
             (rw [if_pos c63] at H); (have c63b0 : decide (0 ≤ (ji62)) = true := decide_eq_true c63); (clear c63)
             by_cases c64 : (ji62) < ((rd_L3 x5_32 x6_1).length : Int)
             rotate_left
             ·rw [if_neg c64] at H
              exact absurd H (by simp)
             (rw [if_pos c64] at H); (have c64b0 : decide ((ji62) < ((rd_L3 x5_32 x6_1).length : Int)) = true := decide_eq_true c64); ((try (have c64b0h := c64b0; simp only [hl5_2, hl5_32] at c64b0h))); (clear c64)
             by_cases c65 : 0 ≤ x7_2
             rotate_left
             ·rw [if_neg c65] at H
              exact absurd H (by simp)
             (rw [if_pos c65] at H); (have c65b0 : decide (0 ≤ x7_2) = true := decide_eq_true c65); (clear c65)
             by_cases c66 : x7_2 < ((rd_L3 x5_32 x6_1).length : Int)
             rotate_left
             ·rw [if_neg c66] at H
              exact absurd H (by simp)
             (rw [if_pos c66] at H); (have c66b0 : decide (x7_2 < ((rd_L3 x5_32 x6_1).length : Int)) = true := decide_eq_true c66); ((try (have c66b0h := c66b0; simp only [hl5_2, hl5_32] at c66b0h))); (clear c66); (obtain ⟨y158, hy158⟩ : ∃ y_ : List Int, y_ = ((rd_L3 x5_32 x6_1).set (x7_2 : Int).toNat (rd (rd_L3 x5_32 x6_1) (ji62))) := ⟨_, rfl⟩); (replace H : (coppicerref_shared.j5 kj46 l0 l1 (x5_32.set (x6_1 : Int).toNat y158) x6_1 x7_2) = some r := by first | (rw [hy158]; with_reducible exact H) | (have H2_ := (Option.bind_some _ _).symm.trans H; rw [hy158]; with_reducible exact H2_) | (have H2_ := (Option.bind_some _ _).symm.trans H; with_reducible exact H2_) | with_reducible exact H | (rw [hy158]; exact H) | exact H); (have Ny158 := Aside0.mk hy158); (clear hy158); (obtain ⟨y160, hy160⟩ : ∃ y_ : List (List Int), y_ = (x5_32.set (x6_1 : Int).toNat y158) := ⟨_, rfl⟩); (replace H : (coppicerref_shared.j5 kj46 l0 l1 y160 x6_1 x7_2) = some r := by first | (rw [hy160]; with_reducible exact H) | (have H2_ := (Option.bind_some _ _).symm.trans H; rw [hy160]; with_reducible exact H2_) | (have H2_ := (Option.bind_some _ _).symm.trans H; with_reducible exact H2_) | with_reducible exact H | (rw [hy160]; exact H) | exact H); (have Ny160 := Aside0.mk hy160); (clear hy160)
             as_aux_lemma =>
              (have H' := Aside0.mk H); (clear H)
              try go_wp2
              (replace HO_5 := Aside0.mk (Kd.S_drew HO_5.out)); (replace HB := Aside0.mk (below_drew1 HB.out)); (have p155 : 0 ≤ (x6_1 : Int) := of_decide_eq_true (by assumption)); (have q155 : x6_1 < (x5_32.length : Int) := of_decide_eq_true (by assumption)); (obtain ⟨ad155, A155_0, c155_0, e155, hx155_0, hl155_0, hi155_0⟩ := at_L3 (Kd.S_reads' HO_5.out).2.2 x6_1 p155 q155); (obtain rfl : (⟨go14, 0, none⟩ : Addr) = ad155 := (by injection e155)); (obtain ⟨ce155, hce155, hMe155, hcc155⟩ := Kd.S_get HO_5.out [] x6_1 p155 (by first | exact q155 | exact of_decide_eq_true (by assumption) | (have e_ := (Kd.S_reads' HO_5.out).1; omega))); (obtain ⟨ve155_0, rfl, ge155_0⟩ := hMe155); (have hv155_0 := hcc155 0 _ rfl); (rw [Nat.add_zero, show ((Kd.slice 3 (Kd.int .i64))).sz = 1 from rfl, Nat.mul_one] at hv155_0); (replace hv155_0 := Option.some.inj (hv155_0.symm.trans hx155_0)); (rw [hv155_0] at ge155_0); (have HL155_0 := Aside0.mk (show Kd.R (Kd.int .i64) 3 _ _ _ _ (rd_L3 x5_32 x6_1) from ge155_0)); (clear hv155_0 ge155_0); (have HX155_0 := Aside0.mk hx155_0); (clear hcc155 hce155)
              (first | simp only [add_plain] at hx155_0 | simp only [add_at] at hx155_0 | simp only [Addr.add, Nat.zero_add] at hx155_0 | skip)
              (have HR155_0 := Aside0.mk hi155_0); (have HC155_0 := Aside0.mk hl155_0); (clear hi155_0 hl155_0); (replace p155 := eq_true p155); (replace q155 := eq_true q155); (have p156 : 0 ≤ (x6_1 : Int) := of_decide_eq_true (by assumption)); (have q156 : x6_1 < (x5_32.length : Int) := of_decide_eq_true (by assumption)); (obtain ⟨ad156, A156_0, c156_0, e156, hx156_0, hl156_0, hi156_0⟩ := at_L3 (Kd.S_reads' HO_5.out).2.2 x6_1 p156 q156); (obtain rfl : (⟨go14, 0, none⟩ : Addr) = ad156 := (by injection e156)); (obtain ⟨ce156, hce156, hMe156, hcc156⟩ := Kd.S_get HO_5.out [] x6_1 p156 (by first | exact q156 | exact of_decide_eq_true (by assumption) | (have e_ := (Kd.S_reads' HO_5.out).1; omega))); (obtain ⟨ve156_0, rfl, ge156_0⟩ := hMe156); (have hv156_0 := hcc156 0 _ rfl); (rw [Nat.add_zero, show ((Kd.slice 3 (Kd.int .i64))).sz = 1 from rfl, Nat.mul_one] at hv156_0); (replace hv156_0 := Option.some.inj (hv156_0.symm.trans hx156_0)); (rw [hv156_0] at ge156_0); (have HL156_0 := Aside0.mk (show Kd.R (Kd.int .i64) 3 _ _ _ _ (rd_L3 x5_32 x6_1) from ge156_0)); (clear hv156_0 ge156_0); (have HX156_0 := Aside0.mk hx156_0); (clear hcc156 hce156)
              (first | simp only [add_plain] at hx156_0 | simp only [add_at] at hx156_0 | simp only [Addr.add, Nat.zero_add] at hx156_0 | skip)
              (have HR156_0 := Aside0.mk hi156_0); (have HC156_0 := Aside0.mk hl156_0); (clear hi156_0 hl156_0); (replace p156 := eq_true p156); (replace q156 := eq_true q156); (have ea_ := Option.some.inj (hx155_0.symm.trans hx156_0)); (injection ea_ with ea_ en_ ec_); (subst ea_); (subst ec_); (clear en_); (have p157 : 0 ≤ ((ji62) : Int) := of_decide_eq_true (by assumption)); (have q157 : (ji62) < ((rd_L3 x5_32 x6_1).length : Int) := of_decide_eq_true (by assumption)); (obtain ⟨ad157, e157, hx157_0⟩ := Kd.at_int (by repeat (first | (with_reducible exact HR156_0.out) | (with_reducible refine Kd.C_alloc ?_ _) | (with_reducible refine Kd.C_drewN ?_ _) | (with_reducible refine Kd.C_drew ?_) | exact HR156_0.out)) (ji62) p157 q157); (cases e157); (replace p157 := eq_true p157); (replace q157 := eq_true q157); (have p67 : 0 ≤ (x7_2 : Int) := of_decide_eq_true (by assumption)); (have q67 : (x7_2 : Int) < (((rd_L3 x5_32 x6_1).length : Int) : Int) := of_decide_eq_true (by assumption)); (obtain ⟨go67, co67, eo67, gb67, gl67, cl67, HG67⟩ := Kd.R_form HL155_0.out (by omega))
              (first | cases eo67 | (injection eo67 with ea_ en_ ec_; (first | subst ea_ | (injection ea_ with ea_; subst ea_)); subst ec_; clear en_))
              (have GB67 := Aside0.mk gb67); (have GG67 := Aside0.mk HG67); (clear gb67 gl67 HG67)
              (first | simp only [add_plain] at hx157_0 | skip)
              (obtain ⟨hx67_0, hf67_0⟩ := Kd.R_celln 0 HL155_0.out (x7_2 : Int) p67 q67); (replace p67 := eq_true p67); (replace q67 := eq_true q67); (have hq69 : (x6_1 : Int) < (x5_32.length : Int) := (by have h_ : (x6_1 : Int) < ((x5_32.length : Int) : Int) := of_decide_eq_true (by assumption); first | exact h_ | (have e_ := (Kd.S_reads' HO_5.out).1; omega) | simpa only [List.length_set, List.length_set] using h_)); (obtain ⟨oki69, ce69, hcl69, hM69, hcc69, hok69, hbk69⟩ := Kd.S_borrow HO_5.out [] (x6_1 : Int) (of_decide_eq_true (by assumption)) hq69); (obtain ⟨ve69_0, rfl, ge69_0⟩ := hM69); (have hv69 := hcc69 0 _ rfl); (rw [Nat.add_zero, show ((Kd.slice 3 (Kd.int .i64))).sz = 1 from rfl, Nat.mul_one] at hv69); (replace hv69 := Option.some.inj (hv69.symm.trans HX155_0.out)); (subst hv69); (clear hcc69 hcl69); (replace ge69_0 := (show Kd.R (Kd.int .i64) 3 _ _ _ _ (rd_L3 x5_32 x6_1) from ge69_0)); ((try (obtain ⟨hy69_, hz69_⟩ := Kd.R_celln 0 ge69_0 (x7_2 : Int) (of_decide_eq_true (by assumption)) (by have h_ : (x7_2 : Int) < (((rd_L3 x5_32 x6_1).length : Int) : Int) := of_decide_eq_true (by assumption); first | exact h_ | (have e_ := (Kd.R_reads' HR155_0.out).1; omega) | simpa using h_)))); (have HP69 := Kd.R_putg ge69_0 (x7_2 : Int) (rd (rd_L3 x5_32 x6_1) (ji62))); (rw [← Ny158.out] at HP69); (have HS69 := hbk69 HP69.2 (fun k_ e_ => by injection e_ with e_; subst e_; exact ge69_0.1 _ rfl) (x' := y158) (Kd.M_row HP69.1)); (rw [← Ny160.out] at HS69); (have HQ69 := Aside0.mk HS69); (clear HP69 HS69 hbk69 hok69)
              refine start_ (n := 15) (S := fun w' => w'.cell? ⟨go14, (x6_1).toNat, none⟩ = some (.slice (some ⟨go67, 0, none⟩) (rd_L3 x5_32 x6_1).length c155_0) ∧ w'.cell? ⟨go14, (x6_1).toNat, none⟩ = some (.slice (some ⟨go67, 0, none⟩) (rd_L3 x5_32 x6_1).length c155_0) ∧ w'.cell? ⟨go67, ((ji62)).toNat, none⟩ = some (.int .i64 (rd (rd_L3 x5_32 x6_1) (ji62)))) (ds := [14]) #[false, false, false, false, false, false, false, false, false, false, false, false, false, false, false] (by kernel_rfl) rfl rfl ⟨hx155_0, hx156_0, hx157_0⟩ (fun hHeld => ?_); refine with_tabW coppicerref_shared.tab12 coppicerref_shared.bits12 (fun HT_ HW_ => ?_)
              generalize wc.drew = w68 at HO_5 HB GG67 HL155_0 HL156_0 HQ69 HR155_0 HR156_0 HX155_0 HX156_0 hf67_0 hx155_0 hx156_0 hx157_0 hx67_0 hHeld ⊢
              refine pure_ (i := 0) (N := some 89) (v := ?_) (a' := ?_) (zt 15 1) rfl rfl (any_of HT_.out (by kernel_rfl)) (fun _ _ _ h => h) (Or.inl ⟨by rfl, ?_⟩) ?_ ?_
              rotate_left
              ·intro w'
               go_simp
               with_reducible rfl
              rotate_left
              ·simp only [Act.put, List.setIfInBounds_toArray, List.set_cons_zero, List.set_cons_succ, i64_w, i32_w]
               rfl
              refine pure_ (i := 1) (N := some 90) (v := ?_) (a' := ?_) (zt 15 3) rfl rfl (any_of HT_.out (by kernel_rfl)) (fun _ _ _ h => h) (Or.inl ⟨by rfl, ?_⟩) ?_ ?_
              rotate_left
              ·intro w'
               go_simp
               with_reducible rfl
              rotate_left
              ·simp only [Act.put, List.setIfInBounds_toArray, List.set_cons_zero, List.set_cons_succ, i64_w, i32_w]
               rfl
              refine pure_ (i := 2) (N := some 91) (v := ?_) (a' := ?_) (zt 15 7) rfl rfl (any_of HT_.out (by kernel_rfl)) (fun _ _ _ h => h) (Or.inl ⟨by rfl, ?_⟩) ?_ ?_
              rotate_left
              ·intro w'
               go_simp
               with_reducible rfl
              rotate_left
              ·simp only [Act.put, List.setIfInBounds_toArray, List.set_cons_zero, List.set_cons_succ, i64_w, i32_w]
               rfl
              refine pure_ (i := 4) (N := some 93) (v := ?_) (a' := ?_) (zt 15 23) rfl rfl (any_of HT_.out (by kernel_rfl)) (fun _ _ _ h => h) (Or.inl ⟨by rfl, ?_⟩) ?_ ?_
              rotate_left
              ·intro w'
               go_simp
               with_reducible rfl
              rotate_left
              ·simp only [Act.put, List.setIfInBounds_toArray, List.set_cons_zero, List.set_cons_succ, i64_w, i32_w]
               rfl
              refine pure_ (i := 5) (N := some 94) (v := ?_) (a' := ?_) (zt 15 55) rfl rfl (any_of HT_.out (by kernel_rfl)) (fun _ _ _ h => h) (Or.inl ⟨by rfl, ?_⟩) ?_ ?_
              rotate_left
              ·intro w'
               go_simp
               with_reducible rfl
              rotate_left
              ·simp only [Act.put, List.setIfInBounds_toArray, List.set_cons_zero, List.set_cons_succ, i64_w, i32_w]
               rfl
              refine pure_ (i := 6) (N := some 95) (v := ?_) (a' := ?_) (zt 15 119) rfl rfl (any_of HT_.out (by kernel_rfl)) (fun _ _ _ h => h) (Or.inl ⟨by rfl, ?_⟩) ?_ ?_
              rotate_left
              ·intro w'
               go_simp
               with_reducible rfl
              rotate_left
              ·simp only [Act.put, List.setIfInBounds_toArray, List.set_cons_zero, List.set_cons_succ, i64_w, i32_w]
               rfl
              refine pure_ (i := 7) (N := some 96) (v := ?_) (a' := ?_) (zt 15 247) rfl rfl (any_of HT_.out (by kernel_rfl)) (fun _ _ _ h => h) (Or.inl ⟨by rfl, ?_⟩) ?_ ?_
              rotate_left
              ·intro w'
               go_simp
               with_reducible rfl
              rotate_left
              ·simp only [Act.put, List.setIfInBounds_toArray, List.set_cons_zero, List.set_cons_succ, i64_w, i32_w]
               rfl
              refine pure_ (i := 9) (N := some 98) (v := ?_) (a' := ?_) (zt 15 759) rfl rfl (any_of HT_.out (by kernel_rfl)) (fun _ _ _ h => h) (Or.inl ⟨by rfl, ?_⟩) ?_ ?_
              rotate_left
              ·intro w'
               go_simp
               with_reducible rfl
              rotate_left
              ·simp only [Act.put, List.setIfInBounds_toArray, List.set_cons_zero, List.set_cons_succ, i64_w, i32_w]
               rfl
              refine pure_ (i := 10) (N := some 99) (v := ?_) (a' := ?_) #[true, true, true, false, true, true, true, true, false, true, true, false, false, false, false] rfl rfl (any_of HT_.out (by kernel_rfl)) (fun _ _ _ h => h) (Or.inl ⟨by rfl, ?_⟩) ?_ ?_
              rotate_left
              ·intro w'
               go_simp
               with_reducible rfl
              rotate_left
              ·simp only [Act.put, List.setIfInBounds_toArray, List.set_cons_zero, List.set_cons_succ, i64_w, i32_w]
               rfl
              refine take_ (i := 3) (N := some 92) (v := ?_) (a' := ?_) #[true, true, true, true, true, true, true, true, false, true, true, false, false, false, false] rfl rfl (take_ofW HT_.out HW_.out (by kernel_rfl)) (fun _ _ _ h => h) (Or.inl ⟨by rfl, ?_⟩) hHeld ?_ ?_
              rotate_left
              ·rintro w' ⟨s0, s1, s2⟩
               go_simp
               with_reducible rfl
              rotate_left
              ·simp only [Act.put, List.setIfInBounds_toArray, List.set_cons_zero, List.set_cons_succ, i64_w, i32_w]
               rfl
              refine take_ (i := 8) (N := some 97) (v := ?_) (a' := ?_) #[true, true, true, true, true, true, true, true, true, true, true, false, false, false, false] rfl rfl (take_ofW HT_.out HW_.out (by kernel_rfl)) (fun _ _ _ h => h) (Or.inl ⟨by rfl, ?_⟩) hHeld ?_ ?_
              rotate_left
              ·rintro w' ⟨s0, s1, s2⟩
               go_simp
               with_reducible rfl
              rotate_left
              ·simp only [Act.put, List.setIfInBounds_toArray, List.set_cons_zero, List.set_cons_succ, i64_w, i32_w]
               rfl
              refine pure_ (i := 11) (N := some 100) (v := ?_) (a' := ?_) #[true, true, true, true, true, true, true, true, true, true, true, true, false, false, false] rfl rfl (any_of HT_.out (by kernel_rfl)) (fun _ _ _ h => h) (Or.inl ⟨by rfl, ?_⟩) ?_ ?_
              rotate_left
              ·intro w'
               go_simp
               with_reducible rfl
              rotate_left
              ·simp only [Act.put, List.setIfInBounds_toArray, List.set_cons_zero, List.set_cons_succ, i64_w, i32_w]
               rfl
              refine take_ (i := 12) (N := some 101) (v := ?_) (a' := ?_) #[true, true, true, true, true, true, true, true, true, true, true, true, true, false, false] rfl rfl (take_ofW HT_.out HW_.out (by kernel_rfl)) (fun _ _ _ h => h) (Or.inl ⟨by rfl, ?_⟩) hHeld ?_ ?_
              rotate_left
              ·rintro w' ⟨s0, s1, s2⟩
               go_simp
               with_reducible rfl
              rotate_left
              ·simp only [Act.put, List.setIfInBounds_toArray, List.set_cons_zero, List.set_cons_succ, i64_w, i32_w]
               rfl
              refine pure_ (i := 13) (N := some 102) (v := ?_) (a' := ?_) #[true, true, true, true, true, true, true, true, true, true, true, true, true, true, false] rfl rfl (any_of HT_.out (by kernel_rfl)) (fun _ _ _ h => h) (Or.inl ⟨by rfl, ?_⟩) ?_ ?_
              rotate_left
              ·intro w'
               go_simp
               with_reducible rfl
              rotate_left
              ·simp only [Act.put, List.setIfInBounds_toArray, List.set_cons_zero, List.set_cons_succ, i64_w, i32_w]
               rfl
              refine last_ (i := 14) (N := none) #[true, true, true, true, true, true, true, true, true, true, true, true, true, true, true] rfl rfl (one_of HT_.out (by kernel_rfl)) (by decide) (fun K hK => ?_)
              refine skip_ (w1 := ?_) (by rfl) rfl ?_ ?_
              rotate_left
              ·go_simp
               rfl
              refine hK.out _ _ ?_
              clear hK K
              refine done_ (done_of HT_.out (by kernel_rfl)) ?_
              try go_wp2
              go_meet
              case rel => exact ⟨_, (y160), H', ⟨by have := HK1.out; have := HK2.out; have := HJ20.out; have := HJ32.out; have := HJ46.out; first | omega | exact Nat.le_refl _⟩, ⟨by (try simp only [hl5_2]); (try simp only [hl5_32]); (with_reducible repeat (first | apply Kd.S_alloc | apply Kd.S_drewN | apply Kd.S_drew)); exact HQ69.out⟩, ⟨by repeat (first | (with_reducible first | exact HB.out | apply below_alloc | apply pw_below_drewN | apply below_drew1 | refine below_set ?_ GB67.out) | exact HB.out)⟩⟩
            case rest =>
             (clear HC58); (try clear c1); (try clear p1); (try clear q1); (try clear hx1); (try clear c2); (try clear p2); (try clear c3); (try clear c4); (try clear c4b0); (try clear c4b1); (try clear p4); (try clear q4); (try clear hx4); (try clear hf4); (try clear c5); (try clear c5b0); (try clear c5b1); (try clear c6); (try clear p6); (try clear q6); (try clear hx6); (try clear hf6); (try clear c8); (try clear c8b0); (try clear c10); (try clear c10b0); (try clear c10b1); (try clear c11); (try clear c11b0); (try clear c11b1); (try clear c12); (try clear c12b0); (try clear c13); (try clear c13b0); (try clear c14); (try clear p14); (try clear q14); (try clear hx14); (try clear hf14); (try clear c15); (try clear p15); (try clear q15); (try clear hx15); (try clear c17); (try clear hx17); (try clear hf17); (try clear c19); (try clear c19b0); (try clear c22); (try clear c22b0); (try clear c24); (try clear c24b0); (try clear c25); (try clear c25b0); (try clear c26); (try clear c26b0); (try clear c27); (try clear c27b0); (try clear c28); (try clear c28b0); (try clear c29); (try clear c29b0); (try clear c30); (try clear c30b0); (try clear c34); (try clear c35); (try clear c35b0); (try clear c36); (try clear c36b0); (try clear c38); (try clear c38b0); (try clear c39); (try clear c39b0); (try clear c40); (try clear c40b0); (try clear c41); (try clear c41b0); (try clear c42); (try clear c42b0); (try clear p43); (try clear q43); (try clear hx43); (try clear hf43); (try clear c45); (try clear q45); (try clear c48); (try clear c48b0); (try clear c49); (try clear c49b0); (try clear c50); (try clear c50b0); (try clear c52); (try clear c52b0); (try clear c53); (try clear c53b0); (try clear c54); (try clear c54b0); (try clear c55); (try clear c55b0); (try clear c59); (try clear c60); (try clear c60b0); (try clear c61); (try clear c61b0); (try clear c63); (try clear c63b0); (try clear c64); (try clear c64b0); (try clear p64); (try clear c65)
             (try clear c65b0); (try clear c66); (try clear c66b0); (try clear p67); (try clear q67); (try clear hx67); (try clear hf67); (try clear c69); (try clear q69); (try clear hx141_0); (try clear hx142_0); (try clear hx143_0); (try clear hx144_0); (try clear hx145_0); (try clear hx146_0); (try clear hx147_0); (try clear hx14_0); (try clear hx151_0); (try clear hx152_0); (try clear hx153_0); (try clear hx154_0); (try clear hx155_0); (try clear hx156_0); (try clear hx157_0); (try clear hx17_0); (try clear hx43_0); (try clear hx67_0); (try clear p1); (try clear p14); (try clear p141); (try clear p142); (try clear p143); (try clear p144); (try clear p145); (try clear p146); (try clear p147); (try clear p15); (try clear p151); (try clear p152); (try clear p153); (try clear p154); (try clear p155); (try clear p156); (try clear p157); (try clear p2); (try clear p4); (try clear p43); (try clear p6); (try clear p67); (try clear q1); (try clear q14); (try clear q141); (try clear q142); (try clear q143); (try clear q144); (try clear q145); (try clear q146); (try clear q147); (try clear q15); (try clear q151); (try clear q152); (try clear q153); (try clear q154); (try clear q155); (try clear q156); (try clear q157); (try clear q4); (try clear q43); (try clear q45); (try clear q67); (obtain ⟨kq, x5_57, HA, HJ57, HO_5, HB⟩ := hcut); (have hl5_57 := (Kd.S_reads' HO_5.out).1); (rw [hl5_57] at HO_5); ((try simp only [hl5_57]))
             cases kq with
             | zero => exact absurd HA.out (by simp [coppicerref_shared.j5])
             | succ kj57 =>
              (have H := HA.out); (clear HA); (simp only [coppicerref_shared.j5] at H); (have HC71 := Aside0.mk H); (clear H)
              go_upto_region 13 with (fail)
              go_cut [143] (fun v143 wc => ∃ (kq : Nat) (x143_70 : Bool), v143 = .bool x143_70 ∧ Aside0 (coppicerref_shared.j6 kq l0 l1 x5_57 x6_1 x7_2 x143_70 = some r) ∧ Aside0 (kq ≤ kj57) ∧ Aside0 (Kd.S (Kd.slice 3 (Kd.int .i64)) 33 wc w.heap.size (fun k_ => k_ ≠ (coppicerref_shared.aft_ k_ (.slice (some ⟨go14, 0, none⟩) x5_57.length co14))) (.slice (some ⟨go14, 0, none⟩) x5_57.length co14) x5_57) ∧ Aside0 (Below w.heap.size w wc))
              case first =>
               (have H := HC71.out); (clear HC71)
               by_cases c72 : x6_1 < (l0.length : Int)
               rotate_left
               ·rw [if_neg c72] at H
                (have c72b0 : decide (x6_1 < (l0.length : Int)) = false := decide_eq_false c72); ((try (have c72b0h := c72b0; simp only [hl5_2, hl5_32, hl5_57] at c72b0h))); (clear c72)
                (first | rw [c72b0] | (simp only [i64_w, i32_w]; rw [c72b0]) | skip)
                as_aux_lemma =>
                 (have H' := Aside0.mk H); (clear H)
                 try go_wp2
                 (replace HO_5 := Aside0.mk (Kd.S_drew HO_5.out)); (replace HB := Aside0.mk (below_drew1 HB.out))
                 refine start_ (n := 41) (S := fun w' => True) (ds := []) #[false, false, false, false, false, false, false, false, false, false, false, false, false, false, false, false, false, false, false, false, false, false, false, false, false, false, false, false, false, false, false, false, false, false, false, false, false, false, false, false, false] (by kernel_rfl) rfl rfl trivial (fun hHeld => ?_); refine with_tabW coppicerref_shared.tab13 coppicerref_shared.bits13 (fun HT_ HW_ => ?_)
                 generalize wc.drew = w88 at HO_5 HB hHeld ⊢
                 refine pure_ (i := 0) (N := some 103) (v := ?_) (a' := ?_) (zt 41 1) rfl rfl (any_of HT_.out (by kernel_rfl)) (fun _ _ _ h => h) (Or.inl ⟨by rfl, ?_⟩) ?_ ?_
                 rotate_left
                 ·intro w'
                  go_simp
                  with_reducible rfl
                 rotate_left
                 ·simp only [Act.put, List.setIfInBounds_toArray, List.set_cons_zero, List.set_cons_succ, i64_w, i32_w]
                  rfl
                 refine pure_ (i := 1) (N := some 104) (v := ?_) (a' := ?_) (zt 41 3) rfl rfl (any_of HT_.out (by kernel_rfl)) (fun _ _ _ h => h) (Or.inl ⟨by rfl, ?_⟩) ?_ ?_
                 rotate_left
                 ·intro w'
                  go_simp
                  with_reducible rfl
                 rotate_left
                 ·simp only [Act.put, List.setIfInBounds_toArray, List.set_cons_zero, List.set_cons_succ, i64_w, i32_w]
                  rfl
                 refine pure_ (i := 2) (N := some 105) (v := ?_) (a' := ?_) (zt 41 7) rfl rfl (any_of HT_.out (by kernel_rfl)) (fun _ _ _ h => h) (Or.inl ⟨by rfl, ?_⟩) ?_ ?_
                 rotate_left
                 ·intro w'
                  go_simp
                  with_reducible rfl
                 rotate_left
                 ·simp only [Act.put, List.setIfInBounds_toArray, List.set_cons_zero, List.set_cons_succ, i64_w, i32_w]
                  rfl
                 refine pure_ (i := 3) (N := some 106) (v := ?_) (a' := ?_) (zt 41 15) rfl rfl (any_of HT_.out (by kernel_rfl)) (fun _ _ _ h => h) (Or.inl ⟨by rfl, ?_⟩) ?_ ?_
                 rotate_left
                 ·intro w'
                  go_simp
                  with_reducible rfl
                 rotate_left
                 ·simp only [Act.put, List.setIfInBounds_toArray, List.set_cons_zero, List.set_cons_succ, i64_w, i32_w]
                  rfl
                 refine pure_ (i := 4) (N := some 107) (v := ?_) (a' := ?_) (zt 41 31) rfl rfl (any_of HT_.out (by kernel_rfl)) (fun _ _ _ h => h) (Or.inl ⟨by rfl, ?_⟩) ?_ ?_
                 rotate_left
                 ·intro w'
                  go_simp
                  with_reducible rfl
                 rotate_left
                 ·simp only [Act.put, List.setIfInBounds_toArray, List.set_cons_zero, List.set_cons_succ, i64_w, i32_w]
                  rfl
                 refine pure_ (i := 5) (N := some 108) (v := undef) (a' := ?_) (zt 41 63) rfl rfl (any_of HT_.out (by kernel_rfl)) (fun _ _ _ h => h) (Or.inr ⟨by rfl, rfl⟩) ?_ ?_
                 rotate_left
                 ·simp only [Act.put, List.setIfInBounds_toArray, List.set_cons_zero, List.set_cons_succ, i64_w, i32_w]
                  rfl
                 refine pure_ (i := 6) (N := some 109) (v := undef) (a' := ?_) (zt 41 127) rfl rfl (any_of HT_.out (by kernel_rfl)) (fun _ _ _ h => h) (Or.inr ⟨by rfl, rfl⟩) ?_ ?_
                 rotate_left
                 ·simp only [Act.put, List.setIfInBounds_toArray, List.set_cons_zero, List.set_cons_succ, i64_w, i32_w]
                  rfl
                 refine pure_ (i := 7) (N := some 110) (v := undef) (a' := ?_) (zt 41 255) rfl rfl (any_of HT_.out (by kernel_rfl)) (fun _ _ _ h => h) (Or.inr ⟨by rfl, rfl⟩) ?_ ?_
                 rotate_left
                 ·simp only [Act.put, List.setIfInBounds_toArray, List.set_cons_zero, List.set_cons_succ, i64_w, i32_w]
                  rfl
                 refine pure_ (i := 8) (N := some 111) (v := undef) (a' := ?_) (zt 41 511) rfl rfl (any_of HT_.out (by kernel_rfl)) (fun _ _ _ h => h) (Or.inr ⟨by rfl, rfl⟩) ?_ ?_
                 rotate_left
                 ·simp only [Act.put, List.setIfInBounds_toArray, List.set_cons_zero, List.set_cons_succ, i64_w, i32_w]
                  rfl
                 refine pure_ (i := 9) (N := some 112) (v := ?_) (a' := ?_) (zt 41 1023) rfl rfl (any_of HT_.out (by kernel_rfl)) (fun _ _ _ h => h) (Or.inl ⟨by rfl, ?_⟩) ?_ ?_
                 rotate_left
                 ·intro w'
                  go_simp
                  with_reducible rfl
                 rotate_left
                 ·simp only [Act.put, List.setIfInBounds_toArray, List.set_cons_zero, List.set_cons_succ, i64_w, i32_w]
                  rfl
                 refine pure_ (i := 10) (N := some 113) (v := ?_) (a' := ?_) (zt 41 2047) rfl rfl (any_of HT_.out (by kernel_rfl)) (fun _ _ _ h => h) (Or.inl ⟨by rfl, ?_⟩) ?_ ?_
                 rotate_left
                 ·intro w'
                  go_simp
                  with_reducible rfl
                 rotate_left
                 ·simp only [Act.put, List.setIfInBounds_toArray, List.set_cons_zero, List.set_cons_succ, i64_w, i32_w]
                  rfl
                 refine pure_ (i := 11) (N := some 114) (v := undef) (a' := ?_) (zt 41 4095) rfl rfl (any_of HT_.out (by kernel_rfl)) (fun _ _ _ h => h) (Or.inr ⟨by rfl, rfl⟩) ?_ ?_
                 rotate_left
                 ·simp only [Act.put, List.setIfInBounds_toArray, List.set_cons_zero, List.set_cons_succ, i64_w, i32_w]
                  rfl
                 refine pure_ (i := 12) (N := some 115) (v := undef) (a' := ?_) (zt 41 8191) rfl rfl (any_of HT_.out (by kernel_rfl)) (fun _ _ _ h => h) (Or.inr ⟨by rfl, rfl⟩) ?_ ?_
                 rotate_left
                 ·simp only [Act.put, List.setIfInBounds_toArray, List.set_cons_zero, List.set_cons_succ, i64_w, i32_w]
                  rfl
                 refine pure_ (i := 13) (N := some 116) (v := undef) (a' := ?_) (zt 41 16383) rfl rfl (any_of HT_.out (by kernel_rfl)) (fun _ _ _ h => h) (Or.inr ⟨by rfl, rfl⟩) ?_ ?_
                 rotate_left
                 ·simp only [Act.put, List.setIfInBounds_toArray, List.set_cons_zero, List.set_cons_succ, i64_w, i32_w]
                  rfl
                 refine pure_ (i := 14) (N := some 117) (v := undef) (a' := ?_) (zt 41 32767) rfl rfl (any_of HT_.out (by kernel_rfl)) (fun _ _ _ h => h) (Or.inr ⟨by rfl, rfl⟩) ?_ ?_
                 rotate_left
                 ·simp only [Act.put, List.setIfInBounds_toArray, List.set_cons_zero, List.set_cons_succ, i64_w, i32_w]
                  rfl
                 refine pure_ (i := 15) (N := some 118) (v := undef) (a' := ?_) (zt 41 65535) rfl rfl (any_of HT_.out (by kernel_rfl)) (fun _ _ _ h => h) (Or.inr ⟨by rfl, rfl⟩) ?_ ?_
                 rotate_left
                 ·simp only [Act.put, List.setIfInBounds_toArray, List.set_cons_zero, List.set_cons_succ, i64_w, i32_w]
                  rfl
                 refine pure_ (i := 16) (N := some 119) (v := undef) (a' := ?_) (zt 41 131071) rfl rfl (any_of HT_.out (by kernel_rfl)) (fun _ _ _ h => h) (Or.inr ⟨by rfl, rfl⟩) ?_ ?_
                 rotate_left
                 ·simp only [Act.put, List.setIfInBounds_toArray, List.set_cons_zero, List.set_cons_succ, i64_w, i32_w]
                  rfl
                 refine pure_ (i := 17) (N := some 120) (v := undef) (a' := ?_) (zt 41 262143) rfl rfl (any_of HT_.out (by kernel_rfl)) (fun _ _ _ h => h) (Or.inr ⟨by rfl, rfl⟩) ?_ ?_
                 rotate_left
                 ·simp only [Act.put, List.setIfInBounds_toArray, List.set_cons_zero, List.set_cons_succ, i64_w, i32_w]
                  rfl
                 refine pure_ (i := 18) (N := some 121) (v := undef) (a' := ?_) (zt 41 524287) rfl rfl (any_of HT_.out (by kernel_rfl)) (fun _ _ _ h => h) (Or.inr ⟨by rfl, rfl⟩) ?_ ?_
                 rotate_left
                 ·simp only [Act.put, List.setIfInBounds_toArray, List.set_cons_zero, List.set_cons_succ, i64_w, i32_w]
                  rfl
                 refine pure_ (i := 19) (N := some 122) (v := undef) (a' := ?_) (zt 41 1048575) rfl rfl (any_of HT_.out (by kernel_rfl)) (fun _ _ _ h => h) (Or.inr ⟨by rfl, rfl⟩) ?_ ?_
                 rotate_left
                 ·simp only [Act.put, List.setIfInBounds_toArray, List.set_cons_zero, List.set_cons_succ, i64_w, i32_w]
                  rfl
                 refine pure_ (i := 20) (N := some 123) (v := ?_) (a' := ?_) (zt 41 2097151) rfl rfl (any_of HT_.out (by kernel_rfl)) (fun _ _ _ h => h) (Or.inl ⟨by rfl, ?_⟩) ?_ ?_
                 rotate_left
                 ·intro w'
                  go_simp
                  with_reducible rfl
                 rotate_left
                 ·simp only [Act.put, List.setIfInBounds_toArray, List.set_cons_zero, List.set_cons_succ, i64_w, i32_w]
                  rfl
                 refine pure_ (i := 21) (N := some 124) (v := ?_) (a' := ?_) (zt 41 4194303) rfl rfl (any_of HT_.out (by kernel_rfl)) (fun _ _ _ h => h) (Or.inl ⟨by rfl, ?_⟩) ?_ ?_
                 rotate_left
                 ·intro w'
                  go_simp
                  with_reducible rfl
                 rotate_left
                 ·simp only [Act.put, List.setIfInBounds_toArray, List.set_cons_zero, List.set_cons_succ, i64_w, i32_w]
                  rfl
                 refine pure_ (i := 22) (N := some 125) (v := undef) (a' := ?_) (zt 41 8388607) rfl rfl (any_of HT_.out (by kernel_rfl)) (fun _ _ _ h => h) (Or.inr ⟨by rfl, rfl⟩) ?_ ?_
                 rotate_left
                 ·simp only [Act.put, List.setIfInBounds_toArray, List.set_cons_zero, List.set_cons_succ, i64_w, i32_w]
                  rfl
                 refine pure_ (i := 23) (N := some 126) (v := undef) (a' := ?_) (zt 41 16777215) rfl rfl (any_of HT_.out (by kernel_rfl)) (fun _ _ _ h => h) (Or.inr ⟨by rfl, rfl⟩) ?_ ?_
                 rotate_left
                 ·simp only [Act.put, List.setIfInBounds_toArray, List.set_cons_zero, List.set_cons_succ, i64_w, i32_w]
                  rfl
                 refine pure_ (i := 24) (N := some 127) (v := undef) (a' := ?_) (zt 41 33554431) rfl rfl (any_of HT_.out (by kernel_rfl)) (fun _ _ _ h => h) (Or.inr ⟨by rfl, rfl⟩) ?_ ?_
                 rotate_left
                 ·simp only [Act.put, List.setIfInBounds_toArray, List.set_cons_zero, List.set_cons_succ, i64_w, i32_w]
                  rfl
                 refine pure_ (i := 25) (N := some 128) (v := undef) (a' := ?_) (zt 41 67108863) rfl rfl (any_of HT_.out (by kernel_rfl)) (fun _ _ _ h => h) (Or.inr ⟨by rfl, rfl⟩) ?_ ?_
                 rotate_left
                 ·simp only [Act.put, List.setIfInBounds_toArray, List.set_cons_zero, List.set_cons_succ, i64_w, i32_w]
                  rfl
                 refine pure_ (i := 26) (N := some 129) (v := undef) (a' := ?_) (zt 41 134217727) rfl rfl (any_of HT_.out (by kernel_rfl)) (fun _ _ _ h => h) (Or.inr ⟨by rfl, rfl⟩) ?_ ?_
                 rotate_left
                 ·simp only [Act.put, List.setIfInBounds_toArray, List.set_cons_zero, List.set_cons_succ, i64_w, i32_w]
                  rfl
                 refine pure_ (i := 27) (N := some 130) (v := undef) (a' := ?_) (zt 41 268435455) rfl rfl (any_of HT_.out (by kernel_rfl)) (fun _ _ _ h => h) (Or.inr ⟨by rfl, rfl⟩) ?_ ?_
                 rotate_left
                 ·simp only [Act.put, List.setIfInBounds_toArray, List.set_cons_zero, List.set_cons_succ, i64_w, i32_w]
                  rfl
                 refine pure_ (i := 28) (N := some 131) (v := undef) (a' := ?_) (zt 41 536870911) rfl rfl (any_of HT_.out (by kernel_rfl)) (fun _ _ _ h => h) (Or.inr ⟨by rfl, rfl⟩) ?_ ?_
                 rotate_left
                 ·simp only [Act.put, List.setIfInBounds_toArray, List.set_cons_zero, List.set_cons_succ, i64_w, i32_w]
                  rfl
                 refine pure_ (i := 29) (N := some 132) (v := undef) (a' := ?_) (zt 41 1073741823) rfl rfl (any_of HT_.out (by kernel_rfl)) (fun _ _ _ h => h) (Or.inr ⟨by rfl, rfl⟩) ?_ ?_
                 rotate_left
                 ·simp only [Act.put, List.setIfInBounds_toArray, List.set_cons_zero, List.set_cons_succ, i64_w, i32_w]
                  rfl
                 refine pure_ (i := 30) (N := some 133) (v := undef) (a' := ?_) (zt 41 2147483647) rfl rfl (any_of HT_.out (by kernel_rfl)) (fun _ _ _ h => h) (Or.inr ⟨by rfl, rfl⟩) ?_ ?_
                 rotate_left
                 ·simp only [Act.put, List.setIfInBounds_toArray, List.set_cons_zero, List.set_cons_succ, i64_w, i32_w]
                  rfl
                 refine pure_ (i := 31) (N := some 134) (v := undef) (a' := ?_) (zt 41 4294967295) rfl rfl (any_of HT_.out (by kernel_rfl)) (fun _ _ _ h => h) (Or.inr ⟨by rfl, rfl⟩) ?_ ?_
                 rotate_left
                 ·simp only [Act.put, List.setIfInBounds_toArray, List.set_cons_zero, List.set_cons_succ, i64_w, i32_w]
                  rfl
                 refine pure_ (i := 32) (N := some 135) (v := undef) (a' := ?_) (zt 41 8589934591) rfl rfl (any_of HT_.out (by kernel_rfl)) (fun _ _ _ h => h) (Or.inr ⟨by rfl, rfl⟩) ?_ ?_
                 rotate_left
                 ·simp only [Act.put, List.setIfInBounds_toArray, List.set_cons_zero, List.set_cons_succ, i64_w, i32_w]
                  rfl
                 refine pure_ (i := 33) (N := some 136) (v := undef) (a' := ?_) (zt 41 17179869183) rfl rfl (any_of HT_.out (by kernel_rfl)) (fun _ _ _ h => h) (Or.inr ⟨by rfl, rfl⟩) ?_ ?_
                 rotate_left
                 ·simp only [Act.put, List.setIfInBounds_toArray, List.set_cons_zero, List.set_cons_succ, i64_w, i32_w]
                  rfl
                 refine pure_ (i := 34) (N := some 137) (v := undef) (a' := ?_) (zt 41 34359738367) rfl rfl (any_of HT_.out (by kernel_rfl)) (fun _ _ _ h => h) (Or.inr ⟨by rfl, rfl⟩) ?_ ?_
                 rotate_left
                 ·simp only [Act.put, List.setIfInBounds_toArray, List.set_cons_zero, List.set_cons_succ, i64_w, i32_w]
                  rfl
                 refine pure_ (i := 35) (N := some 138) (v := undef) (a' := ?_) (zt 41 68719476735) rfl rfl (any_of HT_.out (by kernel_rfl)) (fun _ _ _ h => h) (Or.inr ⟨by rfl, rfl⟩) ?_ ?_
                 rotate_left
                 ·simp only [Act.put, List.setIfInBounds_toArray, List.set_cons_zero, List.set_cons_succ, i64_w, i32_w]
                  rfl
                 refine pure_ (i := 36) (N := some 139) (v := undef) (a' := ?_) (zt 41 137438953471) rfl rfl (any_of HT_.out (by kernel_rfl)) (fun _ _ _ h => h) (Or.inr ⟨by rfl, rfl⟩) ?_ ?_
                 rotate_left
                 ·simp only [Act.put, List.setIfInBounds_toArray, List.set_cons_zero, List.set_cons_succ, i64_w, i32_w]
                  rfl
                 refine pure_ (i := 37) (N := some 140) (v := undef) (a' := ?_) (zt 41 274877906943) rfl rfl (any_of HT_.out (by kernel_rfl)) (fun _ _ _ h => h) (Or.inr ⟨by rfl, rfl⟩) ?_ ?_
                 rotate_left
                 ·simp only [Act.put, List.setIfInBounds_toArray, List.set_cons_zero, List.set_cons_succ, i64_w, i32_w]
                  rfl
                 refine pure_ (i := 38) (N := some 141) (v := undef) (a' := ?_) (zt 41 549755813887) rfl rfl (any_of HT_.out (by kernel_rfl)) (fun _ _ _ h => h) (Or.inr ⟨by rfl, rfl⟩) ?_ ?_
                 rotate_left
                 ·simp only [Act.put, List.setIfInBounds_toArray, List.set_cons_zero, List.set_cons_succ, i64_w, i32_w]
                  rfl
                 refine pure_ (i := 39) (N := some 142) (v := undef) (a' := ?_) (zt 41 1099511627775) rfl rfl (any_of HT_.out (by kernel_rfl)) (fun _ _ _ h => h) (Or.inr ⟨by rfl, rfl⟩) ?_ ?_
                 rotate_left
                 ·simp only [Act.put, List.setIfInBounds_toArray, List.set_cons_zero, List.set_cons_succ, i64_w, i32_w]
                  rfl
                 refine pure_ (i := 40) (N := some 143) (v := ?_) (a' := ?_) #[true, true, true, true, true, true, true, true, true, true, true, true, true, true, true, true, true, true, true, true, true, true, true, true, true, true, true, true, true, true, true, true, true, true, true, true, true, true, true, true, true] rfl rfl (any_of HT_.out (by kernel_rfl)) (fun _ _ _ h => h) (Or.inl ⟨by rfl, ?_⟩) ?_ ?_
                 rotate_left
                 ·intro w'
                  go_simp
                  with_reducible rfl
                 rotate_left
                 ·simp only [Act.put, List.setIfInBounds_toArray, List.set_cons_zero, List.set_cons_succ, i64_w, i32_w]
                  rfl
                 refine done_ (done_of HT_.out (by kernel_rfl)) ?_
                 try go_wp2
                 go_meet
                 case rel => exact ⟨_, (false), (by first | rfl | (simp; done) | (simp [*]; done)), H', ⟨by have := HK1.out; have := HK2.out; have := HJ20.out; have := HJ32.out; have := HJ46.out; have := HJ57.out; first | omega | exact Nat.le_refl _⟩, ⟨by (try simp only [hl5_2]); (try simp only [hl5_32]); (try simp only [hl5_57]); (with_reducible repeat (first | apply Kd.S_alloc | apply Kd.S_drewN | apply Kd.S_drew)); exact HO_5.out⟩, ⟨by repeat (first | (with_reducible first | exact HB.out | apply zc1 | apply zc2 | apply zc3) | exact HB.out)⟩⟩
               (rw [if_pos c72] at H); (have c72b0 : decide (x6_1 < (l0.length : Int)) = true := decide_eq_true c72); ((try (have c72b0h := c72b0; simp only [hl5_2, hl5_32, hl5_57] at c72b0h))); (clear c72)
               (first | rw [c72b0] | (simp only [i64_w, i32_w]; rw [c72b0]) | skip)
               by_cases c73 : x7_2 < (l1.length : Int)
               rotate_left
               ·rw [if_neg c73] at H
                (have c73b0 : decide (x7_2 < (l1.length : Int)) = false := decide_eq_false c73); ((try (have c73b0h := c73b0; simp only [hl5_2, hl5_32, hl5_57] at c73b0h))); (clear c73)
                as_aux_lemma =>
                 (have H' := Aside0.mk H); (clear H)
                 try go_wp2
                 (replace HO_5 := Aside0.mk (Kd.S_drew HO_5.out)); (replace HB := Aside0.mk (below_drew1 HB.out))
                 refine start_ (n := 41) (S := fun w' => True) (ds := []) #[false, false, false, false, false, false, false, false, false, false, false, false, false, false, false, false, false, false, false, false, false, false, false, false, false, false, false, false, false, false, false, false, false, false, false, false, false, false, false, false, false] (by kernel_rfl) rfl rfl trivial (fun hHeld => ?_); refine with_tabW coppicerref_shared.tab13 coppicerref_shared.bits13 (fun HT_ HW_ => ?_)
                 generalize wc.drew = w87 at HO_5 HB hHeld ⊢
                 refine pure_ (i := 0) (N := some 103) (v := ?_) (a' := ?_) (zt 41 1) rfl rfl (any_of HT_.out (by kernel_rfl)) (fun _ _ _ h => h) (Or.inl ⟨by rfl, ?_⟩) ?_ ?_
                 rotate_left
                 ·intro w'
                  go_simp
                  with_reducible rfl
                 rotate_left
                 ·simp only [Act.put, List.setIfInBounds_toArray, List.set_cons_zero, List.set_cons_succ, i64_w, i32_w]
                  rfl
                 refine pure_ (i := 1) (N := some 104) (v := ?_) (a' := ?_) (zt 41 3) rfl rfl (any_of HT_.out (by kernel_rfl)) (fun _ _ _ h => h) (Or.inl ⟨by rfl, ?_⟩) ?_ ?_
                 rotate_left
                 ·intro w'
                  go_simp
                  with_reducible rfl
                 rotate_left
                 ·simp only [Act.put, List.setIfInBounds_toArray, List.set_cons_zero, List.set_cons_succ, i64_w, i32_w]
                  rfl
                 refine pure_ (i := 2) (N := some 105) (v := ?_) (a' := ?_) (zt 41 7) rfl rfl (any_of HT_.out (by kernel_rfl)) (fun _ _ _ h => h) (Or.inl ⟨by rfl, ?_⟩) ?_ ?_
                 rotate_left
                 ·intro w'
                  go_simp
                  with_reducible rfl
                 rotate_left
                 ·simp only [Act.put, List.setIfInBounds_toArray, List.set_cons_zero, List.set_cons_succ, i64_w, i32_w]
                  rfl
                 refine pure_ (i := 3) (N := some 106) (v := ?_) (a' := ?_) (zt 41 15) rfl rfl (any_of HT_.out (by kernel_rfl)) (fun _ _ _ h => h) (Or.inl ⟨by rfl, ?_⟩) ?_ ?_
                 rotate_left
                 ·intro w'
                  go_simp
                  with_reducible rfl
                 rotate_left
                 ·simp only [Act.put, List.setIfInBounds_toArray, List.set_cons_zero, List.set_cons_succ, i64_w, i32_w]
                  rfl
                 refine pure_ (i := 4) (N := some 107) (v := ?_) (a' := ?_) (zt 41 31) rfl rfl (any_of HT_.out (by kernel_rfl)) (fun _ _ _ h => h) (Or.inl ⟨by rfl, ?_⟩) ?_ ?_
                 rotate_left
                 ·intro w'
                  go_simp
                  with_reducible rfl
                 rotate_left
                 ·simp only [Act.put, List.setIfInBounds_toArray, List.set_cons_zero, List.set_cons_succ, i64_w, i32_w]
                  rfl
                 refine pure_ (i := 5) (N := some 108) (v := ?_) (a' := ?_) (zt 41 63) rfl rfl (any_of HT_.out (by kernel_rfl)) (fun _ _ _ h => h) (Or.inl ⟨by rfl, ?_⟩) ?_ ?_
                 rotate_left
                 ·intro w'
                  go_simp
                  with_reducible rfl
                 rotate_left
                 ·simp only [Act.put, List.setIfInBounds_toArray, List.set_cons_zero, List.set_cons_succ, i64_w, i32_w]
                  rfl
                 refine pure_ (i := 6) (N := some 109) (v := ?_) (a' := ?_) (zt 41 127) rfl rfl (any_of HT_.out (by kernel_rfl)) (fun _ _ _ h => h) (Or.inl ⟨by rfl, ?_⟩) ?_ ?_
                 rotate_left
                 ·intro w'
                  go_simp
                  with_reducible rfl
                 rotate_left
                 ·simp only [Act.put, List.setIfInBounds_toArray, List.set_cons_zero, List.set_cons_succ, i64_w, i32_w]
                  rfl
                 refine pure_ (i := 7) (N := some 110) (v := ?_) (a' := ?_) (zt 41 255) rfl rfl (any_of HT_.out (by kernel_rfl)) (fun _ _ _ h => h) (Or.inl ⟨by rfl, ?_⟩) ?_ ?_
                 rotate_left
                 ·intro w'
                  go_simp
                  with_reducible rfl
                 rotate_left
                 ·simp only [Act.put, List.setIfInBounds_toArray, List.set_cons_zero, List.set_cons_succ, i64_w, i32_w]
                  rfl
                 refine pure_ (i := 8) (N := some 111) (v := ?_) (a' := ?_) (zt 41 511) rfl rfl (any_of HT_.out (by kernel_rfl)) (fun _ _ _ h => h) (Or.inl ⟨by rfl, ?_⟩) ?_ ?_
                 rotate_left
                 ·intro w'
                  go_simp
                  with_reducible rfl
                 rotate_left
                 ·simp only [Act.put, List.setIfInBounds_toArray, List.set_cons_zero, List.set_cons_succ, i64_w, i32_w]
                  rfl
                 refine pure_ (i := 9) (N := some 112) (v := ?_) (a' := ?_) (zt 41 1023) rfl rfl (any_of HT_.out (by kernel_rfl)) (fun _ _ _ h => h) (Or.inl ⟨by rfl, ?_⟩) ?_ ?_
                 rotate_left
                 ·intro w'
                  go_simp
                  with_reducible rfl
                 rotate_left
                 ·simp only [Act.put, List.setIfInBounds_toArray, List.set_cons_zero, List.set_cons_succ, i64_w, i32_w]
                  rfl
                 refine pure_ (i := 10) (N := some 113) (v := ?_) (a' := ?_) (zt 41 2047) rfl rfl (any_of HT_.out (by kernel_rfl)) (fun _ _ _ h => h) (Or.inl ⟨by rfl, ?_⟩) ?_ ?_
                 rotate_left
                 ·intro w'
                  go_simp
                  with_reducible rfl
                 rotate_left
                 ·simp only [Act.put, List.setIfInBounds_toArray, List.set_cons_zero, List.set_cons_succ, i64_w, i32_w]
                  rfl
                 refine pure_ (i := 11) (N := some 114) (v := undef) (a' := ?_) (zt 41 4095) rfl rfl (any_of HT_.out (by kernel_rfl)) (fun _ _ _ h => h) (Or.inr ⟨by rfl, rfl⟩) ?_ ?_
                 rotate_left
                 ·simp only [Act.put, List.setIfInBounds_toArray, List.set_cons_zero, List.set_cons_succ, i64_w, i32_w]
                  rfl
                 refine pure_ (i := 12) (N := some 115) (v := undef) (a' := ?_) (zt 41 8191) rfl rfl (any_of HT_.out (by kernel_rfl)) (fun _ _ _ h => h) (Or.inr ⟨by rfl, rfl⟩) ?_ ?_
                 rotate_left
                 ·simp only [Act.put, List.setIfInBounds_toArray, List.set_cons_zero, List.set_cons_succ, i64_w, i32_w]
                  rfl
                 refine pure_ (i := 13) (N := some 116) (v := undef) (a' := ?_) (zt 41 16383) rfl rfl (any_of HT_.out (by kernel_rfl)) (fun _ _ _ h => h) (Or.inr ⟨by rfl, rfl⟩) ?_ ?_
                 rotate_left
                 ·simp only [Act.put, List.setIfInBounds_toArray, List.set_cons_zero, List.set_cons_succ, i64_w, i32_w]
                  rfl
                 refine pure_ (i := 14) (N := some 117) (v := undef) (a' := ?_) (zt 41 32767) rfl rfl (any_of HT_.out (by kernel_rfl)) (fun _ _ _ h => h) (Or.inr ⟨by rfl, rfl⟩) ?_ ?_
                 rotate_left
                 ·simp only [Act.put, List.setIfInBounds_toArray, List.set_cons_zero, List.set_cons_succ, i64_w, i32_w]
                  rfl
                 refine pure_ (i := 15) (N := some 118) (v := undef) (a' := ?_) (zt 41 65535) rfl rfl (any_of HT_.out (by kernel_rfl)) (fun _ _ _ h => h) (Or.inr ⟨by rfl, rfl⟩) ?_ ?_
                 rotate_left
                 ·simp only [Act.put, List.setIfInBounds_toArray, List.set_cons_zero, List.set_cons_succ, i64_w, i32_w]
                  rfl
                 refine pure_ (i := 16) (N := some 119) (v := undef) (a' := ?_) (zt 41 131071) rfl rfl (any_of HT_.out (by kernel_rfl)) (fun _ _ _ h => h) (Or.inr ⟨by rfl, rfl⟩) ?_ ?_
                 rotate_left
                 ·simp only [Act.put, List.setIfInBounds_toArray, List.set_cons_zero, List.set_cons_succ, i64_w, i32_w]
                  rfl
                 refine pure_ (i := 17) (N := some 120) (v := undef) (a' := ?_) (zt 41 262143) rfl rfl (any_of HT_.out (by kernel_rfl)) (fun _ _ _ h => h) (Or.inr ⟨by rfl, rfl⟩) ?_ ?_
                 rotate_left
                 ·simp only [Act.put, List.setIfInBounds_toArray, List.set_cons_zero, List.set_cons_succ, i64_w, i32_w]
                  rfl
                 refine pure_ (i := 18) (N := some 121) (v := undef) (a' := ?_) (zt 41 524287) rfl rfl (any_of HT_.out (by kernel_rfl)) (fun _ _ _ h => h) (Or.inr ⟨by rfl, rfl⟩) ?_ ?_
                 rotate_left
                 ·simp only [Act.put, List.setIfInBounds_toArray, List.set_cons_zero, List.set_cons_succ, i64_w, i32_w]
                  rfl
                 refine pure_ (i := 19) (N := some 122) (v := undef) (a' := ?_) (zt 41 1048575) rfl rfl (any_of HT_.out (by kernel_rfl)) (fun _ _ _ h => h) (Or.inr ⟨by rfl, rfl⟩) ?_ ?_
                 rotate_left
                 ·simp only [Act.put, List.setIfInBounds_toArray, List.set_cons_zero, List.set_cons_succ, i64_w, i32_w]
                  rfl
                 refine pure_ (i := 20) (N := some 123) (v := ?_) (a' := ?_) (zt 41 2097151) rfl rfl (any_of HT_.out (by kernel_rfl)) (fun _ _ _ h => h) (Or.inl ⟨by rfl, ?_⟩) ?_ ?_
                 rotate_left
                 ·intro w'
                  go_simp
                  with_reducible rfl
                 rotate_left
                 ·simp only [Act.put, List.setIfInBounds_toArray, List.set_cons_zero, List.set_cons_succ, i64_w, i32_w]
                  rfl
                 refine pure_ (i := 21) (N := some 124) (v := ?_) (a' := ?_) (zt 41 4194303) rfl rfl (any_of HT_.out (by kernel_rfl)) (fun _ _ _ h => h) (Or.inl ⟨by rfl, ?_⟩) ?_ ?_
                 rotate_left
                 ·intro w'
                  go_simp
                  with_reducible rfl
                 rotate_left
                 ·simp only [Act.put, List.setIfInBounds_toArray, List.set_cons_zero, List.set_cons_succ, i64_w, i32_w]
                  rfl
                 refine pure_ (i := 22) (N := some 125) (v := undef) (a' := ?_) (zt 41 8388607) rfl rfl (any_of HT_.out (by kernel_rfl)) (fun _ _ _ h => h) (Or.inr ⟨by rfl, rfl⟩) ?_ ?_
                 rotate_left
                 ·simp only [Act.put, List.setIfInBounds_toArray, List.set_cons_zero, List.set_cons_succ, i64_w, i32_w]
                  rfl
                 refine pure_ (i := 23) (N := some 126) (v := undef) (a' := ?_) (zt 41 16777215) rfl rfl (any_of HT_.out (by kernel_rfl)) (fun _ _ _ h => h) (Or.inr ⟨by rfl, rfl⟩) ?_ ?_
                 rotate_left
                 ·simp only [Act.put, List.setIfInBounds_toArray, List.set_cons_zero, List.set_cons_succ, i64_w, i32_w]
                  rfl
                 refine pure_ (i := 24) (N := some 127) (v := undef) (a' := ?_) (zt 41 33554431) rfl rfl (any_of HT_.out (by kernel_rfl)) (fun _ _ _ h => h) (Or.inr ⟨by rfl, rfl⟩) ?_ ?_
                 rotate_left
                 ·simp only [Act.put, List.setIfInBounds_toArray, List.set_cons_zero, List.set_cons_succ, i64_w, i32_w]
                  rfl
                 refine pure_ (i := 25) (N := some 128) (v := undef) (a' := ?_) (zt 41 67108863) rfl rfl (any_of HT_.out (by kernel_rfl)) (fun _ _ _ h => h) (Or.inr ⟨by rfl, rfl⟩) ?_ ?_
                 rotate_left
                 ·simp only [Act.put, List.setIfInBounds_toArray, List.set_cons_zero, List.set_cons_succ, i64_w, i32_w]
                  rfl
                 refine pure_ (i := 26) (N := some 129) (v := undef) (a' := ?_) (zt 41 134217727) rfl rfl (any_of HT_.out (by kernel_rfl)) (fun _ _ _ h => h) (Or.inr ⟨by rfl, rfl⟩) ?_ ?_
                 rotate_left
                 ·simp only [Act.put, List.setIfInBounds_toArray, List.set_cons_zero, List.set_cons_succ, i64_w, i32_w]
                  rfl
                 refine pure_ (i := 27) (N := some 130) (v := undef) (a' := ?_) (zt 41 268435455) rfl rfl (any_of HT_.out (by kernel_rfl)) (fun _ _ _ h => h) (Or.inr ⟨by rfl, rfl⟩) ?_ ?_
                 rotate_left
                 ·simp only [Act.put, List.setIfInBounds_toArray, List.set_cons_zero, List.set_cons_succ, i64_w, i32_w]
                  rfl
                 refine pure_ (i := 28) (N := some 131) (v := undef) (a' := ?_) (zt 41 536870911) rfl rfl (any_of HT_.out (by kernel_rfl)) (fun _ _ _ h => h) (Or.inr ⟨by rfl, rfl⟩) ?_ ?_
                 rotate_left
                 ·simp only [Act.put, List.setIfInBounds_toArray, List.set_cons_zero, List.set_cons_succ, i64_w, i32_w]
                  rfl
                 refine pure_ (i := 29) (N := some 132) (v := undef) (a' := ?_) (zt 41 1073741823) rfl rfl (any_of HT_.out (by kernel_rfl)) (fun _ _ _ h => h) (Or.inr ⟨by rfl, rfl⟩) ?_ ?_
                 rotate_left
                 ·simp only [Act.put, List.setIfInBounds_toArray, List.set_cons_zero, List.set_cons_succ, i64_w, i32_w]
                  rfl
                 refine pure_ (i := 30) (N := some 133) (v := undef) (a' := ?_) (zt 41 2147483647) rfl rfl (any_of HT_.out (by kernel_rfl)) (fun _ _ _ h => h) (Or.inr ⟨by rfl, rfl⟩) ?_ ?_
                 rotate_left
                 ·simp only [Act.put, List.setIfInBounds_toArray, List.set_cons_zero, List.set_cons_succ, i64_w, i32_w]
                  rfl
                 refine pure_ (i := 31) (N := some 134) (v := undef) (a' := ?_) (zt 41 4294967295) rfl rfl (any_of HT_.out (by kernel_rfl)) (fun _ _ _ h => h) (Or.inr ⟨by rfl, rfl⟩) ?_ ?_
                 rotate_left
                 ·simp only [Act.put, List.setIfInBounds_toArray, List.set_cons_zero, List.set_cons_succ, i64_w, i32_w]
                  rfl
                 refine pure_ (i := 32) (N := some 135) (v := undef) (a' := ?_) (zt 41 8589934591) rfl rfl (any_of HT_.out (by kernel_rfl)) (fun _ _ _ h => h) (Or.inr ⟨by rfl, rfl⟩) ?_ ?_
                 rotate_left
                 ·simp only [Act.put, List.setIfInBounds_toArray, List.set_cons_zero, List.set_cons_succ, i64_w, i32_w]
                  rfl
                 refine pure_ (i := 33) (N := some 136) (v := undef) (a' := ?_) (zt 41 17179869183) rfl rfl (any_of HT_.out (by kernel_rfl)) (fun _ _ _ h => h) (Or.inr ⟨by rfl, rfl⟩) ?_ ?_
                 rotate_left
                 ·simp only [Act.put, List.setIfInBounds_toArray, List.set_cons_zero, List.set_cons_succ, i64_w, i32_w]
                  rfl
                 refine pure_ (i := 34) (N := some 137) (v := undef) (a' := ?_) (zt 41 34359738367) rfl rfl (any_of HT_.out (by kernel_rfl)) (fun _ _ _ h => h) (Or.inr ⟨by rfl, rfl⟩) ?_ ?_
                 rotate_left
                 ·simp only [Act.put, List.setIfInBounds_toArray, List.set_cons_zero, List.set_cons_succ, i64_w, i32_w]
                  rfl
                 refine pure_ (i := 35) (N := some 138) (v := undef) (a' := ?_) (zt 41 68719476735) rfl rfl (any_of HT_.out (by kernel_rfl)) (fun _ _ _ h => h) (Or.inr ⟨by rfl, rfl⟩) ?_ ?_
                 rotate_left
                 ·simp only [Act.put, List.setIfInBounds_toArray, List.set_cons_zero, List.set_cons_succ, i64_w, i32_w]
                  rfl
                 refine pure_ (i := 36) (N := some 139) (v := undef) (a' := ?_) (zt 41 137438953471) rfl rfl (any_of HT_.out (by kernel_rfl)) (fun _ _ _ h => h) (Or.inr ⟨by rfl, rfl⟩) ?_ ?_
                 rotate_left
                 ·simp only [Act.put, List.setIfInBounds_toArray, List.set_cons_zero, List.set_cons_succ, i64_w, i32_w]
                  rfl
                 refine pure_ (i := 37) (N := some 140) (v := undef) (a' := ?_) (zt 41 274877906943) rfl rfl (any_of HT_.out (by kernel_rfl)) (fun _ _ _ h => h) (Or.inr ⟨by rfl, rfl⟩) ?_ ?_
                 rotate_left
                 ·simp only [Act.put, List.setIfInBounds_toArray, List.set_cons_zero, List.set_cons_succ, i64_w, i32_w]
                  rfl
                 refine pure_ (i := 38) (N := some 141) (v := undef) (a' := ?_) (zt 41 549755813887) rfl rfl (any_of HT_.out (by kernel_rfl)) (fun _ _ _ h => h) (Or.inr ⟨by rfl, rfl⟩) ?_ ?_
                 rotate_left
                 ·simp only [Act.put, List.setIfInBounds_toArray, List.set_cons_zero, List.set_cons_succ, i64_w, i32_w]
                  rfl
                 refine pure_ (i := 39) (N := some 142) (v := undef) (a' := ?_) (zt 41 1099511627775) rfl rfl (any_of HT_.out (by kernel_rfl)) (fun _ _ _ h => h) (Or.inr ⟨by rfl, rfl⟩) ?_ ?_
                 rotate_left
                 ·simp only [Act.put, List.setIfInBounds_toArray, List.set_cons_zero, List.set_cons_succ, i64_w, i32_w]
                  rfl
                 refine pure_ (i := 40) (N := some 143) (v := ?_) (a' := ?_) #[true, true, true, true, true, true, true, true, true, true, true, true, true, true, true, true, true, true, true, true, true, true, true, true, true, true, true, true, true, true, true, true, true, true, true, true, true, true, true, true, true] rfl rfl (any_of HT_.out (by kernel_rfl)) (fun _ _ _ h => h) (Or.inl ⟨by rfl, ?_⟩) ?_ ?_
                 rotate_left
                 ·intro w'
                  go_simp
                  with_reducible rfl
                 rotate_left
                 ·simp only [Act.put, List.setIfInBounds_toArray, List.set_cons_zero, List.set_cons_succ, i64_w, i32_w]
                  rfl
                 refine done_ (done_of HT_.out (by kernel_rfl)) ?_
                 try go_wp2
                 go_meet
                 case rel => exact ⟨_, (false), (by first | rfl | (simp; done) | (simp [*]; done)), H', ⟨by have := HK1.out; have := HK2.out; have := HJ20.out; have := HJ32.out; have := HJ46.out; have := HJ57.out; first | omega | exact Nat.le_refl _⟩, ⟨by (try simp only [hl5_2]); (try simp only [hl5_32]); (try simp only [hl5_57]); (with_reducible repeat (first | apply Kd.S_alloc | apply Kd.S_drewN | apply Kd.S_drew)); exact HO_5.out⟩, ⟨by repeat (first | (with_reducible first | exact HB.out | apply zc1 | apply zc2 | apply zc3) | exact HB.out)⟩⟩
               (rw [if_pos c73] at H); (have c73b0 : decide (x7_2 < (l1.length : Int)) = true := decide_eq_true c73); ((try (have c73b0h := c73b0; simp only [hl5_2, hl5_32, hl5_57] at c73b0h))); (clear c73)
               by_cases c74 : 0 ≤ x6_1
               rotate_left
               ·rw [if_neg c74] at H
                exact absurd H (by simp)
               (rw [if_pos c74] at H); (have c74b0 : decide (0 ≤ x6_1) = true := decide_eq_true c74); (clear c74)
               by_cases c75 : 0 ≤ x7_2
               rotate_left
               ·rw [if_neg c75] at H
                exact absurd H (by simp)
               (rw [if_pos c75] at H); (have c75b0 : decide (0 ≤ x7_2) = true := decide_eq_true c75); (clear c75)
               by_cases c76 : (rd l0 x6_1) = (rd l1 x7_2)
               rotate_left
               ·rw [if_neg c76] at H
                (have c76b0 : ((rd l0 x6_1) == (rd l1 x7_2)) = false := beq_eq_false_iff_ne.mpr c76); (have c76b1 : ((rd l0 x6_1) != (rd l1 x7_2)) = true := bne_iff_ne.mpr c76)
                as_aux_lemma =>
                 (have H' := Aside0.mk H); (clear H)
                 try go_wp2
                 (replace HO_5 := Aside0.mk (Kd.S_drew HO_5.out)); (replace HB := Aside0.mk (below_drew1 HB.out)); (have p161 : 0 ≤ (x6_1 : Int) := of_decide_eq_true (by assumption)); (have q161 : x6_1 < (l0.length : Int) := of_decide_eq_true (by assumption)); (obtain ⟨ad161, e161, hx161_0⟩ := Kd.at_int HR0.out x6_1 p161 q161); (have hw161_0 := hx161_0); (cases e161); (replace hx161_0 := (HB.out.cell (World.block_lt_of_cell? w _ hx161_0)).trans hx161_0); (replace p161 := eq_true p161); (replace q161 := eq_true q161); (have p162 : 0 ≤ (x7_2 : Int) := of_decide_eq_true (by assumption)); (have q162 : x7_2 < (l1.length : Int) := of_decide_eq_true (by assumption)); (obtain ⟨ad162, e162, hx162_0⟩ := Kd.at_int HR1.out x7_2 p162 q162); (have hw162_0 := hx162_0); (cases e162); (replace hx162_0 := (HB.out.cell (World.block_lt_of_cell? w _ hx162_0)).trans hx162_0); (replace p162 := eq_true p162); (replace q162 := eq_true q162)
                 refine start_ (n := 41) (S := fun w' => w'.cell? (ad161.add (x6_1).toNat) = some (.int .u8 (rd l0 x6_1)) ∧ w'.cell? (ad162.add (x7_2).toNat) = some (.int .u8 (rd l1 x7_2))) (ds := []) #[false, false, false, false, false, false, false, false, false, false, false, false, false, false, false, false, false, false, false, false, false, false, false, false, false, false, false, false, false, false, false, false, false, false, false, false, false, false, false, false, false] (by kernel_rfl) rfl rfl ⟨((HB.out.cell (World.block_lt_of_cell? w _ hw161_0)).trans hw161_0), ((HB.out.cell (World.block_lt_of_cell? w _ hw162_0)).trans hw162_0)⟩ (fun hHeld => ?_); refine with_tabW coppicerref_shared.tab13 coppicerref_shared.bits13 (fun HT_ HW_ => ?_)
                 generalize wc.drew = w86 at HO_5 HB hx161_0 hx162_0 hHeld ⊢
                 refine pure_ (i := 0) (N := some 103) (v := ?_) (a' := ?_) (zt 41 1) rfl rfl (any_of HT_.out (by kernel_rfl)) (fun _ _ _ h => h) (Or.inl ⟨by rfl, ?_⟩) ?_ ?_
                 rotate_left
                 ·intro w'
                  go_simp
                  with_reducible rfl
                 rotate_left
                 ·simp only [Act.put, List.setIfInBounds_toArray, List.set_cons_zero, List.set_cons_succ, i64_w, i32_w]
                  rfl
                 refine pure_ (i := 1) (N := some 104) (v := ?_) (a' := ?_) (zt 41 3) rfl rfl (any_of HT_.out (by kernel_rfl)) (fun _ _ _ h => h) (Or.inl ⟨by rfl, ?_⟩) ?_ ?_
                 rotate_left
                 ·intro w'
                  go_simp
                  with_reducible rfl
                 rotate_left
                 ·simp only [Act.put, List.setIfInBounds_toArray, List.set_cons_zero, List.set_cons_succ, i64_w, i32_w]
                  rfl
                 refine pure_ (i := 2) (N := some 105) (v := ?_) (a' := ?_) (zt 41 7) rfl rfl (any_of HT_.out (by kernel_rfl)) (fun _ _ _ h => h) (Or.inl ⟨by rfl, ?_⟩) ?_ ?_
                 rotate_left
                 ·intro w'
                  go_simp
                  with_reducible rfl
                 rotate_left
                 ·simp only [Act.put, List.setIfInBounds_toArray, List.set_cons_zero, List.set_cons_succ, i64_w, i32_w]
                  rfl
                 refine pure_ (i := 3) (N := some 106) (v := ?_) (a' := ?_) (zt 41 15) rfl rfl (any_of HT_.out (by kernel_rfl)) (fun _ _ _ h => h) (Or.inl ⟨by rfl, ?_⟩) ?_ ?_
                 rotate_left
                 ·intro w'
                  go_simp
                  with_reducible rfl
                 rotate_left
                 ·simp only [Act.put, List.setIfInBounds_toArray, List.set_cons_zero, List.set_cons_succ, i64_w, i32_w]
                  rfl
                 refine pure_ (i := 4) (N := some 107) (v := ?_) (a' := ?_) (zt 41 31) rfl rfl (any_of HT_.out (by kernel_rfl)) (fun _ _ _ h => h) (Or.inl ⟨by rfl, ?_⟩) ?_ ?_
                 rotate_left
                 ·intro w'
                  go_simp
                  with_reducible rfl
                 rotate_left
                 ·simp only [Act.put, List.setIfInBounds_toArray, List.set_cons_zero, List.set_cons_succ, i64_w, i32_w]
                  rfl
                 refine pure_ (i := 5) (N := some 108) (v := ?_) (a' := ?_) (zt 41 63) rfl rfl (any_of HT_.out (by kernel_rfl)) (fun _ _ _ h => h) (Or.inl ⟨by rfl, ?_⟩) ?_ ?_
                 rotate_left
                 ·intro w'
                  go_simp
                  with_reducible rfl
                 rotate_left
                 ·simp only [Act.put, List.setIfInBounds_toArray, List.set_cons_zero, List.set_cons_succ, i64_w, i32_w]
                  rfl
                 refine pure_ (i := 6) (N := some 109) (v := ?_) (a' := ?_) (zt 41 127) rfl rfl (any_of HT_.out (by kernel_rfl)) (fun _ _ _ h => h) (Or.inl ⟨by rfl, ?_⟩) ?_ ?_
                 rotate_left
                 ·intro w'
                  go_simp
                  with_reducible rfl
                 rotate_left
                 ·simp only [Act.put, List.setIfInBounds_toArray, List.set_cons_zero, List.set_cons_succ, i64_w, i32_w]
                  rfl
                 refine pure_ (i := 7) (N := some 110) (v := ?_) (a' := ?_) (zt 41 255) rfl rfl (any_of HT_.out (by kernel_rfl)) (fun _ _ _ h => h) (Or.inl ⟨by rfl, ?_⟩) ?_ ?_
                 rotate_left
                 ·intro w'
                  go_simp
                  with_reducible rfl
                 rotate_left
                 ·simp only [Act.put, List.setIfInBounds_toArray, List.set_cons_zero, List.set_cons_succ, i64_w, i32_w]
                  rfl
                 refine pure_ (i := 8) (N := some 111) (v := ?_) (a' := ?_) (zt 41 511) rfl rfl (any_of HT_.out (by kernel_rfl)) (fun _ _ _ h => h) (Or.inl ⟨by rfl, ?_⟩) ?_ ?_
                 rotate_left
                 ·intro w'
                  go_simp
                  with_reducible rfl
                 rotate_left
                 ·simp only [Act.put, List.setIfInBounds_toArray, List.set_cons_zero, List.set_cons_succ, i64_w, i32_w]
                  rfl
                 refine pure_ (i := 9) (N := some 112) (v := ?_) (a' := ?_) (zt 41 1023) rfl rfl (any_of HT_.out (by kernel_rfl)) (fun _ _ _ h => h) (Or.inl ⟨by rfl, ?_⟩) ?_ ?_
                 rotate_left
                 ·intro w'
                  go_simp
                  with_reducible rfl
                 rotate_left
                 ·simp only [Act.put, List.setIfInBounds_toArray, List.set_cons_zero, List.set_cons_succ, i64_w, i32_w]
                  rfl
                 refine pure_ (i := 10) (N := some 113) (v := ?_) (a' := ?_) (zt 41 2047) rfl rfl (any_of HT_.out (by kernel_rfl)) (fun _ _ _ h => h) (Or.inl ⟨by rfl, ?_⟩) ?_ ?_
                 rotate_left
                 ·intro w'
                  go_simp
                  with_reducible rfl
                 rotate_left
                 ·simp only [Act.put, List.setIfInBounds_toArray, List.set_cons_zero, List.set_cons_succ, i64_w, i32_w]
                  rfl
                 refine pure_ (i := 11) (N := some 114) (v := ?_) (a' := ?_) (zt 41 4095) rfl rfl (any_of HT_.out (by kernel_rfl)) (fun _ _ _ h => h) (Or.inl ⟨by rfl, ?_⟩) ?_ ?_
                 rotate_left
                 ·intro w'
                  go_simp
                  with_reducible rfl
                 rotate_left
                 ·simp only [Act.put, List.setIfInBounds_toArray, List.set_cons_zero, List.set_cons_succ, i64_w, i32_w]
                  rfl
                 refine pure_ (i := 12) (N := some 115) (v := ?_) (a' := ?_) (zt 41 8191) rfl rfl (any_of HT_.out (by kernel_rfl)) (fun _ _ _ h => h) (Or.inl ⟨by rfl, ?_⟩) ?_ ?_
                 rotate_left
                 ·intro w'
                  go_simp
                  with_reducible rfl
                 rotate_left
                 ·simp only [Act.put, List.setIfInBounds_toArray, List.set_cons_zero, List.set_cons_succ, i64_w, i32_w]
                  rfl
                 refine pure_ (i := 13) (N := some 116) (v := ?_) (a' := ?_) (zt 41 16383) rfl rfl (any_of HT_.out (by kernel_rfl)) (fun _ _ _ h => h) (Or.inl ⟨by rfl, ?_⟩) ?_ ?_
                 rotate_left
                 ·intro w'
                  go_simp
                  with_reducible rfl
                 rotate_left
                 ·simp only [Act.put, List.setIfInBounds_toArray, List.set_cons_zero, List.set_cons_succ, i64_w, i32_w]
                  rfl
                 refine pure_ (i := 15) (N := some 118) (v := ?_) (a' := ?_) (zt 41 49151) rfl rfl (any_of HT_.out (by kernel_rfl)) (fun _ _ _ h => h) (Or.inl ⟨by rfl, ?_⟩) ?_ ?_
                 rotate_left
                 ·intro w'
                  go_simp
                  with_reducible rfl
                 rotate_left
                 ·simp only [Act.put, List.setIfInBounds_toArray, List.set_cons_zero, List.set_cons_succ, i64_w, i32_w]
                  rfl
                 refine pure_ (i := 16) (N := some 119) (v := ?_) (a' := ?_) (zt 41 114687) rfl rfl (any_of HT_.out (by kernel_rfl)) (fun _ _ _ h => h) (Or.inl ⟨by rfl, ?_⟩) ?_ ?_
                 rotate_left
                 ·intro w'
                  go_simp
                  with_reducible rfl
                 rotate_left
                 ·simp only [Act.put, List.setIfInBounds_toArray, List.set_cons_zero, List.set_cons_succ, i64_w, i32_w]
                  rfl
                 refine pure_ (i := 17) (N := some 120) (v := ?_) (a' := ?_) #[true, true, true, true, true, true, true, true, true, true, true, true, true, true, false, true, true, true, false, false, false, false, false, false, false, false, false, false, false, false, false, false, false, false, false, false, false, false, false, false, false] rfl rfl (any_of HT_.out (by kernel_rfl)) (fun _ _ _ h => h) (Or.inl ⟨by rfl, ?_⟩) ?_ ?_
                 rotate_left
                 ·intro w'
                  go_simp
                  with_reducible rfl
                 rotate_left
                 ·simp only [Act.put, List.setIfInBounds_toArray, List.set_cons_zero, List.set_cons_succ, i64_w, i32_w]
                  rfl
                 refine take_ (i := 14) (N := some 117) (v := ?_) (a' := ?_) #[true, true, true, true, true, true, true, true, true, true, true, true, true, true, true, true, true, true, false, false, false, false, false, false, false, false, false, false, false, false, false, false, false, false, false, false, false, false, false, false, false] rfl rfl (take_ofW HT_.out HW_.out (by kernel_rfl)) (fun _ _ _ h => h) (Or.inl ⟨by rfl, ?_⟩) hHeld ?_ ?_
                 rotate_left
                 ·rintro w' ⟨s0, s1⟩
                  go_simp
                  with_reducible rfl
                 rotate_left
                 ·simp only [Act.put, List.setIfInBounds_toArray, List.set_cons_zero, List.set_cons_succ, i64_w, i32_w]
                  rfl
                 refine take_ (i := 18) (N := some 121) (v := ?_) (a' := ?_) #[true, true, true, true, true, true, true, true, true, true, true, true, true, true, true, true, true, true, true, false, false, false, false, false, false, false, false, false, false, false, false, false, false, false, false, false, false, false, false, false, false] rfl rfl (take_ofW HT_.out HW_.out (by kernel_rfl)) (fun _ _ _ h => h) (Or.inl ⟨by rfl, ?_⟩) hHeld ?_ ?_
                 rotate_left
                 ·rintro w' ⟨s0, s1⟩
                  go_simp
                  with_reducible rfl
                 rotate_left
                 ·simp only [Act.put, List.setIfInBounds_toArray, List.set_cons_zero, List.set_cons_succ, i64_w, i32_w]
                  rfl
                 refine pure_ (i := 19) (N := some 122) (v := ?_) (a' := ?_) (zt 41 1048575) rfl rfl (any_of HT_.out (by kernel_rfl)) (fun _ _ _ h => h) (Or.inl ⟨by rfl, ?_⟩) ?_ ?_
                 rotate_left
                 ·intro w'
                  go_simp
                  with_reducible rfl
                 rotate_left
                 ·simp only [Act.put, List.setIfInBounds_toArray, List.set_cons_zero, List.set_cons_succ, i64_w, i32_w]
                  rfl
                 refine pure_ (i := 20) (N := some 123) (v := ?_) (a' := ?_) (zt 41 2097151) rfl rfl (any_of HT_.out (by kernel_rfl)) (fun _ _ _ h => h) (Or.inl ⟨by rfl, ?_⟩) ?_ ?_
                 rotate_left
                 ·intro w'
                  go_simp
                  with_reducible rfl
                 rotate_left
                 ·simp only [Act.put, List.setIfInBounds_toArray, List.set_cons_zero, List.set_cons_succ, i64_w, i32_w]
                  rfl
                 refine pure_ (i := 21) (N := some 124) (v := ?_) (a' := ?_) (zt 41 4194303) rfl rfl (any_of HT_.out (by kernel_rfl)) (fun _ _ _ h => h) (Or.inl ⟨by rfl, ?_⟩) ?_ ?_
                 rotate_left
                 ·intro w'
                  go_simp
                  with_reducible rfl
                 rotate_left
                 ·simp only [Act.put, List.setIfInBounds_toArray, List.set_cons_zero, List.set_cons_succ, i64_w, i32_w]
                  rfl
                 refine pure_ (i := 22) (N := some 125) (v := undef) (a' := ?_) (zt 41 8388607) rfl rfl (any_of HT_.out (by kernel_rfl)) (fun _ _ _ h => h) (Or.inr ⟨by rfl, rfl⟩) ?_ ?_
                 rotate_left
                 ·simp only [Act.put, List.setIfInBounds_toArray, List.set_cons_zero, List.set_cons_succ, i64_w, i32_w]
                  rfl
                 refine pure_ (i := 23) (N := some 126) (v := undef) (a' := ?_) (zt 41 16777215) rfl rfl (any_of HT_.out (by kernel_rfl)) (fun _ _ _ h => h) (Or.inr ⟨by rfl, rfl⟩) ?_ ?_
                 rotate_left
                 ·simp only [Act.put, List.setIfInBounds_toArray, List.set_cons_zero, List.set_cons_succ, i64_w, i32_w]
                  rfl
                 refine pure_ (i := 24) (N := some 127) (v := undef) (a' := ?_) (zt 41 33554431) rfl rfl (any_of HT_.out (by kernel_rfl)) (fun _ _ _ h => h) (Or.inr ⟨by rfl, rfl⟩) ?_ ?_
                 rotate_left
                 ·simp only [Act.put, List.setIfInBounds_toArray, List.set_cons_zero, List.set_cons_succ, i64_w, i32_w]
                  rfl
                 refine pure_ (i := 25) (N := some 128) (v := undef) (a' := ?_) (zt 41 67108863) rfl rfl (any_of HT_.out (by kernel_rfl)) (fun _ _ _ h => h) (Or.inr ⟨by rfl, rfl⟩) ?_ ?_
                 rotate_left
                 ·simp only [Act.put, List.setIfInBounds_toArray, List.set_cons_zero, List.set_cons_succ, i64_w, i32_w]
                  rfl
                 refine pure_ (i := 26) (N := some 129) (v := undef) (a' := ?_) (zt 41 134217727) rfl rfl (any_of HT_.out (by kernel_rfl)) (fun _ _ _ h => h) (Or.inr ⟨by rfl, rfl⟩) ?_ ?_
                 rotate_left
                 ·simp only [Act.put, List.setIfInBounds_toArray, List.set_cons_zero, List.set_cons_succ, i64_w, i32_w]
                  rfl
                 refine pure_ (i := 27) (N := some 130) (v := undef) (a' := ?_) (zt 41 268435455) rfl rfl (any_of HT_.out (by kernel_rfl)) (fun _ _ _ h => h) (Or.inr ⟨by rfl, rfl⟩) ?_ ?_
                 rotate_left
                 ·simp only [Act.put, List.setIfInBounds_toArray, List.set_cons_zero, List.set_cons_succ, i64_w, i32_w]
                  rfl
                 refine pure_ (i := 28) (N := some 131) (v := undef) (a' := ?_) (zt 41 536870911) rfl rfl (any_of HT_.out (by kernel_rfl)) (fun _ _ _ h => h) (Or.inr ⟨by rfl, rfl⟩) ?_ ?_
                 rotate_left
                 ·simp only [Act.put, List.setIfInBounds_toArray, List.set_cons_zero, List.set_cons_succ, i64_w, i32_w]
                  rfl
                 refine pure_ (i := 29) (N := some 132) (v := undef) (a' := ?_) (zt 41 1073741823) rfl rfl (any_of HT_.out (by kernel_rfl)) (fun _ _ _ h => h) (Or.inr ⟨by rfl, rfl⟩) ?_ ?_
                 rotate_left
                 ·simp only [Act.put, List.setIfInBounds_toArray, List.set_cons_zero, List.set_cons_succ, i64_w, i32_w]
                  rfl
                 refine pure_ (i := 30) (N := some 133) (v := undef) (a' := ?_) (zt 41 2147483647) rfl rfl (any_of HT_.out (by kernel_rfl)) (fun _ _ _ h => h) (Or.inr ⟨by rfl, rfl⟩) ?_ ?_
                 rotate_left
                 ·simp only [Act.put, List.setIfInBounds_toArray, List.set_cons_zero, List.set_cons_succ, i64_w, i32_w]
                  rfl
                 refine pure_ (i := 31) (N := some 134) (v := undef) (a' := ?_) (zt 41 4294967295) rfl rfl (any_of HT_.out (by kernel_rfl)) (fun _ _ _ h => h) (Or.inr ⟨by rfl, rfl⟩) ?_ ?_
                 rotate_left
                 ·simp only [Act.put, List.setIfInBounds_toArray, List.set_cons_zero, List.set_cons_succ, i64_w, i32_w]
                  rfl
                 refine pure_ (i := 32) (N := some 135) (v := undef) (a' := ?_) (zt 41 8589934591) rfl rfl (any_of HT_.out (by kernel_rfl)) (fun _ _ _ h => h) (Or.inr ⟨by rfl, rfl⟩) ?_ ?_
                 rotate_left
                 ·simp only [Act.put, List.setIfInBounds_toArray, List.set_cons_zero, List.set_cons_succ, i64_w, i32_w]
                  rfl
                 refine pure_ (i := 33) (N := some 136) (v := undef) (a' := ?_) (zt 41 17179869183) rfl rfl (any_of HT_.out (by kernel_rfl)) (fun _ _ _ h => h) (Or.inr ⟨by rfl, rfl⟩) ?_ ?_
                 rotate_left
                 ·simp only [Act.put, List.setIfInBounds_toArray, List.set_cons_zero, List.set_cons_succ, i64_w, i32_w]
                  rfl
                 refine pure_ (i := 34) (N := some 137) (v := undef) (a' := ?_) (zt 41 34359738367) rfl rfl (any_of HT_.out (by kernel_rfl)) (fun _ _ _ h => h) (Or.inr ⟨by rfl, rfl⟩) ?_ ?_
                 rotate_left
                 ·simp only [Act.put, List.setIfInBounds_toArray, List.set_cons_zero, List.set_cons_succ, i64_w, i32_w]
                  rfl
                 refine pure_ (i := 35) (N := some 138) (v := undef) (a' := ?_) (zt 41 68719476735) rfl rfl (any_of HT_.out (by kernel_rfl)) (fun _ _ _ h => h) (Or.inr ⟨by rfl, rfl⟩) ?_ ?_
                 rotate_left
                 ·simp only [Act.put, List.setIfInBounds_toArray, List.set_cons_zero, List.set_cons_succ, i64_w, i32_w]
                  rfl
                 refine pure_ (i := 36) (N := some 139) (v := undef) (a' := ?_) (zt 41 137438953471) rfl rfl (any_of HT_.out (by kernel_rfl)) (fun _ _ _ h => h) (Or.inr ⟨by rfl, rfl⟩) ?_ ?_
                 rotate_left
                 ·simp only [Act.put, List.setIfInBounds_toArray, List.set_cons_zero, List.set_cons_succ, i64_w, i32_w]
                  rfl
                 refine pure_ (i := 37) (N := some 140) (v := undef) (a' := ?_) (zt 41 274877906943) rfl rfl (any_of HT_.out (by kernel_rfl)) (fun _ _ _ h => h) (Or.inr ⟨by rfl, rfl⟩) ?_ ?_
                 rotate_left
                 ·simp only [Act.put, List.setIfInBounds_toArray, List.set_cons_zero, List.set_cons_succ, i64_w, i32_w]
                  rfl
                 refine pure_ (i := 38) (N := some 141) (v := undef) (a' := ?_) (zt 41 549755813887) rfl rfl (any_of HT_.out (by kernel_rfl)) (fun _ _ _ h => h) (Or.inr ⟨by rfl, rfl⟩) ?_ ?_
                 rotate_left
                 ·simp only [Act.put, List.setIfInBounds_toArray, List.set_cons_zero, List.set_cons_succ, i64_w, i32_w]
                  rfl
                 refine pure_ (i := 39) (N := some 142) (v := undef) (a' := ?_) (zt 41 1099511627775) rfl rfl (any_of HT_.out (by kernel_rfl)) (fun _ _ _ h => h) (Or.inr ⟨by rfl, rfl⟩) ?_ ?_
                 rotate_left
                 ·simp only [Act.put, List.setIfInBounds_toArray, List.set_cons_zero, List.set_cons_succ, i64_w, i32_w]
                  rfl
                 refine pure_ (i := 40) (N := some 143) (v := ?_) (a' := ?_) #[true, true, true, true, true, true, true, true, true, true, true, true, true, true, true, true, true, true, true, true, true, true, true, true, true, true, true, true, true, true, true, true, true, true, true, true, true, true, true, true, true] rfl rfl (any_of HT_.out (by kernel_rfl)) (fun _ _ _ h => h) (Or.inl ⟨by rfl, ?_⟩) ?_ ?_
                 rotate_left
                 ·intro w'
                  go_simp
                  with_reducible rfl
                 rotate_left
                 ·simp only [Act.put, List.setIfInBounds_toArray, List.set_cons_zero, List.set_cons_succ, i64_w, i32_w]
                  rfl
                 refine done_ (done_of HT_.out (by kernel_rfl)) ?_
                 try go_wp2
                 go_meet
                 case rel => exact ⟨_, (false), (by first | rfl | (simp; done) | (simp [*]; done)), H', ⟨by have := HK1.out; have := HK2.out; have := HJ20.out; have := HJ32.out; have := HJ46.out; have := HJ57.out; first | omega | exact Nat.le_refl _⟩, ⟨by (try simp only [hl5_2]); (try simp only [hl5_32]); (try simp only [hl5_57]); (with_reducible repeat (first | apply Kd.S_alloc | apply Kd.S_drewN | apply Kd.S_drew)); exact HO_5.out⟩, ⟨by repeat (first | (with_reducible first | exact HB.out | apply zc1 | apply zc2 | apply zc3) | exact HB.out)⟩⟩
               (rw [if_pos c76] at H); (have c76b0 : ((rd l0 x6_1) == (rd l1 x7_2)) = true := beq_iff_eq.mpr c76); (have c76b1 : ((rd l0 x6_1) != (rd l1 x7_2)) = false := bne_eq_false_iff_eq.mpr c76); (clear c76); (obtain ⟨ji77, hji77⟩ : ∃ j_ : Int, (wrap64 (x6_1 + 1)) = j_ := ⟨_, rfl⟩); (replace H : (if 0 ≤ (ji77) then (if (ji77) < (x5_57.length : Int) then (if 0 ≤ (wrap64 (x7_2 + 1)) then (if (wrap64 (x7_2 + 1)) < ((rd_L3 x5_57 (ji77)).length : Int) then (if x6_1 < (x5_57.length : Int) then (if x7_2 < ((rd_L3 x5_57 x6_1).length : Int) then (coppicerref_shared.j6 kj57 l0 l1 x5_57 x6_1 x7_2 (decide ((wrap64 ((rd (rd_L3 x5_57 (ji77)) (wrap64 (x7_2 + 1))) + 1)) > (rd (rd_L3 x5_57 x6_1) x7_2)))) else (none)) else (none)) else (none)) else (none)) else (none)) else (none)) = some r := by first | (rw [hji77] at H; exact H) | (simp only [hji77] at H ⊢; exact H)); (have hji77w : (IntKind.i64.wrap (x6_1 + 1)) = ji77 := (i64_w _).trans hji77)
               by_cases c78 : 0 ≤ (ji77)
               rotate_left
               ·rw [if_neg c78] at H
                exact absurd H (by simp)
               (rw [if_pos c78] at H); (have c78b0 : decide (0 ≤ (ji77)) = true := decide_eq_true c78); (clear c78)
               by_cases c79 : (ji77) < (x5_57.length : Int)
               rotate_left
               ·rw [if_neg c79] at H
                exact absurd H (by simp)
               (rw [if_pos c79] at H); (have c79b0 : decide ((ji77) < (x5_57.length : Int)) = true := decide_eq_true c79); ((try (have c79b0h := c79b0; simp only [hl5_2, hl5_32, hl5_57] at c79b0h))); (clear c79); (obtain ⟨ji80, hji80⟩ : ∃ j_ : Int, (wrap64 (x7_2 + 1)) = j_ := ⟨_, rfl⟩); (replace H : (if 0 ≤ (ji80) then (if (ji80) < ((rd_L3 x5_57 (ji77)).length : Int) then (if x6_1 < (x5_57.length : Int) then (if x7_2 < ((rd_L3 x5_57 x6_1).length : Int) then (coppicerref_shared.j6 kj57 l0 l1 x5_57 x6_1 x7_2 (decide ((wrap64 ((rd (rd_L3 x5_57 (ji77)) (ji80)) + 1)) > (rd (rd_L3 x5_57 x6_1) x7_2)))) else (none)) else (none)) else (none)) else (none)) = some r := by first | (rw [hji80] at H; exact H) | (simp only [hji80] at H ⊢; exact H)); (have hji80w : (IntKind.i64.wrap (x7_2 + 1)) = ji80 := (i64_w _).trans hji80)
               by_cases c81 : 0 ≤ (ji80)
               rotate_left
               ·rw [if_neg c81] at H
                exact absurd H (by simp)
               (rw [if_pos c81] at H); (have c81b0 : decide (0 ≤ (ji80)) = true := decide_eq_true c81); (clear c81)
               by_cases c82 : (ji80) < ((rd_L3 x5_57 (ji77)).length : Int)
               rotate_left
               ·rw [if_neg c82] at H
                exact absurd H (by simp)
               (rw [if_pos c82] at H); (have c82b0 : decide ((ji80) < ((rd_L3 x5_57 (ji77)).length : Int)) = true := decide_eq_true c82); ((try (have c82b0h := c82b0; simp only [hl5_2, hl5_32, hl5_57] at c82b0h))); (clear c82)
               by_cases c83 : x6_1 < (x5_57.length : Int)
               rotate_left
               ·rw [if_neg c83] at H
                exact absurd H (by simp)
               (rw [if_pos c83] at H); (have c83b0 : decide (x6_1 < (x5_57.length : Int)) = true := decide_eq_true c83); ((try (have c83b0h := c83b0; simp only [hl5_2, hl5_32, hl5_57] at c83b0h))); (clear c83)
               by_cases c84 : x7_2 < ((rd_L3 x5_57 x6_1).length : Int)
               rotate_left
               ·rw [if_neg c84] at H
                exact absurd H (by simp)
               (rw [if_pos c84] at H); (have c84b0 : decide (x7_2 < ((rd_L3 x5_57 x6_1).length : Int)) = true := decide_eq_true c84); ((try (have c84b0h := c84b0; simp only [hl5_2, hl5_32, hl5_57] at c84b0h))); (clear c84)
               as_aux_lemma =>
                (have H' := Aside0.mk H); (clear H)
                try go_wp2
                (replace HO_5 := Aside0.mk (Kd.S_drew HO_5.out)); (replace HB := Aside0.mk (below_drew1 HB.out)); (have p161 : 0 ≤ (x6_1 : Int) := of_decide_eq_true (by assumption)); (have q161 : x6_1 < (l0.length : Int) := of_decide_eq_true (by assumption)); (obtain ⟨ad161, e161, hx161_0⟩ := Kd.at_int HR0.out x6_1 p161 q161); (have hw161_0 := hx161_0); (cases e161); (replace hx161_0 := (HB.out.cell (World.block_lt_of_cell? w _ hx161_0)).trans hx161_0); (replace p161 := eq_true p161); (replace q161 := eq_true q161); (have p162 : 0 ≤ (x7_2 : Int) := of_decide_eq_true (by assumption)); (have q162 : x7_2 < (l1.length : Int) := of_decide_eq_true (by assumption)); (obtain ⟨ad162, e162, hx162_0⟩ := Kd.at_int HR1.out x7_2 p162 q162); (have hw162_0 := hx162_0); (cases e162); (replace hx162_0 := (HB.out.cell (World.block_lt_of_cell? w _ hx162_0)).trans hx162_0); (replace p162 := eq_true p162); (replace q162 := eq_true q162); (have p163 : 0 ≤ ((ji77) : Int) := of_decide_eq_true (by assumption)); (have q163 : (ji77) < (x5_57.length : Int) := of_decide_eq_true (by assumption)); (obtain ⟨ad163, A163_0, c163_0, e163, hx163_0, hl163_0, hi163_0⟩ := at_L3 (Kd.S_reads' HO_5.out).2.2 (ji77) p163 q163); (obtain rfl : (⟨go14, 0, none⟩ : Addr) = ad163 := (by injection e163)); (obtain ⟨ce163, hce163, hMe163, hcc163⟩ := Kd.S_get HO_5.out [] (ji77) p163 (by first | exact q163 | exact of_decide_eq_true (by assumption) | (have e_ := (Kd.S_reads' HO_5.out).1; omega))); (obtain ⟨ve163_0, rfl, ge163_0⟩ := hMe163); (have hv163_0 := hcc163 0 _ rfl); (rw [Nat.add_zero, show ((Kd.slice 3 (Kd.int .i64))).sz = 1 from rfl, Nat.mul_one] at hv163_0)
                (replace hv163_0 := Option.some.inj (hv163_0.symm.trans hx163_0)); (rw [hv163_0] at ge163_0); (have HL163_0 := Aside0.mk (show Kd.R (Kd.int .i64) 3 _ _ _ _ (rd_L3 x5_57 (ji77)) from ge163_0)); (clear hv163_0 ge163_0); (have HX163_0 := Aside0.mk hx163_0); (clear hcc163 hce163)
                (first | simp only [add_plain] at hx163_0 | simp only [add_at] at hx163_0 | simp only [Addr.add, Nat.zero_add] at hx163_0 | skip)
                (have HR163_0 := Aside0.mk hi163_0); (have HC163_0 := Aside0.mk hl163_0); (clear hi163_0 hl163_0); (replace p163 := eq_true p163); (replace q163 := eq_true q163); (have p164 : 0 ≤ ((ji80) : Int) := of_decide_eq_true (by assumption)); (have q164 : (ji80) < ((rd_L3 x5_57 (ji77)).length : Int) := of_decide_eq_true (by assumption)); (obtain ⟨ad164, e164, hx164_0⟩ := Kd.at_int (by repeat (first | (with_reducible exact HR163_0.out) | (with_reducible refine Kd.C_alloc ?_ _) | (with_reducible refine Kd.C_drewN ?_ _) | (with_reducible refine Kd.C_drew ?_) | exact HR163_0.out)) (ji80) p164 q164); (cases e164); (replace p164 := eq_true p164); (replace q164 := eq_true q164); (have p165 : 0 ≤ (x6_1 : Int) := of_decide_eq_true (by assumption)); (have q165 : x6_1 < (x5_57.length : Int) := of_decide_eq_true (by assumption)); (obtain ⟨ad165, A165_0, c165_0, e165, hx165_0, hl165_0, hi165_0⟩ := at_L3 (Kd.S_reads' HO_5.out).2.2 x6_1 p165 q165); (obtain rfl : (⟨go14, 0, none⟩ : Addr) = ad165 := (by injection e165)); (obtain ⟨ce165, hce165, hMe165, hcc165⟩ := Kd.S_get HO_5.out [] x6_1 p165 (by first | exact q165 | exact of_decide_eq_true (by assumption) | (have e_ := (Kd.S_reads' HO_5.out).1; omega))); (obtain ⟨ve165_0, rfl, ge165_0⟩ := hMe165); (have hv165_0 := hcc165 0 _ rfl); (rw [Nat.add_zero, show ((Kd.slice 3 (Kd.int .i64))).sz = 1 from rfl, Nat.mul_one] at hv165_0); (replace hv165_0 := Option.some.inj (hv165_0.symm.trans hx165_0)); (rw [hv165_0] at ge165_0); (have HL165_0 := Aside0.mk (show Kd.R (Kd.int .i64) 3 _ _ _ _ (rd_L3 x5_57 x6_1) from ge165_0)); (clear hv165_0 ge165_0); (have HX165_0 := Aside0.mk hx165_0)
                clear hcc165 hce165
                (first | simp only [add_plain] at hx165_0 | simp only [add_at] at hx165_0 | simp only [Addr.add, Nat.zero_add] at hx165_0 | skip)
                (have HR165_0 := Aside0.mk hi165_0); (have HC165_0 := Aside0.mk hl165_0); (clear hi165_0 hl165_0); (replace p165 := eq_true p165); (replace q165 := eq_true q165); (have p166 : 0 ≤ (x7_2 : Int) := of_decide_eq_true (by assumption)); (have q166 : x7_2 < ((rd_L3 x5_57 x6_1).length : Int) := of_decide_eq_true (by assumption)); (obtain ⟨ad166, e166, hx166_0⟩ := Kd.at_int (by repeat (first | (with_reducible exact HR165_0.out) | (with_reducible refine Kd.C_alloc ?_ _) | (with_reducible refine Kd.C_drewN ?_ _) | (with_reducible refine Kd.C_drew ?_) | exact HR165_0.out)) x7_2 p166 q166); (cases e166); (replace p166 := eq_true p166); (replace q166 := eq_true q166)
                refine start_ (n := 41) (S := fun w' => w'.cell? (ad161.add (x6_1).toNat) = some (.int .u8 (rd l0 x6_1)) ∧ w'.cell? (ad162.add (x7_2).toNat) = some (.int .u8 (rd l1 x7_2)) ∧ w'.cell? ⟨go14, ((ji77)).toNat, none⟩ = some (.slice (some ad164) (rd_L3 x5_57 (ji77)).length c163_0) ∧ w'.cell? (ad164.add ((ji80)).toNat) = some (.int .i64 (rd (rd_L3 x5_57 (ji77)) (ji80))) ∧ w'.cell? ⟨go14, (x6_1).toNat, none⟩ = some (.slice (some ad166) (rd_L3 x5_57 x6_1).length c165_0) ∧ w'.cell? (ad166.add (x7_2).toNat) = some (.int .i64 (rd (rd_L3 x5_57 x6_1) x7_2))) (ds := []) #[false, false, false, false, false, false, false, false, false, false, false, false, false, false, false, false, false, false, false, false, false, false, false, false, false, false, false, false, false, false, false, false, false, false, false, false, false, false, false, false, false] (by kernel_rfl) rfl rfl ⟨((HB.out.cell (World.block_lt_of_cell? w _ hw161_0)).trans hw161_0), ((HB.out.cell (World.block_lt_of_cell? w _ hw162_0)).trans hw162_0), hx163_0, hx164_0, hx165_0, hx166_0⟩ (fun hHeld => ?_); refine with_tabW coppicerref_shared.tab13 coppicerref_shared.bits13 (fun HT_ HW_ => ?_)
                generalize wc.drew = w85 at HO_5 HB HL163_0 HL165_0 HR163_0 HR165_0 HX163_0 HX165_0 hx161_0 hx162_0 hx163_0 hx164_0 hx165_0 hx166_0 hHeld ⊢
                refine pure_ (i := 0) (N := some 103) (v := ?_) (a' := ?_) (zt 41 1) rfl rfl (any_of HT_.out (by kernel_rfl)) (fun _ _ _ h => h) (Or.inl ⟨by rfl, ?_⟩) ?_ ?_
                rotate_left
                ·intro w'
                 go_simp
                 with_reducible rfl
                rotate_left
                ·simp only [Act.put, List.setIfInBounds_toArray, List.set_cons_zero, List.set_cons_succ, i64_w, i32_w]
                 rfl
                refine pure_ (i := 1) (N := some 104) (v := ?_) (a' := ?_) (zt 41 3) rfl rfl (any_of HT_.out (by kernel_rfl)) (fun _ _ _ h => h) (Or.inl ⟨by rfl, ?_⟩) ?_ ?_
                rotate_left
                ·intro w'
                 go_simp
                 with_reducible rfl
                rotate_left
                ·simp only [Act.put, List.setIfInBounds_toArray, List.set_cons_zero, List.set_cons_succ, i64_w, i32_w]
                 rfl
                refine pure_ (i := 2) (N := some 105) (v := ?_) (a' := ?_) (zt 41 7) rfl rfl (any_of HT_.out (by kernel_rfl)) (fun _ _ _ h => h) (Or.inl ⟨by rfl, ?_⟩) ?_ ?_
                rotate_left
                ·intro w'
                 go_simp
                 with_reducible rfl
                rotate_left
                ·simp only [Act.put, List.setIfInBounds_toArray, List.set_cons_zero, List.set_cons_succ, i64_w, i32_w]
                 rfl
                refine pure_ (i := 3) (N := some 106) (v := ?_) (a' := ?_) (zt 41 15) rfl rfl (any_of HT_.out (by kernel_rfl)) (fun _ _ _ h => h) (Or.inl ⟨by rfl, ?_⟩) ?_ ?_
                rotate_left
                ·intro w'
                 go_simp
                 with_reducible rfl
                rotate_left
                ·simp only [Act.put, List.setIfInBounds_toArray, List.set_cons_zero, List.set_cons_succ, i64_w, i32_w]
                 rfl
                refine pure_ (i := 4) (N := some 107) (v := ?_) (a' := ?_) (zt 41 31) rfl rfl (any_of HT_.out (by kernel_rfl)) (fun _ _ _ h => h) (Or.inl ⟨by rfl, ?_⟩) ?_ ?_
                rotate_left
                ·intro w'
                 go_simp
                 with_reducible rfl
                rotate_left
                ·simp only [Act.put, List.setIfInBounds_toArray, List.set_cons_zero, List.set_cons_succ, i64_w, i32_w]
                 rfl
                refine pure_ (i := 5) (N := some 108) (v := ?_) (a' := ?_) (zt 41 63) rfl rfl (any_of HT_.out (by kernel_rfl)) (fun _ _ _ h => h) (Or.inl ⟨by rfl, ?_⟩) ?_ ?_
                rotate_left
                ·intro w'
                 go_simp
                 with_reducible rfl
                rotate_left
                ·simp only [Act.put, List.setIfInBounds_toArray, List.set_cons_zero, List.set_cons_succ, i64_w, i32_w]
                 rfl
                refine pure_ (i := 6) (N := some 109) (v := ?_) (a' := ?_) (zt 41 127) rfl rfl (any_of HT_.out (by kernel_rfl)) (fun _ _ _ h => h) (Or.inl ⟨by rfl, ?_⟩) ?_ ?_
                rotate_left
                ·intro w'
                 go_simp
                 with_reducible rfl
                rotate_left
                ·simp only [Act.put, List.setIfInBounds_toArray, List.set_cons_zero, List.set_cons_succ, i64_w, i32_w]
                 rfl
                refine pure_ (i := 7) (N := some 110) (v := ?_) (a' := ?_) (zt 41 255) rfl rfl (any_of HT_.out (by kernel_rfl)) (fun _ _ _ h => h) (Or.inl ⟨by rfl, ?_⟩) ?_ ?_
                rotate_left
                ·intro w'
                 go_simp
                 with_reducible rfl
                rotate_left
                ·simp only [Act.put, List.setIfInBounds_toArray, List.set_cons_zero, List.set_cons_succ, i64_w, i32_w]
                 rfl
                refine pure_ (i := 8) (N := some 111) (v := ?_) (a' := ?_) (zt 41 511) rfl rfl (any_of HT_.out (by kernel_rfl)) (fun _ _ _ h => h) (Or.inl ⟨by rfl, ?_⟩) ?_ ?_
                rotate_left
                ·intro w'
                 go_simp
                 with_reducible rfl
                rotate_left
                ·simp only [Act.put, List.setIfInBounds_toArray, List.set_cons_zero, List.set_cons_succ, i64_w, i32_w]
                 rfl
                refine pure_ (i := 9) (N := some 112) (v := ?_) (a' := ?_) (zt 41 1023) rfl rfl (any_of HT_.out (by kernel_rfl)) (fun _ _ _ h => h) (Or.inl ⟨by rfl, ?_⟩) ?_ ?_
                rotate_left
                ·intro w'
                 go_simp
                 with_reducible rfl
                rotate_left
                ·simp only [Act.put, List.setIfInBounds_toArray, List.set_cons_zero, List.set_cons_succ, i64_w, i32_w]
                 rfl
                refine pure_ (i := 10) (N := some 113) (v := ?_) (a' := ?_) (zt 41 2047) rfl rfl (any_of HT_.out (by kernel_rfl)) (fun _ _ _ h => h) (Or.inl ⟨by rfl, ?_⟩) ?_ ?_
                rotate_left
                ·intro w'
                 go_simp
                 with_reducible rfl
                rotate_left
                ·simp only [Act.put, List.setIfInBounds_toArray, List.set_cons_zero, List.set_cons_succ, i64_w, i32_w]
                 rfl
                refine pure_ (i := 11) (N := some 114) (v := ?_) (a' := ?_) (zt 41 4095) rfl rfl (any_of HT_.out (by kernel_rfl)) (fun _ _ _ h => h) (Or.inl ⟨by rfl, ?_⟩) ?_ ?_
                rotate_left
                ·intro w'
                 go_simp
                 with_reducible rfl
                rotate_left
                ·simp only [Act.put, List.setIfInBounds_toArray, List.set_cons_zero, List.set_cons_succ, i64_w, i32_w]
                 rfl
                refine pure_ (i := 12) (N := some 115) (v := ?_) (a' := ?_) (zt 41 8191) rfl rfl (any_of HT_.out (by kernel_rfl)) (fun _ _ _ h => h) (Or.inl ⟨by rfl, ?_⟩) ?_ ?_
                rotate_left
                ·intro w'
                 go_simp
                 with_reducible rfl
                rotate_left
                ·simp only [Act.put, List.setIfInBounds_toArray, List.set_cons_zero, List.set_cons_succ, i64_w, i32_w]
                 rfl
                refine pure_ (i := 13) (N := some 116) (v := ?_) (a' := ?_) (zt 41 16383) rfl rfl (any_of HT_.out (by kernel_rfl)) (fun _ _ _ h => h) (Or.inl ⟨by rfl, ?_⟩) ?_ ?_
                rotate_left
                ·intro w'
                 go_simp
                 with_reducible rfl
                rotate_left
                ·simp only [Act.put, List.setIfInBounds_toArray, List.set_cons_zero, List.set_cons_succ, i64_w, i32_w]
                 rfl
                refine pure_ (i := 15) (N := some 118) (v := ?_) (a' := ?_) (zt 41 49151) rfl rfl (any_of HT_.out (by kernel_rfl)) (fun _ _ _ h => h) (Or.inl ⟨by rfl, ?_⟩) ?_ ?_
                rotate_left
                ·intro w'
                 go_simp
                 with_reducible rfl
                rotate_left
                ·simp only [Act.put, List.setIfInBounds_toArray, List.set_cons_zero, List.set_cons_succ, i64_w, i32_w]
                 rfl
                refine pure_ (i := 16) (N := some 119) (v := ?_) (a' := ?_) (zt 41 114687) rfl rfl (any_of HT_.out (by kernel_rfl)) (fun _ _ _ h => h) (Or.inl ⟨by rfl, ?_⟩) ?_ ?_
                rotate_left
                ·intro w'
                 go_simp
                 with_reducible rfl
                rotate_left
                ·simp only [Act.put, List.setIfInBounds_toArray, List.set_cons_zero, List.set_cons_succ, i64_w, i32_w]
                 rfl
                refine pure_ (i := 17) (N := some 120) (v := ?_) (a' := ?_) #[true, true, true, true, true, true, true, true, true, true, true, true, true, true, false, true, true, true, false, false, false, false, false, false, false, false, false, false, false, false, false, false, false, false, false, false, false, false, false, false, false] rfl rfl (any_of HT_.out (by kernel_rfl)) (fun _ _ _ h => h) (Or.inl ⟨by rfl, ?_⟩) ?_ ?_
                rotate_left
                ·intro w'
                 go_simp
                 with_reducible rfl
                rotate_left
                ·simp only [Act.put, List.setIfInBounds_toArray, List.set_cons_zero, List.set_cons_succ, i64_w, i32_w]
                 rfl
                refine take_ (i := 14) (N := some 117) (v := ?_) (a' := ?_) #[true, true, true, true, true, true, true, true, true, true, true, true, true, true, true, true, true, true, false, false, false, false, false, false, false, false, false, false, false, false, false, false, false, false, false, false, false, false, false, false, false] rfl rfl (take_ofW HT_.out HW_.out (by kernel_rfl)) (fun _ _ _ h => h) (Or.inl ⟨by rfl, ?_⟩) hHeld ?_ ?_
                rotate_left
                ·rintro w' ⟨s0, s1, s2, s3, s4, s5⟩
                 go_simp
                 with_reducible rfl
                rotate_left
                ·simp only [Act.put, List.setIfInBounds_toArray, List.set_cons_zero, List.set_cons_succ, i64_w, i32_w]
                 rfl
                refine take_ (i := 18) (N := some 121) (v := ?_) (a' := ?_) #[true, true, true, true, true, true, true, true, true, true, true, true, true, true, true, true, true, true, true, false, false, false, false, false, false, false, false, false, false, false, false, false, false, false, false, false, false, false, false, false, false] rfl rfl (take_ofW HT_.out HW_.out (by kernel_rfl)) (fun _ _ _ h => h) (Or.inl ⟨by rfl, ?_⟩) hHeld ?_ ?_
                rotate_left
                ·rintro w' ⟨s0, s1, s2, s3, s4, s5⟩
                 go_simp
                 with_reducible rfl
                rotate_left
                ·simp only [Act.put, List.setIfInBounds_toArray, List.set_cons_zero, List.set_cons_succ, i64_w, i32_w]
                 rfl
                refine pure_ (i := 19) (N := some 122) (v := ?_) (a' := ?_) (zt 41 1048575) rfl rfl (any_of HT_.out (by kernel_rfl)) (fun _ _ _ h => h) (Or.inl ⟨by rfl, ?_⟩) ?_ ?_
                rotate_left
                ·intro w'
                 go_simp
                 with_reducible rfl
                rotate_left
                ·simp only [Act.put, List.setIfInBounds_toArray, List.set_cons_zero, List.set_cons_succ, i64_w, i32_w]
                 rfl
                refine pure_ (i := 20) (N := some 123) (v := ?_) (a' := ?_) (zt 41 2097151) rfl rfl (any_of HT_.out (by kernel_rfl)) (fun _ _ _ h => h) (Or.inl ⟨by rfl, ?_⟩) ?_ ?_
                rotate_left
                ·intro w'
                 go_simp
                 with_reducible rfl
                rotate_left
                ·simp only [Act.put, List.setIfInBounds_toArray, List.set_cons_zero, List.set_cons_succ, i64_w, i32_w]
                 rfl
                refine pure_ (i := 21) (N := some 124) (v := ?_) (a' := ?_) (zt 41 4194303) rfl rfl (any_of HT_.out (by kernel_rfl)) (fun _ _ _ h => h) (Or.inl ⟨by rfl, ?_⟩) ?_ ?_
                rotate_left
                ·intro w'
                 go_simp
                 with_reducible rfl
                rotate_left
                ·simp only [Act.put, List.setIfInBounds_toArray, List.set_cons_zero, List.set_cons_succ, i64_w, i32_w]
                 rfl
                refine pure_ (i := 22) (N := some 125) (v := ?_) (a' := ?_) (zt 41 8388607) rfl rfl (any_of HT_.out (by kernel_rfl)) (fun _ _ _ h => h) (Or.inl ⟨by rfl, ?_⟩) ?_ ?_
                rotate_left
                ·intro w'
                 go_simp
                 with_reducible rfl
                rotate_left
                ·simp only [Act.put, List.setIfInBounds_toArray, List.set_cons_zero, List.set_cons_succ, i64_w, i32_w]
                 rfl
                refine pure_ (i := 23) (N := some 126) (v := ?_) (a' := ?_) (zt 41 16777215) rfl rfl (any_of HT_.out (by kernel_rfl)) (fun _ _ _ h => h) (Or.inl ⟨by rfl, ?_⟩) ?_ ?_
                rotate_left
                ·intro w'
                 go_simp
                 with_reducible rfl
                rotate_left
                ·simp only [Act.put, List.setIfInBounds_toArray, List.set_cons_zero, List.set_cons_succ, i64_w, i32_w]
                 rfl
                refine pure_ (i := 24) (N := some 127) (v := ?_) (a' := ?_) (zt 41 33554431) rfl rfl (any_of HT_.out (by kernel_rfl)) (fun _ _ _ h => h) (Or.inl ⟨by rfl, ?_⟩) ?_ ?_
                rotate_left
                ·intro w'
                 go_simp
                 with_reducible rfl
                rotate_left
                ·simp only [Act.put, List.setIfInBounds_toArray, List.set_cons_zero, List.set_cons_succ, i64_w, i32_w]
                 rfl
                refine pure_ (i := 25) (N := some 128) (v := ?_) (a' := ?_) (zt 41 67108863) rfl rfl (any_of HT_.out (by kernel_rfl)) (fun _ _ _ h => h) (Or.inl ⟨by rfl, ?_⟩) ?_ ?_
                rotate_left
                ·intro w'
                 go_simp
                 with_reducible rfl
                rotate_left
                ·simp only [Act.put, List.setIfInBounds_toArray, List.set_cons_zero, List.set_cons_succ, i64_w, i32_w]
                 rfl
                refine pure_ (i := 27) (N := some 130) (v := ?_) (a' := ?_) (zt 41 201326591) rfl rfl (any_of HT_.out (by kernel_rfl)) (fun _ _ _ h => h) (Or.inl ⟨by rfl, ?_⟩) ?_ ?_
                rotate_left
                ·intro w'
                 go_simp
                 with_reducible rfl
                rotate_left
                ·simp only [Act.put, List.setIfInBounds_toArray, List.set_cons_zero, List.set_cons_succ, i64_w, i32_w]
                 rfl
                refine pure_ (i := 28) (N := some 131) (v := ?_) (a' := ?_) (zt 41 469762047) rfl rfl (any_of HT_.out (by kernel_rfl)) (fun _ _ _ h => h) (Or.inl ⟨by rfl, ?_⟩) ?_ ?_
                rotate_left
                ·intro w'
                 go_simp
                 with_reducible rfl
                rotate_left
                ·simp only [Act.put, List.setIfInBounds_toArray, List.set_cons_zero, List.set_cons_succ, i64_w, i32_w]
                 rfl
                refine pure_ (i := 32) (N := some 135) (v := ?_) (a' := ?_) (zt 41 4764729343) rfl rfl (any_of HT_.out (by kernel_rfl)) (fun _ _ _ h => h) (Or.inl ⟨by rfl, ?_⟩) ?_ ?_
                rotate_left
                ·intro w'
                 go_simp
                 with_reducible rfl
                rotate_left
                ·simp only [Act.put, List.setIfInBounds_toArray, List.set_cons_zero, List.set_cons_succ, i64_w, i32_w]
                 rfl
                refine pure_ (i := 33) (N := some 136) (v := ?_) (a' := ?_) (zt 41 13354663935) rfl rfl (any_of HT_.out (by kernel_rfl)) (fun _ _ _ h => h) (Or.inl ⟨by rfl, ?_⟩) ?_ ?_
                rotate_left
                ·intro w'
                 go_simp
                 with_reducible rfl
                rotate_left
                ·simp only [Act.put, List.setIfInBounds_toArray, List.set_cons_zero, List.set_cons_succ, i64_w, i32_w]
                 rfl
                refine pure_ (i := 34) (N := some 137) (v := ?_) (a' := ?_) (zt 41 30534533119) rfl rfl (any_of HT_.out (by kernel_rfl)) (fun _ _ _ h => h) (Or.inl ⟨by rfl, ?_⟩) ?_ ?_
                rotate_left
                ·intro w'
                 go_simp
                 with_reducible rfl
                rotate_left
                ·simp only [Act.put, List.setIfInBounds_toArray, List.set_cons_zero, List.set_cons_succ, i64_w, i32_w]
                 rfl
                refine pure_ (i := 36) (N := some 139) (v := ?_) (a' := ?_) #[true, true, true, true, true, true, true, true, true, true, true, true, true, true, true, true, true, true, true, true, true, true, true, true, true, true, false, true, true, false, false, false, true, true, true, false, true, false, false, false, false] rfl rfl (any_of HT_.out (by kernel_rfl)) (fun _ _ _ h => h) (Or.inl ⟨by rfl, ?_⟩) ?_ ?_
                rotate_left
                ·intro w'
                 go_simp
                 with_reducible rfl
                rotate_left
                ·simp only [Act.put, List.setIfInBounds_toArray, List.set_cons_zero, List.set_cons_succ, i64_w, i32_w]
                 rfl
                refine take_ (i := 26) (N := some 129) (v := ?_) (a' := ?_) #[true, true, true, true, true, true, true, true, true, true, true, true, true, true, true, true, true, true, true, true, true, true, true, true, true, true, true, true, true, false, false, false, true, true, true, false, true, false, false, false, false] rfl rfl (take_ofW HT_.out HW_.out (by kernel_rfl)) (fun _ _ _ h => h) (Or.inl ⟨by rfl, ?_⟩) hHeld ?_ ?_
                rotate_left
                ·rintro w' ⟨s0, s1, s2, s3, s4, s5⟩
                 go_simp
                 with_reducible rfl
                rotate_left
                ·simp only [Act.put, List.setIfInBounds_toArray, List.set_cons_zero, List.set_cons_succ, i64_w, i32_w]
                 rfl
                refine pure_ (i := 29) (N := some 132) (v := ?_) (a' := ?_) #[true, true, true, true, true, true, true, true, true, true, true, true, true, true, true, true, true, true, true, true, true, true, true, true, true, true, true, true, true, true, false, false, true, true, true, false, true, false, false, false, false] rfl rfl (any_of HT_.out (by kernel_rfl)) (fun _ _ _ h => h) (Or.inl ⟨by rfl, ?_⟩) ?_ ?_
                rotate_left
                ·intro w'
                 go_simp
                 with_reducible rfl
                rotate_left
                ·simp only [Act.put, List.setIfInBounds_toArray, List.set_cons_zero, List.set_cons_succ, i64_w, i32_w]
                 rfl
                refine take_ (i := 30) (N := some 133) (v := ?_) (a' := ?_) #[true, true, true, true, true, true, true, true, true, true, true, true, true, true, true, true, true, true, true, true, true, true, true, true, true, true, true, true, true, true, true, false, true, true, true, false, true, false, false, false, false] rfl rfl (take_ofW HT_.out HW_.out (by kernel_rfl)) (fun _ _ _ h => h) (Or.inl ⟨by rfl, ?_⟩) hHeld ?_ ?_
                rotate_left
                ·rintro w' ⟨s0, s1, s2, s3, s4, s5⟩
                 go_simp
                 with_reducible rfl
                rotate_left
                ·simp only [Act.put, List.setIfInBounds_toArray, List.set_cons_zero, List.set_cons_succ, i64_w, i32_w]
                 rfl
                refine pure_ (i := 31) (N := some 134) (v := ?_) (a' := ?_) #[true, true, true, true, true, true, true, true, true, true, true, true, true, true, true, true, true, true, true, true, true, true, true, true, true, true, true, true, true, true, true, true, true, true, true, false, true, false, false, false, false] rfl rfl (any_of HT_.out (by kernel_rfl)) (fun _ _ _ h => h) (Or.inl ⟨by rfl, ?_⟩) ?_ ?_
                rotate_left
                ·intro w'
                 go_simp
                 with_reducible rfl
                rotate_left
                ·simp only [Act.put, List.setIfInBounds_toArray, List.set_cons_zero, List.set_cons_succ, i64_w, i32_w]
                 rfl
                refine take_ (i := 35) (N := some 138) (v := ?_) (a' := ?_) #[true, true, true, true, true, true, true, true, true, true, true, true, true, true, true, true, true, true, true, true, true, true, true, true, true, true, true, true, true, true, true, true, true, true, true, true, true, false, false, false, false] rfl rfl (take_ofW HT_.out HW_.out (by kernel_rfl)) (fun _ _ _ h => h) (Or.inl ⟨by rfl, ?_⟩) hHeld ?_ ?_
                rotate_left
                ·rintro w' ⟨s0, s1, s2, s3, s4, s5⟩
                 go_simp
                 with_reducible rfl
                rotate_left
                ·simp only [Act.put, List.setIfInBounds_toArray, List.set_cons_zero, List.set_cons_succ, i64_w, i32_w]
                 rfl
                refine pure_ (i := 37) (N := some 140) (v := ?_) (a' := ?_) #[true, true, true, true, true, true, true, true, true, true, true, true, true, true, true, true, true, true, true, true, true, true, true, true, true, true, true, true, true, true, true, true, true, true, true, true, true, true, false, false, false] rfl rfl (any_of HT_.out (by kernel_rfl)) (fun _ _ _ h => h) (Or.inl ⟨by rfl, ?_⟩) ?_ ?_
                rotate_left
                ·intro w'
                 go_simp
                 with_reducible rfl
                rotate_left
                ·simp only [Act.put, List.setIfInBounds_toArray, List.set_cons_zero, List.set_cons_succ, i64_w, i32_w]
                 rfl
                refine take_ (i := 38) (N := some 141) (v := ?_) (a' := ?_) #[true, true, true, true, true, true, true, true, true, true, true, true, true, true, true, true, true, true, true, true, true, true, true, true, true, true, true, true, true, true, true, true, true, true, true, true, true, true, true, false, false] rfl rfl (take_ofW HT_.out HW_.out (by kernel_rfl)) (fun _ _ _ h => h) (Or.inl ⟨by rfl, ?_⟩) hHeld ?_ ?_
                rotate_left
                ·rintro w' ⟨s0, s1, s2, s3, s4, s5⟩
                 go_simp
                 with_reducible rfl
                rotate_left
                ·simp only [Act.put, List.setIfInBounds_toArray, List.set_cons_zero, List.set_cons_succ, i64_w, i32_w]
                 rfl
                refine pure_ (i := 39) (N := some 142) (v := ?_) (a' := ?_) (zt 41 1099511627775) rfl rfl (any_of HT_.out (by kernel_rfl)) (fun _ _ _ h => h) (Or.inl ⟨by rfl, ?_⟩) ?_ ?_
                rotate_left
                ·intro w'
                 go_simp
                 with_reducible rfl
                rotate_left
                ·simp only [Act.put, List.setIfInBounds_toArray, List.set_cons_zero, List.set_cons_succ, i64_w, i32_w]
                 rfl
                refine pure_ (i := 40) (N := some 143) (v := ?_) (a' := ?_) #[true, true, true, true, true, true, true, true, true, true, true, true, true, true, true, true, true, true, true, true, true, true, true, true, true, true, true, true, true, true, true, true, true, true, true, true, true, true, true, true, true] rfl rfl (any_of HT_.out (by kernel_rfl)) (fun _ _ _ h => h) (Or.inl ⟨by rfl, ?_⟩) ?_ ?_
                rotate_left
                ·intro w'
                 go_simp
                 with_reducible rfl
                rotate_left
                ·simp only [Act.put, List.setIfInBounds_toArray, List.set_cons_zero, List.set_cons_succ, i64_w, i32_w]
                 rfl
                refine done_ (done_of HT_.out (by kernel_rfl)) ?_
                try go_wp2
                go_meet
                case rel => exact ⟨_, (decide ((wrap64 ((rd (rd_L3 x5_57 (ji77)) (ji80)) + 1)) > (rd (rd_L3 x5_57 x6_1) x7_2))), (by first | rfl | (simp; done) | (simp only [← hji77, ← hji80] <;> (first | rfl | simp)) | (simp [*]; done)), H', ⟨by have := HK1.out; have := HK2.out; have := HJ20.out; have := HJ32.out; have := HJ46.out; have := HJ57.out; first | omega | exact Nat.le_refl _⟩, ⟨by (try simp only [hl5_2]); (try simp only [hl5_32]); (try simp only [hl5_57]); (with_reducible repeat (first | apply Kd.S_alloc | apply Kd.S_drewN | apply Kd.S_drew)); exact HO_5.out⟩, ⟨by repeat (first | (with_reducible first | exact HB.out | apply zc1 | apply zc2 | apply zc3) | exact HB.out)⟩⟩
              case rest =>
               (clear HC71); (try clear p2); (try clear c7); (try clear c72); (try clear c72b0); (try clear c73); (try clear c73b0); (try clear c74); (try clear c75); (obtain ⟨kq, x143_70, rfl, HA, HJ70, HO_5, HB⟩ := hcut)
               cases kq with
               | zero => exact absurd HA.out (by simp [coppicerref_shared.j6])
               | succ kj70 =>
                (have H := HA.out); (clear HA); (simp only [coppicerref_shared.j6] at H)
                by_cases c89 : x143_70 = true
                rotate_left
                ·replace c89 := Bool.eq_false_iff.mpr c89
                 (subst c89); (have H1 : (coppicerref_shared.j7 kj70 l0 l1 x5_57 x6_1 x7_2) = some r := by rw [if_neg (show ¬ (false = true) by decide)] at H; exact H); (clear H); (have H := H1); (clear H1)
                 as_aux_lemma =>
                  (have H' := Aside0.mk H); (clear H)
                  go_wp2
                  (try simp only [← hl5_32, ← hl5_57])
                  go_meet
                  case rel => exact ⟨_, (x5_57), H', ⟨by have := HK1.out; have := HK2.out; have := HJ20.out; have := HJ32.out; have := HJ46.out; have := HJ57.out; have := HJ70.out; first | omega | exact Nat.le_refl _⟩, ⟨by (try simp only [hl5_2]); (try simp only [hl5_32]); (try simp only [hl5_57]); (with_reducible repeat (first | apply Kd.S_alloc | apply Kd.S_drewN | apply Kd.S_drew)); exact HO_5.out⟩, ⟨by repeat (first | (with_reducible first | exact HB.out | apply zc1 | apply zc2 | apply zc3) | exact HB.out)⟩⟩
                (subst c89); (have H1 : (if 0 ≤ x6_1 then (if x6_1 < (x5_57.length : Int) then (if 0 ≤ (wrap64 (x6_1 + 1)) then (if (wrap64 (x6_1 + 1)) < (x5_57.length : Int) then (if 0 ≤ (wrap64 (x7_2 + 1)) then (if (wrap64 (x7_2 + 1)) < ((rd_L3 x5_57 (wrap64 (x6_1 + 1))).length : Int) then (if 0 ≤ x7_2 then (if x7_2 < ((rd_L3 x5_57 x6_1).length : Int) then (coppicerref_shared.j7 kj70 l0 l1 (x5_57.set (x6_1 : Int).toNat ((rd_L3 x5_57 x6_1).set (x7_2 : Int).toNat (wrap64 ((rd (rd_L3 x5_57 (wrap64 (x6_1 + 1))) (wrap64 (x7_2 + 1))) + 1)))) x6_1 x7_2) else (none)) else (none)) else (none)) else (none)) else (none)) else (none)) else (none)) else (none)) = some r := by rw [if_pos rfl] at H; exact H); (clear H); (have H := H1); (clear H1)
                by_cases c90 : 0 ≤ x6_1
                rotate_left
                ·rw [if_neg c90] at H
                 exact absurd H (by simp)
                (rw [if_pos c90] at H); (have c90b0 : decide (0 ≤ x6_1) = true := decide_eq_true c90); (clear c90)
                by_cases c91 : x6_1 < (x5_57.length : Int)
                rotate_left
                ·rw [if_neg c91] at H
                 exact absurd H (by simp)
                (rw [if_pos c91] at H); (have c91b0 : decide (x6_1 < (x5_57.length : Int)) = true := decide_eq_true c91); ((try (have c91b0h := c91b0; simp only [hl5_2, hl5_32, hl5_57] at c91b0h))); (clear c91); (obtain ⟨ji92, hji92⟩ : ∃ j_ : Int, (wrap64 (x6_1 + 1)) = j_ := ⟨_, rfl⟩); (replace H : (if 0 ≤ (ji92) then (if (ji92) < (x5_57.length : Int) then (if 0 ≤ (wrap64 (x7_2 + 1)) then (if (wrap64 (x7_2 + 1)) < ((rd_L3 x5_57 (ji92)).length : Int) then (if 0 ≤ x7_2 then (if x7_2 < ((rd_L3 x5_57 x6_1).length : Int) then (coppicerref_shared.j7 kj70 l0 l1 (x5_57.set (x6_1 : Int).toNat ((rd_L3 x5_57 x6_1).set (x7_2 : Int).toNat (wrap64 ((rd (rd_L3 x5_57 (ji92)) (wrap64 (x7_2 + 1))) + 1)))) x6_1 x7_2) else (none)) else (none)) else (none)) else (none)) else (none)) else (none)) = some r := by first | (rw [hji92] at H; exact H) | (simp only [hji92] at H ⊢; exact H)); (have hji92w : (IntKind.i64.wrap (x6_1 + 1)) = ji92 := (i64_w _).trans hji92)
                by_cases c93 : 0 ≤ (ji92)
                rotate_left
                ·rw [if_neg c93] at H
                 exact absurd H (by simp)
                (rw [if_pos c93] at H); (have c93b0 : decide (0 ≤ (ji92)) = true := decide_eq_true c93); (clear c93)
                by_cases c94 : (ji92) < (x5_57.length : Int)
                rotate_left
                ·rw [if_neg c94] at H
                 exact absurd H (by simp)
                (rw [if_pos c94] at H); (have c94b0 : decide ((ji92) < (x5_57.length : Int)) = true := decide_eq_true c94); ((try (have c94b0h := c94b0; simp only [hl5_2, hl5_32, hl5_57] at c94b0h))); (clear c94); (obtain ⟨ji95, hji95⟩ : ∃ j_ : Int, (wrap64 (x7_2 + 1)) = j_ := ⟨_, rfl⟩); (replace H : (if 0 ≤ (ji95) then (if (ji95) < ((rd_L3 x5_57 (ji92)).length : Int) then (if 0 ≤ x7_2 then (if x7_2 < ((rd_L3 x5_57 x6_1).length : Int) then (coppicerref_shared.j7 kj70 l0 l1 (x5_57.set (x6_1 : Int).toNat ((rd_L3 x5_57 x6_1).set (x7_2 : Int).toNat (wrap64 ((rd (rd_L3 x5_57 (ji92)) (ji95)) + 1)))) x6_1 x7_2) else (none)) else (none)) else (none)) else (none)) = some r := by first | (rw [hji95] at H; exact H) | (simp only [hji95] at H ⊢; exact H)); (have hji95w : (IntKind.i64.wrap (x7_2 + 1)) = ji95 := (i64_w _).trans hji95)
                by_cases c96 : 0 ≤ (ji95)
                rotate_left
                ·rw [if_neg c96] at H
                 exact absurd H (by simp)
                (rw [if_pos c96] at H); (have c96b0 : decide (0 ≤ (ji95)) = true := decide_eq_true c96); (clear c96)
                by_cases c97 : (ji95) < ((rd_L3 x5_57 (ji92)).length : Int)
                rotate_left
                ·rw [if_neg c97] at H
                 exact absurd H (by simp)
                (rw [if_pos c97] at H); (have c97b0 : decide ((ji95) < ((rd_L3 x5_57 (ji92)).length : Int)) = true := decide_eq_true c97); ((try (have c97b0h := c97b0; simp only [hl5_2, hl5_32, hl5_57] at c97b0h))); (clear c97)
                by_cases c98 : 0 ≤ x7_2
                rotate_left
                ·rw [if_neg c98] at H
                 exact absurd H (by simp)
                (rw [if_pos c98] at H); (have c98b0 : decide (0 ≤ x7_2) = true := decide_eq_true c98); (clear c98)
                by_cases c99 : x7_2 < ((rd_L3 x5_57 x6_1).length : Int)
                rotate_left
                ·rw [if_neg c99] at H
                 exact absurd H (by simp)
                (rw [if_pos c99] at H); (have c99b0 : decide (x7_2 < ((rd_L3 x5_57 x6_1).length : Int)) = true := decide_eq_true c99); ((try (have c99b0h := c99b0; simp only [hl5_2, hl5_32, hl5_57] at c99b0h))); (clear c99); (obtain ⟨y170, hy170⟩ : ∃ y_ : List Int, y_ = ((rd_L3 x5_57 x6_1).set (x7_2 : Int).toNat (wrap64 ((rd (rd_L3 x5_57 (ji92)) (ji95)) + 1))) := ⟨_, rfl⟩); (replace H : (coppicerref_shared.j7 kj70 l0 l1 (x5_57.set (x6_1 : Int).toNat y170) x6_1 x7_2) = some r := by first | (rw [hy170]; with_reducible exact H) | (have H2_ := (Option.bind_some _ _).symm.trans H; rw [hy170]; with_reducible exact H2_) | (have H2_ := (Option.bind_some _ _).symm.trans H; with_reducible exact H2_) | with_reducible exact H | (rw [hy170]; exact H) | exact H); (have Ny170 := Aside0.mk hy170); (clear hy170); (obtain ⟨y172, hy172⟩ : ∃ y_ : List (List Int), y_ = (x5_57.set (x6_1 : Int).toNat y170) := ⟨_, rfl⟩); (replace H : (coppicerref_shared.j7 kj70 l0 l1 y172 x6_1 x7_2) = some r := by first | (rw [hy172]; with_reducible exact H) | (have H2_ := (Option.bind_some _ _).symm.trans H; rw [hy172]; with_reducible exact H2_) | (have H2_ := (Option.bind_some _ _).symm.trans H; with_reducible exact H2_) | with_reducible exact H | (rw [hy172]; exact H) | exact H); (have Ny172 := Aside0.mk hy172); (clear hy172)
                as_aux_lemma =>
                 (have H' := Aside0.mk H); (clear H)
                 try go_wp2
                 (replace HO_5 := Aside0.mk (Kd.S_drew HO_5.out)); (replace HB := Aside0.mk (below_drew1 HB.out)); (have p167 : 0 ≤ (x6_1 : Int) := of_decide_eq_true (by assumption)); (have q167 : x6_1 < (x5_57.length : Int) := of_decide_eq_true (by assumption)); (obtain ⟨ad167, A167_0, c167_0, e167, hx167_0, hl167_0, hi167_0⟩ := at_L3 (Kd.S_reads' HO_5.out).2.2 x6_1 p167 q167); (obtain rfl : (⟨go14, 0, none⟩ : Addr) = ad167 := (by injection e167)); (obtain ⟨ce167, hce167, hMe167, hcc167⟩ := Kd.S_get HO_5.out [] x6_1 p167 (by first | exact q167 | exact of_decide_eq_true (by assumption) | (have e_ := (Kd.S_reads' HO_5.out).1; omega))); (obtain ⟨ve167_0, rfl, ge167_0⟩ := hMe167); (have hv167_0 := hcc167 0 _ rfl); (rw [Nat.add_zero, show ((Kd.slice 3 (Kd.int .i64))).sz = 1 from rfl, Nat.mul_one] at hv167_0); (replace hv167_0 := Option.some.inj (hv167_0.symm.trans hx167_0)); (rw [hv167_0] at ge167_0); (have HL167_0 := Aside0.mk (show Kd.R (Kd.int .i64) 3 _ _ _ _ (rd_L3 x5_57 x6_1) from ge167_0)); (clear hv167_0 ge167_0); (have HX167_0 := Aside0.mk hx167_0); (clear hcc167 hce167)
                 (first | simp only [add_plain] at hx167_0 | simp only [add_at] at hx167_0 | simp only [Addr.add, Nat.zero_add] at hx167_0 | skip)
                 (have HR167_0 := Aside0.mk hi167_0); (have HC167_0 := Aside0.mk hl167_0); (clear hi167_0 hl167_0); (replace p167 := eq_true p167); (replace q167 := eq_true q167); (have p168 : 0 ≤ ((ji92) : Int) := of_decide_eq_true (by assumption)); (have q168 : (ji92) < (x5_57.length : Int) := of_decide_eq_true (by assumption)); (obtain ⟨ad168, A168_0, c168_0, e168, hx168_0, hl168_0, hi168_0⟩ := at_L3 (Kd.S_reads' HO_5.out).2.2 (ji92) p168 q168); (obtain rfl : (⟨go14, 0, none⟩ : Addr) = ad168 := (by injection e168)); (obtain ⟨ce168, hce168, hMe168, hcc168⟩ := Kd.S_get HO_5.out [] (ji92) p168 (by first | exact q168 | exact of_decide_eq_true (by assumption) | (have e_ := (Kd.S_reads' HO_5.out).1; omega))); (obtain ⟨ve168_0, rfl, ge168_0⟩ := hMe168); (have hv168_0 := hcc168 0 _ rfl); (rw [Nat.add_zero, show ((Kd.slice 3 (Kd.int .i64))).sz = 1 from rfl, Nat.mul_one] at hv168_0); (replace hv168_0 := Option.some.inj (hv168_0.symm.trans hx168_0)); (rw [hv168_0] at ge168_0); (have HL168_0 := Aside0.mk (show Kd.R (Kd.int .i64) 3 _ _ _ _ (rd_L3 x5_57 (ji92)) from ge168_0)); (clear hv168_0 ge168_0); (have HX168_0 := Aside0.mk hx168_0); (clear hcc168 hce168)
                 (first | simp only [add_plain] at hx168_0 | simp only [add_at] at hx168_0 | simp only [Addr.add, Nat.zero_add] at hx168_0 | skip)
                 (have HR168_0 := Aside0.mk hi168_0); (have HC168_0 := Aside0.mk hl168_0); (clear hi168_0 hl168_0); (replace p168 := eq_true p168); (replace q168 := eq_true q168); (have p169 : 0 ≤ ((ji95) : Int) := of_decide_eq_true (by assumption)); (have q169 : (ji95) < ((rd_L3 x5_57 (ji92)).length : Int) := of_decide_eq_true (by assumption)); (obtain ⟨ad169, e169, hx169_0⟩ := Kd.at_int (by repeat (first | (with_reducible exact HR168_0.out) | (with_reducible refine Kd.C_alloc ?_ _) | (with_reducible refine Kd.C_drewN ?_ _) | (with_reducible refine Kd.C_drew ?_) | exact HR168_0.out)) (ji95) p169 q169); (cases e169); (replace p169 := eq_true p169); (replace q169 := eq_true q169); (have p100 : 0 ≤ (x7_2 : Int) := of_decide_eq_true (by assumption)); (have q100 : (x7_2 : Int) < (((rd_L3 x5_57 x6_1).length : Int) : Int) := of_decide_eq_true (by assumption)); (obtain ⟨go100, co100, eo100, gb100, gl100, cl100, HG100⟩ := Kd.R_form HL167_0.out (by omega))
                 (first | cases eo100 | (injection eo100 with ea_ en_ ec_; (first | subst ea_ | (injection ea_ with ea_; subst ea_)); subst ec_; clear en_))
                 (have GB100 := Aside0.mk gb100); (have GG100 := Aside0.mk HG100); (clear gb100 gl100 HG100); (obtain ⟨hx100_0, hf100_0⟩ := Kd.R_celln 0 HL167_0.out (x7_2 : Int) p100 q100); (replace p100 := eq_true p100); (replace q100 := eq_true q100); (have hq102 : (x6_1 : Int) < (x5_57.length : Int) := (by have h_ : (x6_1 : Int) < ((x5_57.length : Int) : Int) := of_decide_eq_true (by assumption); first | exact h_ | (have e_ := (Kd.S_reads' HO_5.out).1; omega) | simpa only [List.length_set, List.length_set] using h_)); (obtain ⟨oki102, ce102, hcl102, hM102, hcc102, hok102, hbk102⟩ := Kd.S_borrow HO_5.out [] (x6_1 : Int) (of_decide_eq_true (by assumption)) hq102); (obtain ⟨ve102_0, rfl, ge102_0⟩ := hM102); (have hv102 := hcc102 0 _ rfl); (rw [Nat.add_zero, show ((Kd.slice 3 (Kd.int .i64))).sz = 1 from rfl, Nat.mul_one] at hv102); (replace hv102 := Option.some.inj (hv102.symm.trans HX167_0.out)); (subst hv102); (clear hcc102 hcl102); (replace ge102_0 := (show Kd.R (Kd.int .i64) 3 _ _ _ _ (rd_L3 x5_57 x6_1) from ge102_0)); ((try (obtain ⟨hy102_, hz102_⟩ := Kd.R_celln 0 ge102_0 (x7_2 : Int) (of_decide_eq_true (by assumption)) (by have h_ : (x7_2 : Int) < (((rd_L3 x5_57 x6_1).length : Int) : Int) := of_decide_eq_true (by assumption); first | exact h_ | (have e_ := (Kd.R_reads' HR167_0.out).1; omega) | simpa using h_)))); (have HP102 := Kd.R_putg ge102_0 (x7_2 : Int) (wrap64 ((rd (rd_L3 x5_57 (ji92)) (ji95)) + 1))); (rw [← Ny170.out] at HP102); (have HS102 := hbk102 HP102.2 (fun k_ e_ => by injection e_ with e_; subst e_; exact ge102_0.1 _ rfl) (x' := y170) (Kd.M_row HP102.1))
                 (rw [← Ny172.out] at HS102); (have HQ102 := Aside0.mk HS102); (clear HP102 HS102 hbk102 hok102)
                 refine start_ (n := 17) (S := fun w' => w'.cell? ⟨go14, (x6_1).toNat, none⟩ = some (.slice (some ⟨go100, 0, none⟩) (rd_L3 x5_57 x6_1).length c167_0) ∧ w'.cell? ⟨go14, ((ji92)).toNat, none⟩ = some (.slice (some ad169) (rd_L3 x5_57 (ji92)).length c168_0) ∧ w'.cell? (ad169.add ((ji95)).toNat) = some (.int .i64 (rd (rd_L3 x5_57 (ji92)) (ji95)))) (ds := [16]) #[false, false, false, false, false, false, false, false, false, false, false, false, false, false, false, false, false] (by kernel_rfl) rfl rfl ⟨hx167_0, hx168_0, hx169_0⟩ (fun hHeld => ?_); refine with_tabW coppicerref_shared.tab14 coppicerref_shared.bits14 (fun HT_ HW_ => ?_)
                 generalize wc.drew = w101 at HO_5 HB GG100 HL167_0 HL168_0 HQ102 HR167_0 HR168_0 HX167_0 HX168_0 hf100_0 hx100_0 hx167_0 hx168_0 hx169_0 hHeld ⊢
                 refine pure_ (i := 0) (N := some 144) (v := ?_) (a' := ?_) (zt 17 1) rfl rfl (any_of HT_.out (by kernel_rfl)) (fun _ _ _ h => h) (Or.inl ⟨by rfl, ?_⟩) ?_ ?_
                 rotate_left
                 ·intro w'
                  go_simp
                  with_reducible rfl
                 rotate_left
                 ·simp only [Act.put, List.setIfInBounds_toArray, List.set_cons_zero, List.set_cons_succ, i64_w, i32_w]
                  rfl
                 refine pure_ (i := 1) (N := some 145) (v := ?_) (a' := ?_) (zt 17 3) rfl rfl (any_of HT_.out (by kernel_rfl)) (fun _ _ _ h => h) (Or.inl ⟨by rfl, ?_⟩) ?_ ?_
                 rotate_left
                 ·intro w'
                  go_simp
                  with_reducible rfl
                 rotate_left
                 ·simp only [Act.put, List.setIfInBounds_toArray, List.set_cons_zero, List.set_cons_succ, i64_w, i32_w]
                  rfl
                 refine pure_ (i := 2) (N := some 146) (v := ?_) (a' := ?_) (zt 17 7) rfl rfl (any_of HT_.out (by kernel_rfl)) (fun _ _ _ h => h) (Or.inl ⟨by rfl, ?_⟩) ?_ ?_
                 rotate_left
                 ·intro w'
                  go_simp
                  with_reducible rfl
                 rotate_left
                 ·simp only [Act.put, List.setIfInBounds_toArray, List.set_cons_zero, List.set_cons_succ, i64_w, i32_w]
                  rfl
                 refine pure_ (i := 4) (N := some 148) (v := ?_) (a' := ?_) (zt 17 23) rfl rfl (any_of HT_.out (by kernel_rfl)) (fun _ _ _ h => h) (Or.inl ⟨by rfl, ?_⟩) ?_ ?_
                 rotate_left
                 ·intro w'
                  go_simp
                  with_reducible rfl
                 rotate_left
                 ·simp only [Act.put, List.setIfInBounds_toArray, List.set_cons_zero, List.set_cons_succ, i64_w, i32_w]
                  rfl
                 refine pure_ (i := 5) (N := some 149) (v := ?_) (a' := ?_) (zt 17 55) rfl rfl (any_of HT_.out (by kernel_rfl)) (fun _ _ _ h => h) (Or.inl ⟨by rfl, ?_⟩) ?_ ?_
                 rotate_left
                 ·intro w'
                  go_simp
                  with_reducible rfl
                 rotate_left
                 ·simp only [Act.put, List.setIfInBounds_toArray, List.set_cons_zero, List.set_cons_succ, i64_w, i32_w]
                  rfl
                 refine pure_ (i := 6) (N := some 150) (v := ?_) (a' := ?_) (zt 17 119) rfl rfl (any_of HT_.out (by kernel_rfl)) (fun _ _ _ h => h) (Or.inl ⟨by rfl, ?_⟩) ?_ ?_
                 rotate_left
                 ·intro w'
                  go_simp
                  with_reducible rfl
                 rotate_left
                 ·simp only [Act.put, List.setIfInBounds_toArray, List.set_cons_zero, List.set_cons_succ, i64_w, i32_w]
                  rfl
                 refine pure_ (i := 7) (N := some 151) (v := ?_) (a' := ?_) (zt 17 247) rfl rfl (any_of HT_.out (by kernel_rfl)) (fun _ _ _ h => h) (Or.inl ⟨by rfl, ?_⟩) ?_ ?_
                 rotate_left
                 ·intro w'
                  go_simp
                  with_reducible rfl
                 rotate_left
                 ·simp only [Act.put, List.setIfInBounds_toArray, List.set_cons_zero, List.set_cons_succ, i64_w, i32_w]
                  rfl
                 refine pure_ (i := 8) (N := some 152) (v := ?_) (a' := ?_) (zt 17 503) rfl rfl (any_of HT_.out (by kernel_rfl)) (fun _ _ _ h => h) (Or.inl ⟨by rfl, ?_⟩) ?_ ?_
                 rotate_left
                 ·intro w'
                  go_simp
                  with_reducible rfl
                 rotate_left
                 ·simp only [Act.put, List.setIfInBounds_toArray, List.set_cons_zero, List.set_cons_succ, i64_w, i32_w]
                  rfl
                 refine pure_ (i := 10) (N := some 154) (v := ?_) (a' := ?_) (zt 17 1527) rfl rfl (any_of HT_.out (by kernel_rfl)) (fun _ _ _ h => h) (Or.inl ⟨by rfl, ?_⟩) ?_ ?_
                 rotate_left
                 ·intro w'
                  go_simp
                  with_reducible rfl
                 rotate_left
                 ·simp only [Act.put, List.setIfInBounds_toArray, List.set_cons_zero, List.set_cons_succ, i64_w, i32_w]
                  rfl
                 refine pure_ (i := 11) (N := some 155) (v := ?_) (a' := ?_) #[true, true, true, false, true, true, true, true, true, false, true, true, false, false, false, false, false] rfl rfl (any_of HT_.out (by kernel_rfl)) (fun _ _ _ h => h) (Or.inl ⟨by rfl, ?_⟩) ?_ ?_
                 rotate_left
                 ·intro w'
                  go_simp
                  with_reducible rfl
                 rotate_left
                 ·simp only [Act.put, List.setIfInBounds_toArray, List.set_cons_zero, List.set_cons_succ, i64_w, i32_w]
                  rfl
                 refine take_ (i := 3) (N := some 147) (v := ?_) (a' := ?_) #[true, true, true, true, true, true, true, true, true, false, true, true, false, false, false, false, false] rfl rfl (take_ofW HT_.out HW_.out (by kernel_rfl)) (fun _ _ _ h => h) (Or.inl ⟨by rfl, ?_⟩) hHeld ?_ ?_
                 rotate_left
                 ·rintro w' ⟨s0, s1, s2⟩
                  go_simp
                  with_reducible rfl
                 rotate_left
                 ·simp only [Act.put, List.setIfInBounds_toArray, List.set_cons_zero, List.set_cons_succ, i64_w, i32_w]
                  rfl
                 refine take_ (i := 9) (N := some 153) (v := ?_) (a' := ?_) #[true, true, true, true, true, true, true, true, true, true, true, true, false, false, false, false, false] rfl rfl (take_ofW HT_.out HW_.out (by kernel_rfl)) (fun _ _ _ h => h) (Or.inl ⟨by rfl, ?_⟩) hHeld ?_ ?_
                 rotate_left
                 ·rintro w' ⟨s0, s1, s2⟩
                  go_simp
                  with_reducible rfl
                 rotate_left
                 ·simp only [Act.put, List.setIfInBounds_toArray, List.set_cons_zero, List.set_cons_succ, i64_w, i32_w]
                  rfl
                 refine pure_ (i := 12) (N := some 156) (v := ?_) (a' := ?_) #[true, true, true, true, true, true, true, true, true, true, true, true, true, false, false, false, false] rfl rfl (any_of HT_.out (by kernel_rfl)) (fun _ _ _ h => h) (Or.inl ⟨by rfl, ?_⟩) ?_ ?_
                 rotate_left
                 ·intro w'
                  go_simp
                  with_reducible rfl
                 rotate_left
                 ·simp only [Act.put, List.setIfInBounds_toArray, List.set_cons_zero, List.set_cons_succ, i64_w, i32_w]
                  rfl
                 refine take_ (i := 13) (N := some 157) (v := ?_) (a' := ?_) #[true, true, true, true, true, true, true, true, true, true, true, true, true, true, false, false, false] rfl rfl (take_ofW HT_.out HW_.out (by kernel_rfl)) (fun _ _ _ h => h) (Or.inl ⟨by rfl, ?_⟩) hHeld ?_ ?_
                 rotate_left
                 ·rintro w' ⟨s0, s1, s2⟩
                  go_simp
                  with_reducible rfl
                 rotate_left
                 ·simp only [Act.put, List.setIfInBounds_toArray, List.set_cons_zero, List.set_cons_succ, i64_w, i32_w]
                  rfl
                 refine pure_ (i := 14) (N := some 158) (v := ?_) (a' := ?_) (zt 17 32767) rfl rfl (any_of HT_.out (by kernel_rfl)) (fun _ _ _ h => h) (Or.inl ⟨by rfl, ?_⟩) ?_ ?_
                 rotate_left
                 ·intro w'
                  go_simp
                  with_reducible rfl
                 rotate_left
                 ·simp only [Act.put, List.setIfInBounds_toArray, List.set_cons_zero, List.set_cons_succ, i64_w, i32_w]
                  rfl
                 refine pure_ (i := 15) (N := some 159) (v := ?_) (a' := ?_) #[true, true, true, true, true, true, true, true, true, true, true, true, true, true, true, true, false] rfl rfl (any_of HT_.out (by kernel_rfl)) (fun _ _ _ h => h) (Or.inl ⟨by rfl, ?_⟩) ?_ ?_
                 rotate_left
                 ·intro w'
                  go_simp
                  with_reducible rfl
                 rotate_left
                 ·simp only [Act.put, List.setIfInBounds_toArray, List.set_cons_zero, List.set_cons_succ, i64_w, i32_w]
                  rfl
                 refine last_ (i := 16) (N := none) #[true, true, true, true, true, true, true, true, true, true, true, true, true, true, true, true, true] rfl rfl (one_of HT_.out (by kernel_rfl)) (by decide) (fun K hK => ?_)
                 refine skip_ (w1 := ?_) (by rfl) rfl ?_ ?_
                 rotate_left
                 ·go_simp
                  rfl
                 refine hK.out _ _ ?_
                 clear hK K
                 refine done_ (done_of HT_.out (by kernel_rfl)) ?_
                 try go_wp2
                 (try simp only [← hl5_32, ← hl5_57])
                 go_meet
                 case rel => exact ⟨_, (y172), H', ⟨by have := HK1.out; have := HK2.out; have := HJ20.out; have := HJ32.out; have := HJ46.out; have := HJ57.out; have := HJ70.out; first | omega | exact Nat.le_refl _⟩, ⟨by (try simp only [hl5_2]); (try simp only [hl5_32]); (try simp only [hl5_57]); (with_reducible repeat (first | apply Kd.S_alloc | apply Kd.S_drewN | apply Kd.S_drew)); exact HQ102.out⟩, ⟨by repeat (first | (with_reducible first | exact HB.out | apply below_alloc | apply pw_below_drewN | apply below_drew1 | refine below_set ?_ GB100.out) | exact HB.out)⟩⟩
     case rest =>
      (clear HC20); (try clear c1); (try clear p1); (try clear q1); (try clear hx1); (try clear p2); (try clear p6); (try clear c7); (try clear c8); (try clear c9); (try clear c10); (try clear p10); (try clear q10); (try clear hx10); (try clear hf10); (try clear c16); (try clear p16); (try clear q16); (try clear hx16); (try clear p64); (try clear c72); (try clear c72b0); (try clear c73); (try clear c73b0); (try clear c74); (try clear c75); (try clear c89); (try clear c90); (try clear c90b0); (try clear c91); (try clear c91b0); (try clear c93); (try clear c93b0); (try clear c94); (try clear c94b0); (try clear c96); (try clear c96b0); (try clear c97); (try clear c97b0); (try clear c98); (try clear c98b0); (try clear c99); (try clear c99b0); (try clear p100); (try clear q100); (try clear hx100); (try clear hf100); (try clear c102); (try clear q102); (try clear hx100_0); (try clear hx167_0); (try clear hx168_0); (try clear hx169_0); (try clear p100); (try clear p167); (try clear p168); (try clear p169); (try clear p2); (try clear q100); (try clear q167); (try clear q168); (try clear q169); (obtain ⟨kq, x5_19, HA, HJ19, HO_5, HB⟩ := hcut); (have hl5_19 := (Kd.S_reads' HO_5.out).1); (rw [hl5_19] at HO_5); ((try simp only [hl5_19]))
      cases kq with
      | zero => exact absurd HA.out (by simp [coppicerref_shared.j7])
      | succ kj19 =>
       (have H := HA.out); (clear HA); (simp only [coppicerref_shared.j7] at H)
       as_aux_lemma =>
        (have H' := Aside0.mk H); (clear H)
        go_wp2
        (try simp only [← hl5_2, ← hl5_19])
        (first | go_roundg kj19 | (simp only [← hji9]; go_roundg kj19) | (simp only [← hji3, ← hji9]; go_roundg kj19))
        case measure => have := HK1.out; have := HK2.out; have := HJ19.out; omega
        case rel => first | exact ⟨(x5_19), (wrap64 (x7_2 - 1)), (by first | rfl | (simp; done) | (simp [*]; done)), H', ⟨by have := HK1.out; have := HK2.out; have := HJ19.out; omega⟩, ⟨by (try simp only [hl5_2]); (try simp only [hl5_19]); (with_reducible repeat (first | apply Kd.S_alloc | apply Kd.S_drewN | apply Kd.S_drew)); exact HO_5.out⟩, ⟨by repeat (first | (with_reducible first | exact HB.out | apply zc1 | apply zc2 | apply zc3) | exact HB.out)⟩⟩ | (subst hji9; subst hji3; exact ⟨(x5_19), (wrap64 (x7_2 - 1)), (by first | rfl | (simp; done) | (simp [*]; done)), H', ⟨by have := HK1.out; have := HK2.out; have := HJ19.out; omega⟩, ⟨by (try simp only [hl5_2]); (try simp only [hl5_19]); (with_reducible repeat (first | apply Kd.S_alloc | apply Kd.S_drewN | apply Kd.S_drew)); exact HO_5.out⟩, ⟨by repeat (first | (with_reducible first | exact HB.out | apply zc1 | apply zc2 | apply zc3) | exact HB.out)⟩⟩)

end Go.Proofs.Ytmcgapnjafocnaa.PEditShares
