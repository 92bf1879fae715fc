-- Written by a program of this session: a turn of the print kit's own.
import Derived.Test.YtbehbngcofonmaaPTableTakesx0
import Derived.Test.YtbehbngcofonmaaPTableTakesx5
namespace Go.Proofs.Ytbehbngcofonmaa.PTableTakes
open Go.RowKit Go.Proofs.YtbehbngcofonmaaW.PrintWords Go.Proofs.YtbehbngcofonmaaW.PrintLast Go.Proofs.YtbehbngcofonmaaW.PrintMore
attribute [local go_sem] max2_int min2_int max_two min_two max_three min_three max_four min_four   -- for this text's walks alone
set_option linter.unusedVariables false
set_option linter.unusedSimpArgs false

def table_fill.bef_ (k : Nat) (v : Value) : Nat := match v.ownBlock with
  | some g => if k < g then k + 1 else k
  | none => k + 1
def table_fill.aft_ (k : Nat) (v : Value) : Nat := match v.ownBlock with
  | some g => if g ≤ k then k + 1 else k
  | none => k + 1
theorem table_fill.bef_aft {g k p n c : Nat} (h1 : k ≠ table_fill.bef_ k (.slice (some ⟨g, 0, none⟩) n c)) (h2 : p ≠ table_fill.aft_ p (.slice (some ⟨g, 0, none⟩) n c)) : k ≠ p := by
  have e : (Value.slice (some ⟨g, 0, none⟩) n c).ownBlock = some g := by simp [Value.ownBlock]
  unfold table_fill.bef_ at h1; unfold table_fill.aft_ at h2
  rw [e] at h1 h2
  dsimp only at h1 h2
  intro q; subst q
  split at h1 <;> split at h2 <;> omega
theorem table_fill.S_aft {α : Type} {d : Kd α} {e : Nat} {w : World} {base N : Nat} {v : Value} {xs : List α} (h : Kd.S d e w base (fun k => k = N) v xs) : Kd.S d e w base (fun k_ => k_ ≠ table_fill.aft_ k_ v) v xs := by
  have h0 : ∀ k, v.ownBlock = some k → k = N := by obtain ⟨f, h⟩ := h; exact h.1
  refine Kd.S_mono h (fun k hk => ?_)
  unfold table_fill.aft_
  cases hv : v.ownBlock with
  | none => dsimp only; omega
  | some g => have := h0 g hv; dsimp only; split <;> omega
theorem table_fill.S_bef {α : Type} {d : Kd α} {e : Nat} {W w1 : World} {base : Nat} {ok : Nat → Prop} {u v : Value} {xs : List α} (h : Kd.S d e W base ok u xs) (hbase : ∀ k, v.ownBlock = some k → W.heap.size ≤ k) (hb : Below W.heap.size W w1) : Kd.S d e w1 base (fun k_ => (ok k_ ∧ some k_ ≠ v.ownBlock) ∧ k_ ≠ table_fill.bef_ k_ v) u xs := by
  refine Kd.S_mono (Kd.S_below (Kd.S_bound h) hb) (fun k hk => ⟨⟨hk.1, fun q => ?_⟩, ?_⟩)
  · have := hbase k q.symm; have := hk.2.2.1; omega
  · unfold table_fill.bef_
    cases hv : v.ownBlock with
    | none => dsimp only; omega
    | some g => have := hbase g hv; have := hk.2.2.1; dsimp only; split <;> omega
theorem table_fill.R_aftnew {α : Type} {d : Kd α} {e : Nat} {W w1 : World} {ok : Nat → Prop} {u v : Value} {xs : List α} (h : Kd.R d e w1 W.heap.size ok v xs) (hlt : ∀ k, u.ownBlock = some k → k < W.heap.size) : Kd.R d e w1 W.heap.size (fun k_ => ok k_ ∧ k_ ≠ table_fill.aft_ k_ u) v xs := by
  refine Kd.R_mono (Kd.R_bound h) (fun k hk => ⟨hk.1, ?_⟩)
  unfold table_fill.aft_
  cases hv : u.ownBlock with
  | none => dsimp only; omega
  | some g => have := hlt g hv; have := hk.2.1; dsimp only; split <;> omega
/-! ### table_fill: function 11 -/
mutual
def table_fill.l0 : Nat → List Int → List (List Int) → Int → Int → Int → Int → Int → List (S47) → Option ((List (List Int)))
  | 0, _, _, _, _, _, _, _, _ => none
  | k + 1, x1, x5, x16, x17, x132000, x132001, x132002, x132003 => if x17 < x16 then (if 0 ≤ (wrap64 ((x1.length : Int) + 1)) then (if (wrap64 ((x1.length : Int) + 1) : Int).toNat ≤ 70368744177664 then (if 0 ≤ x17 then (if x17 < (x5.length : Int) then (table_fill.l0 k x1 (x5.set (x17 : Int).toNat (List.replicate (wrap64 ((x1.length : Int) + 1) : Int).toNat 0)) x16 (wrap64 (x17 + 1)) x132000 x132001 x132002 x132003) else (none)) else (none)) else (none)) else (none)) else (table_fill.l1 k x1 x5 true x132000 x132001 x132002 x132003)
def table_fill.l1 : Nat → List Int → List (List Int) → Bool → Int → Int → Int → List (S47) → Option ((List (List Int)))
  | 0, _, _, _, _, _, _, _ => none
  | k + 1, x1, x5, x7, x132000, x132001, x132002, x132003 => if x7 = true then (table_fill.l2 k x1 x5 false x132003 (x132003.length : Int) 0 x132000 x132001 x132002 x132003) else (some x5)
def table_fill.l2 : Nat → List Int → List (List Int) → Bool → List (S47) → Int → Int → Int → Int → Int → List (S47) → Option ((List (List Int)))
  | 0, _, _, _, _, _, _, _, _, _, _ => none
  | k + 1, x1, x5, x7, x30, x31, x32, x132000, x132001, x132002, x132003 => if x32 < x31 then (if 0 ≤ x32 then (if x32 < (x30.length : Int) then (table_fill.l3 k x1 x5 x7 x30 x31 x32 (wrap64 ((x1.length : Int) + 1)) 0 x132000 x132001 x132002 x132003 ((rd_T47 x30 x32).f0) ((rd_T47 x30 x32).f1)) else (none)) else (none)) else (table_fill.l1 k x1 x5 x7 x132000 x132001 x132002 x132003)
def table_fill.l3 : Nat → List Int → List (List Int) → Bool → List (S47) → Int → Int → Int → Int → Int → Int → Int → List (S47) → Int → List Int → Option ((List (List Int)))
  | 0, _, _, _, _, _, _, _, _, _, _, _, _, _, _ => none
  | k + 1, x1, x5, x7, x30, x31, x32, x38, x39, x132000, x132001, x132002, x132003, x141000, x141001 => if x39 < x38 then (if 0 ≤ x39 then ((table_spans_ends.f k x5 x132000 x132001 x132002 x132003 x1 x141001 (shl .u32 1 x39)).bind fun t141 => (if x7 = true then (if 0 ≤ x141000 then (if x141000 < (x5.length : Int) then (if x39 < ((rd_L4 x5 x141000).length : Int) then (table_fill.l3 k x1 (x5.set (x141000 : Int).toNat ((rd_L4 x5 x141000).set (x39 : Int).toNat (Go.bits .or .u32 (rd (rd_L4 x5 x141000) x39) t141))) true x30 x31 x32 x38 (wrap64 (x39 + 1)) x132000 x132001 x132002 x132003 x141000 x141001) else (none)) else (none)) else (none)) else (if 0 ≤ x141000 then (if x141000 < (x5.length : Int) then (if x39 < ((rd_L4 x5 x141000).length : Int) then (table_fill.l3 k x1 (x5.set (x141000 : Int).toNat ((rd_L4 x5 x141000).set (x39 : Int).toNat (Go.bits .or .u32 (rd (rd_L4 x5 x141000) x39) t141))) ((Go.bits .andNot .u32 t141 (rd (rd_L4 x5 x141000) x39)) != 0) x30 x31 x32 x38 (wrap64 (x39 + 1)) x132000 x132001 x132002 x132003 x141000 x141001) else (none)) else (none)) else (none)))) else (none)) else (table_fill.l2 k x1 x5 x7 x30 x31 (wrap64 (x32 + 1)) x132000 x132001 x132002 x132003)
end
def table_fill.f (k : Nat) (a0_0 : Int) (a0_1 : Int) (a0_2 : Int) (l0_3 : List (S47)) (l1 : List Int) : Option ((List (List Int))) := if 0 ≤ a0_1 then (if (a0_1 : Int).toNat ≤ 11728124029610 then ((some (List.replicate (a0_1 : Int).toNat [] : List (List Int))).bind fun y132 => (table_fill.l0 k l1 y132 (y132.length : Int) 0 a0_0 a0_1 a0_2 l0_3)) else (none)) else (none)
theorem table_fill.mono_l : ∀ k, (∀ y0 y1 y2 y3 y4 y5 y6 y7, LeO (table_fill.l0 k y0 y1 y2 y3 y4 y5 y6 y7) (table_fill.l0 (k + 1) y0 y1 y2 y3 y4 y5 y6 y7)) ∧ (∀ y0 y1 y2 y3 y4 y5 y6, LeO (table_fill.l1 k y0 y1 y2 y3 y4 y5 y6) (table_fill.l1 (k + 1) y0 y1 y2 y3 y4 y5 y6)) ∧ (∀ y0 y1 y2 y3 y4 y5 y6 y7 y8 y9, LeO (table_fill.l2 k y0 y1 y2 y3 y4 y5 y6 y7 y8 y9) (table_fill.l2 (k + 1) y0 y1 y2 y3 y4 y5 y6 y7 y8 y9)) ∧ (∀ y0 y1 y2 y3 y4 y5 y6 y7 y8 y9 y10 y11 y12 y13, LeO (table_fill.l3 k y0 y1 y2 y3 y4 y5 y6 y7 y8 y9 y10 y11 y12 y13) (table_fill.l3 (k + 1) y0 y1 y2 y3 y4 y5 y6 y7 y8 y9 y10 y11 y12 y13))
  | 0 => ⟨fun _ _ _ _ _ _ _ _ r h => by simp [table_fill.l0] at h, fun _ _ _ _ _ _ _ r h => by simp [table_fill.l1] at h, fun _ _ _ _ _ _ _ _ _ _ r h => by simp [table_fill.l2] at h, fun _ _ _ _ _ _ _ _ _ _ _ _ _ _ r h => by simp [table_fill.l3] at h⟩
  | k + 1 => by
    obtain ⟨ih0, ih1, ih2, ih3⟩ := table_fill.mono_l k
    refine ⟨?_, ?_, ?_, ?_⟩
    · intro y0 y1 y2 y3 y4 y5 y6 y7
      unfold table_fill.l0
      repeat' first
      | (with_reducible exact ih0 _ _ _ _ _ _ _ _)
      | (with_reducible exact ih1 _ _ _ _ _ _ _)
      | (with_reducible exact ih2 _ _ _ _ _ _ _ _ _ _)
      | (with_reducible exact ih3 _ _ _ _ _ _ _ _ _ _ _ _ _ _)
      | (with_reducible exact table_spans_ends.mono _ _ _ _ _ _ _ _ _)
      | (with_reducible exact LeO.refl _)
      | (with_reducible exact LeO.none _)
      | (with_reducible refine LeO.ite ?_ ?_)
      | (with_reducible refine LeO.bind ?_ (fun _ => ?_))
      | exact ih0 _ _ _ _ _ _ _ _
      | exact ih1 _ _ _ _ _ _ _
      | exact ih2 _ _ _ _ _ _ _ _ _ _
      | exact ih3 _ _ _ _ _ _ _ _ _ _ _ _ _ _
      | exact table_spans_ends.mono _ _ _ _ _ _ _ _ _
      | exact LeO.none _
      | refine LeO.ite ?_ ?_
      | refine LeO.bind ?_ (fun _ => ?_)
    · intro y0 y1 y2 y3 y4 y5 y6
      unfold table_fill.l1
      repeat' first
      | (with_reducible exact ih0 _ _ _ _ _ _ _ _)
      | (with_reducible exact ih1 _ _ _ _ _ _ _)
      | (with_reducible exact ih2 _ _ _ _ _ _ _ _ _ _)
      | (with_reducible exact ih3 _ _ _ _ _ _ _ _ _ _ _ _ _ _)
      | (with_reducible exact table_spans_ends.mono _ _ _ _ _ _ _ _ _)
      | (with_reducible exact LeO.refl _)
      | (with_reducible exact LeO.none _)
      | (with_reducible refine LeO.ite ?_ ?_)
      | (with_reducible refine LeO.bind ?_ (fun _ => ?_))
      | exact ih0 _ _ _ _ _ _ _ _
      | exact ih1 _ _ _ _ _ _ _
      | exact ih2 _ _ _ _ _ _ _ _ _ _
      | exact ih3 _ _ _ _ _ _ _ _ _ _ _ _ _ _
      | exact table_spans_ends.mono _ _ _ _ _ _ _ _ _
      | exact LeO.none _
      | refine LeO.ite ?_ ?_
      | refine LeO.bind ?_ (fun _ => ?_)
    · intro y0 y1 y2 y3 y4 y5 y6 y7 y8 y9
      unfold table_fill.l2
      repeat' first
      | (with_reducible exact ih0 _ _ _ _ _ _ _ _)
      | (with_reducible exact ih1 _ _ _ _ _ _ _)
      | (with_reducible exact ih2 _ _ _ _ _ _ _ _ _ _)
      | (with_reducible exact ih3 _ _ _ _ _ _ _ _ _ _ _ _ _ _)
      | (with_reducible exact table_spans_ends.mono _ _ _ _ _ _ _ _ _)
      | (with_reducible exact LeO.refl _)
      | (with_reducible exact LeO.none _)
      | (with_reducible refine LeO.ite ?_ ?_)
      | (with_reducible refine LeO.bind ?_ (fun _ => ?_))
      | exact ih0 _ _ _ _ _ _ _ _
      | exact ih1 _ _ _ _ _ _ _
      | exact ih2 _ _ _ _ _ _ _ _ _ _
      | exact ih3 _ _ _ _ _ _ _ _ _ _ _ _ _ _
      | exact table_spans_ends.mono _ _ _ _ _ _ _ _ _
      | exact LeO.none _
      | refine LeO.ite ?_ ?_
      | refine LeO.bind ?_ (fun _ => ?_)
    · intro y0 y1 y2 y3 y4 y5 y6 y7 y8 y9 y10 y11 y12 y13
      unfold table_fill.l3
      repeat' first
      | (with_reducible exact ih0 _ _ _ _ _ _ _ _)
      | (with_reducible exact ih1 _ _ _ _ _ _ _)
      | (with_reducible exact ih2 _ _ _ _ _ _ _ _ _ _)
      | (with_reducible exact ih3 _ _ _ _ _ _ _ _ _ _ _ _ _ _)
      | (with_reducible exact table_spans_ends.mono _ _ _ _ _ _ _ _ _)
      | (with_reducible exact LeO.refl _)
      | (with_reducible exact LeO.none _)
      | (with_reducible refine LeO.ite ?_ ?_)
      | (with_reducible refine LeO.bind ?_ (fun _ => ?_))
      | exact ih0 _ _ _ _ _ _ _ _
      | exact ih1 _ _ _ _ _ _ _
      | exact ih2 _ _ _ _ _ _ _ _ _ _
      | exact ih3 _ _ _ _ _ _ _ _ _ _ _ _ _ _
      | exact table_spans_ends.mono _ _ _ _ _ _ _ _ _
      | exact LeO.none _
      | refine LeO.ite ?_ ?_
      | refine LeO.bind ?_ (fun _ => ?_)
theorem table_fill.mono : ∀ a0 a1 a2 a3 a4 k, LeO (table_fill.f k a0 a1 a2 a3 a4) (table_fill.f (k + 1) a0 a1 a2 a3 a4) := by
  intro a0 a1 a2 a3 a4 k
  obtain ⟨ih0, ih1, ih2, ih3⟩ := table_fill.mono_l k
  unfold table_fill.f
  repeat' first
      | (with_reducible exact ih0 _ _ _ _ _ _ _ _)
      | (with_reducible exact ih1 _ _ _ _ _ _ _)
      | (with_reducible exact ih2 _ _ _ _ _ _ _ _ _ _)
      | (with_reducible exact ih3 _ _ _ _ _ _ _ _ _ _ _ _ _ _)
      | (with_reducible exact table_spans_ends.mono _ _ _ _ _ _ _ _ _)
      | (with_reducible exact LeO.refl _)
      | (with_reducible exact LeO.none _)
      | (with_reducible refine LeO.ite ?_ ?_)
      | (with_reducible refine LeO.bind ?_ (fun _ => ?_))
      | exact ih0 _ _ _ _ _ _ _ _
      | exact ih1 _ _ _ _ _ _ _
      | exact ih2 _ _ _ _ _ _ _ _ _ _
      | exact ih3 _ _ _ _ _ _ _ _ _ _ _ _ _ _
      | exact table_spans_ends.mono _ _ _ _ _ _ _ _ _
      | exact LeO.none _
      | refine LeO.ite ?_ ?_
      | refine LeO.bind ?_ (fun _ => ?_)
def table_fill.T16 : Bool × List (List Nat × List Nat) := (true, [([], []), ([], []), ([], []), ([], []), ([3], [3]), ([], []), ([5], [5]), ([0, 1, 2, 4, 6], [0, 1, 2, 4, 6]), ([7, 7, 0, 1, 2, 3, 4, 5, 6, 7], [7])])
def table_fill.B16 : List Nat := [0, 0, 0, 0, 8, 0, 32, 127, 255]
theorem table_fill.tab16 : rtab .any (opsOf Try.f11 16) = table_fill.T16 := by kernel_rfl
theorem table_fill.bits16 : waitsOk table_fill.T16.2 table_fill.B16 = true := by kernel_rfl
set_option maxHeartbeats 8000000 in
set_option maxRecDepth 100000 in
theorem table_fill.calls (k : Nat) (a0_0 : Int) (a0_1 : Int) (a0_2 : Int) (A0_3 : Option Addr) (c0_3 : Nat) (l0_3 : List (S47)) (A1 : Option Addr) (c1 : Nat) (l1 : List Int) (r : List (List Int)) (w : World) (hr0_3 : Kd.C k47 w A0_3 l0_3.length l0_3) (hc0_3 : l0_3.length ≤ c0_3) (hr1 : Kd.C (Kd.int .i64) w A1 l1.length l1) (hc1 : l1.length ≤ c1) (h : table_fill.f k a0_0 a0_1 a0_2 l0_3 l1 = some r) :
    Calls Try.prog 11 #[.agg #[.int .i64 a0_0, .int .i64 a0_1, .int .i64 a0_2, .slice A0_3 l0_3.length c0_3], .slice A1 l1.length c1] w fun e w' => ∃ v0_ : Value, e = .returned (v0_) ∧ Kd.S (Kd.slice 26 (Kd.int .u32)) 42 w' w.heap.size (fun _ => True) v0_ r ∧ Below w.heap.size w w' := by
  have hu24 := Try.underlying24
  have hu3 := Try.underlying3
  have hu47 := Try.underlying47
  have HR0_3 := Aside0.mk hr0_3
  have HC0_3 := Aside0.mk hc0_3
  clear hr0_3 hc0_3
  have HR1 := Aside0.mk hr1
  have HC1 := Aside0.mk hc1
  clear hr1 hc1
  have HB := Aside0.mk (Below.refl w.heap.size w)
  have H : (if 0 ≤ a0_1 then (if (a0_1 : Int).toNat ≤ 11728124029610 then ((some (List.replicate (a0_1 : Int).toNat [] : List (List Int))).bind fun y132 => (table_fill.l0 k l1 y132 (y132.length : Int) 0 a0_0 a0_1 a0_2 l0_3)) else (none)) else (none)) = some r := h
  clear h
  by_cases c3 : 0 ≤ a0_1
  · rw [if_pos c3] at H
    have c3b0 := eq_true c3
    have c3b1 : decide (0 ≤ a0_1) = true := decide_eq_true c3
    clear c3
    by_cases c4 : (a0_1 : Int).toNat ≤ 11728124029610
    · rw [if_pos c4] at H
      have c4b0 := eq_true c4
      have c4b1 : decide ((a0_1 : Int).toNat ≤ 11728124029610) = true := decide_eq_true c4
      clear c4
      obtain ⟨y132, hy132⟩ : ∃ y_ : List (List Int), y_ = (List.replicate (a0_1 : Int).toNat []) := ⟨_, rfl⟩
      replace H : (table_fill.l0 k l1 y132 (y132.length : Int) 0 a0_0 a0_1 a0_2 l0_3) = some r := by first | (rw [hy132]; with_reducible exact H) | (have H2_ := (Option.bind_some _ _).symm.trans H; rw [hy132]; with_reducible exact H2_) | (have H2_ := (Option.bind_some _ _).symm.trans H; with_reducible exact H2_) | with_reducible exact H | (rw [hy132]; exact H) | exact H
      have Ny132 := Aside0.mk hy132
      clear hy132
      have H' := Aside0.mk H
      clear H
      go_enter Try.func11, Try.ntmps11
      go_wp2_with (first | ((with_reducible refine gate_dst (N := 2) rfl ?_); refine box_event ?hg (N := 2) ?hd (cs := #[.int .i64 a0_0, .int .i64 a0_1, .int .i64 a0_2, .slice A0_3 l0_3.length c0_3]) (t := 24) ?hr ?_; (case hd => rfl); (case hg => rfl); (case hr => first | (go_simp; done) | (go_simp; rfl)); intro gb131 hg w5 hbox hb; have n0_ := Aside0.mk (below_step (by repeat (first | (with_reducible first | exact HB.out | apply below_alloc | apply pw_below_drewN | apply below_drew1) | exact HB.out)) hb); have n1_ := Aside0.mk (hbox); have n2_ := Aside0.mk ((by rw [hg]; exact (below_size (by repeat (first | (with_reducible first | exact HB.out | apply below_alloc | apply pw_below_drewN | apply below_drew1) | exact HB.out))) : w.heap.size ≤ gb131)); have n3_ := Aside0.mk ((by rw [hg]; exact (below_size (by repeat (first | (with_reducible first | exact HB.out | apply below_alloc | apply pw_below_drewN | apply below_drew1) | exact HB.out))) : w.heap.size ≤ gb131)); clear HB; have HB := n0_; have BK131 := n1_; have GW131 := n2_; have GE131 := n3_; clear n0_ n1_ n2_ n3_; clear hb hbox hg; have hcz6_0 : w5.cell? ⟨gb131, 0, none⟩ = some (.int .i64 a0_0) := (blk_cell BK131.out 0).trans rfl; have hcz6_1 : w5.cell? ⟨gb131, 1, none⟩ = some (.int .i64 a0_1) := (blk_cell BK131.out 1).trans rfl; have hcz6_2 : w5.cell? ⟨gb131, 2, none⟩ = some (.int .i64 a0_2) := (blk_cell BK131.out 2).trans rfl; have hcz6_3 : w5.cell? ⟨gb131, 3, none⟩ = some (.slice A0_3 l0_3.length c0_3) := (blk_cell BK131.out 3).trans rfl; have hfz6_0 := blk_frozen BK131.out 0; have hfz6_1 := blk_frozen BK131.out 1; have hfz6_2 := blk_frozen BK131.out 2; have hfz6_3 := blk_frozen BK131.out 3) | ((with_reducible refine gate_dst (N := 14) rfl ?_); refine Kd.S_make (Kd.slice 26 (Kd.int .u32)) _ 42 rfl (N := 14) rfl 40 _ _ rfl a0_1 rfl rfl Try.underlying40 (.slice none 0 0) 24 info42 rfl (by decide) (by omega) [] (ok := fun k_ => k_ = w5.heap.size) (okp := fun _ => False) ⟨_, rfl, Kd.R_nil _ _ _ _ _⟩ (fun _ hk => hk.elim) rfl (of_decide_eq_true (by first | (with_reducible assumption) | assumption)) (Nat.le_trans (Nat.mul_le_mul_right _ (of_decide_eq_true (by first | (with_reducible assumption) | assumption) : a0_1.toNat ≤ 11728124029610)) (by omega)) (Below.refl _ _) (Nat.le_refl _) ?_; intro v133 w7 ho8 hb hg_ hnew_; clear hg_ hnew_; (first | rw [← Ny132.out] at ho8 | (simp only [Int.reduceToNat] at ho8; rw [← Ny132.out] at ho8)); have n0_ := Aside0.mk (Kd.S_lower (table_fill.S_aft ho8) (below_size (by repeat (first | (with_reducible first | exact HB.out | apply below_alloc | apply pw_below_drewN | apply below_drew1 | refine below_set ?_ GE131.out) | exact HB.out)))); have n1_ := Aside0.mk (blk_below (g := gb131) (o := .cells #[.int .i64 a0_0, .int .i64 a0_1, .int .i64 a0_2, .slice A0_3 l0_3.length c0_3] 24 (0, 0)) (by (with_reducible repeat (first | refine blk_drewN ?_ _ | refine blk_drew ?_ | refine blk_alloc ?_ _)); exact BK131.out) hb); have n2_ := Aside0.mk (below_step (by repeat (first | (with_reducible first | exact HB.out | apply below_alloc | apply pw_below_drewN | apply below_drew1 | refine below_set ?_ GE131.out) | exact HB.out)) hb); clear BK131; clear HB; have HO134 := n0_; have BK131 := n1_; have HB := n2_; clear n0_ n1_ n2_; clear hb ho8; obtain ⟨Ao9, co9, eo9⟩ := Kd.S_slice HO134.out; subst eo9))
      go_loopg [17] k (fun kq v17 w' => ∃ (x5_1 : List (List Int)) (x17_1 : Int), v17 = .int .i64 x17_1 ∧ Aside0 (table_fill.l0 kq l1 x5_1 (y132.length : Int) x17_1 a0_0 a0_1 a0_2 l0_3 = some r) ∧ Aside0 (kq ≤ k) ∧ Aside0 (Kd.S (Kd.slice 26 (Kd.int .u32)) 42 w' w.heap.size (fun k_ => k_ ≠ (table_fill.aft_ k_ (.slice Ao9 y132.length co9))) (.slice Ao9 y132.length co9) x5_1) ∧ Aside0 (w'.heap[gb131]? = some (.cells #[.int .i64 a0_0, .int .i64 a0_1, .int .i64 a0_2, (.slice A0_3 l0_3.length c0_3)] 24 (0, 0))) ∧ Aside0 (Below w.heap.size w w'))
      case atStart => exact ⟨(y132), (0), (by first | rfl | (simp; done) | (simp [*]; done)), H', ⟨Nat.le_refl _⟩, ⟨by (with_reducible repeat (first | apply Kd.S_alloc | apply Kd.S_drewN | apply Kd.S_drew)); exact HO134.out⟩, ⟨by (with_reducible repeat (first | refine blk_drewN ?_ _ | refine blk_drew ?_ | refine blk_alloc ?_ _)); exact BK131.out⟩, ⟨by repeat (first | (with_reducible first | exact HB.out | apply below_alloc | apply pw_below_drewN | apply below_drew1 | refine below_set ?_ GE131.out) | exact HB.out)⟩⟩
      case round =>
        clear H'
        try clear c1
        try clear p2
        try clear c3
        try clear c3b0
        try clear c3b1
        try clear c4
        try clear c4b0
        try clear c4b1
        try clear hcz6_0
        try clear hcz6_1
        try clear hcz6_2
        try clear hcz6_3
        try clear hfz6_0
        try clear hfz6_1
        try clear hfz6_2
        try clear hfz6_3
        obtain ⟨x5_1, x17_1, rfl, HA, HK1, HO_5, BK131, HB⟩ := hrel
        have hl5_1 := (Kd.S_reads' HO_5.out).1
        rw [hl5_1] at HO_5
        (try simp only [hl5_1])
        (try simp only [hl5_1] at BK131)
        cases gk with
        | zero => exact absurd HA.out (by simp [table_fill.l0])
        | succ k1 =>
          have H := HA.out
          clear HA
          simp only [table_fill.l0] at H
          by_cases c10 : x17_1 < (y132.length : Int)
          · rw [if_pos c10] at H
            have c10b0 : decide (x17_1 < (y132.length : Int)) = true := decide_eq_true c10
            (try (have c10b0h := c10b0; simp only [hl5_1] at c10b0h))
            clear c10
            obtain ⟨ji11, hji11⟩ : ∃ j_ : Int, (wrap64 ((l1.length : Int) + 1)) = j_ := ⟨_, rfl⟩
            replace H : (if 0 ≤ (ji11) then (if (ji11 : Int).toNat ≤ 70368744177664 then (if 0 ≤ x17_1 then (if x17_1 < (x5_1.length : Int) then (table_fill.l0 k1 l1 (x5_1.set (x17_1 : Int).toNat (List.replicate (ji11 : Int).toNat 0)) (y132.length : Int) (wrap64 (x17_1 + 1)) a0_0 a0_1 a0_2 l0_3) else (none)) else (none)) else (none)) else (none)) = some r := by first | (rw [hji11] at H; exact H) | (simp only [hji11] at H ⊢; exact H)
            have hji11w : (IntKind.i64.wrap ((l1.length : Int) + 1)) = ji11 := (i64_w _).trans hji11
            by_cases c12 : 0 ≤ (ji11)
            · rw [if_pos c12] at H
              have c12b0 := eq_true c12
              have c12b1 : decide (0 ≤ (ji11)) = true := decide_eq_true c12
              clear c12
              by_cases c13 : (ji11 : Int).toNat ≤ 70368744177664
              · rw [if_pos c13] at H
                have c13b0 := eq_true c13
                have c13b1 : decide ((ji11 : Int).toNat ≤ 70368744177664) = true := decide_eq_true c13
                clear c13
                obtain ⟨y135, hy135⟩ : ∃ y_ : List Int, y_ = (List.replicate (ji11 : Int).toNat 0) := ⟨_, rfl⟩
                replace H : (if 0 ≤ x17_1 then (if x17_1 < (x5_1.length : Int) then (table_fill.l0 k1 l1 (x5_1.set (x17_1 : Int).toNat y135) (y132.length : Int) (wrap64 (x17_1 + 1)) a0_0 a0_1 a0_2 l0_3) else (none)) else (none)) = some r := by first | (rw [hy135]; with_reducible exact H) | (have H2_ := (Option.bind_some _ _).symm.trans H; rw [hy135]; with_reducible exact H2_) | (have H2_ := (Option.bind_some _ _).symm.trans H; with_reducible exact H2_) | with_reducible exact H | (rw [hy135]; exact H) | exact H
                have Ny135 := Aside0.mk hy135
                clear hy135
                by_cases c14 : 0 ≤ x17_1
                · rw [if_pos c14] at H
                  have c14b0 : decide (0 ≤ x17_1) = true := decide_eq_true c14
                  clear c14
                  by_cases c15 : x17_1 < (x5_1.length : Int)
                  · rw [if_pos c15] at H
                    have c15b0 : decide (x17_1 < (x5_1.length : Int)) = true := decide_eq_true c15
                    (try (have c15b0h := c15b0; simp only [hl5_1] at c15b0h))
                    clear c15
                    obtain ⟨y138, hy138⟩ : ∃ y_ : List (List Int), y_ = (x5_1.set (x17_1 : Int).toNat y135) := ⟨_, rfl⟩
                    replace H : (table_fill.l0 k1 l1 y138 (y132.length : Int) (wrap64 (x17_1 + 1)) a0_0 a0_1 a0_2 l0_3) = some r := by first | (rw [hy138]; with_reducible exact H) | (have H2_ := (Option.bind_some _ _).symm.trans H; rw [hy138]; with_reducible exact H2_) | (have H2_ := (Option.bind_some _ _).symm.trans H; with_reducible exact H2_) | with_reducible exact H | (rw [hy138]; exact H) | exact H
                    have Ny138 := Aside0.mk hy138
                    clear hy138
                    have H' := Aside0.mk H
                    clear H
                    go_wp2_with (first | ((with_reducible refine gate_dst (N := 25) rfl ?_); refine Kd.R_make (Kd.int .u32) _ 26 rfl (N := 25) rfl 42 _ _ rfl ji11 rfl rfl Try.underlying42 (.int .u32 0) 4 info26 rfl (by decide) (by omega) 0 (ok := fun _ => True) (okp := fun _ => True) rfl (fun _ hk => hk) trivial (of_decide_eq_true (by first | (with_reducible assumption) | assumption)) (Nat.le_trans (Nat.mul_le_mul_right _ (of_decide_eq_true (by first | (with_reducible assumption) | assumption) : ji11.toNat ≤ 70368744177664)) (by omega)) (Below.refl _ _) (Nat.le_refl _) ?_; intro v136 w17 ho18 hb hg_ hnew_; clear hg_ hnew_; (first | rw [← Ny135.out] at ho18 | (simp only [Int.reduceToNat] at ho18; rw [← Ny135.out] at ho18)); have n0_ := Aside0.mk (Kd.S_elder' (by (with_reducible repeat (first | apply Kd.S_alloc | apply Kd.S_drewN | apply Kd.S_drew)); exact HO_5.out) (Kd.R_base ho18) hb); have n1_ := Aside0.mk (Kd.R_lower (table_fill.R_aftnew ho18 (Kd.S_lt (by (with_reducible repeat (first | apply Kd.S_alloc | apply Kd.S_drewN | apply Kd.S_drew)); exact HO_5.out))) (below_size (by repeat (first | (with_reducible first | exact HB.out | apply below_alloc | apply pw_below_drewN | apply below_drew1 | refine below_set ?_ GE131.out) | exact HB.out)))); have n2_ := Aside0.mk (blk_below (g := gb131) (o := .cells #[.int .i64 a0_0, .int .i64 a0_1, .int .i64 a0_2, .slice A0_3 l0_3.length c0_3] 24 (0, 0)) (by (with_reducible repeat (first | refine blk_drewN ?_ _ | refine blk_drew ?_ | refine blk_alloc ?_ _)); exact BK131.out) hb); have n3_ := Aside0.mk (below_step (by repeat (first | (with_reducible first | exact HB.out | apply below_alloc | apply pw_below_drewN | apply below_drew1 | refine below_set ?_ GE131.out) | exact HB.out)) hb); clear HO_5; clear BK131; clear HB; have HO_5 := n0_; have HO137 := n1_; have BK131 := n2_; have HB := n3_; clear n0_ n1_ n2_ n3_; clear hb ho18; have p16 : 0 ≤ (x17_1 : Int) := of_decide_eq_true (by first | (with_reducible assumption) | assumption); have q16 : (x17_1 : Int) < ((x5_1.length : Int) : Int) := of_decide_eq_true (by first | (with_reducible assumption) | assumption); obtain ⟨go16, co16, eo16, gb16, gl16, cl16, HG16⟩ := Kd.S_form HO_5.out (by omega); (first | cases eo16 | (injection eo16 with ea_ en_ ec_; (first | subst ea_ | (injection ea_ with ea_; subst ea_)); subst ec_; clear en_)); have GB16 := Aside0.mk gb16; have GG16 := Aside0.mk HG16; clear gb16 gl16 HG16; obtain ⟨_, ce16, hcl16, hM16, hcc16, hfr16, _, _⟩ := Kd.S_elem HO_5.out [] (x17_1 : Int) p16 q16; obtain ⟨ve16_0, rfl, ge16_0⟩ := hM16; have hx16_0 := hcc16 0 _ rfl; have hf16_0 := hfr16 0; (try simp only [show ((Kd.slice 26 (Kd.int .u32))).sz = 1 from rfl, Nat.mul_one, Nat.add_zero] at hx16_0); (try simp only [show ((Kd.slice 26 (Kd.int .u32))).sz = 1 from rfl, Nat.mul_one, Nat.add_zero] at hf16_0); (try clear hcl16); (try clear hcc16); (try clear hfr16); (try clear hM16); replace p16 := eq_true p16; replace q16 := eq_true q16; have HX19 := Aside0.mk (show Kd.S (Kd.slice 26 (Kd.int .u32)) 42 w17 w.heap.size (fun k_ => ((fun k_ => k_ ≠ (table_fill.aft_ k_ (.slice (some ⟨go16, 0, none⟩) x5_1.length co9)))) k_ ∧ ¬ ((fun k_ => some k_ = (v136 : Value).ownBlock)) k_) (.slice (some ⟨go16, 0, none⟩) x5_1.length co9) x5_1 from (by (with_reducible repeat (first | apply Kd.S_alloc | apply Kd.S_drewN | apply Kd.S_drew)); exact Kd.S_mono HO_5.out (fun k_ hk => ⟨hk.1, fun e_ => hk.2 e_⟩))); obtain ⟨oki19, ce19, hcl19, hM19, hcc19, hfr19, hoki19, hH19⟩ := Kd.S_elem HX19.out [] (x17_1 : Int) (of_decide_eq_true (by first | (with_reducible assumption) | assumption)) (by have h_ : (x17_1 : Int) < ((x5_1.length : Int) : Int) := of_decide_eq_true (by first | (with_reducible assumption) | assumption); first | exact h_ | (have e_ := (Kd.S_reads' HO_5.out).1; omega) | simpa using h_); obtain ⟨ve19_0, rfl, ge19_0⟩ := hM19; have HP19 := Kd.S_seg hH19 (of_decide_eq_true (by first | (with_reducible assumption) | assumption)) (by have h_ : (x17_1 : Int) < ((x5_1.length : Int) : Int) := of_decide_eq_true (by first | (with_reducible assumption) | assumption); first | exact h_ | (have e_ := (Kd.S_reads' HO_5.out).1; omega) | simpa using h_) (seg := [v136]) (j := 0) (show 1 ≤ 1 from by decide) (x' := y135) (Kd.M_row (Kd.R_mono (Kd.R_tight rfl (Kd.R_mono (ok' := fun k_ => ((fun k_ => k_ ≠ (table_fill.aft_ k_ (.slice (some ⟨go16, 0, none⟩) x5_1.length co9)))) k_ ∧ k_ ≠ go16) (Kd.R_apart' (HO137.out) (Kd.S_typed HO_5.out) (by decide)) (fun k_ hk => ⟨hk.1.2, fun e_ => (hk.2) (by rw [e_]; rfl)⟩))) (fun _ h_ => Or.inr (h_)))) (fun _ hk => hk) (fun k_ hk_ => ((Kd.R_mono (ok' := fun k_ => ((fun k_ => k_ ≠ (table_fill.aft_ k_ (.slice (some ⟨go16, 0, none⟩) x5_1.length co9)))) k_ ∧ k_ ≠ go16) (Kd.R_apart' (HO137.out) (Kd.S_typed HO_5.out) (by decide)) (fun k_ hk => ⟨hk.1.2, fun e_ => (hk.2) (by rw [e_]; rfl)⟩))).1 k_ hk_.symm); have hx19_0 := hcc19 0 _ rfl; (try simp only [show ((Kd.slice 26 (Kd.int .u32))).sz = 1 from rfl, Nat.mul_one, Nat.add_zero] at hx19_0); have hf19_0 := hfr19 0; (try simp only [show ((Kd.slice 26 (Kd.int .u32))).sz = 1 from rfl, Nat.mul_one, Nat.add_zero] at hf19_0); (try clear hcl19); (try clear hcc19); (try clear hfr19); (try clear hM19); (try clear hoki19); (try clear hH19); (try simp only [show ((Kd.slice 26 (Kd.int .u32))).sz = 1 from rfl, Nat.mul_one, Nat.add_zero] at HP19)) | ((with_reducible refine gate_store (t := 42) (p := 26) rfl ?_); refine store_event (t := 42) (p := 26) (v := ?vo_w20) (w1 := (w17.setCell ⟨go16, (x17_1 : Int).toNat, none⟩ (v136))) ?hg ?ho ?hn ?hr ?_; (case ho => rfl); (case hg => rfl); (case hn => rfl); (case hr => first | (go_simp; done) | (go_simp; rfl) | (obtain ⟨_, _, rfl⟩ := Kd.R_slice HO137.out; (first | (go_simp; done) | (go_simp; rfl)))); intro w20 hw; have hg : w17.grownBy w20 (some go16) := (by rw [hw]; exact HP19.2); have hp_ : Kd.S (Kd.slice 26 (Kd.int .u32)) 42 w20 w.heap.size (fun k_ => k_ ≠ (table_fill.aft_ k_ (.slice (some ⟨go16, 0, none⟩) x5_1.length co9))) (.slice (some ⟨go16, 0, none⟩) x5_1.length co9) y138 := (by rw [hw, Ny138.out]; exact HP19.1); clear HP19; have n0_ := Aside0.mk (hp_); have n1_ := Aside0.mk (blk_grown (g := gb131) (o := .cells #[.int .i64 a0_0, .int .i64 a0_1, .int .i64 a0_2, .slice A0_3 l0_3.length c0_3] 24 (0, 0)) (by (with_reducible repeat (first | refine blk_drewN ?_ _ | refine blk_drew ?_ | refine blk_alloc ?_ _)); exact BK131.out) hg (Kd.S_ne HO_5.out BK131.out (by decide))); have n2_ := Aside0.mk ((by rw [hw]; exact below_set (HB.out) GB16.out : Below w.heap.size w w20)); clear HO_5; clear BK131; clear HB; clear HO137; have HO_5 := n0_; have BK131 := n1_; have HB := n2_; clear n0_ n1_ n2_; clear hg hw hp_))
                    (try simp only [← hl5_1])
                    (first | go_roundg k1 | (simp only [← hji11]; go_roundg k1))
                    case measure => have := HK1.out; omega
                    case rel => first | exact ⟨(y138), (wrap64 (x17_1 + 1)), (by first | rfl | (simp; done) | (simp [*]; done)), H', ⟨by have := HK1.out; omega⟩, ⟨by (try simp only [hl5_1]); (with_reducible repeat (first | apply Kd.S_alloc | apply Kd.S_drewN | apply Kd.S_drew)); exact HO_5.out⟩, ⟨by (try simp only [hl5_1]); (with_reducible repeat (first | refine blk_drewN ?_ _ | refine blk_drew ?_ | refine blk_alloc ?_ _)); exact BK131.out⟩, ⟨by repeat (first | (with_reducible first | exact HB.out | apply below_alloc | apply pw_below_drewN | apply below_drew1 | refine below_set ?_ GE131.out) | exact HB.out)⟩⟩ | (subst hji11; exact ⟨(y138), (wrap64 (x17_1 + 1)), (by first | rfl | (simp; done) | (simp [*]; done)), H', ⟨by have := HK1.out; omega⟩, ⟨by (try simp only [hl5_1]); (with_reducible repeat (first | apply Kd.S_alloc | apply Kd.S_drewN | apply Kd.S_drew)); exact HO_5.out⟩, ⟨by (try simp only [hl5_1]); (with_reducible repeat (first | refine blk_drewN ?_ _ | refine blk_drew ?_ | refine blk_alloc ?_ _)); exact BK131.out⟩, ⟨by repeat (first | (with_reducible first | exact HB.out | apply below_alloc | apply pw_below_drewN | apply below_drew1 | refine below_set ?_ GE131.out) | exact HB.out)⟩⟩)
                  · rw [if_neg c15] at H
                    exact absurd H (by simp)
                · rw [if_neg c14] at H
                  exact absurd H (by simp)
              · rw [if_neg c13] at H
                exact absurd H (by simp)
            · rw [if_neg c12] at H
              exact absurd H (by simp)
          · rw [if_neg c10] at H
            have c10b0 : decide (x17_1 < (y132.length : Int)) = false := decide_eq_false c10
            (try (have c10b0h := c10b0; simp only [hl5_1] at c10b0h))
            clear c10
            have H' := Aside0.mk H
            clear H
            go_wp2
            go_loopg [7] k1 (fun kq v7 w' => ∃ (x5_2 : List (List Int)) (x7_2 : Bool), v7 = .bool x7_2 ∧ Aside0 (table_fill.l1 kq l1 x5_2 x7_2 a0_0 a0_1 a0_2 l0_3 = some r) ∧ Aside0 (kq ≤ k1) ∧ Aside0 (Kd.S (Kd.slice 26 (Kd.int .u32)) 42 w' w.heap.size (fun k_ => k_ ≠ (table_fill.aft_ k_ (.slice Ao9 x5_1.length co9))) (.slice Ao9 x5_1.length co9) x5_2) ∧ Aside0 (w'.heap[gb131]? = some (.cells #[.int .i64 a0_0, .int .i64 a0_1, .int .i64 a0_2, (.slice A0_3 l0_3.length c0_3)] 24 (0, 0))) ∧ Aside0 (Below w.heap.size w w'))
            case atStart => exact ⟨(x5_1), (true), (by first | rfl | (simp; done) | (simp [*]; done)), H', ⟨Nat.le_refl _⟩, ⟨by (try simp only [hl5_1]); (with_reducible repeat (first | apply Kd.S_alloc | apply Kd.S_drewN | apply Kd.S_drew)); exact HO_5.out⟩, ⟨by (try simp only [hl5_1]); (with_reducible repeat (first | refine blk_drewN ?_ _ | refine blk_drew ?_ | refine blk_alloc ?_ _)); exact BK131.out⟩, ⟨by repeat (first | (with_reducible first | exact HB.out | apply below_alloc | apply pw_below_drewN | apply below_drew1 | refine below_set ?_ GE131.out) | exact HB.out)⟩⟩
            case round =>
              clear H'
              try clear c1
              try clear p1
              try clear q1
              try clear hx1
              try clear p2
              try clear c3
              try clear c3b0
              try clear c3b1
              try clear c4
              try clear c4b0
              try clear c4b1
              try clear p6
              try clear c10
              try clear c10b0
              try clear c11
              try clear c12
              try clear c12b0
              try clear c12b1
              try clear c13
              try clear c13b0
              try clear c13b1
              try clear c14
              try clear c14b0
              try clear c15
              try clear c15b0
              try clear c16
              try clear p16
              try clear q16
              try clear hx16
              try clear hf16
              try clear c19
              try clear hx19
              try clear hf19
              try clear hcz6_0
              try clear hcz6_1
              try clear hcz6_2
              try clear hcz6_3
              try clear hfz6_0
              try clear hfz6_1
              try clear hfz6_2
              try clear hfz6_3
              try clear hx16_0
              try clear hx19_0
              try clear p16
              try clear p2
              try clear q16
              obtain ⟨x5_2, x7_2, rfl, HA, HK2, HO_5, BK131, HB⟩ := hrel
              have hl5_2 := (Kd.S_reads' HO_5.out).1
              rw [hl5_2] at HO_5
              (try simp only [hl5_2])
              (try simp only [hl5_2] at BK131)
              cases gk with
              | zero => exact absurd HA.out (by simp [table_fill.l1])
              | succ k2 =>
                have H := HA.out
                clear HA
                simp only [table_fill.l1] at H
                by_cases c21 : x7_2 = true
                · subst c21
                  have H1 : (table_fill.l2 k2 l1 x5_2 false l0_3 (l0_3.length : Int) 0 a0_0 a0_1 a0_2 l0_3) = some r := by rw [if_pos rfl] at H; exact H
                  clear H
                  have H := H1
                  clear H1
                  have H' := Aside0.mk H
                  clear H
                  have hcz22_0 : wr.cell? ⟨gb131, 0, none⟩ = some (.int .i64 a0_0) := (blk_cell BK131.out 0).trans rfl
                  have hcz22_1 : wr.cell? ⟨gb131, 1, none⟩ = some (.int .i64 a0_1) := (blk_cell BK131.out 1).trans rfl
                  have hcz22_2 : wr.cell? ⟨gb131, 2, none⟩ = some (.int .i64 a0_2) := (blk_cell BK131.out 2).trans rfl
                  have hcz22_3 : wr.cell? ⟨gb131, 3, none⟩ = some (.slice A0_3 l0_3.length c0_3) := (blk_cell BK131.out 3).trans rfl
                  have hfz22_0 := blk_frozen BK131.out 0
                  have hfz22_1 := blk_frozen BK131.out 1
                  have hfz22_2 := blk_frozen BK131.out 2
                  have hfz22_3 := blk_frozen BK131.out 3
                  go_wp2
                  go_loopg [7, 32] k2 (fun kq v7 v32 w' => ∃ (x5_3 : List (List Int)) (x7_3 : Bool) (x32_3 : Int), v7 = .bool x7_3 ∧ v32 = .int .i64 x32_3 ∧ Aside0 (table_fill.l2 kq l1 x5_3 x7_3 l0_3 (l0_3.length : Int) x32_3 a0_0 a0_1 a0_2 l0_3 = some r) ∧ Aside0 (kq ≤ k2) ∧ Aside0 (Kd.S (Kd.slice 26 (Kd.int .u32)) 42 w' w.heap.size (fun k_ => k_ ≠ (table_fill.aft_ k_ (.slice Ao9 x5_2.length co9))) (.slice Ao9 x5_2.length co9) x5_3) ∧ Aside0 (w'.heap[gb131]? = some (.cells #[.int .i64 a0_0, .int .i64 a0_1, .int .i64 a0_2, (.slice A0_3 l0_3.length c0_3)] 24 (0, 0))) ∧ Aside0 (Below w.heap.size w w'))
                  case atStart => exact ⟨(x5_2), (false), (0), (by first | rfl | (simp; done) | (simp [*]; done)), (by first | rfl | (simp; done) | (simp [*]; done)), H', ⟨Nat.le_refl _⟩, ⟨by (try simp only [hl5_1]); (try simp only [hl5_2]); (with_reducible repeat (first | apply Kd.S_alloc | apply Kd.S_drewN | apply Kd.S_drew)); exact HO_5.out⟩, ⟨by (try simp only [hl5_1]); (try simp only [hl5_2]); (with_reducible repeat (first | refine blk_drewN ?_ _ | refine blk_drew ?_ | refine blk_alloc ?_ _)); exact BK131.out⟩, ⟨by repeat (first | (with_reducible first | exact HB.out | apply below_alloc | apply pw_below_drewN | apply below_drew1 | refine below_set ?_ GE131.out) | exact HB.out)⟩⟩
                  case round =>
                    clear H'
                    try clear c1
                    try clear p1
                    try clear q1
                    try clear hx1
                    try clear c2
                    try clear p2
                    try clear c3
                    try clear c3b0
                    try clear c3b1
                    try clear c4
                    try clear c4b0
                    try clear c4b1
                    try clear p6
                    try clear c10
                    try clear c10b0
                    try clear c11
                    try clear c12
                    try clear c12b0
                    try clear c12b1
                    try clear c13
                    try clear c13b0
                    try clear c13b1
                    try clear c14
                    try clear c14b0
                    try clear c15
                    try clear c15b0
                    try clear c16
                    try clear p16
                    try clear q16
                    try clear hx16
                    try clear hf16
                    try clear c19
                    try clear hx19
                    try clear hf19
                    try clear c21
                    try clear hcz22_0
                    try clear hcz22_1
                    try clear hcz22_2
                    try clear hcz22_3
                    try clear hcz6_0
                    try clear hcz6_1
                    try clear hcz6_2
                    try clear hcz6_3
                    try clear hfz22_0
                    try clear hfz22_1
                    try clear hfz22_2
                    try clear hfz22_3
                    try clear hfz6_0
                    try clear hfz6_1
                    try clear hfz6_2
                    try clear hfz6_3
                    try clear hx16_0
                    try clear hx19_0
                    try clear p1
                    try clear p16
                    try clear p2
                    try clear p6
                    try clear q1
                    try clear q16
                    obtain ⟨x5_3, x7_3, x32_3, rfl, rfl, HA, HK3, HO_5, BK131, HB⟩ := hrel
                    have hl5_3 := (Kd.S_reads' HO_5.out).1
                    rw [hl5_3] at HO_5
                    (try simp only [hl5_3])
                    (try simp only [hl5_3] at BK131)
                    cases gk with
                    | zero => exact absurd HA.out (by simp [table_fill.l2])
                    | succ k3 =>
                      have H := HA.out
                      clear HA
                      simp only [table_fill.l2] at H
                      by_cases c23 : x32_3 < (l0_3.length : Int)
                      · rw [if_pos c23] at H
                        have c23b0 : decide (x32_3 < (l0_3.length : Int)) = true := decide_eq_true c23
                        (try (have c23b0h := c23b0; simp only [hl5_1, hl5_2, hl5_3] at c23b0h))
                        clear c23
                        by_cases c24 : 0 ≤ x32_3
                        · rw [if_pos c24] at H
                          have c24b0 : decide (0 ≤ x32_3) = true := decide_eq_true c24
                          clear c24
                          by_cases c25 : x32_3 < (l0_3.length : Int)
                          · rw [if_pos c25] at H
                            have c25b0 : decide (x32_3 < (l0_3.length : Int)) = true := decide_eq_true c25
                            (try (have c25b0h := c25b0; simp only [hl5_1, hl5_2, hl5_3] at c25b0h))
                            clear c25
                            have H' := Aside0.mk H
                            clear H
                            have p139 : 0 ≤ (x32_3 : Int) := of_decide_eq_true (by first | (with_reducible assumption) | assumption)
                            have q139 : x32_3 < (l0_3.length : Int) := of_decide_eq_true (by first | (with_reducible assumption) | assumption)
                            obtain ⟨ad139, A139_1, c139_1, e139, hx139_0, hx139_1, hl139_1, hi139_1⟩ := at_T47 HR0_3.out x32_3 p139 q139
                            cases e139
                            replace hx139_0 := (HB.out.cell (World.block_lt_of_cell? w _ hx139_0)).trans hx139_0
                            replace hx139_1 := (HB.out.cell (World.block_lt_of_cell? w _ hx139_1)).trans hx139_1
                            have HR139_1 := Aside0.mk hi139_1
                            have HC139_1 := Aside0.mk hl139_1
                            clear hi139_1 hl139_1
                            replace p139 := eq_true p139
                            replace q139 := eq_true q139
                            go_wp2_with (first | ((with_reducible refine gate_dst (N := 9) rfl ?_); refine box_event ?hg (N := 9) ?hd (cs := #[.int .i64 0, .slice none 0 0]) (t := 47) ?hr ?_; (case hd => rfl); (case hg => rfl); (case hr => first | (go_simp; done) | (go_simp; rfl)); intro gb140 hg w26 hbox hb; have n0_ := Aside0.mk (Kd.S_below (by (with_reducible repeat (first | apply Kd.S_alloc | apply Kd.S_drewN | apply Kd.S_drew)); exact HO_5.out) hb); have n1_ := Aside0.mk (blk_below (g := gb131) (o := .cells #[.int .i64 a0_0, .int .i64 a0_1, .int .i64 a0_2, .slice (some ad139) l0_3.length c0_3] 24 (0, 0)) (by (with_reducible repeat (first | refine blk_drewN ?_ _ | refine blk_drew ?_ | refine blk_alloc ?_ _)); exact BK131.out) hb); have n2_ := Aside0.mk (below_step (by repeat (first | (with_reducible first | exact HB.out | apply below_alloc | apply pw_below_drewN | apply below_drew1 | refine below_set ?_ GE131.out) | exact HB.out)) hb); have n3_ := Aside0.mk (hbox); have n4_ := Aside0.mk ((by rw [hg]; exact (below_size (by repeat (first | (with_reducible first | exact HB.out | apply below_alloc | apply pw_below_drewN | apply below_drew1 | refine below_set ?_ GE131.out) | exact HB.out))) : w.heap.size ≤ gb140)); have n5_ := Aside0.mk ((by rw [hg]; exact (below_size (by repeat (first | (with_reducible first | exact HB.out | apply below_alloc | apply pw_below_drewN | apply below_drew1 | refine below_set ?_ GE131.out) | exact HB.out))) : w.heap.size ≤ gb140)); have n6_ := Aside0.mk ((by rw [hg]; exact Nat.ne_of_lt (blk_lt (g := gb131) (o := .cells #[.int .i64 a0_0, .int .i64 a0_1, .int .i64 a0_2, .slice (some ad139) l0_3.length c0_3] 24 (0, 0)) (by (with_reducible repeat (first | refine blk_drewN ?_ _ | refine blk_drew ?_ | refine blk_alloc ?_ _)); exact BK131.out)) : gb131 ≠ gb140)); have n7_ := Aside0.mk ((by rw [hg]; exact Nat.ne_of_gt (blk_lt (g := gb131) (o := .cells #[.int .i64 a0_0, .int .i64 a0_1, .int .i64 a0_2, .slice (some ad139) l0_3.length c0_3] 24 (0, 0)) (by (with_reducible repeat (first | refine blk_drewN ?_ _ | refine blk_drew ?_ | refine blk_alloc ?_ _)); exact BK131.out)) : gb140 ≠ gb131)); clear HO_5; clear BK131; clear HB; have HO_5 := n0_; have BK131 := n1_; have HB := n2_; have BK140 := n3_; have GW140 := n4_; have GE140 := n5_; have NB131_140 := n6_; have NB140_131 := n7_; clear n0_ n1_ n2_ n3_ n4_ n5_ n6_ n7_; clear hb hbox hg; have hnb27 := NB140_131.out; have hnc27 := NB131_140.out; have hcz28_0 : w26.cell? ⟨gb140, 0, none⟩ = some (.int .i64 0) := (blk_cell BK140.out 0).trans rfl; have hcz28_1 : w26.cell? ⟨gb140, 1, none⟩ = some (.slice none 0 0) := (blk_cell BK140.out 1).trans rfl; have hfz28_0 := blk_frozen BK140.out 0; have hfz28_1 := blk_frozen BK140.out 1))
                            go_loopg [7, 39] k3 (fun kq v7 v39 w' => ∃ (x5_4 : List (List Int)) (x7_4 : Bool) (x39_4 : Int), v7 = .bool x7_4 ∧ v39 = .int .i64 x39_4 ∧ Aside0 (table_fill.l3 kq l1 x5_4 x7_4 l0_3 (l0_3.length : Int) x32_3 (wrap64 ((l1.length : Int) + 1)) x39_4 a0_0 a0_1 a0_2 l0_3 ((rd_T47 l0_3 x32_3).f0) ((rd_T47 l0_3 x32_3).f1) = some r) ∧ Aside0 (kq ≤ k3) ∧ Aside0 (Kd.S (Kd.slice 26 (Kd.int .u32)) 42 w' w.heap.size (fun k_ => k_ ≠ (table_fill.aft_ k_ (.slice Ao9 x5_3.length co9))) (.slice Ao9 x5_3.length co9) x5_4) ∧ Aside0 (w'.heap[gb131]? = some (.cells #[.int .i64 a0_0, .int .i64 a0_1, .int .i64 a0_2, (.slice (some ad139) l0_3.length c0_3)] 24 (0, 0))) ∧ Aside0 (w'.heap[gb140]? = some (.cells #[.int .i64 ((rd_T47 l0_3 x32_3).f0), (.slice A139_1 ((rd_T47 l0_3 x32_3).f1).length c139_1)] 47 (0, 0))) ∧ Aside0 (Below w.heap.size w w'))
                            case atStart => exact ⟨(x5_3), (x7_3), (0), (by first | rfl | (simp; done) | (simp [*]; done)), (by first | rfl | (simp; done) | (simp [*]; done)), H', ⟨Nat.le_refl _⟩, ⟨by (try simp only [hl5_1]); (try simp only [hl5_2]); (try simp only [hl5_3]); (with_reducible repeat (first | apply Kd.S_alloc | apply Kd.S_drewN | apply Kd.S_drew)); exact Kd.S_mono (Kd.S_far (p := ⟨gb140, 1, none⟩) (Kd.S_far (p := ⟨gb140, 0, none⟩) (Kd.S_types HO_5.out BK140.out (by decide)) (fun _ hk => hk.2) (.int .i64 ((rd_T47 l0_3 x32_3).f0))) (fun _ hk => hk.2) (.slice A139_1 ((rd_T47 l0_3 x32_3).f1).length c139_1)) (fun _ hk => hk.1)⟩, ⟨by (try simp only [hl5_1]); (try simp only [hl5_2]); (try simp only [hl5_3]); (with_reducible repeat (first | refine blk_drewN ?_ _ | refine blk_drew ?_ | refine blk_alloc ?_ _)); refine blk_far ?_ NB131_140.out _; (with_reducible repeat (first | refine blk_drewN ?_ _ | refine blk_drew ?_ | refine blk_alloc ?_ _)); refine blk_far ?_ NB131_140.out _; (with_reducible repeat (first | refine blk_drewN ?_ _ | refine blk_drew ?_ | refine blk_alloc ?_ _)); exact BK131.out⟩, ⟨by (try simp only [hl5_1]); (try simp only [hl5_2]); (try simp only [hl5_3]); (with_reducible repeat (first | refine blk_drewN ?_ _ | refine blk_drew ?_ | refine blk_alloc ?_ _)); refine blk_put (cs := #[.int .i64 ((rd_T47 l0_3 x32_3).f0), .slice none 0 0]) ?_ 1 _ rfl; (with_reducible repeat (first | refine blk_drewN ?_ _ | refine blk_drew ?_ | refine blk_alloc ?_ _)); refine blk_put (cs := #[.int .i64 0, .slice none 0 0]) ?_ 0 _ rfl; (with_reducible repeat (first | refine blk_drewN ?_ _ | refine blk_drew ?_ | refine blk_alloc ?_ _)); exact BK140.out⟩, ⟨by repeat (first | (with_reducible first | exact HB.out | apply below_alloc | apply pw_below_drewN | apply below_drew1 | refine below_set ?_ GE131.out | refine below_set ?_ GE140.out) | exact HB.out)⟩⟩
                            case round =>
                              clear H'
                              try clear c1
                              try clear p1
                              try clear q1
                              try clear hx1
                              try clear c2
                              try clear p2
                              try clear c3
                              try clear c3b0
                              try clear c3b1
                              try clear c4
                              try clear c4b0
                              try clear c4b1
                              try clear p6
                              try clear c10
                              try clear c10b0
                              try clear c11
                              try clear c12
                              try clear c12b0
                              try clear c12b1
                              try clear c13
                              try clear c13b0
                              try clear c13b1
                              try clear p13
                              try clear q13
                              try clear hx13
                              try clear c14
                              try clear c14b0
                              try clear c15
                              try clear c15b0
                              try clear c16
                              try clear p16
                              try clear q16
                              try clear hx16
                              try clear hf16
                              try clear c19
                              try clear hx19
                              try clear hf19
                              try clear c21
                              try clear c23
                              try clear c23b0
                              try clear c24
                              try clear c24b0
                              try clear c25
                              try clear c25b0
                              try clear c27
                              try clear hcz22_0
                              try clear hcz22_1
                              try clear hcz22_2
                              try clear hcz22_3
                              try clear hcz28_0
                              try clear hcz28_1
                              try clear hcz6_0
                              try clear hcz6_1
                              try clear hcz6_2
                              try clear hcz6_3
                              try clear hfz22_0
                              try clear hfz22_1
                              try clear hfz22_2
                              try clear hfz22_3
                              try clear hfz28_0
                              try clear hfz28_1
                              try clear hfz6_0
                              try clear hfz6_1
                              try clear hfz6_2
                              try clear hfz6_3
                              try clear hx139_0
                              try clear hx139_1
                              try clear hx16_0
                              try clear hx19_0
                              try clear p1
                              try clear p139
                              try clear p16
                              try clear p2
                              try clear p6
                              try clear q1
                              try clear q139
                              try clear q16
                              obtain ⟨x5_4, x7_4, x39_4, rfl, rfl, HA, HK4, HO_5, BK131, BK140, HB⟩ := hrel
                              have hl5_4 := (Kd.S_reads' HO_5.out).1
                              rw [hl5_4] at HO_5
                              (try simp only [hl5_4])
                              (try simp only [hl5_4] at BK131)
                              (try simp only [hl5_4] at BK140)
                              cases gk with
                              | zero => exact absurd HA.out (by simp [table_fill.l3])
                              | succ k4 =>
                                have H := HA.out
                                clear HA
                                simp only [table_fill.l3] at H
                                by_cases c29 : x39_4 < (wrap64 ((l1.length : Int) + 1))
                                · rw [if_pos c29] at H
                                  have c29b0 : decide (x39_4 < (wrap64 ((l1.length : Int) + 1))) = true := decide_eq_true c29
                                  (try (have c29b0h := c29b0; simp only [hl5_1, hl5_2, hl5_3, hl5_4] at c29b0h))
                                  clear c29
                                  by_cases c30 : 0 ≤ x39_4
                                  · rw [if_pos c30] at H
                                    have c30b0 := eq_true c30
                                    have c30b1 : decide (0 ≤ x39_4) = true := decide_eq_true c30
                                    clear c30
                                    obtain ⟨ji31, hji31⟩ : ∃ j_ : Int, (shl .u32 1 x39_4) = j_ := ⟨_, rfl⟩
                                    replace H : ((table_spans_ends.f k4 x5_4 a0_0 a0_1 a0_2 l0_3 l1 ((rd_T47 l0_3 x32_3).f1) (ji31)).bind fun t141 => (if x7_4 = true then (if 0 ≤ ((rd_T47 l0_3 x32_3).f0) then (if ((rd_T47 l0_3 x32_3).f0) < (x5_4.length : Int) then (if x39_4 < ((rd_L4 x5_4 ((rd_T47 l0_3 x32_3).f0)).length : Int) then (table_fill.l3 k4 l1 (x5_4.set (((rd_T47 l0_3 x32_3).f0) : Int).toNat ((rd_L4 x5_4 ((rd_T47 l0_3 x32_3).f0)).set (x39_4 : Int).toNat (Go.bits .or .u32 (rd (rd_L4 x5_4 ((rd_T47 l0_3 x32_3).f0)) x39_4) t141))) true l0_3 (l0_3.length : Int) x32_3 (wrap64 ((l1.length : Int) + 1)) (wrap64 (x39_4 + 1)) a0_0 a0_1 a0_2 l0_3 ((rd_T47 l0_3 x32_3).f0) ((rd_T47 l0_3 x32_3).f1)) else (none)) else (none)) else (none)) else (if 0 ≤ ((rd_T47 l0_3 x32_3).f0) then (if ((rd_T47 l0_3 x32_3).f0) < (x5_4.length : Int) then (if x39_4 < ((rd_L4 x5_4 ((rd_T47 l0_3 x32_3).f0)).length : Int) then (table_fill.l3 k4 l1 (x5_4.set (((rd_T47 l0_3 x32_3).f0) : Int).toNat ((rd_L4 x5_4 ((rd_T47 l0_3 x32_3).f0)).set (x39_4 : Int).toNat (Go.bits .or .u32 (rd (rd_L4 x5_4 ((rd_T47 l0_3 x32_3).f0)) x39_4) t141))) ((Go.bits .andNot .u32 t141 (rd (rd_L4 x5_4 ((rd_T47 l0_3 x32_3).f0)) x39_4)) != 0) l0_3 (l0_3.length : Int) x32_3 (wrap64 ((l1.length : Int) + 1)) (wrap64 (x39_4 + 1)) a0_0 a0_1 a0_2 l0_3 ((rd_T47 l0_3 x32_3).f0) ((rd_T47 l0_3 x32_3).f1)) else (none)) else (none)) else (none)))) = some r := by first | (rw [hji31] at H; exact H) | (simp only [hji31] at H ⊢; exact H)
                                    have hji31_ : (IntKind.u32.wrap (1 * 2 ^ min x39_4.toNat 32)) = ji31 := hji31
                                    have hji31z : x39_4 ≤ 32 → (IntKind.u32.wrap (1 * 2 ^ x39_4.toNat)) = ji31 := shl_small hji31
                                    have hji31u : (IntKind.u32.wrap (2 ^ min x39_4.toNat 32)) = ji31 := by have h_ := hji31_; rw [Int.one_mul] at h_; exact h_
                                    have hji31v : x39_4 ≤ 32 → (IntKind.u32.wrap (2 ^ x39_4.toNat)) = ji31 := fun hle_ => by have h_ := hji31z hle_; rw [Int.one_mul] at h_; exact h_
                                    replace H := Option.bind_eq_some_iff.mp H
                                    obtain ⟨t141, A320, H⟩ := H
                                    replace H : (if x7_4 = true then (if 0 ≤ ((rd_T47 l0_3 x32_3).f0) then (if ((rd_T47 l0_3 x32_3).f0) < (x5_4.length : Int) then (if x39_4 < ((rd_L4 x5_4 ((rd_T47 l0_3 x32_3).f0)).length : Int) then (table_fill.l3 k4 l1 (x5_4.set (((rd_T47 l0_3 x32_3).f0) : Int).toNat ((rd_L4 x5_4 ((rd_T47 l0_3 x32_3).f0)).set (x39_4 : Int).toNat (Go.bits .or .u32 (rd (rd_L4 x5_4 ((rd_T47 l0_3 x32_3).f0)) x39_4) t141))) true l0_3 (l0_3.length : Int) x32_3 (wrap64 ((l1.length : Int) + 1)) (wrap64 (x39_4 + 1)) a0_0 a0_1 a0_2 l0_3 ((rd_T47 l0_3 x32_3).f0) ((rd_T47 l0_3 x32_3).f1)) else (none)) else (none)) else (none)) else (if 0 ≤ ((rd_T47 l0_3 x32_3).f0) then (if ((rd_T47 l0_3 x32_3).f0) < (x5_4.length : Int) then (if x39_4 < ((rd_L4 x5_4 ((rd_T47 l0_3 x32_3).f0)).length : Int) then (table_fill.l3 k4 l1 (x5_4.set (((rd_T47 l0_3 x32_3).f0) : Int).toNat ((rd_L4 x5_4 ((rd_T47 l0_3 x32_3).f0)).set (x39_4 : Int).toNat (Go.bits .or .u32 (rd (rd_L4 x5_4 ((rd_T47 l0_3 x32_3).f0)) x39_4) t141))) ((Go.bits .andNot .u32 t141 (rd (rd_L4 x5_4 ((rd_T47 l0_3 x32_3).f0)) x39_4)) != 0) l0_3 (l0_3.length : Int) x32_3 (wrap64 ((l1.length : Int) + 1)) (wrap64 (x39_4 + 1)) a0_0 a0_1 a0_2 l0_3 ((rd_T47 l0_3 x32_3).f0) ((rd_T47 l0_3 x32_3).f1)) else (none)) else (none)) else (none))) = some r := H
                                    have A32 := Aside0.mk A320
                                    clear A320
                                    by_cases c33 : x7_4 = true
                                    · subst c33
                                      have H1 : (if 0 ≤ ((rd_T47 l0_3 x32_3).f0) then (if ((rd_T47 l0_3 x32_3).f0) < (x5_4.length : Int) then (if x39_4 < ((rd_L4 x5_4 ((rd_T47 l0_3 x32_3).f0)).length : Int) then (table_fill.l3 k4 l1 (x5_4.set (((rd_T47 l0_3 x32_3).f0) : Int).toNat ((rd_L4 x5_4 ((rd_T47 l0_3 x32_3).f0)).set (x39_4 : Int).toNat (Go.bits .or .u32 (rd (rd_L4 x5_4 ((rd_T47 l0_3 x32_3).f0)) x39_4) t141))) true l0_3 (l0_3.length : Int) x32_3 (wrap64 ((l1.length : Int) + 1)) (wrap64 (x39_4 + 1)) a0_0 a0_1 a0_2 l0_3 ((rd_T47 l0_3 x32_3).f0) ((rd_T47 l0_3 x32_3).f1)) else (none)) else (none)) else (none)) = some r := by rw [if_pos rfl] at H; exact H
                                      clear H
                                      have H := H1
                                      clear H1
                                      by_cases c34 : 0 ≤ ((rd_T47 l0_3 x32_3).f0)
                                      · rw [if_pos c34] at H
                                        have c34b0 : decide (0 ≤ ((rd_T47 l0_3 x32_3).f0)) = true := decide_eq_true c34
                                        clear c34
                                        by_cases c35 : ((rd_T47 l0_3 x32_3).f0) < (x5_4.length : Int)
                                        · rw [if_pos c35] at H
                                          have c35b0 : decide (((rd_T47 l0_3 x32_3).f0) < (x5_4.length : Int)) = true := decide_eq_true c35
                                          (try (have c35b0h := c35b0; simp only [hl5_1, hl5_2, hl5_3, hl5_4] at c35b0h))
                                          clear c35
                                          by_cases c36 : x39_4 < ((rd_L4 x5_4 ((rd_T47 l0_3 x32_3).f0)).length : Int)
                                          · rw [if_pos c36] at H
                                            have c36b0 : decide (x39_4 < ((rd_L4 x5_4 ((rd_T47 l0_3 x32_3).f0)).length : Int)) = true := decide_eq_true c36
                                            (try (have c36b0h := c36b0; simp only [hl5_1, hl5_2, hl5_3, hl5_4] at c36b0h))
                                            clear c36
                                            obtain ⟨y144, hy144⟩ : ∃ y_ : List Int, y_ = ((rd_L4 x5_4 ((rd_T47 l0_3 x32_3).f0)).set (x39_4 : Int).toNat (Go.bits .or .u32 (rd (rd_L4 x5_4 ((rd_T47 l0_3 x32_3).f0)) x39_4) t141)) := ⟨_, rfl⟩
                                            replace H : (table_fill.l3 k4 l1 (x5_4.set (((rd_T47 l0_3 x32_3).f0) : Int).toNat y144) true l0_3 (l0_3.length : Int) x32_3 (wrap64 ((l1.length : Int) + 1)) (wrap64 (x39_4 + 1)) a0_0 a0_1 a0_2 l0_3 ((rd_T47 l0_3 x32_3).f0) ((rd_T47 l0_3 x32_3).f1)) = some r := by first | (rw [hy144]; with_reducible exact H) | (have H2_ := (Option.bind_some _ _).symm.trans H; rw [hy144]; with_reducible exact H2_) | (have H2_ := (Option.bind_some _ _).symm.trans H; with_reducible exact H2_) | with_reducible exact H | (rw [hy144]; exact H) | exact H
                                            have Ny144 := Aside0.mk hy144
                                            clear hy144
                                            obtain ⟨y146, hy146⟩ : ∃ y_ : List (List Int), y_ = (x5_4.set (((rd_T47 l0_3 x32_3).f0) : Int).toNat y144) := ⟨_, rfl⟩
                                            replace H : (table_fill.l3 k4 l1 y146 true l0_3 (l0_3.length : Int) x32_3 (wrap64 ((l1.length : Int) + 1)) (wrap64 (x39_4 + 1)) a0_0 a0_1 a0_2 l0_3 ((rd_T47 l0_3 x32_3).f0) ((rd_T47 l0_3 x32_3).f1)) = some r := by first | (rw [hy146]; with_reducible exact H) | (have H2_ := (Option.bind_some _ _).symm.trans H; rw [hy146]; with_reducible exact H2_) | (have H2_ := (Option.bind_some _ _).symm.trans H; with_reducible exact H2_) | with_reducible exact H | (rw [hy146]; exact H) | exact H
                                            have Ny146 := Aside0.mk hy146
                                            clear hy146
                                            have H' := Aside0.mk H
                                            clear H
                                            try go_wp2
                                            have n0_ := Aside0.mk (Kd.S_drew HO_5.out)
                                            have n1_ := Aside0.mk (blk_drew BK131.out)
                                            have n2_ := Aside0.mk (blk_drew BK140.out)
                                            have n3_ := Aside0.mk (below_drew1 HB.out)
                                            clear HO_5
                                            clear BK131
                                            clear BK140
                                            clear HB
                                            have HO_5 := n0_
                                            have BK131 := n1_
                                            have BK140 := n2_
                                            have HB := n3_
                                            clear n0_ n1_ n2_ n3_
                                            refine start_ (n := 9) (S := fun w' => w'.cell? ⟨gb131, 0, none⟩ = some (.int .i64 a0_0) ∧ w'.cell? ⟨gb131, 1, none⟩ = some (.int .i64 a0_1) ∧ w'.cell? ⟨gb131, 2, none⟩ = some (.int .i64 a0_2) ∧ w'.cell? ⟨gb131, 3, none⟩ = some (.slice (some ad139) l0_3.length c0_3) ∧ w'.cell? ⟨gb140, 0, none⟩ = some (.int .i64 ((rd_T47 l0_3 x32_3).f0)) ∧ w'.cell? ⟨gb140, 1, none⟩ = some (.slice A139_1 ((rd_T47 l0_3 x32_3).f1).length c139_1)) (ds := []) #[false, false, false, false, false, false, false, false, false] (by kernel_rfl) rfl rfl ⟨(blk_cell BK131.out 0).trans rfl, (blk_cell BK131.out 1).trans rfl, (blk_cell BK131.out 2).trans rfl, (blk_cell BK131.out 3).trans rfl, (blk_cell BK140.out 0).trans rfl, (blk_cell BK140.out 1).trans rfl⟩ (fun hHeld => ?_); refine with_tabW table_fill.tab16 table_fill.bits16 (fun HT_ HW_ => ?_)
                                            generalize wr.drew = w38 at HO_5 BK131 BK140 HB hHeld ⊢
                                            refine pure_ (i := 0) (N := some 42) (v := ?_) (a' := ?_) #[true, false, false, false, false, false, false, false, false] rfl rfl (any_of HT_.out (by kernel_rfl)) (fun _ _ _ h => h) (Or.inl ⟨by rfl, ?_⟩) ?_ ?_
                                            rotate_left
                                            · intro w'
                                              go_simp
                                              with_reducible rfl
                                            rotate_left
                                            · simp only [Act.put, List.setIfInBounds_toArray, List.set_cons_zero, List.set_cons_succ, i64_w, i32_w]
                                              rfl
                                            refine pure_ (i := 2) (N := some 44) (v := ?_) (a' := ?_) #[true, false, true, false, false, false, false, false, false] rfl rfl (any_of HT_.out (by kernel_rfl)) (fun _ _ _ h => h) (Or.inl ⟨by rfl, ?_⟩) ?_ ?_
                                            rotate_left
                                            · intro w'
                                              go_simp
                                              with_reducible rfl
                                            rotate_left
                                            · simp only [Act.put, List.setIfInBounds_toArray, List.set_cons_zero, List.set_cons_succ, i64_w, i32_w]
                                              rfl
                                            refine pure_ (i := 3) (N := some 45) (v := ?_) (a' := ?_) #[true, false, true, true, false, false, false, false, false] rfl rfl (any_of HT_.out (by kernel_rfl)) (fun _ _ _ h => h) (Or.inl ⟨by rfl, ?_⟩) ?_ ?_
                                            rotate_left
                                            · intro w'
                                              go_simp
                                              with_reducible rfl
                                            rotate_left
                                            · simp only [Act.put, List.setIfInBounds_toArray, List.set_cons_zero, List.set_cons_succ, i64_w, i32_w]
                                              rfl
                                            refine pure_ (i := 5) (N := some 47) (v := ?_) (a' := ?_) #[true, false, true, true, false, true, false, false, false] rfl rfl (any_of HT_.out (by kernel_rfl)) (fun _ _ _ h => h) (Or.inl ⟨by rfl, ?_⟩) ?_ ?_
                                            rotate_left
                                            · intro w'
                                              go_simp
                                              with_reducible rfl
                                            rotate_left
                                            · simp only [Act.put, List.setIfInBounds_toArray, List.set_cons_zero, List.set_cons_succ, i64_w, i32_w]
                                              rfl
                                            refine pure_ (i := 6) (N := some 48) (v := ?_) (a' := ?_) #[true, false, true, true, false, true, true, false, false] rfl rfl (any_of HT_.out (by kernel_rfl)) (fun _ _ _ h => h) (Or.inl ⟨by rfl, ?_⟩) ?_ ?_
                                            rotate_left
                                            · intro w'
                                              go_simp
                                              with_reducible rfl
                                            rotate_left
                                            · simp only [Act.put, List.setIfInBounds_toArray, List.set_cons_zero, List.set_cons_succ, i64_w, i32_w]
                                              rfl
                                            refine take_ (i := 1) (N := some 43) (v := ?_) (a' := ?_) #[true, true, true, true, false, true, true, false, false] rfl rfl (take_ofW HT_.out HW_.out (by kernel_rfl)) (fun _ _ _ h => h) (Or.inl ⟨by rfl, ?_⟩) hHeld ?_ ?_
                                            rotate_left
                                            · rintro w' ⟨s0, s1, s2, s3, s4, s5⟩
                                              go_simp
                                              with_reducible rfl
                                            rotate_left
                                            · simp only [Act.put, List.setIfInBounds_toArray, List.set_cons_zero, List.set_cons_succ, i64_w, i32_w]
                                              rfl
                                            refine take_ (i := 4) (N := some 46) (v := ?_) (a' := ?_) #[true, true, true, true, true, true, true, false, false] rfl rfl (take_ofW HT_.out HW_.out (by kernel_rfl)) (fun _ _ _ h => h) (Or.inl ⟨by rfl, ?_⟩) hHeld ?_ ?_
                                            rotate_left
                                            · rintro w' ⟨s0, s1, s2, s3, s4, s5⟩
                                              go_simp
                                              with_reducible rfl
                                            rotate_left
                                            · simp only [Act.put, List.setIfInBounds_toArray, List.set_cons_zero, List.set_cons_succ, i64_w, i32_w]
                                              rfl
                                            refine one_ (i := 7) (N := some 49) #[true, true, true, true, true, true, true, true, false] rfl rfl (one_of HT_.out (by kernel_rfl)) (by decide) (fun K hK => ?_)
                                            refine goes_ Try.func17 (by kernel_rfl) rfl #[.slice Ao9 x5_4.length co9, .agg #[.int .i64 a0_0, .int .i64 a0_1, .int .i64 a0_2, .slice (some ad139) l0_3.length c0_3], .slice A1 l1.length c1, .slice A139_1 ((rd_T47 l0_3 x32_3).f1).length c139_1, .int .u32 ji31] (by rfl) rfl rfl (by (try simp only [List.map_toArray, List.map_cons, List.map_nil]); first | done | (simp only [hji31]; rfl) | rfl | (simp only [List.length_drop, List.length_take]; rfl)) ?_
                                            with_reducible refine (table_spans_ends.calls k4 _ _ x5_4 a0_0 a0_1 a0_2 _ _ l0_3 _ _ l1 _ _ ((rd_T47 l0_3 x32_3).f1) ji31 t141 _ ?side1 ?side2 ?side3 ?side4 ?side5 ?side6 ?side7 ?side8 A32.out).mono ?_
                                            (case side1 => repeat (first | exact (Kd.S_reads' HO_5.out).2.2 | (with_reducible refine Kd.C_alloc ?_ _) | (with_reducible refine Kd.C_drewN ?_ _) | (with_reducible refine Kd.C_drew ?_)))
                                            (case side2 => exact (Kd.S_reads' HO_5.out).2.1)
                                            (case side3 => repeat (first | exact (Kd.C_below HR0_3.out HB.out) | (with_reducible refine Kd.C_alloc ?_ _) | (with_reducible refine Kd.C_drewN ?_ _) | (with_reducible refine Kd.C_drew ?_)))
                                            (case side4 => exact HC0_3.out)
                                            (case side5 => repeat (first | exact (Kd.C_below HR1.out HB.out) | (with_reducible refine Kd.C_alloc ?_ _) | (with_reducible refine Kd.C_drewN ?_ _) | (with_reducible refine Kd.C_drew ?_)))
                                            (case side6 => exact HC1.out)
                                            (case side7 => repeat (first | exact (Kd.C_below HR139_1.out HB.out) | (with_reducible refine Kd.C_alloc ?_ _) | (with_reducible refine Kd.C_drewN ?_ _) | (with_reducible refine Kd.C_drew ?_)))
                                            (case side8 => exact HC139_1.out)
                                            rintro e w39 ⟨rfl, hb⟩
                                            refine ⟨_, rfl, ?_⟩
                                            have n0_ := Aside0.mk (Kd.S_below (by (with_reducible repeat (first | apply Kd.S_alloc | apply Kd.S_drewN | apply Kd.S_drew)); exact HO_5.out) hb)
                                            have n1_ := Aside0.mk (blk_below (g := gb131) (o := .cells #[.int .i64 a0_0, .int .i64 a0_1, .int .i64 a0_2, .slice (some ad139) l0_3.length c0_3] 24 (0, 0)) (by (with_reducible repeat (first | refine blk_drewN ?_ _ | refine blk_drew ?_ | refine blk_alloc ?_ _)); exact BK131.out) hb)
                                            have n2_ := Aside0.mk (blk_below (g := gb140) (o := .cells #[.int .i64 ((rd_T47 l0_3 x32_3).f0), .slice A139_1 ((rd_T47 l0_3 x32_3).f1).length c139_1] 47 (0, 0)) (by (with_reducible repeat (first | refine blk_drewN ?_ _ | refine blk_drew ?_ | refine blk_alloc ?_ _)); exact BK140.out) hb)
                                            have n3_ := Aside0.mk (below_step (by repeat (first | (with_reducible first | exact HB.out | apply below_alloc | apply pw_below_drewN | apply below_drew1 | refine below_set ?_ GE131.out | refine below_set ?_ GE140.out) | exact HB.out)) hb)
                                            clear HO_5
                                            clear BK131
                                            clear BK140
                                            clear HB
                                            have HO_5 := n0_
                                            have BK131 := n1_
                                            have BK140 := n2_
                                            have HB := n3_
                                            clear n0_ n1_ n2_ n3_
                                            (try clear hb)
                                            (try clear hb2)
                                            (try clear hk)
                                            (try clear hi)
                                            refine hK.out _ _ ⟨(blk_cell BK131.out 0).trans rfl, (blk_cell BK131.out 1).trans rfl, (blk_cell BK131.out 2).trans rfl, (blk_cell BK131.out 3).trans rfl, (blk_cell BK140.out 0).trans rfl, (blk_cell BK140.out 1).trans rfl⟩ (fun hHeld => ?_)
                                            clear hK K
                                            refine norm_ (a' := ?_) ?_ ?_
                                            rotate_left
                                            · show Act.put _ (some 49) _ = _
                                              simp only [Act.put, List.setIfInBounds_toArray, List.set_cons_zero, List.set_cons_succ, i64_w, i32_w]
                                              rfl
                                            refine pure_ (i := 8) (N := some 11) (v := ?_) (a' := ?_) #[true, true, true, true, true, true, true, true, true] rfl rfl (any_of HT_.out (by kernel_rfl)) (fun _ _ _ h => h) (Or.inl ⟨by rfl, ?_⟩) ?_ ?_
                                            rotate_left
                                            · intro w'
                                              go_simp
                                              with_reducible rfl
                                            rotate_left
                                            · simp only [Act.put, List.setIfInBounds_toArray, List.set_cons_zero, List.set_cons_succ, i64_w, i32_w]
                                              rfl
                                            refine done_ (done_of HT_.out (by kernel_rfl)) ?_
                                            have hnb40 := NB140_131.out
                                            have hnc40 := NB131_140.out
                                            have hcz41_0 : w39.cell? ⟨gb140, 0, none⟩ = some (.int .i64 ((rd_T47 l0_3 x32_3).f0)) := (blk_cell BK140.out 0).trans rfl
                                            have hcz41_1 : w39.cell? ⟨gb140, 1, none⟩ = some (.slice A139_1 ((rd_T47 l0_3 x32_3).f1).length c139_1) := (blk_cell BK140.out 1).trans rfl
                                            have hfz41_0 := blk_frozen BK140.out 0
                                            have hfz41_1 := blk_frozen BK140.out 1
                                            have p142 : 0 ≤ (((rd_T47 l0_3 x32_3).f0) : Int) := of_decide_eq_true (by first | (with_reducible assumption) | assumption)
                                            have q142 : ((rd_T47 l0_3 x32_3).f0) < (x5_4.length : Int) := of_decide_eq_true (by first | (with_reducible assumption) | assumption)
                                            obtain ⟨ad142, A142_0, c142_0, e142, hx142_0, hl142_0, hi142_0⟩ := at_L4 (Kd.S_reads' HO_5.out).2.2 ((rd_T47 l0_3 x32_3).f0) p142 q142
                                            cases e142
                                            obtain ⟨ce142, hce142, hMe142, hcc142⟩ := Kd.S_get HO_5.out [] ((rd_T47 l0_3 x32_3).f0) p142 (by first | exact q142 | exact of_decide_eq_true (by first | (with_reducible assumption) | assumption) | (have e_ := (Kd.S_reads' HO_5.out).1; omega))
                                            obtain ⟨ve142_0, rfl, ge142_0⟩ := hMe142
                                            have hv142_0 := hcc142 0 _ rfl
                                            rw [Nat.add_zero, show ((Kd.slice 26 (Kd.int .u32))).sz = 1 from rfl, Nat.mul_one] at hv142_0
                                            replace hv142_0 := Option.some.inj (hv142_0.symm.trans hx142_0)
                                            rw [hv142_0] at ge142_0
                                            have HL142_0 := Aside0.mk (show Kd.R (Kd.int .u32) 26 _ _ _ _ (rd_L4 x5_4 ((rd_T47 l0_3 x32_3).f0)) from ge142_0)
                                            clear hv142_0 ge142_0
                                            have HX142_0 := Aside0.mk hx142_0
                                            clear hcc142 hce142
                                            have HR142_0 := Aside0.mk hi142_0
                                            have HC142_0 := Aside0.mk hl142_0
                                            clear hi142_0 hl142_0
                                            replace p142 := eq_true p142
                                            replace q142 := eq_true q142
                                            have p143 : 0 ≤ (x39_4 : Int) := of_decide_eq_true (by first | (with_reducible assumption) | assumption)
                                            have q143 : x39_4 < ((rd_L4 x5_4 ((rd_T47 l0_3 x32_3).f0)).length : Int) := of_decide_eq_true (by first | (with_reducible assumption) | assumption)
                                            obtain ⟨ad143, e143, hx143_0⟩ := Kd.at_int (by repeat (first | (with_reducible exact HR142_0.out) | (with_reducible refine Kd.C_alloc ?_ _) | (with_reducible refine Kd.C_drewN ?_ _) | (with_reducible refine Kd.C_drew ?_) | exact HR142_0.out)) x39_4 p143 q143
                                            cases e143
                                            replace p143 := eq_true p143
                                            replace q143 := eq_true q143
                                            have p37 : 0 ≤ (x39_4 : Int) := of_decide_eq_true (by first | (with_reducible assumption) | assumption)
                                            have q37 : (x39_4 : Int) < (((rd_L4 x5_4 ((rd_T47 l0_3 x32_3).f0)).length : Int) : Int) := of_decide_eq_true (by first | (with_reducible assumption) | assumption)
                                            obtain ⟨go37, co37, eo37, gb37, gl37, cl37, HG37⟩ := Kd.R_form HL142_0.out (by omega)
                                            (first | cases eo37 | (injection eo37 with ea_ en_ ec_; (first | subst ea_ | (injection ea_ with ea_; subst ea_)); subst ec_; clear en_))
                                            have GB37 := Aside0.mk gb37
                                            have GG37 := Aside0.mk HG37
                                            clear gb37 gl37 HG37
                                            (first | simp only [add_plain] at hx143_0 | skip)
                                            obtain ⟨hx37_0, hf37_0⟩ := Kd.R_celln 0 HL142_0.out (x39_4 : Int) p37 q37
                                            replace p37 := eq_true p37
                                            replace q37 := eq_true q37
                                            have hq42 : (((rd_T47 l0_3 x32_3).f0) : Int) < (x5_4.length : Int) := (by have h_ : (((rd_T47 l0_3 x32_3).f0) : Int) < ((x5_4.length : Int) : Int) := of_decide_eq_true (by first | (with_reducible assumption) | assumption); first | exact h_ | (have e_ := (Kd.S_reads' HO_5.out).1; omega) | simpa only [List.length_set, List.length_set] using h_)
                                            obtain ⟨oki42, ce42, hcl42, hM42, hcc42, hok42, hbk42⟩ := Kd.S_borrow HO_5.out [] (((rd_T47 l0_3 x32_3).f0) : Int) (of_decide_eq_true (by first | (with_reducible assumption) | assumption)) hq42
                                            obtain ⟨ve42_0, rfl, ge42_0⟩ := hM42
                                            have hv42 := hcc42 0 _ rfl
                                            rw [Nat.add_zero, show ((Kd.slice 26 (Kd.int .u32))).sz = 1 from rfl, Nat.mul_one] at hv42
                                            replace hv42 := Option.some.inj (hv42.symm.trans HX142_0.out)
                                            subst hv42
                                            clear hcc42 hcl42
                                            replace ge42_0 := (show Kd.R (Kd.int .u32) 26 _ _ _ _ (rd_L4 x5_4 ((rd_T47 l0_3 x32_3).f0)) from ge42_0)
                                            (try (obtain ⟨hy42_, hz42_⟩ := Kd.R_celln 0 ge42_0 (x39_4 : Int) (of_decide_eq_true (by first | (with_reducible assumption) | assumption)) (by have h_ : (x39_4 : Int) < (((rd_L4 x5_4 ((rd_T47 l0_3 x32_3).f0)).length : Int) : Int) := of_decide_eq_true (by first | (with_reducible assumption) | assumption); first | exact h_ | (have e_ := (Kd.R_reads' HR142_0.out).1; omega) | simpa using h_)))
                                            have HP42 := Kd.R_putg ge42_0 (x39_4 : Int) (Go.bits .or .u32 (rd (rd_L4 x5_4 ((rd_T47 l0_3 x32_3).f0)) x39_4) t141)
                                            try go_wp2_with (first | ((with_reducible refine gate_store (t := 26) (p := 74) rfl ?_); refine store_event (t := 26) (p := 74) (v := ?vo_w43) (w1 := (w39.setCell ⟨go37, (x39_4 : Int).toNat, none⟩ (.int .u32 (Go.bits .or .u32 (rd (rd_L4 x5_4 ((rd_T47 l0_3 x32_3).f0)) x39_4) t141)))) ?hg ?ho ?hn ?hr ?_; (case ho => rfl); (case hg => rfl); (case hn => rfl); (case hr => first | (go_simp; done) | (go_simp; rfl)); intro w43 hw; have hg : w39.grownBy w43 (some go37) := (by rw [hw]; exact HP42.2); have hz_ : Kd.R (Kd.int .u32) 26 w43 w.heap.size oki42 (.slice (some ⟨go37, 0, none⟩) (rd_L4 x5_4 ((rd_T47 l0_3 x32_3).f0)).length c142_0) y144 := (by rw [hw, Ny144.out]; exact HP42.1); have hp_ : Kd.S (Kd.slice 26 (Kd.int .u32)) 42 w43 w.heap.size (fun k_ => k_ ≠ (table_fill.aft_ k_ (.slice (some ad142) x5_4.length co9))) (.slice (some ad142) x5_4.length co9) y146 := (by rw [Ny146.out]; exact hbk42 hg (fun k_ e_ => by injection e_ with e_; subst e_; exact ge42_0.1 _ rfl) (Kd.M_row hz_)); have hm_ := Kd.R_mono hz_ hok42; clear HP42 hbk42; have n0_ := Aside0.mk (hp_); have n1_ := Aside0.mk (blk_grown (g := gb131) (o := .cells #[.int .i64 a0_0, .int .i64 a0_1, .int .i64 a0_2, .slice (some ad139) l0_3.length c0_3] 24 (0, 0)) (by (with_reducible repeat (first | refine blk_drewN ?_ _ | refine blk_drew ?_ | refine blk_alloc ?_ _)); exact BK131.out) hg (Kd.R_ne HL142_0.out BK131.out (by decide))); have n2_ := Aside0.mk (blk_grown (g := gb140) (o := .cells #[.int .i64 ((rd_T47 l0_3 x32_3).f0), .slice A139_1 ((rd_T47 l0_3 x32_3).f1).length c139_1] 47 (0, 0)) (by (with_reducible repeat (first | refine blk_drewN ?_ _ | refine blk_drew ?_ | refine blk_alloc ?_ _)); exact BK140.out) hg (Kd.R_ne HL142_0.out BK140.out (by decide))); have n3_ := Aside0.mk ((by rw [hw]; exact below_set (HB.out) GB37.out : Below w.heap.size w w43)); have n4_ := Aside0.mk (hm_); have n5_ := Aside0.mk ((Kd.R_reads' hm_).2.1); clear HO_5; clear BK131; clear BK140; clear HB; clear HL142_0; have HO_5 := n0_; have BK131 := n1_; have BK140 := n2_; have HB := n3_; have HL154 := n4_; have HC145 := n5_; clear n0_ n1_ n2_ n3_ n4_ n5_; clear hg hw hp_ hz_ hm_ hok42))
                                            (try simp only [← hl5_4])
                                            (first | go_roundg k4 | (simp only [← hji31]; go_roundg k4))
                                            case measure => have := HK1.out; have := HK2.out; have := HK3.out; have := HK4.out; omega
                                            case rel => first | exact ⟨(y146), (true), (wrap64 (x39_4 + 1)), (by first | rfl | (simp; done) | (simp [*]; done)), (by first | rfl | (simp; done) | (simp [*]; done)), H', ⟨by have := HK1.out; have := HK2.out; have := HK3.out; have := HK4.out; omega⟩, ⟨by (try simp only [hl5_1]); (try simp only [hl5_2]); (try simp only [hl5_3]); (try simp only [hl5_4]); (with_reducible repeat (first | apply Kd.S_alloc | apply Kd.S_drewN | apply Kd.S_drew)); exact HO_5.out⟩, ⟨by (try simp only [hl5_1]); (try simp only [hl5_2]); (try simp only [hl5_3]); (try simp only [hl5_4]); (with_reducible repeat (first | refine blk_drewN ?_ _ | refine blk_drew ?_ | refine blk_alloc ?_ _)); exact BK131.out⟩, ⟨by (try simp only [hl5_1]); (try simp only [hl5_2]); (try simp only [hl5_3]); (try simp only [hl5_4]); (with_reducible repeat (first | refine blk_drewN ?_ _ | refine blk_drew ?_ | refine blk_alloc ?_ _)); exact BK140.out⟩, ⟨by repeat (first | (with_reducible first | exact HB.out | apply below_alloc | apply pw_below_drewN | apply below_drew1 | refine below_set ?_ GE131.out | refine below_set ?_ GE140.out) | exact HB.out)⟩⟩ | (subst hji31; exact ⟨(y146), (true), (wrap64 (x39_4 + 1)), (by first | rfl | (simp; done) | (simp [*]; done)), (by first | rfl | (simp; done) | (simp [*]; done)), H', ⟨by have := HK1.out; have := HK2.out; have := HK3.out; have := HK4.out; omega⟩, ⟨by (try simp only [hl5_1]); (try simp only [hl5_2]); (try simp only [hl5_3]); (try simp only [hl5_4]); (with_reducible repeat (first | apply Kd.S_alloc | apply Kd.S_drewN | apply Kd.S_drew)); exact HO_5.out⟩, ⟨by (try simp only [hl5_1]); (try simp only [hl5_2]); (try simp only [hl5_3]); (try simp only [hl5_4]); (with_reducible repeat (first | refine blk_drewN ?_ _ | refine blk_drew ?_ | refine blk_alloc ?_ _)); exact BK131.out⟩, ⟨by (try simp only [hl5_1]); (try simp only [hl5_2]); (try simp only [hl5_3]); (try simp only [hl5_4]); (with_reducible repeat (first | refine blk_drewN ?_ _ | refine blk_drew ?_ | refine blk_alloc ?_ _)); exact BK140.out⟩, ⟨by repeat (first | (with_reducible first | exact HB.out | apply below_alloc | apply pw_below_drewN | apply below_drew1 | refine below_set ?_ GE131.out | refine below_set ?_ GE140.out) | exact HB.out)⟩⟩)
                                          · rw [if_neg c36] at H
                                            exact absurd H (by simp)
                                        · rw [if_neg c35] at H
                                          exact absurd H (by simp)
                                      · rw [if_neg c34] at H
                                        exact absurd H (by simp)
                                    · replace c33 := Bool.eq_false_iff.mpr c33
                                      subst c33
                                      have H1 : (if 0 ≤ ((rd_T47 l0_3 x32_3).f0) then (if ((rd_T47 l0_3 x32_3).f0) < (x5_4.length : Int) then (if x39_4 < ((rd_L4 x5_4 ((rd_T47 l0_3 x32_3).f0)).length : Int) then (table_fill.l3 k4 l1 (x5_4.set (((rd_T47 l0_3 x32_3).f0) : Int).toNat ((rd_L4 x5_4 ((rd_T47 l0_3 x32_3).f0)).set (x39_4 : Int).toNat (Go.bits .or .u32 (rd (rd_L4 x5_4 ((rd_T47 l0_3 x32_3).f0)) x39_4) t141))) ((Go.bits .andNot .u32 t141 (rd (rd_L4 x5_4 ((rd_T47 l0_3 x32_3).f0)) x39_4)) != 0) l0_3 (l0_3.length : Int) x32_3 (wrap64 ((l1.length : Int) + 1)) (wrap64 (x39_4 + 1)) a0_0 a0_1 a0_2 l0_3 ((rd_T47 l0_3 x32_3).f0) ((rd_T47 l0_3 x32_3).f1)) else (none)) else (none)) else (none)) = some r := by rw [if_neg (show ¬ (false = true) by decide)] at H; exact H
                                      clear H
                                      have H := H1
                                      clear H1
                                      by_cases c44 : 0 ≤ ((rd_T47 l0_3 x32_3).f0)
                                      · rw [if_pos c44] at H
                                        have c44b0 : decide (0 ≤ ((rd_T47 l0_3 x32_3).f0)) = true := decide_eq_true c44
                                        clear c44
                                        by_cases c45 : ((rd_T47 l0_3 x32_3).f0) < (x5_4.length : Int)
                                        · rw [if_pos c45] at H
                                          have c45b0 : decide (((rd_T47 l0_3 x32_3).f0) < (x5_4.length : Int)) = true := decide_eq_true c45
                                          (try (have c45b0h := c45b0; simp only [hl5_1, hl5_2, hl5_3, hl5_4] at c45b0h))
                                          clear c45
                                          by_cases c46 : x39_4 < ((rd_L4 x5_4 ((rd_T47 l0_3 x32_3).f0)).length : Int)
                                          · rw [if_pos c46] at H
                                            have c46b0 : decide (x39_4 < ((rd_L4 x5_4 ((rd_T47 l0_3 x32_3).f0)).length : Int)) = true := decide_eq_true c46
                                            (try (have c46b0h := c46b0; simp only [hl5_1, hl5_2, hl5_3, hl5_4] at c46b0h))
                                            clear c46
                                            obtain ⟨y151, hy151⟩ : ∃ y_ : List Int, y_ = ((rd_L4 x5_4 ((rd_T47 l0_3 x32_3).f0)).set (x39_4 : Int).toNat (Go.bits .or .u32 (rd (rd_L4 x5_4 ((rd_T47 l0_3 x32_3).f0)) x39_4) t141)) := ⟨_, rfl⟩
                                            replace H : (table_fill.l3 k4 l1 (x5_4.set (((rd_T47 l0_3 x32_3).f0) : Int).toNat y151) ((Go.bits .andNot .u32 t141 (rd (rd_L4 x5_4 ((rd_T47 l0_3 x32_3).f0)) x39_4)) != 0) l0_3 (l0_3.length : Int) x32_3 (wrap64 ((l1.length : Int) + 1)) (wrap64 (x39_4 + 1)) a0_0 a0_1 a0_2 l0_3 ((rd_T47 l0_3 x32_3).f0) ((rd_T47 l0_3 x32_3).f1)) = some r := by first | (rw [hy151]; with_reducible exact H) | (have H2_ := (Option.bind_some _ _).symm.trans H; rw [hy151]; with_reducible exact H2_) | (have H2_ := (Option.bind_some _ _).symm.trans H; with_reducible exact H2_) | with_reducible exact H | (rw [hy151]; exact H) | exact H
                                            have Ny151 := Aside0.mk hy151
                                            clear hy151
                                            obtain ⟨y153, hy153⟩ : ∃ y_ : List (List Int), y_ = (x5_4.set (((rd_T47 l0_3 x32_3).f0) : Int).toNat y151) := ⟨_, rfl⟩
                                            replace H : (table_fill.l3 k4 l1 y153 ((Go.bits .andNot .u32 t141 (rd (rd_L4 x5_4 ((rd_T47 l0_3 x32_3).f0)) x39_4)) != 0) l0_3 (l0_3.length : Int) x32_3 (wrap64 ((l1.length : Int) + 1)) (wrap64 (x39_4 + 1)) a0_0 a0_1 a0_2 l0_3 ((rd_T47 l0_3 x32_3).f0) ((rd_T47 l0_3 x32_3).f1)) = some r := by first | (rw [hy153]; with_reducible exact H) | (have H2_ := (Option.bind_some _ _).symm.trans H; rw [hy153]; with_reducible exact H2_) | (have H2_ := (Option.bind_some _ _).symm.trans H; with_reducible exact H2_) | with_reducible exact H | (rw [hy153]; exact H) | exact H
                                            have Ny153 := Aside0.mk hy153
                                            clear hy153
                                            have H' := Aside0.mk H
                                            clear H
                                            try go_wp2
                                            have n0_ := Aside0.mk (Kd.S_drew HO_5.out)
                                            have n1_ := Aside0.mk (blk_drew BK131.out)
                                            have n2_ := Aside0.mk (blk_drew BK140.out)
                                            have n3_ := Aside0.mk (below_drew1 HB.out)
                                            clear HO_5
                                            clear BK131
                                            clear BK140
                                            clear HB
                                            have HO_5 := n0_
                                            have BK131 := n1_
                                            have BK140 := n2_
                                            have HB := n3_
                                            clear n0_ n1_ n2_ n3_
                                            refine start_ (n := 9) (S := fun w' => w'.cell? ⟨gb131, 0, none⟩ = some (.int .i64 a0_0) ∧ w'.cell? ⟨gb131, 1, none⟩ = some (.int .i64 a0_1) ∧ w'.cell? ⟨gb131, 2, none⟩ = some (.int .i64 a0_2) ∧ w'.cell? ⟨gb131, 3, none⟩ = some (.slice (some ad139) l0_3.length c0_3) ∧ w'.cell? ⟨gb140, 0, none⟩ = some (.int .i64 ((rd_T47 l0_3 x32_3).f0)) ∧ w'.cell? ⟨gb140, 1, none⟩ = some (.slice A139_1 ((rd_T47 l0_3 x32_3).f1).length c139_1)) (ds := []) #[false, false, false, false, false, false, false, false, false] (by kernel_rfl) rfl rfl ⟨(blk_cell BK131.out 0).trans rfl, (blk_cell BK131.out 1).trans rfl, (blk_cell BK131.out 2).trans rfl, (blk_cell BK131.out 3).trans rfl, (blk_cell BK140.out 0).trans rfl, (blk_cell BK140.out 1).trans rfl⟩ (fun hHeld => ?_); refine with_tabW table_fill.tab16 table_fill.bits16 (fun HT_ HW_ => ?_)
                                            generalize wr.drew = w48 at HO_5 BK131 BK140 HB hHeld ⊢
                                            refine pure_ (i := 0) (N := some 42) (v := ?_) (a' := ?_) #[true, false, false, false, false, false, false, false, false] rfl rfl (any_of HT_.out (by kernel_rfl)) (fun _ _ _ h => h) (Or.inl ⟨by rfl, ?_⟩) ?_ ?_
                                            rotate_left
                                            · intro w'
                                              go_simp
                                              with_reducible rfl
                                            rotate_left
                                            · simp only [Act.put, List.setIfInBounds_toArray, List.set_cons_zero, List.set_cons_succ, i64_w, i32_w]
                                              rfl
                                            refine pure_ (i := 2) (N := some 44) (v := ?_) (a' := ?_) #[true, false, true, false, false, false, false, false, false] rfl rfl (any_of HT_.out (by kernel_rfl)) (fun _ _ _ h => h) (Or.inl ⟨by rfl, ?_⟩) ?_ ?_
                                            rotate_left
                                            · intro w'
                                              go_simp
                                              with_reducible rfl
                                            rotate_left
                                            · simp only [Act.put, List.setIfInBounds_toArray, List.set_cons_zero, List.set_cons_succ, i64_w, i32_w]
                                              rfl
                                            refine pure_ (i := 3) (N := some 45) (v := ?_) (a' := ?_) #[true, false, true, true, false, false, false, false, false] rfl rfl (any_of HT_.out (by kernel_rfl)) (fun _ _ _ h => h) (Or.inl ⟨by rfl, ?_⟩) ?_ ?_
                                            rotate_left
                                            · intro w'
                                              go_simp
                                              with_reducible rfl
                                            rotate_left
                                            · simp only [Act.put, List.setIfInBounds_toArray, List.set_cons_zero, List.set_cons_succ, i64_w, i32_w]
                                              rfl
                                            refine pure_ (i := 5) (N := some 47) (v := ?_) (a' := ?_) #[true, false, true, true, false, true, false, false, false] rfl rfl (any_of HT_.out (by kernel_rfl)) (fun _ _ _ h => h) (Or.inl ⟨by rfl, ?_⟩) ?_ ?_
                                            rotate_left
                                            · intro w'
                                              go_simp
                                              with_reducible rfl
                                            rotate_left
                                            · simp only [Act.put, List.setIfInBounds_toArray, List.set_cons_zero, List.set_cons_succ, i64_w, i32_w]
                                              rfl
                                            refine pure_ (i := 6) (N := some 48) (v := ?_) (a' := ?_) #[true, false, true, true, false, true, true, false, false] rfl rfl (any_of HT_.out (by kernel_rfl)) (fun _ _ _ h => h) (Or.inl ⟨by rfl, ?_⟩) ?_ ?_
                                            rotate_left
                                            · intro w'
                                              go_simp
                                              with_reducible rfl
                                            rotate_left
                                            · simp only [Act.put, List.setIfInBounds_toArray, List.set_cons_zero, List.set_cons_succ, i64_w, i32_w]
                                              rfl
                                            refine take_ (i := 1) (N := some 43) (v := ?_) (a' := ?_) #[true, true, true, true, false, true, true, false, false] rfl rfl (take_ofW HT_.out HW_.out (by kernel_rfl)) (fun _ _ _ h => h) (Or.inl ⟨by rfl, ?_⟩) hHeld ?_ ?_
                                            rotate_left
                                            · rintro w' ⟨s0, s1, s2, s3, s4, s5⟩
                                              go_simp
                                              with_reducible rfl
                                            rotate_left
                                            · simp only [Act.put, List.setIfInBounds_toArray, List.set_cons_zero, List.set_cons_succ, i64_w, i32_w]
                                              rfl
                                            refine take_ (i := 4) (N := some 46) (v := ?_) (a' := ?_) #[true, true, true, true, true, true, true, false, false] rfl rfl (take_ofW HT_.out HW_.out (by kernel_rfl)) (fun _ _ _ h => h) (Or.inl ⟨by rfl, ?_⟩) hHeld ?_ ?_
                                            rotate_left
                                            · rintro w' ⟨s0, s1, s2, s3, s4, s5⟩
                                              go_simp
                                              with_reducible rfl
                                            rotate_left
                                            · simp only [Act.put, List.setIfInBounds_toArray, List.set_cons_zero, List.set_cons_succ, i64_w, i32_w]
                                              rfl
                                            refine one_ (i := 7) (N := some 49) #[true, true, true, true, true, true, true, true, false] rfl rfl (one_of HT_.out (by kernel_rfl)) (by decide) (fun K hK => ?_)
                                            refine goes_ Try.func17 (by kernel_rfl) rfl #[.slice Ao9 x5_4.length co9, .agg #[.int .i64 a0_0, .int .i64 a0_1, .int .i64 a0_2, .slice (some ad139) l0_3.length c0_3], .slice A1 l1.length c1, .slice A139_1 ((rd_T47 l0_3 x32_3).f1).length c139_1, .int .u32 ji31] (by rfl) rfl rfl (by (try simp only [List.map_toArray, List.map_cons, List.map_nil]); first | done | (simp only [hji31]; rfl) | rfl | (simp only [List.length_drop, List.length_take]; rfl)) ?_
                                            with_reducible refine (table_spans_ends.calls k4 _ _ x5_4 a0_0 a0_1 a0_2 _ _ l0_3 _ _ l1 _ _ ((rd_T47 l0_3 x32_3).f1) ji31 t141 _ ?side1 ?side2 ?side3 ?side4 ?side5 ?side6 ?side7 ?side8 A32.out).mono ?_
                                            (case side1 => repeat (first | exact (Kd.S_reads' HO_5.out).2.2 | (with_reducible refine Kd.C_alloc ?_ _) | (with_reducible refine Kd.C_drewN ?_ _) | (with_reducible refine Kd.C_drew ?_)))
                                            (case side2 => exact (Kd.S_reads' HO_5.out).2.1)
                                            (case side3 => repeat (first | exact (Kd.C_below HR0_3.out HB.out) | (with_reducible refine Kd.C_alloc ?_ _) | (with_reducible refine Kd.C_drewN ?_ _) | (with_reducible refine Kd.C_drew ?_)))
                                            (case side4 => exact HC0_3.out)
                                            (case side5 => repeat (first | exact (Kd.C_below HR1.out HB.out) | (with_reducible refine Kd.C_alloc ?_ _) | (with_reducible refine Kd.C_drewN ?_ _) | (with_reducible refine Kd.C_drew ?_)))
                                            (case side6 => exact HC1.out)
                                            (case side7 => repeat (first | exact (Kd.C_below HR139_1.out HB.out) | (with_reducible refine Kd.C_alloc ?_ _) | (with_reducible refine Kd.C_drewN ?_ _) | (with_reducible refine Kd.C_drew ?_)))
                                            (case side8 => exact HC139_1.out)
                                            rintro e w49 ⟨rfl, hb⟩
                                            refine ⟨_, rfl, ?_⟩
                                            have n0_ := Aside0.mk (Kd.S_below (by (with_reducible repeat (first | apply Kd.S_alloc | apply Kd.S_drewN | apply Kd.S_drew)); exact HO_5.out) hb)
                                            have n1_ := Aside0.mk (blk_below (g := gb131) (o := .cells #[.int .i64 a0_0, .int .i64 a0_1, .int .i64 a0_2, .slice (some ad139) l0_3.length c0_3] 24 (0, 0)) (by (with_reducible repeat (first | refine blk_drewN ?_ _ | refine blk_drew ?_ | refine blk_alloc ?_ _)); exact BK131.out) hb)
                                            have n2_ := Aside0.mk (blk_below (g := gb140) (o := .cells #[.int .i64 ((rd_T47 l0_3 x32_3).f0), .slice A139_1 ((rd_T47 l0_3 x32_3).f1).length c139_1] 47 (0, 0)) (by (with_reducible repeat (first | refine blk_drewN ?_ _ | refine blk_drew ?_ | refine blk_alloc ?_ _)); exact BK140.out) hb)
                                            have n3_ := Aside0.mk (below_step (by repeat (first | (with_reducible first | exact HB.out | apply below_alloc | apply pw_below_drewN | apply below_drew1 | refine below_set ?_ GE131.out | refine below_set ?_ GE140.out) | exact HB.out)) hb)
                                            clear HO_5
                                            clear BK131
                                            clear BK140
                                            clear HB
                                            have HO_5 := n0_
                                            have BK131 := n1_
                                            have BK140 := n2_
                                            have HB := n3_
                                            clear n0_ n1_ n2_ n3_
                                            (try clear hb)
                                            (try clear hb2)
                                            (try clear hk)
                                            (try clear hi)
                                            refine hK.out _ _ ⟨(blk_cell BK131.out 0).trans rfl, (blk_cell BK131.out 1).trans rfl, (blk_cell BK131.out 2).trans rfl, (blk_cell BK131.out 3).trans rfl, (blk_cell BK140.out 0).trans rfl, (blk_cell BK140.out 1).trans rfl⟩ (fun hHeld => ?_)
                                            clear hK K
                                            refine norm_ (a' := ?_) ?_ ?_
                                            rotate_left
                                            · show Act.put _ (some 49) _ = _
                                              simp only [Act.put, List.setIfInBounds_toArray, List.set_cons_zero, List.set_cons_succ, i64_w, i32_w]
                                              rfl
                                            refine pure_ (i := 8) (N := some 11) (v := ?_) (a' := ?_) #[true, true, true, true, true, true, true, true, true] rfl rfl (any_of HT_.out (by kernel_rfl)) (fun _ _ _ h => h) (Or.inl ⟨by rfl, ?_⟩) ?_ ?_
                                            rotate_left
                                            · intro w'
                                              go_simp
                                              with_reducible rfl
                                            rotate_left
                                            · simp only [Act.put, List.setIfInBounds_toArray, List.set_cons_zero, List.set_cons_succ, i64_w, i32_w]
                                              rfl
                                            refine done_ (done_of HT_.out (by kernel_rfl)) ?_
                                            have hnb50 := NB140_131.out
                                            have hnc50 := NB131_140.out
                                            have hcz51_0 : w49.cell? ⟨gb140, 0, none⟩ = some (.int .i64 ((rd_T47 l0_3 x32_3).f0)) := (blk_cell BK140.out 0).trans rfl
                                            have hcz51_1 : w49.cell? ⟨gb140, 1, none⟩ = some (.slice A139_1 ((rd_T47 l0_3 x32_3).f1).length c139_1) := (blk_cell BK140.out 1).trans rfl
                                            have hfz51_0 := blk_frozen BK140.out 0
                                            have hfz51_1 := blk_frozen BK140.out 1
                                            have p147 : 0 ≤ (((rd_T47 l0_3 x32_3).f0) : Int) := of_decide_eq_true (by first | (with_reducible assumption) | assumption)
                                            have q147 : ((rd_T47 l0_3 x32_3).f0) < (x5_4.length : Int) := of_decide_eq_true (by first | (with_reducible assumption) | assumption)
                                            obtain ⟨ad147, A147_0, c147_0, e147, hx147_0, hl147_0, hi147_0⟩ := at_L4 (Kd.S_reads' HO_5.out).2.2 ((rd_T47 l0_3 x32_3).f0) p147 q147
                                            cases e147
                                            obtain ⟨ce147, hce147, hMe147, hcc147⟩ := Kd.S_get HO_5.out [] ((rd_T47 l0_3 x32_3).f0) p147 (by first | exact q147 | exact of_decide_eq_true (by first | (with_reducible assumption) | assumption) | (have e_ := (Kd.S_reads' HO_5.out).1; omega))
                                            obtain ⟨ve147_0, rfl, ge147_0⟩ := hMe147
                                            have hv147_0 := hcc147 0 _ rfl
                                            rw [Nat.add_zero, show ((Kd.slice 26 (Kd.int .u32))).sz = 1 from rfl, Nat.mul_one] at hv147_0
                                            replace hv147_0 := Option.some.inj (hv147_0.symm.trans hx147_0)
                                            rw [hv147_0] at ge147_0
                                            have HL147_0 := Aside0.mk (show Kd.R (Kd.int .u32) 26 _ _ _ _ (rd_L4 x5_4 ((rd_T47 l0_3 x32_3).f0)) from ge147_0)
                                            clear hv147_0 ge147_0
                                            have HX147_0 := Aside0.mk hx147_0
                                            clear hcc147 hce147
                                            have HR147_0 := Aside0.mk hi147_0
                                            have HC147_0 := Aside0.mk hl147_0
                                            clear hi147_0 hl147_0
                                            replace p147 := eq_true p147
                                            replace q147 := eq_true q147
                                            have p148 : 0 ≤ (x39_4 : Int) := of_decide_eq_true (by first | (with_reducible assumption) | assumption)
                                            have q148 : x39_4 < ((rd_L4 x5_4 ((rd_T47 l0_3 x32_3).f0)).length : Int) := of_decide_eq_true (by first | (with_reducible assumption) | assumption)
                                            obtain ⟨ad148, e148, hx148_0⟩ := Kd.at_int (by repeat (first | (with_reducible exact HR147_0.out) | (with_reducible refine Kd.C_alloc ?_ _) | (with_reducible refine Kd.C_drewN ?_ _) | (with_reducible refine Kd.C_drew ?_) | exact HR147_0.out)) x39_4 p148 q148
                                            cases e148
                                            replace p148 := eq_true p148
                                            replace q148 := eq_true q148
                                            have p149 : 0 ≤ (((rd_T47 l0_3 x32_3).f0) : Int) := of_decide_eq_true (by first | (with_reducible assumption) | assumption)
                                            have q149 : ((rd_T47 l0_3 x32_3).f0) < (x5_4.length : Int) := of_decide_eq_true (by first | (with_reducible assumption) | assumption)
                                            obtain ⟨ad149, A149_0, c149_0, e149, hx149_0, hl149_0, hi149_0⟩ := at_L4 (Kd.S_reads' HO_5.out).2.2 ((rd_T47 l0_3 x32_3).f0) p149 q149
                                            obtain rfl : ad147 = ad149 := (by injection e149)
                                            obtain ⟨ce149, hce149, hMe149, hcc149⟩ := Kd.S_get HO_5.out [] ((rd_T47 l0_3 x32_3).f0) p149 (by first | exact q149 | exact of_decide_eq_true (by first | (with_reducible assumption) | assumption) | (have e_ := (Kd.S_reads' HO_5.out).1; omega))
                                            obtain ⟨ve149_0, rfl, ge149_0⟩ := hMe149
                                            have hv149_0 := hcc149 0 _ rfl
                                            rw [Nat.add_zero, show ((Kd.slice 26 (Kd.int .u32))).sz = 1 from rfl, Nat.mul_one] at hv149_0
                                            replace hv149_0 := Option.some.inj (hv149_0.symm.trans hx149_0)
                                            rw [hv149_0] at ge149_0
                                            have HL149_0 := Aside0.mk (show Kd.R (Kd.int .u32) 26 _ _ _ _ (rd_L4 x5_4 ((rd_T47 l0_3 x32_3).f0)) from ge149_0)
                                            clear hv149_0 ge149_0
                                            have HX149_0 := Aside0.mk hx149_0
                                            clear hcc149 hce149
                                            have HR149_0 := Aside0.mk hi149_0
                                            have HC149_0 := Aside0.mk hl149_0
                                            clear hi149_0 hl149_0
                                            replace p149 := eq_true p149
                                            replace q149 := eq_true q149
                                            have ea_ := Option.some.inj (hx147_0.symm.trans hx149_0)
                                            injection ea_ with ea_ en_ ec_
                                            subst ea_
                                            subst ec_
                                            clear en_
                                            have p150 : 0 ≤ (x39_4 : Int) := of_decide_eq_true (by first | (with_reducible assumption) | assumption)
                                            have q150 : x39_4 < ((rd_L4 x5_4 ((rd_T47 l0_3 x32_3).f0)).length : Int) := of_decide_eq_true (by first | (with_reducible assumption) | assumption)
                                            obtain ⟨ad150, e150, hx150_0⟩ := Kd.at_int (by repeat (first | (with_reducible exact HR149_0.out) | (with_reducible refine Kd.C_alloc ?_ _) | (with_reducible refine Kd.C_drewN ?_ _) | (with_reducible refine Kd.C_drew ?_) | exact HR149_0.out)) x39_4 p150 q150
                                            obtain rfl : ad148 = ad150 := (by injection e150)
                                            replace p150 := eq_true p150
                                            replace q150 := eq_true q150
                                            have p47 : 0 ≤ (x39_4 : Int) := of_decide_eq_true (by first | (with_reducible assumption) | assumption)
                                            have q47 : (x39_4 : Int) < (((rd_L4 x5_4 ((rd_T47 l0_3 x32_3).f0)).length : Int) : Int) := of_decide_eq_true (by first | (with_reducible assumption) | assumption)
                                            obtain ⟨go47, co47, eo47, gb47, gl47, cl47, HG47⟩ := Kd.R_form HL149_0.out (by omega)
                                            (first | cases eo47 | (injection eo47 with ea_ en_ ec_; (first | subst ea_ | (injection ea_ with ea_; subst ea_)); subst ec_; clear en_))
                                            have GB47 := Aside0.mk gb47
                                            have GG47 := Aside0.mk HG47
                                            clear gb47 gl47 HG47
                                            (first | simp only [add_plain] at hx148_0 | skip)
                                            (first | simp only [add_plain] at hx150_0 | skip)
                                            obtain ⟨hx47_0, hf47_0⟩ := Kd.R_celln 0 HL149_0.out (x39_4 : Int) p47 q47
                                            replace p47 := eq_true p47
                                            replace q47 := eq_true q47
                                            have hq52 : (((rd_T47 l0_3 x32_3).f0) : Int) < (x5_4.length : Int) := (by have h_ : (((rd_T47 l0_3 x32_3).f0) : Int) < ((x5_4.length : Int) : Int) := of_decide_eq_true (by first | (with_reducible assumption) | assumption); first | exact h_ | (have e_ := (Kd.S_reads' HO_5.out).1; omega) | simpa only [List.length_set, List.length_set] using h_)
                                            obtain ⟨oki52, ce52, hcl52, hM52, hcc52, hok52, hbk52⟩ := Kd.S_borrow HO_5.out [] (((rd_T47 l0_3 x32_3).f0) : Int) (of_decide_eq_true (by first | (with_reducible assumption) | assumption)) hq52
                                            obtain ⟨ve52_0, rfl, ge52_0⟩ := hM52
                                            have hv52 := hcc52 0 _ rfl
                                            rw [Nat.add_zero, show ((Kd.slice 26 (Kd.int .u32))).sz = 1 from rfl, Nat.mul_one] at hv52
                                            replace hv52 := Option.some.inj (hv52.symm.trans HX149_0.out)
                                            subst hv52
                                            clear hcc52 hcl52
                                            replace ge52_0 := (show Kd.R (Kd.int .u32) 26 _ _ _ _ (rd_L4 x5_4 ((rd_T47 l0_3 x32_3).f0)) from ge52_0)
                                            (try (obtain ⟨hy52_, hz52_⟩ := Kd.R_celln 0 ge52_0 (x39_4 : Int) (of_decide_eq_true (by first | (with_reducible assumption) | assumption)) (by have h_ : (x39_4 : Int) < (((rd_L4 x5_4 ((rd_T47 l0_3 x32_3).f0)).length : Int) : Int) := of_decide_eq_true (by first | (with_reducible assumption) | assumption); first | exact h_ | (have e_ := (Kd.R_reads' HR149_0.out).1; omega) | simpa using h_)))
                                            have HP52 := Kd.R_putg ge52_0 (x39_4 : Int) (Go.bits .or .u32 (rd (rd_L4 x5_4 ((rd_T47 l0_3 x32_3).f0)) x39_4) t141)
                                            try go_wp2_with (first | ((with_reducible refine gate_store (t := 26) (p := 74) rfl ?_); refine store_event (t := 26) (p := 74) (v := ?vo_w53) (w1 := (w49.setCell ⟨go47, (x39_4 : Int).toNat, none⟩ (.int .u32 (Go.bits .or .u32 (rd (rd_L4 x5_4 ((rd_T47 l0_3 x32_3).f0)) x39_4) t141)))) ?hg ?ho ?hn ?hr ?_; (case ho => rfl); (case hg => rfl); (case hn => rfl); (case hr => first | (go_simp; done) | (go_simp; rfl)); intro w53 hw; have hg : w49.grownBy w53 (some go47) := (by rw [hw]; exact HP52.2); have hz_ : Kd.R (Kd.int .u32) 26 w53 w.heap.size oki52 (.slice (some ⟨go47, 0, none⟩) (rd_L4 x5_4 ((rd_T47 l0_3 x32_3).f0)).length c147_0) y151 := (by rw [hw, Ny151.out]; exact HP52.1); have hp_ : Kd.S (Kd.slice 26 (Kd.int .u32)) 42 w53 w.heap.size (fun k_ => k_ ≠ (table_fill.aft_ k_ (.slice (some ad147) x5_4.length co9))) (.slice (some ad147) x5_4.length co9) y153 := (by rw [Ny153.out]; exact hbk52 hg (fun k_ e_ => by injection e_ with e_; subst e_; exact ge52_0.1 _ rfl) (Kd.M_row hz_)); have hm_ := Kd.R_mono hz_ hok52; clear HP52 hbk52; have n0_ := Aside0.mk (hp_); have n1_ := Aside0.mk (blk_grown (g := gb131) (o := .cells #[.int .i64 a0_0, .int .i64 a0_1, .int .i64 a0_2, .slice (some ad139) l0_3.length c0_3] 24 (0, 0)) (by (with_reducible repeat (first | refine blk_drewN ?_ _ | refine blk_drew ?_ | refine blk_alloc ?_ _)); exact BK131.out) hg (Kd.R_ne HL149_0.out BK131.out (by decide))); have n2_ := Aside0.mk (blk_grown (g := gb140) (o := .cells #[.int .i64 ((rd_T47 l0_3 x32_3).f0), .slice A139_1 ((rd_T47 l0_3 x32_3).f1).length c139_1] 47 (0, 0)) (by (with_reducible repeat (first | refine blk_drewN ?_ _ | refine blk_drew ?_ | refine blk_alloc ?_ _)); exact BK140.out) hg (Kd.R_ne HL149_0.out BK140.out (by decide))); have n3_ := Aside0.mk ((by rw [hw]; exact below_set (HB.out) GB47.out : Below w.heap.size w w53)); have n4_ := Aside0.mk (hm_); have n5_ := Aside0.mk ((Kd.R_reads' hm_).2.1); clear HO_5; clear BK131; clear BK140; clear HB; clear HL147_0; clear HL149_0; have HO_5 := n0_; have BK131 := n1_; have BK140 := n2_; have HB := n3_; have HL155 := n4_; have HC152 := n5_; clear n0_ n1_ n2_ n3_ n4_ n5_; clear hg hw hp_ hz_ hm_ hok52))
                                            (try simp only [← hl5_4])
                                            (first | go_roundg k4 | (simp only [← hji31]; go_roundg k4))
                                            case measure => have := HK1.out; have := HK2.out; have := HK3.out; have := HK4.out; omega
                                            case rel => first | exact ⟨(y153), (((Go.bits .andNot .u32 t141 (rd (rd_L4 x5_4 ((rd_T47 l0_3 x32_3).f0)) x39_4)) != 0)), (wrap64 (x39_4 + 1)), (by first | rfl | (simp; done) | (simp [*]; done)), (by first | rfl | (simp; done) | (simp [*]; done)), H', ⟨by have := HK1.out; have := HK2.out; have := HK3.out; have := HK4.out; omega⟩, ⟨by (try simp only [hl5_1]); (try simp only [hl5_2]); (try simp only [hl5_3]); (try simp only [hl5_4]); (with_reducible repeat (first | apply Kd.S_alloc | apply Kd.S_drewN | apply Kd.S_drew)); exact HO_5.out⟩, ⟨by (try simp only [hl5_1]); (try simp only [hl5_2]); (try simp only [hl5_3]); (try simp only [hl5_4]); (with_reducible repeat (first | refine blk_drewN ?_ _ | refine blk_drew ?_ | refine blk_alloc ?_ _)); exact BK131.out⟩, ⟨by (try simp only [hl5_1]); (try simp only [hl5_2]); (try simp only [hl5_3]); (try simp only [hl5_4]); (with_reducible repeat (first | refine blk_drewN ?_ _ | refine blk_drew ?_ | refine blk_alloc ?_ _)); exact BK140.out⟩, ⟨by repeat (first | (with_reducible first | exact HB.out | apply below_alloc | apply pw_below_drewN | apply below_drew1 | refine below_set ?_ GE131.out | refine below_set ?_ GE140.out) | exact HB.out)⟩⟩ | (subst hji31; exact ⟨(y153), (((Go.bits .andNot .u32 t141 (rd (rd_L4 x5_4 ((rd_T47 l0_3 x32_3).f0)) x39_4)) != 0)), (wrap64 (x39_4 + 1)), (by first | rfl | (simp; done) | (simp [*]; done)), (by first | rfl | (simp; done) | (simp [*]; done)), H', ⟨by have := HK1.out; have := HK2.out; have := HK3.out; have := HK4.out; omega⟩, ⟨by (try simp only [hl5_1]); (try simp only [hl5_2]); (try simp only [hl5_3]); (try simp only [hl5_4]); (with_reducible repeat (first | apply Kd.S_alloc | apply Kd.S_drewN | apply Kd.S_drew)); exact HO_5.out⟩, ⟨by (try simp only [hl5_1]); (try simp only [hl5_2]); (try simp only [hl5_3]); (try simp only [hl5_4]); (with_reducible repeat (first | refine blk_drewN ?_ _ | refine blk_drew ?_ | refine blk_alloc ?_ _)); exact BK131.out⟩, ⟨by (try simp only [hl5_1]); (try simp only [hl5_2]); (try simp only [hl5_3]); (try simp only [hl5_4]); (with_reducible repeat (first | refine blk_drewN ?_ _ | refine blk_drew ?_ | refine blk_alloc ?_ _)); exact BK140.out⟩, ⟨by repeat (first | (with_reducible first | exact HB.out | apply below_alloc | apply pw_below_drewN | apply below_drew1 | refine below_set ?_ GE131.out | refine below_set ?_ GE140.out) | exact HB.out)⟩⟩)
                                          · rw [if_neg c46] at H
                                            exact absurd H (by simp)
                                        · rw [if_neg c45] at H
                                          exact absurd H (by simp)
                                      · rw [if_neg c44] at H
                                        exact absurd H (by simp)
                                  · rw [if_neg c30] at H
                                    exact absurd H (by simp)
                                · rw [if_neg c29] at H
                                  have c29b0 : decide (x39_4 < (wrap64 ((l1.length : Int) + 1))) = false := decide_eq_false c29
                                  (try (have c29b0h := c29b0; simp only [hl5_1, hl5_2, hl5_3, hl5_4] at c29b0h))
                                  clear c29
                                  have H' := Aside0.mk H
                                  clear H
                                  go_wp2
                                  (try simp only [← hl5_3, ← hl5_4])
                                  go_roundg k4
                                  case measure => have := HK1.out; have := HK2.out; have := HK3.out; have := HK4.out; omega
                                  case rel => exact ⟨(x5_4), (x7_4), (wrap64 (x32_3 + 1)), (by first | rfl | (simp; done) | (simp [*]; done)), (by first | rfl | (simp; done) | (simp [*]; done)), H', ⟨by have := HK1.out; have := HK2.out; have := HK3.out; have := HK4.out; omega⟩, ⟨by (try simp only [hl5_1]); (try simp only [hl5_2]); (try simp only [hl5_3]); (try simp only [hl5_4]); (with_reducible repeat (first | apply Kd.S_alloc | apply Kd.S_drewN | apply Kd.S_drew)); exact HO_5.out⟩, ⟨by (try simp only [hl5_1]); (try simp only [hl5_2]); (try simp only [hl5_3]); (try simp only [hl5_4]); (with_reducible repeat (first | refine blk_drewN ?_ _ | refine blk_drew ?_ | refine blk_alloc ?_ _)); exact BK131.out⟩, ⟨by repeat (first | (with_reducible first | exact HB.out | apply below_alloc | apply pw_below_drewN | apply below_drew1 | refine below_set ?_ GE131.out | refine below_set ?_ GE140.out) | exact HB.out)⟩⟩
                          · rw [if_neg c25] at H
                            exact absurd H (by simp)
                        · rw [if_neg c24] at H
                          exact absurd H (by simp)
                      · rw [if_neg c23] at H
                        have c23b0 : decide (x32_3 < (l0_3.length : Int)) = false := decide_eq_false c23
                        (try (have c23b0h := c23b0; simp only [hl5_1, hl5_2, hl5_3] at c23b0h))
                        clear c23
                        have H' := Aside0.mk H
                        clear H
                        go_wp2
                        (try simp only [← hl5_2, ← hl5_3])
                        go_roundg k3
                        case measure => have := HK1.out; have := HK2.out; have := HK3.out; omega
                        case rel => exact ⟨(x5_3), (x7_3), (by first | rfl | (simp; done) | (simp [*]; done)), H', ⟨by have := HK1.out; have := HK2.out; have := HK3.out; omega⟩, ⟨by (try simp only [hl5_1]); (try simp only [hl5_2]); (try simp only [hl5_3]); (with_reducible repeat (first | apply Kd.S_alloc | apply Kd.S_drewN | apply Kd.S_drew)); exact HO_5.out⟩, ⟨by (try simp only [hl5_1]); (try simp only [hl5_2]); (try simp only [hl5_3]); (with_reducible repeat (first | refine blk_drewN ?_ _ | refine blk_drew ?_ | refine blk_alloc ?_ _)); exact BK131.out⟩, ⟨by repeat (first | (with_reducible first | exact HB.out | apply below_alloc | apply pw_below_drewN | apply below_drew1 | refine below_set ?_ GE131.out) | exact HB.out)⟩⟩
                · replace c21 := Bool.eq_false_iff.mpr c21
                  subst c21
                  have H1 : (some x5_2) = some r := by rw [if_neg (show ¬ (false = true) by decide)] at H; exact H
                  clear H
                  have H := H1
                  clear H1
                  obtain rfl := Option.some.inj H
                  go_wp2
                  go_ret
                  exact ⟨_, by first | rfl | (simp [errW_none, errW_some] <;> rfl) | (simp [*, errW_none, errW_some] <;> rfl), by (with_reducible repeat (first | apply Kd.S_alloc | apply Kd.S_drewN | apply Kd.S_drew)); exact Kd.S_mono HO_5.out (fun _ hk => trivial), by repeat (first | (with_reducible first | exact HB.out | apply below_alloc | apply pw_below_drewN | apply below_drew1 | refine below_set ?_ GE131.out) | exact HB.out)⟩
    · rw [if_neg c4] at H
      exact absurd H (by simp)
  · rw [if_neg c3] at H
    exact absurd H (by simp)

end Go.Proofs.Ytbehbngcofonmaa.PTableTakes
