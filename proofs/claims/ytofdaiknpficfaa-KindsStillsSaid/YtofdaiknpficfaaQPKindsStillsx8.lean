-- Printed by a turn of a template of the kit.
import Derived.Test.YtofdaiknpficfaaQPKindsStillsx0
import Derived.Test.YtofdaiknpficfaaQPKindsStillsx7
namespace Go.Proofs.Ytofdaiknpficfaa.PKindsStills
open Go.RowKit Go.Proofs.YtofdaiknpficfaaW.PrintWords Go.Proofs.YtofdaiknpficfaaW.PrintLast Go.Proofs.YtofdaiknpficfaaW.PrintMore
attribute [local go_sem] max2_int min2_int max_two min_two max_three min_three max_four min_four
set_option linter.unusedVariables false
set_option linter.unusedSimpArgs false
mutual
def Zg1.l0 : Nat → List (List Int) → Int → List (List Int) → Int → Int → Option (List Int)
  | 0, _, _, _, _, _ => none
  | k + 1, x0, x3, x9, x10, x11 => if x11 < x10 then (if 0 ≤ x11 then (if x11 < (x9.length : Int) then (if (wrap64 (x3 + ((Ze x9 x11).length : Int))) < 0 then (none) else (Zg1.l0 k x0 (wrap64 (x3 + ((Ze x9 x11).length : Int))) x9 x10 (wrap64 (x11 + 1)))) else (none)) else (none)) else ((slices_Grow_Sint_int.f ([] : List Int) x3).bind fun t207 => (Zg1.l1 k t207 x0 (x0.length : Int) 0))
def Zg1.l1 : Nat → List Int → List (List Int) → Int → Int → Option (List Int)
  | 0, _, _, _, _ => none
  | k + 1, x6, x25, x26, x27 => if x27 < x26 then (if 0 ≤ x27 then (if x27 < (x25.length : Int) then (if x6.length + (Ze x25 x27).length < 17592186044416 then (Zg1.l1 k (x6 ++ (Ze x25 x27)) x25 x26 (wrap64 (x27 + 1))) else (none)) else (none)) else (none)) else (some x6)
end
def Zg1.f (k : Nat) (l0 : List (List Int)) : Option (List Int) := Zg1.l0 k l0 0 l0 (l0.length : Int) 0
theorem Zg1.mono_l : ∀ k, (∀ y0 y1 y2 y3 y4, LeO (Zg1.l0 k y0 y1 y2 y3 y4) (Zg1.l0 (k + 1) y0 y1 y2 y3 y4)) ∧ (∀ y0 y1 y2 y3, LeO (Zg1.l1 k y0 y1 y2 y3) (Zg1.l1 (k + 1) y0 y1 y2 y3))
  | 0 => ⟨fun _ _ _ _ _ r h => by simp [Zg1.l0] at h, fun _ _ _ _ r h => by simp [Zg1.l1] at h⟩
  | k + 1 => by
    obtain ⟨ih0, ih1⟩ := Zg1.mono_l k
    refine ⟨?_, ?_⟩
    · intro y0 y1 y2 y3 y4
      unfold Zg1.l0
      repeat' first | (with_reducible exact ih0 _ _ _ _ _) | (with_reducible exact ih1 _ _ _ _) | (with_reducible exact LeO.refl _) | (with_reducible exact LeO.none _) | (with_reducible refine LeO.ite ?_ ?_) | (with_reducible refine LeO.bind ?_ (fun _ => ?_))
    · intro y0 y1 y2 y3
      unfold Zg1.l1
      repeat' first | (with_reducible exact ih0 _ _ _ _ _) | (with_reducible exact ih1 _ _ _ _) | (with_reducible exact LeO.refl _) | (with_reducible exact LeO.none _) | (with_reducible refine LeO.ite ?_ ?_) | (with_reducible refine LeO.bind ?_ (fun _ => ?_))
theorem Zg1.mono : ∀ a0 k, LeO (Zg1.f k a0) (Zg1.f (k + 1) a0) := by
  intro a0 k
  obtain ⟨ih0, ih1⟩ := Zg1.mono_l k
  unfold Zg1.f
  repeat' first | (with_reducible exact ih0 _ _ _ _ _) | (with_reducible exact ih1 _ _ _ _) | (with_reducible exact LeO.refl _) | (with_reducible exact LeO.none _) | (with_reducible refine LeO.ite ?_ ?_) | (with_reducible refine LeO.bind ?_ (fun _ => ?_))
set_option maxHeartbeats 8000000 in
set_option maxRecDepth 100000 in
theorem Zg1.calls (k : Nat) (A0 : Option Addr) (c0 : Nat) (l0 : List (List Int)) (r : List Int) (w : World) (hr0 : Kd.C (Kd.slice 3 (Kd.int .i64)) w A0 l0.length l0) (hc0 : l0.length ≤ c0) (h : Zg1.f k l0 = some r) :
    Calls Try.prog 29 #[.slice A0 l0.length c0] w fun e w' => ∃ v0_ : Value, e = .returned (v0_) ∧ Kd.R (Kd.int .i64) 3 w' w.heap.size (fun _ => True) v0_ r ∧ Below w.heap.size w w' := by
 (have HR0 := Za.mk hr0); (have HC0 := Za.mk hc0); (clear hr0 hc0); (have HB := Za.mk (Below.refl w.heap.size w)); (have H : (Zg1.l0 k l0 0 l0 (l0.length : Int) 0) = some r := h); (clear h); (have H' := Za.mk H); (clear H)
 go_enter Try.func29, Try.ntmps29
 go_wp2
 go_loopg [3, 11] k (fun kq v3 v11 w' => ∃ (x3_1 : Int) (x11_1 : Int), v3 = .int .i64 x3_1 ∧ v11 = .int .i64 x11_1 ∧ Za (Zg1.l0 kq l0 x3_1 l0 (l0.length : Int) x11_1 = some r) ∧ Za (kq ≤ k) ∧ Za (Below w.heap.size w w'))
 case atStart => exact ⟨(0), (0), (by first | rfl | (simp; done) | (simp [*]; done)), (by first | rfl | (simp; done) | (simp [*]; done)), H', ⟨Nat.le_refl _⟩, ⟨by repeat (first | (with_reducible first | exact HB.out | apply zc1 | apply zc2 | apply zc3) | exact HB.out)⟩⟩
 case round =>
  (clear H'); (obtain ⟨x3_1, x11_1, rfl, rfl, HA, HK1, HB⟩ := hrel)
  cases gk with
  | zero => exact absurd HA.out (by simp [Zg1.l0])
  | succ k1 =>
   (have H := HA.out); (clear HA); (simp only [Zg1.l0] at H)
   by_cases c2 : x11_1 < (l0.length : Int)
   ·rw [if_pos c2] at H
    (have c2b0 : decide (x11_1 < (l0.length : Int)) = true := decide_eq_true c2); (clear c2)
    by_cases c3 : 0 ≤ x11_1
    rotate_left
    ·rw [if_neg c3] at H
     exact absurd H (by simp)
    (rw [if_pos c3] at H); (have c3b0 : decide (0 ≤ x11_1) = true := decide_eq_true c3); (clear c3)
    by_cases c4 : x11_1 < (l0.length : Int)
    rotate_left
    ·rw [if_neg c4] at H
     exact absurd H (by simp)
    (rw [if_pos c4] at H); (have c4b0 : decide (x11_1 < (l0.length : Int)) = true := decide_eq_true c4); (clear c4)
    by_cases c5 : (wrap64 (x3_1 + ((Ze l0 x11_1).length : Int))) < 0
    ·rw [if_pos c5] at H
     exact absurd H (by simp)
    (rw [if_neg c5] at H); (have c5b0 : decide ((wrap64 (x3_1 + ((Ze l0 x11_1).length : Int))) < 0) = false := decide_eq_false c5); (clear c5); (have H' := Za.mk H); (clear H); (have p206 : 0 ≤ (x11_1 : Int) := of_decide_eq_true (by assumption)); (have q206 : x11_1 < (l0.length : Int) := of_decide_eq_true (by assumption)); (obtain ⟨ad206, A206_0, c206_0, e206, hx206_0, hl206_0, hi206_0⟩ := at_L1 HR0.out x11_1 p206 q206); (cases e206); (replace hx206_0 := (HB.out.cell (World.block_lt_of_cell? w _ hx206_0)).trans hx206_0); (have HR206_0 := Za.mk hi206_0); (have HC206_0 := Za.mk hl206_0); (clear hi206_0 hl206_0); (replace p206 := eq_true p206); (replace q206 := eq_true q206)
    go_wp2
    go_roundg k1
    case measure => have := HK1.out; omega
    case rel => exact ⟨(wrap64 (x3_1 + ((Ze l0 x11_1).length : Int))), (wrap64 (x11_1 + 1)), (by first | rfl | (simp; done) | (simp [*]; done)), (by first | rfl | (simp; done) | (simp [*]; done)), H', ⟨by have := HK1.out; omega⟩, ⟨by repeat (first | (with_reducible first | exact HB.out | apply zc1 | apply zc2 | apply zc3) | exact HB.out)⟩⟩
   (rw [if_neg c2] at H); (have c2b0 : decide (x11_1 < (l0.length : Int)) = false := decide_eq_false c2); (clear c2); (replace H := Option.bind_eq_some_iff.mp H); (obtain ⟨t207, A60, H⟩ := H); (replace H : (Zg1.l1 k1 t207 l0 (l0.length : Int) 0) = some r := H); (have A6 := Za.mk A60); (clear A60); (have H' := Za.mk H); (clear H)
   go_wp2_with (first | ((with_reducible refine gate_callee (f := 37) rfl ?_); refine goesL_ (some 24) rfl rfl Try.func37 (by kernel_rfl) rfl #[.slice none 0 0, .int .i64 x3_1] rfl (by (try simp only [List.map_toArray, List.map_cons, List.map_nil]); first | done | rfl | (simp only [List.length_drop, List.length_take]; rfl)) ?_; (refine (slices_Grow_Sint_int.nil x3_1 t207 _ A6.out).mono ?_); rintro e w7 ⟨v208, rfl, ho0, hb⟩; refine ⟨_, rfl, ?_⟩; have HO209 := Za.mk (Kd.R_lower ho0 (Zl (by repeat (first | (with_reducible first | exact HB.out | apply zc1 | apply zc2 | apply zc3) | exact HB.out)))); replace HB := Za.mk (Zr (by repeat (first | (with_reducible first | exact HB.out | apply zc1 | apply zc2 | apply zc3) | exact HB.out)) hb); (try clear hb); (try clear hb2); (try clear hk); (try clear hi); (try clear ho0)))
   go_loopg [6, 27] k1 (fun kq v6 v27 w' => ∃ (x6_2 : List Int) (x27_2 : Int), v27 = .int .i64 x27_2 ∧ Za (Zg1.l1 kq x6_2 l0 (l0.length : Int) x27_2 = some r) ∧ Za (kq ≤ k1) ∧ Za (Kd.R (Kd.int .i64) 3 w' w.heap.size (fun _ => True) v6 x6_2) ∧ Za (Below w.heap.size w w'))
   case atStart => exact ⟨(t207), (0), (by first | rfl | (simp; done) | (simp [*]; done)), H', ⟨Nat.le_refl _⟩, ⟨by (with_reducible repeat (first | apply Kd.R_alloc | apply Kd.R_drewN | apply Kd.R_drew)); exact HO209.out⟩, ⟨by repeat (first | (with_reducible first | exact HB.out | apply zc1 | apply zc2 | apply zc3) | exact HB.out)⟩⟩
   case round =>
    (clear H'); (try clear c2); (try clear c2b0); (try clear p2); (try clear q2); (try clear hx2); (try clear c3); (try clear c3b0); (try clear c4); (try clear c4b0); (try clear c5); (try clear c5b0); (try clear p6); (try clear hx206_0); (try clear p206); (try clear q206); (obtain ⟨x6_2, x27_2, rfl, HA, HK2, HO_6, HB⟩ := hrel)
    cases gk with
    | zero => exact absurd HA.out (by simp [Zg1.l1])
    | succ k2 =>
     (have H := HA.out); (clear HA); (simp only [Zg1.l1] at H)
     by_cases c8 : x27_2 < (l0.length : Int)
     rotate_left
     ·rw [if_neg c8] at H
      (have c8b0 : decide (x27_2 < (l0.length : Int)) = false := decide_eq_false c8); (clear c8); (obtain rfl := Option.some.inj H)
      go_wp2
      go_ret
      exact ⟨_, by first | rfl | (simp [Zw, Zx] <;> rfl) | (simp [*, Zw, Zx] <;> rfl), by (with_reducible repeat (first | apply Kd.R_alloc | apply Kd.R_drewN | apply Kd.R_drew)); exact HO_6.out, by repeat (first | (with_reducible first | exact HB.out | apply zc1 | apply zc2 | apply zc3) | exact HB.out)⟩
     (rw [if_pos c8] at H); (have c8b0 : decide (x27_2 < (l0.length : Int)) = true := decide_eq_true c8); (clear c8)
     by_cases c9 : 0 ≤ x27_2
     rotate_left
     ·rw [if_neg c9] at H
      exact absurd H (by simp)
     (rw [if_pos c9] at H); (have c9b0 : decide (0 ≤ x27_2) = true := decide_eq_true c9); (clear c9)
     by_cases c10 : x27_2 < (l0.length : Int)
     rotate_left
     ·rw [if_neg c10] at H
      exact absurd H (by simp)
     (rw [if_pos c10] at H); (have c10b0 : decide (x27_2 < (l0.length : Int)) = true := decide_eq_true c10); (clear c10)
     by_cases c11 : x6_2.length + (Ze l0 x27_2).length < 17592186044416
     rotate_left
     ·rw [if_neg c11] at H
      exact absurd H (by simp)
     (rw [if_pos c11] at H); (have LMc11 := Za.mk c11); (clear c11); (obtain ⟨y211, hy211⟩ : ∃ y_ : List Int, y_ = (x6_2 ++ (Ze l0 x27_2)) := ⟨_, rfl⟩); (replace H : (Zg1.l1 k2 y211 l0 (l0.length : Int) (wrap64 (x27_2 + 1))) = some r := by first | (rw [hy211]; with_reducible exact H) | (have H2_ := (Option.bind_some _ _).symm.trans H; rw [hy211]; with_reducible exact H2_) | (have H2_ := (Option.bind_some _ _).symm.trans H; with_reducible exact H2_) | with_reducible exact H | (rw [hy211]; exact H) | exact H); (have Ny211 := Za.mk hy211); (clear hy211); (have H' := Za.mk H); (clear H); (have p210 : 0 ≤ (x27_2 : Int) := of_decide_eq_true (by assumption)); (have q210 : x27_2 < (l0.length : Int) := of_decide_eq_true (by assumption)); (obtain ⟨ad210, A210_0, c210_0, e210, hx210_0, hl210_0, hi210_0⟩ := at_L1 HR0.out x27_2 p210 q210); (cases e210); (replace hx210_0 := (HB.out.cell (World.block_lt_of_cell? w _ hx210_0)).trans hx210_0); (have HR210_0 := Za.mk hi210_0); (have HC210_0 := Za.mk hl210_0); (clear hi210_0 hl210_0); (replace p210 := eq_true p210); (replace q210 := eq_true q210)
     go_wp2_with (first | ((with_reducible refine gate_builtin (b := .append) (xs := #[.tmp 31, .tmp 32]) rfl ?_); at_builtin; refine Kd.R_append_rows (Kd.int .i64) (w0 := w) w.heap.size rfl (.tmp 31) (.tmp 32) 32 3 (.int .i64 0) 8 rfl Try.underlying32 info3 rfl (by decide) (by omega) u6 x6_2 (Ze l0 x27_2) _ _ _ (fun _ => True) (fun _ => False) rfl rfl ?aO ?aR (fun _ _ h => h) (fun _ h => h.elim) ?aF ?aB ?aS ?aL ?_; (case aR => repeat (first | exact (Kd.C_below HR210_0.out HB.out) | (with_reducible refine Kd.C_alloc ?_ _) | (with_reducible refine Kd.C_drewN ?_ _) | (with_reducible refine Kd.C_drew ?_))); (case aB => exact (by repeat (first | (with_reducible first | exact HB.out | apply zc1 | apply zc2 | apply zc3) | exact HB.out))); (case aF => exact (fun _ _ => trivial)); (case aO => exact (by (with_reducible repeat (first | apply Kd.R_alloc | apply Kd.R_drewN | apply Kd.R_drew)); exact HO_6.out)); (case aS => exact (Zl (by repeat (first | (with_reducible first | exact HB.out | apply zc1 | apply zc2 | apply zc3) | exact HB.out)))); (case aL => have := LMc11.out; omega); intro v212 w12 ho hb hg hat; rw [← Ny211.out] at ho; replace HB := Za.mk (hb); have HO213 := Za.mk (ho); clear HO_6; clear ho hb hg hat))
     go_roundg k2
     case measure => have := HK1.out; have := HK2.out; omega
     case rel => exact ⟨(y211), (wrap64 (x27_2 + 1)), (by first | rfl | (simp; done) | (simp [*]; done)), H', ⟨by have := HK1.out; have := HK2.out; omega⟩, ⟨by (with_reducible repeat (first | apply Kd.R_alloc | apply Kd.R_drewN | apply Kd.R_drew)); exact HO213.out⟩, ⟨by repeat (first | (with_reducible first | exact HB.out | apply zc1 | apply zc2 | apply zc3) | exact HB.out)⟩⟩
def machine_Check_1_any.f (l0 : List (List Int)) (a1_0 : Int) (a1_1 : Int) (l1_2 : List (List Int)) (a1_3 : Int) (a1_4 : Int) : Option Bool := anyO (fun x : List Int => machine_Check_1.f x a1_0 a1_1 l1_2 a1_3 a1_4) l0
set_option maxHeartbeats 8000000 in
set_option maxRecDepth 100000 in
theorem machine_Check_1_any.calls (A0 : Option Addr) (c0 : Nat) (l0 : List (List Int)) (a1_0 : Int) (a1_1 : Int) (A1_2 : Option Addr) (c1_2 : Nat) (l1_2 : List (List Int)) (a1_3 : Int) (a1_4 : Int) (g1 : Nat) (r : Bool) (w : World) (hr0 : Kd.C (Kd.slice 3 (Kd.int .i64)) w A0 l0.length l0) (hc0 : l0.length ≤ c0) (hr1_2 : Kd.C (Kd.slice 3 (Kd.int .i64)) w A1_2 l1_2.length l1_2) (hc1_2 : l1_2.length ≤ c1_2) (hbk1 : w.heap[g1]? = some (.cells #[.int .i64 a1_0, .int .i64 a1_1, .slice A1_2 l1_2.length c1_2, .int .i64 a1_3, .int .u32 a1_4] 25 (0, 0))) (h : machine_Check_1_any.f l0 a1_0 a1_1 l1_2 a1_3 a1_4 = some r) :
    Calls Try.prog 27 #[.slice A0 l0.length c0, .func (.func 28) #[] #[.pointer (some ⟨g1, 0, none⟩)]] w fun e w' => e = .returned (.bool r) ∧ Below w.heap.size w w' := by
 refine slices_ContainsFunc_SSint_Sint.anyO (fun x : List Int => machine_Check_1.f x a1_0 a1_1 l1_2 a1_3 a1_4) 28 #[.pointer (some ⟨g1, 0, none⟩)] (enters_of Try.func28 (by kernel_rfl) rfl) A0 c0 l0 w r h hr0 ?_
 intro W x cs b hx hB hK hp
 obtain ⟨A, c, rfl, hc, hr⟩ := hK
 refine (machine_Check_1.calls A c x a1_0 a1_1 A1_2 c1_2 l1_2 a1_3 a1_4 g1 b W hr hc (Kd.C_below hr1_2 hB) hc1_2 (Zp hbk1 hB) hp).mono ?_
 rintro e w' ⟨rfl, h2⟩
 exact ⟨rfl, Zr hB h2.below⟩
end Go.Proofs.Ytofdaiknpficfaa.PKindsStills
