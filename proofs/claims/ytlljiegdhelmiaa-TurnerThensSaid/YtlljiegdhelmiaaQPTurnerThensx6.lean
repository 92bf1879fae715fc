-- Printed by a turn of a template of the kit, and shortened: remarks and what nothing here uses are left out.
import Derived.Test.YtlljiegdhelmiaaQPTurnerThensx0
namespace Go.Proofs.Ytlljiegdhelmiaa.PTurnerThens
open Go.RowKit Go.Proofs.YtlljiegdhelmiaaW.PrintWords Go.Proofs.YtlljiegdhelmiaaW.PrintLast Go.Proofs.YtlljiegdhelmiaaW.PrintMore
attribute [local go_sem] max2_int min2_int max_two min_two max_three min_three max_four min_four
set_option linter.unusedVariables false
set_option linter.unusedSimpArgs false
def Zh1.l0 : Nat → Int → List Int → List Int → Int → Int → Int → Int → Int → List (List Int) → List (List (List Int)) → Int → Option (List Int × Int)
  | 0, _, _, _, _, _, _, _, _, _, _, _ => none
  | k + 1, x1, x8, x11, x12, x13, x198000, x198001, x198002, x198003, x198004, x198005 => if x13 < x12 then (if 0 ≤ x13 then (if x13 < (x11.length : Int) then (if 0 ≤ x1 then (if x1 < (x198004.length : Int) then (if 0 ≤ (rd x11 x13) then (if (rd x11 x13) < ((Zm x198004 x1).length : Int) then (if x8.length + (Zj (Zm x198004 x1) (rd x11 x13)).length < 17592186044416 then (if x1 < (x198003.length : Int) then (if (rd x11 x13) < ((Zj x198003 x1).length : Int) then (Zh1.l0 k (rd (Zj x198003 x1) (rd x11 x13)) (x8 ++ (Zj (Zm x198004 x1) (rd x11 x13))) x11 x12 (wrap64 (x13 + 1)) x198000 x198001 x198002 x198003 x198004 x198005) else (none)) else (none)) else (none)) else (none)) else (none)) else (none)) else (none)) else (none)) else (none)) else (some (x8, x1))
def Zh1.f (k : Nat) (a0_0 : Int) (a0_1 : Int) (a0_2 : Int) (l0_3 : List (List Int)) (l0_4 : List (List (List Int))) (a0_5 : Int) (a1 : Int) (l2 : List Int) : Option (List Int × Int) := Zh1.l0 k a1 ([] : List Int) l2 (l2.length : Int) 0 a0_0 a0_1 a0_2 l0_3 l0_4 a0_5
theorem Zh1.mono_l : ∀ k, (∀ y0 y1 y2 y3 y4 y5 y6 y7 y8 y9 y10, LeO (Zh1.l0 k y0 y1 y2 y3 y4 y5 y6 y7 y8 y9 y10) (Zh1.l0 (k + 1) y0 y1 y2 y3 y4 y5 y6 y7 y8 y9 y10))
  | 0 => fun _ _ _ _ _ _ _ _ _ _ _ r h => by simp [Zh1.l0] at h
  | k + 1 => by
    have ih0 := Zh1.mono_l k
    · intro y0 y1 y2 y3 y4 y5 y6 y7 y8 y9 y10
      unfold Zh1.l0
      repeat' first
      | (with_reducible exact ih0 _ _ _ _ _ _ _ _ _ _ _)
      | (with_reducible exact LeO.refl _)
      | (with_reducible exact LeO.none _)
      | (with_reducible refine LeO.ite ?_ ?_)
      | (with_reducible refine LeO.bind ?_ (fun _ => ?_))
      | exact ih0 _ _ _ _ _ _ _ _ _ _ _
      | exact LeO.none _
      | refine LeO.ite ?_ ?_
      | refine LeO.bind ?_ (fun _ => ?_)
theorem Zh1.mono : ∀ a0 a1 a2 a3 a4 a5 a6 a7 k, LeO (Zh1.f k a0 a1 a2 a3 a4 a5 a6 a7) (Zh1.f (k + 1) a0 a1 a2 a3 a4 a5 a6 a7) := by
  intro a0 a1 a2 a3 a4 a5 a6 a7 k
  have ih0 := Zh1.mono_l k
  unfold Zh1.f
  repeat' first
      | (with_reducible exact ih0 _ _ _ _ _ _ _ _ _ _ _)
      | (with_reducible exact LeO.refl _)
      | (with_reducible exact LeO.none _)
      | (with_reducible refine LeO.ite ?_ ?_)
      | (with_reducible refine LeO.bind ?_ (fun _ => ?_))
      | exact ih0 _ _ _ _ _ _ _ _ _ _ _
      | exact LeO.none _
      | refine LeO.ite ?_ ?_
      | refine LeO.bind ?_ (fun _ => ?_)
set_option maxHeartbeats 8000000 in
set_option maxRecDepth 100000 in
theorem Zh1.calls (k : Nat) (a0_0 : Int) (a0_1 : Int) (a0_2 : Int) (A0_3 : Option Addr) (c0_3 : Nat) (l0_3 : List (List Int)) (A0_4 : Option Addr) (c0_4 : Nat) (l0_4 : List (List (List Int))) (a0_5 : Int) (a1 : Int) (A2 : Option Addr) (c2 : Nat) (l2 : List Int) (r1 : List Int) (r2 : Int) (w : World) (hr0_3 : Kd.C (Kd.slice 3 (Kd.int .i64)) w A0_3 l0_3.length l0_3) (hc0_3 : l0_3.length ≤ c0_3) (hr0_4 : Kd.C (Kd.slice 33 (Kd.slice 3 (Kd.int .i64))) w A0_4 l0_4.length l0_4) (hc0_4 : l0_4.length ≤ c0_4) (hr2 : Kd.C (Kd.int .i64) w A2 l2.length l2) (hc2 : l2.length ≤ c2) (h : Zh1.f k a0_0 a0_1 a0_2 l0_3 l0_4 a0_5 a1 l2 = some (r1, r2)) :
    Calls Try.prog 10 #[.agg #[.int .i64 a0_0, .int .i64 a0_1, .int .i64 a0_2, .slice A0_3 l0_3.length c0_3, .slice A0_4 l0_4.length c0_4, .int .i64 a0_5], .int .i64 a1, .slice A2 l2.length c2] w fun e w' => ∃ v0_ : Value, e = .returned (.tuple #[v0_, .int .i64 r2]) ∧ Kd.R (Kd.int .i64) 3 w' w.heap.size (fun _ => True) v0_ r1 ∧ Below w.heap.size w w' := by
 (have hu25 := Try.underlying25); (have HR0_3 := Za.mk hr0_3); (have HC0_3 := Za.mk hc0_3); (clear hr0_3 hc0_3); (have HR0_4 := Za.mk hr0_4); (have HC0_4 := Za.mk hc0_4); (clear hr0_4 hc0_4); (have HR2 := Za.mk hr2); (have HC2 := Za.mk hc2); (clear hr2 hc2); (have HB := Za.mk (Below.refl w.heap.size w)); (have H : (Zh1.l0 k a1 ([] : List Int) l2 (l2.length : Int) 0 a0_0 a0_1 a0_2 l0_3 l0_4 a0_5) = some (r1, r2) := h); (clear h); (have H' := Za.mk H); (clear H)
 go_enter Try.func10, Try.ntmps10
 go_wp2_with (first | ((with_reducible refine Ze1 (N := 3) rfl ?_); refine Zf1 ?hg (N := 3) ?hd (cs := #[.int .i64 a0_0, .int .i64 a0_1, .int .i64 a0_2, .slice A0_3 l0_3.length c0_3, .slice A0_4 l0_4.length c0_4, .int .i64 a0_5]) (t := 25) ?hr ?_; (case hd => rfl); (case hg => rfl); (case hr => first | (go_simp; done) | (go_simp; rfl)); intro gb197 hg w4 hbox hb; have BK197 := Za.mk (hbox); have GW197 := Za.mk ((by rw [hg]; exact (Zo (by repeat (first | (with_reducible first | exact HB.out | apply zc1 | apply zc2 | apply zc3) | exact HB.out))) : w.heap.size ≤ gb197)); have GE197 := Za.mk ((by rw [hg]; exact (Zo (by repeat (first | (with_reducible first | exact HB.out | apply zc1 | apply zc2 | apply zc3) | exact HB.out))) : w.heap.size ≤ gb197)); replace HB := Za.mk (Zu (by repeat (first | (with_reducible first | exact HB.out | apply zc1 | apply zc2 | apply zc3) | exact HB.out)) hb); clear hb hbox hg))
 go_loopg [1, 8, 13] k (fun kq v1 v8 v13 w' => ∃ (x1_1 : Int) (x8_1 : List Int) (x13_1 : Int), v1 = .int .i64 x1_1 ∧ v13 = .int .i64 x13_1 ∧ Za (Zh1.l0 kq x1_1 x8_1 l2 (l2.length : Int) x13_1 a0_0 a0_1 a0_2 l0_3 l0_4 a0_5 = some (r1, r2)) ∧ Za (kq ≤ k) ∧ Za (Kd.R (Kd.int .i64) 3 w' w.heap.size (fun _ => True) v8 x8_1) ∧ Za (w'.heap[gb197]? = some (.cells #[.int .i64 a0_0, .int .i64 a0_1, .int .i64 a0_2, (.slice A0_3 l0_3.length c0_3), (.slice A0_4 l0_4.length c0_4), .int .i64 a0_5] 25 (0, 0))) ∧ Za (Below w.heap.size w w'))
 case atStart => exact ⟨(a1), (([] : List Int)), (0), (by first | rfl | (simp; done) | (simp [*]; done)), (by first | rfl | (simp; done) | (simp [*]; done)), H', ⟨Nat.le_refl _⟩, ⟨by first | exact Kd.R_nil _ _ _ _ _ | exact Kd.N_nil _ _ _ _ _ | exact Kd.V_nil _ _ _ _ _ | exact Kd.Q_nil _ _ _ _ _ | exact Kd.S_nil _ _ _ _ _ | (go_simp; exact Kd.R_nil _ _ _ _ _)⟩, ⟨by (with_reducible repeat (first | apply zb3 | apply zb2 | apply zb1)); exact BK197.out⟩, ⟨by repeat (first | (with_reducible first | exact HB.out | apply zc1 | apply zc2 | apply zc3 | refine zc4 ?_ (by assumption)) | exact HB.out)⟩⟩
 case round =>
  (clear H'); (try clear c1); (try clear c2); (try clear p2); (obtain ⟨x1_1, x8_1, x13_1, rfl, rfl, HA, HK1, HO_8, BK197, HB⟩ := hrel)
  cases gk with
  | zero => exact absurd HA.out (by simp [Zh1.l0])
  | succ k1 =>
   (have H := HA.out); (clear HA); (simp only [Zh1.l0] at H)
   by_cases c5 : x13_1 < (l2.length : Int)
   rotate_left
   ·rw [if_neg c5] at H
    (have c5b0 : decide (x13_1 < (l2.length : Int)) = false := decide_eq_false c5); (clear c5); (simp only [Option.some.injEq, Prod.mk.injEq] at H); (obtain ⟨rfl, rfl⟩ := H)
    go_wp2
    go_ret2
    exact ⟨_, by first | rfl | (simp [Zx, Zw] <;> rfl) | (simp [*, Zx, Zw] <;> rfl), by (with_reducible repeat (first | apply Kd.R_alloc | apply Kd.R_drewN | apply Kd.R_drew)); exact HO_8.out, by repeat (first | (with_reducible first | exact HB.out | apply zc1 | apply zc2 | apply zc3 | refine zc4 ?_ (by assumption)) | exact HB.out)⟩
   (rw [if_pos c5] at H); (have c5b0 : decide (x13_1 < (l2.length : Int)) = true := decide_eq_true c5); (clear c5)
   by_cases c6 : 0 ≤ x13_1
   rotate_left
   ·rw [if_neg c6] at H
    exact absurd H (by simp)
   (rw [if_pos c6] at H); (have c6b0 : decide (0 ≤ x13_1) = true := decide_eq_true c6); (clear c6)
   by_cases c7 : x13_1 < (l2.length : Int)
   rotate_left
   ·rw [if_neg c7] at H
    exact absurd H (by simp)
   (rw [if_pos c7] at H); (have c7b0 : decide (x13_1 < (l2.length : Int)) = true := decide_eq_true c7); (clear c7)
   by_cases c8 : 0 ≤ x1_1
   rotate_left
   ·rw [if_neg c8] at H
    exact absurd H (by simp)
   (rw [if_pos c8] at H); (have c8b0 : decide (0 ≤ x1_1) = true := decide_eq_true c8); (clear c8)
   by_cases c9 : x1_1 < (l0_4.length : Int)
   rotate_left
   ·rw [if_neg c9] at H
    exact absurd H (by simp)
   (rw [if_pos c9] at H); (have c9b0 : decide (x1_1 < (l0_4.length : Int)) = true := decide_eq_true c9); (clear c9)
   by_cases c10 : 0 ≤ (rd l2 x13_1)
   rotate_left
   ·rw [if_neg c10] at H
    exact absurd H (by simp)
   (rw [if_pos c10] at H); (have c10b0 : decide (0 ≤ (rd l2 x13_1)) = true := decide_eq_true c10); (clear c10)
   by_cases c11 : (rd l2 x13_1) < ((Zm l0_4 x1_1).length : Int)
   rotate_left
   ·rw [if_neg c11] at H
    exact absurd H (by simp)
   (rw [if_pos c11] at H); (have c11b0 : decide ((rd l2 x13_1) < ((Zm l0_4 x1_1).length : Int)) = true := decide_eq_true c11); (clear c11)
   by_cases c12 : x8_1.length + (Zj (Zm l0_4 x1_1) (rd l2 x13_1)).length < 17592186044416
   rotate_left
   ·rw [if_neg c12] at H
    exact absurd H (by simp)
   (rw [if_pos c12] at H); (have LMc12 := Za.mk c12); (clear c12); (obtain ⟨y201, hy201⟩ : ∃ y_ : List Int, y_ = (x8_1 ++ (Zj (Zm l0_4 x1_1) (rd l2 x13_1))) := ⟨_, rfl⟩); (replace H : (if x1_1 < (l0_3.length : Int) then (if (rd l2 x13_1) < ((Zj l0_3 x1_1).length : Int) then (Zh1.l0 k1 (rd (Zj l0_3 x1_1) (rd l2 x13_1)) y201 l2 (l2.length : Int) (wrap64 (x13_1 + 1)) a0_0 a0_1 a0_2 l0_3 l0_4 a0_5) else (none)) else (none)) = some (r1, r2) := by first | (rw [hy201]; with_reducible exact H) | (have H2_ := (Option.bind_some _ _).symm.trans H; rw [hy201]; with_reducible exact H2_) | (have H2_ := (Option.bind_some _ _).symm.trans H; with_reducible exact H2_) | with_reducible exact H | (rw [hy201]; exact H) | exact H); (have Ny201 := Za.mk hy201); (clear hy201)
   by_cases c13 : x1_1 < (l0_3.length : Int)
   rotate_left
   ·rw [if_neg c13] at H
    exact absurd H (by simp)
   (rw [if_pos c13] at H); (have c13b0 : decide (x1_1 < (l0_3.length : Int)) = true := decide_eq_true c13); (clear c13)
   by_cases c14 : (rd l2 x13_1) < ((Zj l0_3 x1_1).length : Int)
   rotate_left
   ·rw [if_neg c14] at H
    exact absurd H (by simp)
   (rw [if_pos c14] at H); (have c14b0 : decide ((rd l2 x13_1) < ((Zj l0_3 x1_1).length : Int)) = true := decide_eq_true c14); (clear c14); (have H' := Za.mk H); (clear H); (have p198 : 0 ≤ (x13_1 : Int) := of_decide_eq_true (by assumption)); (have q198 : x13_1 < (l2.length : Int) := of_decide_eq_true (by assumption)); (obtain ⟨ad198, e198, hx198_0⟩ := Kd.at_int HR2.out x13_1 p198 q198); (cases e198); (replace hx198_0 := (HB.out.cell (World.block_lt_of_cell? w _ hx198_0)).trans hx198_0); (replace p198 := eq_true p198); (replace q198 := eq_true q198); (have hcz15_0 : wr.cell? ⟨gb197, 0, none⟩ = some (.int .i64 a0_0) := (Zb BK197.out 0).trans rfl); (have hcz15_1 : wr.cell? ⟨gb197, 1, none⟩ = some (.int .i64 a0_1) := (Zb BK197.out 1).trans rfl); (have hcz15_2 : wr.cell? ⟨gb197, 2, none⟩ = some (.int .i64 a0_2) := (Zb BK197.out 2).trans rfl); (have hcz15_3 : wr.cell? ⟨gb197, 3, none⟩ = some (.slice A0_3 l0_3.length c0_3) := (Zb BK197.out 3).trans rfl); (have hcz15_4 : wr.cell? ⟨gb197, 4, none⟩ = some (.slice A0_4 l0_4.length c0_4) := (Zb BK197.out 4).trans rfl); (have hcz15_5 : wr.cell? ⟨gb197, 5, none⟩ = some (.int .i64 a0_5) := (Zb BK197.out 5).trans rfl); (have hfz15_0 := Zc BK197.out 0); (have hfz15_1 := Zc BK197.out 1); (have hfz15_2 := Zc BK197.out 2); (have hfz15_3 := Zc BK197.out 3); (have hfz15_4 := Zc BK197.out 4); (have hfz15_5 := Zc BK197.out 5); (have p199 : 0 ≤ (x1_1 : Int) := of_decide_eq_true (by assumption)); (have q199 : x1_1 < (l0_4.length : Int) := of_decide_eq_true (by assumption))
   (obtain ⟨ad199, A199_0, c199_0, e199, hx199_0, hl199_0, hi199_0⟩ := at_L2 HR0_4.out x1_1 p199 q199); (cases e199); (replace hx199_0 := (HB.out.cell (World.block_lt_of_cell? w _ hx199_0)).trans hx199_0); (have HR199_0 := Za.mk hi199_0); (have HC199_0 := Za.mk hl199_0); (clear hi199_0 hl199_0); (replace p199 := eq_true p199); (replace q199 := eq_true q199); (have p200 : 0 ≤ ((rd l2 x13_1) : Int) := of_decide_eq_true (by assumption)); (have q200 : (rd l2 x13_1) < ((Zm l0_4 x1_1).length : Int) := of_decide_eq_true (by assumption)); (obtain ⟨ad200, A200_0, c200_0, e200, hx200_0, hl200_0, hi200_0⟩ := at_L1 HR199_0.out (rd l2 x13_1) p200 q200); (cases e200); (replace hx200_0 := (HB.out.cell (World.block_lt_of_cell? w _ hx200_0)).trans hx200_0); (have HR200_0 := Za.mk hi200_0); (have HC200_0 := Za.mk hl200_0); (clear hi200_0 hl200_0); (replace p200 := eq_true p200); (replace q200 := eq_true q200)
   go_wp2_with (first | ((with_reducible refine gate_builtin (b := .append) (xs := #[.tmp 17, .tmp 25]) rfl ?_); at_builtin; refine Kd.R_append_rows (Kd.int .i64) (w0 := w) w.heap.size rfl (.tmp 17) (.tmp 25) 33 3 (.int .i64 0) 8 rfl Try.underlying33 info3 rfl (by decide) (by omega) u8 x8_1 (Zj (Zm l0_4 x1_1) (rd l2 x13_1)) _ _ _ (fun _ => True) (fun _ => False) rfl rfl ?aO ?aR (fun _ _ h => h) (fun _ h => h.elim) ?aF ?aB ?aS ?aL ?_; (case aR => repeat (first | exact (Kd.C_below HR200_0.out HB.out) | (with_reducible refine Kd.C_alloc ?_ _) | (with_reducible refine Kd.C_drewN ?_ _) | (with_reducible refine Kd.C_drew ?_))); (case aB => exact (by repeat (first | (with_reducible first | exact HB.out | apply zc1 | apply zc2 | apply zc3 | refine zc4 ?_ (by assumption)) | exact HB.out))); (case aF => exact (fun _ _ => trivial)); (case aO => exact (by (with_reducible repeat (first | apply Kd.R_alloc | apply Kd.R_drewN | apply Kd.R_drew)); exact HO_8.out)); (case aS => exact (Zo (by repeat (first | (with_reducible first | exact HB.out | apply zc1 | apply zc2 | apply zc3 | refine zc4 ?_ (by assumption)) | exact HB.out)))); (case aL => have := LMc12.out; omega); intro v202 w16 ho hb hg hat; rw [← Ny201.out] at ho; replace BK197 := Za.mk (Zb1 (g := gb197) (by (with_reducible repeat (first | apply zb3 | apply zb2 | apply zb1)); exact BK197.out) hg (Kd.R_ne HO_8.out BK197.out (by decide))); replace HB := Za.mk (hb); have HO203 := Za.mk (ho); clear HO_8; clear ho hb hg hat; have hcz17_0 : w16.cell? ⟨gb197, 0, none⟩ = some (.int .i64 a0_0) := (Zb BK197.out 0).trans rfl; have hcz17_1 : w16.cell? ⟨gb197, 1, none⟩ = some (.int .i64 a0_1) := (Zb BK197.out 1).trans rfl; have hcz17_2 : w16.cell? ⟨gb197, 2, none⟩ = some (.int .i64 a0_2) := (Zb BK197.out 2).trans rfl; have hcz17_3 : w16.cell? ⟨gb197, 3, none⟩ = some (.slice A0_3 l0_3.length c0_3) := (Zb BK197.out 3).trans rfl; have hcz17_4 : w16.cell? ⟨gb197, 4, none⟩ = some (.slice (some ad199) l0_4.length c0_4) := (Zb BK197.out 4).trans rfl; have hcz17_5 : w16.cell? ⟨gb197, 5, none⟩ = some (.int .i64 a0_5) := (Zb BK197.out 5).trans rfl; have hfz17_0 := Zc BK197.out 0; have hfz17_1 := Zc BK197.out 1; have hfz17_2 := Zc BK197.out 2; have hfz17_3 := Zc BK197.out 3; have hfz17_4 := Zc BK197.out 4; have hfz17_5 := Zc BK197.out 5; have p204 : 0 ≤ (x1_1 : Int) := of_decide_eq_true (by assumption); have q204 : x1_1 < (l0_3.length : Int) := of_decide_eq_true (by assumption); obtain ⟨ad204, A204_0, c204_0, e204, hx204_0, hl204_0, hi204_0⟩ := at_L1 HR0_3.out x1_1 p204 q204; cases e204; replace hx204_0 := (HB.out.cell (World.block_lt_of_cell? w _ hx204_0)).trans hx204_0; have HR204_0 := Za.mk hi204_0; have HC204_0 := Za.mk hl204_0; clear hi204_0 hl204_0; replace p204 := eq_true p204; replace q204 := eq_true q204; have p205 : 0 ≤ ((rd l2 x13_1) : Int) := of_decide_eq_true (by assumption); have q205 : (rd l2 x13_1) < ((Zj l0_3 x1_1).length : Int) := of_decide_eq_true (by assumption); obtain ⟨ad205, e205, hx205_0⟩ := Kd.at_int HR204_0.out (rd l2 x13_1) p205 q205; cases e205; replace hx205_0 := (HB.out.cell (World.block_lt_of_cell? w _ hx205_0)).trans hx205_0; replace p205 := eq_true p205; replace q205 := eq_true q205))
   go_roundg k1
   case measure => have := HK1.out; omega
   case rel => exact ⟨(rd (Zj l0_3 x1_1) (rd l2 x13_1)), (y201), (wrap64 (x13_1 + 1)), (by first | rfl | (simp; done) | (simp [*]; done)), (by first | rfl | (simp; done) | (simp [*]; done)), H', ⟨by have := HK1.out; omega⟩, ⟨by (with_reducible repeat (first | apply Kd.R_alloc | apply Kd.R_drewN | apply Kd.R_drew)); exact HO203.out⟩, ⟨by (with_reducible repeat (first | apply zb3 | apply zb2 | apply zb1)); exact BK197.out⟩, ⟨by repeat (first | (with_reducible first | exact HB.out | apply zc1 | apply zc2 | apply zc3 | refine zc4 ?_ (by assumption)) | exact HB.out)⟩⟩
end Go.Proofs.Ytlljiegdhelmiaa.PTurnerThens
