-- Printed by a turn of a template of the kit, and shortened: remarks and what nothing here uses are left out.
import Derived.Test.YtlljiegdhelmiaaQPTurnerThensx0
namespace Go.Proofs.Ytlljiegdhelmiaa.PTurnerThens
open Go.RowKit Go.Proofs.YtlljiegdhelmiaaW.PrintWords Go.Proofs.YtlljiegdhelmiaaW.PrintLast Go.Proofs.YtlljiegdhelmiaaW.PrintMore
attribute [local go_sem] max2_int min2_int max_two min_two max_three min_three max_four min_four
set_option linter.unusedVariables false
set_option linter.unusedSimpArgs false
def Zg1.l0 : Nat → Int → List Int → List Int → Int → Int → Int → Int → Int → List (List Int) → List (List (List Int)) → Int → Option (List Int × Int)
  | 0, _, _, _, _, _, _, _, _, _, _, _ => none
  | k + 1, x1, x8, x11, x12, x13, x139000, x139001, x139002, x139003, x139004, x139005 => if x13 < x12 then (if 0 ≤ x13 then (if x13 < (x11.length : Int) then (if 0 ≤ x1 then (if x1 < (x139004.length : Int) then (if 0 ≤ (rd x11 x13) then (if (rd x11 x13) < ((Zm x139004 x1).length : Int) then (if x8.length + (Zj (Zm x139004 x1) (rd x11 x13)).length < 17592186044416 then (if x1 < (x139003.length : Int) then (if (rd x11 x13) < ((Zj x139003 x1).length : Int) then (Zg1.l0 k (rd (Zj x139003 x1) (rd x11 x13)) (x8 ++ (Zj (Zm x139004 x1) (rd x11 x13))) x11 x12 (wrap64 (x13 + 1)) x139000 x139001 x139002 x139003 x139004 x139005) else (none)) else (none)) else (none)) else (none)) else (none)) else (none)) else (none)) else (none)) else (none)) else (some (x8, x1))
def Zg1.f (k : Nat) (a0_0 : Int) (a0_1 : Int) (a0_2 : Int) (l0_3 : List (List Int)) (l0_4 : List (List (List Int))) (a0_5 : Int) (a1 : Int) (l2 : List Int) : Option (List Int × Int) := Zg1.l0 k a1 ([] : List Int) l2 (l2.length : Int) 0 a0_0 a0_1 a0_2 l0_3 l0_4 a0_5
theorem Zg1.mono_l : ∀ k, (∀ y0 y1 y2 y3 y4 y5 y6 y7 y8 y9 y10, LeO (Zg1.l0 k y0 y1 y2 y3 y4 y5 y6 y7 y8 y9 y10) (Zg1.l0 (k + 1) y0 y1 y2 y3 y4 y5 y6 y7 y8 y9 y10))
  | 0 => fun _ _ _ _ _ _ _ _ _ _ _ r h => by simp [Zg1.l0] at h
  | k + 1 => by
    have ih0 := Zg1.mono_l k
    · intro y0 y1 y2 y3 y4 y5 y6 y7 y8 y9 y10
      unfold Zg1.l0
      repeat' first
      | (with_reducible exact ih0 _ _ _ _ _ _ _ _ _ _ _)
      | (with_reducible exact LeO.refl _)
      | (with_reducible exact LeO.none _)
      | (with_reducible refine LeO.ite ?_ ?_)
      | (with_reducible refine LeO.bind ?_ (fun _ => ?_))
      | exact ih0 _ _ _ _ _ _ _ _ _ _ _
      | exact LeO.none _
      | refine LeO.ite ?_ ?_
      | refine LeO.bind ?_ (fun _ => ?_)
theorem Zg1.mono : ∀ a0 a1 a2 a3 a4 a5 a6 a7 k, LeO (Zg1.f k a0 a1 a2 a3 a4 a5 a6 a7) (Zg1.f (k + 1) a0 a1 a2 a3 a4 a5 a6 a7) := by
  intro a0 a1 a2 a3 a4 a5 a6 a7 k
  have ih0 := Zg1.mono_l k
  unfold Zg1.f
  repeat' first
      | (with_reducible exact ih0 _ _ _ _ _ _ _ _ _ _ _)
      | (with_reducible exact LeO.refl _)
      | (with_reducible exact LeO.none _)
      | (with_reducible refine LeO.ite ?_ ?_)
      | (with_reducible refine LeO.bind ?_ (fun _ => ?_))
      | exact ih0 _ _ _ _ _ _ _ _ _ _ _
      | exact LeO.none _
      | refine LeO.ite ?_ ?_
      | refine LeO.bind ?_ (fun _ => ?_)
set_option maxHeartbeats 8000000 in
set_option maxRecDepth 100000 in
theorem Zg1.calls (k : Nat) (a0_0 : Int) (a0_1 : Int) (a0_2 : Int) (A0_3 : Option Addr) (c0_3 : Nat) (l0_3 : List (List Int)) (A0_4 : Option Addr) (c0_4 : Nat) (l0_4 : List (List (List Int))) (a0_5 : Int) (a1 : Int) (A2 : Option Addr) (c2 : Nat) (l2 : List Int) (r1 : List Int) (r2 : Int) (w : World) (hr0_3 : Kd.C (Kd.slice 3 (Kd.int .i64)) w A0_3 l0_3.length l0_3) (hc0_3 : l0_3.length ≤ c0_3) (hr0_4 : Kd.C (Kd.slice 33 (Kd.slice 3 (Kd.int .i64))) w A0_4 l0_4.length l0_4) (hc0_4 : l0_4.length ≤ c0_4) (hr2 : Kd.C (Kd.int .i64) w A2 l2.length l2) (hc2 : l2.length ≤ c2) (h : Zg1.f k a0_0 a0_1 a0_2 l0_3 l0_4 a0_5 a1 l2 = some (r1, r2)) :
    Calls Try.prog 9 #[.agg #[.int .i64 a0_0, .int .i64 a0_1, .int .i64 a0_2, .slice A0_3 l0_3.length c0_3, .slice A0_4 l0_4.length c0_4, .int .i64 a0_5], .int .i64 a1, .slice A2 l2.length c2] w fun e w' => ∃ v0_ : Value, e = .returned (.tuple #[v0_, .int .i64 r2]) ∧ Kd.R (Kd.int .i64) 3 w' w.heap.size (fun _ => True) v0_ r1 ∧ Below w.heap.size w w' := by
 (have hu25 := Try.underlying25); (have HR0_3 := Za.mk hr0_3); (have HC0_3 := Za.mk hc0_3); (clear hr0_3 hc0_3); (have HR0_4 := Za.mk hr0_4); (have HC0_4 := Za.mk hc0_4); (clear hr0_4 hc0_4); (have HR2 := Za.mk hr2); (have HC2 := Za.mk hc2); (clear hr2 hc2); (have HB := Za.mk (Below.refl w.heap.size w)); (have H : (Zg1.l0 k a1 ([] : List Int) l2 (l2.length : Int) 0 a0_0 a0_1 a0_2 l0_3 l0_4 a0_5) = some (r1, r2) := h); (clear h); (have H' := Za.mk H); (clear H)
 go_enter Try.func9, Try.ntmps9
 go_wp2_with (first | ((with_reducible refine Ze1 (N := 3) rfl ?_); refine Zf1 ?hg (N := 3) ?hd (cs := #[.int .i64 a0_0, .int .i64 a0_1, .int .i64 a0_2, .slice A0_3 l0_3.length c0_3, .slice A0_4 l0_4.length c0_4, .int .i64 a0_5]) (t := 25) ?hr ?_; (case hd => rfl); (case hg => rfl); (case hr => first | (go_simp; done) | (go_simp; rfl)); intro gb138 hg w4 hbox hb; have BK138 := Za.mk (hbox); have GW138 := Za.mk ((by rw [hg]; exact (Zo (by repeat (first | (with_reducible first | exact HB.out | apply zc1 | apply zc2 | apply zc3) | exact HB.out))) : w.heap.size ≤ gb138)); have GE138 := Za.mk ((by rw [hg]; exact (Zo (by repeat (first | (with_reducible first | exact HB.out | apply zc1 | apply zc2 | apply zc3) | exact HB.out))) : w.heap.size ≤ gb138)); replace HB := Za.mk (Zu (by repeat (first | (with_reducible first | exact HB.out | apply zc1 | apply zc2 | apply zc3) | exact HB.out)) hb); clear hb hbox hg))
 go_loopg [1, 8, 13] k (fun kq v1 v8 v13 w' => ∃ (x1_1 : Int) (x8_1 : List Int) (x13_1 : Int), v1 = .int .i64 x1_1 ∧ v13 = .int .i64 x13_1 ∧ Za (Zg1.l0 kq x1_1 x8_1 l2 (l2.length : Int) x13_1 a0_0 a0_1 a0_2 l0_3 l0_4 a0_5 = some (r1, r2)) ∧ Za (kq ≤ k) ∧ Za (Kd.R (Kd.int .i64) 3 w' w.heap.size (fun _ => True) v8 x8_1) ∧ Za (w'.heap[gb138]? = some (.cells #[.int .i64 a0_0, .int .i64 a0_1, .int .i64 a0_2, (.slice A0_3 l0_3.length c0_3), (.slice A0_4 l0_4.length c0_4), .int .i64 a0_5] 25 (0, 0))) ∧ Za (Below w.heap.size w w'))
 case atStart => exact ⟨(a1), (([] : List Int)), (0), (by first | rfl | (simp; done) | (simp [*]; done)), (by first | rfl | (simp; done) | (simp [*]; done)), H', ⟨Nat.le_refl _⟩, ⟨by first | exact Kd.R_nil _ _ _ _ _ | exact Kd.N_nil _ _ _ _ _ | exact Kd.V_nil _ _ _ _ _ | exact Kd.Q_nil _ _ _ _ _ | exact Kd.S_nil _ _ _ _ _ | (go_simp; exact Kd.R_nil _ _ _ _ _)⟩, ⟨by (with_reducible repeat (first | apply zb3 | apply zb2 | apply zb1)); exact BK138.out⟩, ⟨by repeat (first | (with_reducible first | exact HB.out | apply zc1 | apply zc2 | apply zc3 | refine zc4 ?_ (by assumption)) | exact HB.out)⟩⟩
 case round =>
  (clear H'); (try clear c2); (try clear p2); (obtain ⟨x1_1, x8_1, x13_1, rfl, rfl, HA, HK1, HO_8, BK138, HB⟩ := hrel)
  cases gk with
  | zero => exact absurd HA.out (by simp [Zg1.l0])
  | succ k1 =>
   (have H := HA.out); (clear HA); (simp only [Zg1.l0] at H)
   by_cases c5 : x13_1 < (l2.length : Int)
   rotate_left
   ·rw [if_neg c5] at H
    (have c5b0 : decide (x13_1 < (l2.length : Int)) = false := decide_eq_false c5); (clear c5); (simp only [Option.some.injEq, Prod.mk.injEq] at H); (obtain ⟨rfl, rfl⟩ := H)
    go_wp2
    go_ret2
    exact ⟨_, by first | rfl | (simp [Zx, Zw] <;> rfl) | (simp [*, Zx, Zw] <;> rfl), by (with_reducible repeat (first | apply Kd.R_alloc | apply Kd.R_drewN | apply Kd.R_drew)); exact HO_8.out, by repeat (first | (with_reducible first | exact HB.out | apply zc1 | apply zc2 | apply zc3 | refine zc4 ?_ (by assumption)) | exact HB.out)⟩
   (rw [if_pos c5] at H); (have c5b0 : decide (x13_1 < (l2.length : Int)) = true := decide_eq_true c5); (clear c5)
   by_cases c6 : 0 ≤ x13_1
   rotate_left
   ·rw [if_neg c6] at H
    exact absurd H (by simp)
   (rw [if_pos c6] at H); (have c6b0 : decide (0 ≤ x13_1) = true := decide_eq_true c6); (clear c6)
   by_cases c7 : x13_1 < (l2.length : Int)
   rotate_left
   ·rw [if_neg c7] at H
    exact absurd H (by simp)
   (rw [if_pos c7] at H); (have c7b0 : decide (x13_1 < (l2.length : Int)) = true := decide_eq_true c7); (clear c7)
   by_cases c8 : 0 ≤ x1_1
   rotate_left
   ·rw [if_neg c8] at H
    exact absurd H (by simp)
   (rw [if_pos c8] at H); (have c8b0 : decide (0 ≤ x1_1) = true := decide_eq_true c8); (clear c8)
   by_cases c9 : x1_1 < (l0_4.length : Int)
   rotate_left
   ·rw [if_neg c9] at H
    exact absurd H (by simp)
   (rw [if_pos c9] at H); (have c9b0 : decide (x1_1 < (l0_4.length : Int)) = true := decide_eq_true c9); (clear c9)
   by_cases c10 : 0 ≤ (rd l2 x13_1)
   rotate_left
   ·rw [if_neg c10] at H
    exact absurd H (by simp)
   (rw [if_pos c10] at H); (have c10b0 : decide (0 ≤ (rd l2 x13_1)) = true := decide_eq_true c10); (clear c10)
   by_cases c11 : (rd l2 x13_1) < ((Zm l0_4 x1_1).length : Int)
   rotate_left
   ·rw [if_neg c11] at H
    exact absurd H (by simp)
   (rw [if_pos c11] at H); (have c11b0 : decide ((rd l2 x13_1) < ((Zm l0_4 x1_1).length : Int)) = true := decide_eq_true c11); (clear c11)
   by_cases c12 : x8_1.length + (Zj (Zm l0_4 x1_1) (rd l2 x13_1)).length < 17592186044416
   rotate_left
   ·rw [if_neg c12] at H
    exact absurd H (by simp)
   (rw [if_pos c12] at H); (have LMc12 := Za.mk c12); (clear c12); (obtain ⟨y142, hy142⟩ : ∃ y_ : List Int, y_ = (x8_1 ++ (Zj (Zm l0_4 x1_1) (rd l2 x13_1))) := ⟨_, rfl⟩); (replace H : (if x1_1 < (l0_3.length : Int) then (if (rd l2 x13_1) < ((Zj l0_3 x1_1).length : Int) then (Zg1.l0 k1 (rd (Zj l0_3 x1_1) (rd l2 x13_1)) y142 l2 (l2.length : Int) (wrap64 (x13_1 + 1)) a0_0 a0_1 a0_2 l0_3 l0_4 a0_5) else (none)) else (none)) = some (r1, r2) := by first | (rw [hy142]; with_reducible exact H) | (have H2_ := (Option.bind_some _ _).symm.trans H; rw [hy142]; with_reducible exact H2_) | (have H2_ := (Option.bind_some _ _).symm.trans H; with_reducible exact H2_) | with_reducible exact H | (rw [hy142]; exact H) | exact H); (have Ny142 := Za.mk hy142); (clear hy142)
   by_cases c13 : x1_1 < (l0_3.length : Int)
   rotate_left
   ·rw [if_neg c13] at H
    exact absurd H (by simp)
   (rw [if_pos c13] at H); (have c13b0 : decide (x1_1 < (l0_3.length : Int)) = true := decide_eq_true c13); (clear c13)
   by_cases c14 : (rd l2 x13_1) < ((Zj l0_3 x1_1).length : Int)
   rotate_left
   ·rw [if_neg c14] at H
    exact absurd H (by simp)
   (rw [if_pos c14] at H); (have c14b0 : decide ((rd l2 x13_1) < ((Zj l0_3 x1_1).length : Int)) = true := decide_eq_true c14); (clear c14); (have H' := Za.mk H); (clear H); (have p139 : 0 ≤ (x13_1 : Int) := of_decide_eq_true (by assumption)); (have q139 : x13_1 < (l2.length : Int) := of_decide_eq_true (by assumption)); (obtain ⟨ad139, e139, hx139_0⟩ := Kd.at_int HR2.out x13_1 p139 q139); (cases e139); (replace hx139_0 := (HB.out.cell (World.block_lt_of_cell? w _ hx139_0)).trans hx139_0); (replace p139 := eq_true p139); (replace q139 := eq_true q139); (have hcz15_0 : wr.cell? ⟨gb138, 0, none⟩ = some (.int .i64 a0_0) := (Zb BK138.out 0).trans rfl); (have hcz15_1 : wr.cell? ⟨gb138, 1, none⟩ = some (.int .i64 a0_1) := (Zb BK138.out 1).trans rfl); (have hcz15_2 : wr.cell? ⟨gb138, 2, none⟩ = some (.int .i64 a0_2) := (Zb BK138.out 2).trans rfl); (have hcz15_3 : wr.cell? ⟨gb138, 3, none⟩ = some (.slice A0_3 l0_3.length c0_3) := (Zb BK138.out 3).trans rfl); (have hcz15_4 : wr.cell? ⟨gb138, 4, none⟩ = some (.slice A0_4 l0_4.length c0_4) := (Zb BK138.out 4).trans rfl); (have hcz15_5 : wr.cell? ⟨gb138, 5, none⟩ = some (.int .i64 a0_5) := (Zb BK138.out 5).trans rfl); (have hfz15_0 := Zc BK138.out 0); (have hfz15_1 := Zc BK138.out 1); (have hfz15_2 := Zc BK138.out 2); (have hfz15_3 := Zc BK138.out 3); (have hfz15_4 := Zc BK138.out 4); (have hfz15_5 := Zc BK138.out 5); (have p140 : 0 ≤ (x1_1 : Int) := of_decide_eq_true (by assumption)); (have q140 : x1_1 < (l0_4.length : Int) := of_decide_eq_true (by assumption))
   (obtain ⟨ad140, A140_0, c140_0, e140, hx140_0, hl140_0, hi140_0⟩ := at_L2 HR0_4.out x1_1 p140 q140); (cases e140); (replace hx140_0 := (HB.out.cell (World.block_lt_of_cell? w _ hx140_0)).trans hx140_0); (have HR140_0 := Za.mk hi140_0); (have HC140_0 := Za.mk hl140_0); (clear hi140_0 hl140_0); (replace p140 := eq_true p140); (replace q140 := eq_true q140); (have p141 : 0 ≤ ((rd l2 x13_1) : Int) := of_decide_eq_true (by assumption)); (have q141 : (rd l2 x13_1) < ((Zm l0_4 x1_1).length : Int) := of_decide_eq_true (by assumption)); (obtain ⟨ad141, A141_0, c141_0, e141, hx141_0, hl141_0, hi141_0⟩ := at_L1 HR140_0.out (rd l2 x13_1) p141 q141); (cases e141); (replace hx141_0 := (HB.out.cell (World.block_lt_of_cell? w _ hx141_0)).trans hx141_0); (have HR141_0 := Za.mk hi141_0); (have HC141_0 := Za.mk hl141_0); (clear hi141_0 hl141_0); (replace p141 := eq_true p141); (replace q141 := eq_true q141)
   go_wp2_with (first | ((with_reducible refine gate_builtin (b := .append) (xs := #[.tmp 17, .tmp 25]) rfl ?_); at_builtin; refine Kd.R_append_rows (Kd.int .i64) (w0 := w) w.heap.size rfl (.tmp 17) (.tmp 25) 33 3 (.int .i64 0) 8 rfl Try.underlying33 info3 rfl (by decide) (by omega) u8 x8_1 (Zj (Zm l0_4 x1_1) (rd l2 x13_1)) _ _ _ (fun _ => True) (fun _ => False) rfl rfl ?aO ?aR (fun _ _ h => h) (fun _ h => h.elim) ?aF ?aB ?aS ?aL ?_; (case aR => repeat (first | exact (Kd.C_below HR141_0.out HB.out) | (with_reducible refine Kd.C_alloc ?_ _) | (with_reducible refine Kd.C_drewN ?_ _) | (with_reducible refine Kd.C_drew ?_))); (case aB => exact (by repeat (first | (with_reducible first | exact HB.out | apply zc1 | apply zc2 | apply zc3 | refine zc4 ?_ (by assumption)) | exact HB.out))); (case aF => exact (fun _ _ => trivial)); (case aO => exact (by (with_reducible repeat (first | apply Kd.R_alloc | apply Kd.R_drewN | apply Kd.R_drew)); exact HO_8.out)); (case aS => exact (Zo (by repeat (first | (with_reducible first | exact HB.out | apply zc1 | apply zc2 | apply zc3 | refine zc4 ?_ (by assumption)) | exact HB.out)))); (case aL => have := LMc12.out; omega); intro v143 w16 ho hb hg hat; rw [← Ny142.out] at ho; replace BK138 := Za.mk (Zb1 (g := gb138) (by (with_reducible repeat (first | apply zb3 | apply zb2 | apply zb1)); exact BK138.out) hg (Kd.R_ne HO_8.out BK138.out (by decide))); replace HB := Za.mk (hb); have HO144 := Za.mk (ho); clear HO_8; clear ho hb hg hat; have hcz17_0 : w16.cell? ⟨gb138, 0, none⟩ = some (.int .i64 a0_0) := (Zb BK138.out 0).trans rfl; have hcz17_1 : w16.cell? ⟨gb138, 1, none⟩ = some (.int .i64 a0_1) := (Zb BK138.out 1).trans rfl; have hcz17_2 : w16.cell? ⟨gb138, 2, none⟩ = some (.int .i64 a0_2) := (Zb BK138.out 2).trans rfl; have hcz17_3 : w16.cell? ⟨gb138, 3, none⟩ = some (.slice A0_3 l0_3.length c0_3) := (Zb BK138.out 3).trans rfl; have hcz17_4 : w16.cell? ⟨gb138, 4, none⟩ = some (.slice (some ad140) l0_4.length c0_4) := (Zb BK138.out 4).trans rfl; have hcz17_5 : w16.cell? ⟨gb138, 5, none⟩ = some (.int .i64 a0_5) := (Zb BK138.out 5).trans rfl; have hfz17_0 := Zc BK138.out 0; have hfz17_1 := Zc BK138.out 1; have hfz17_2 := Zc BK138.out 2; have hfz17_3 := Zc BK138.out 3; have hfz17_4 := Zc BK138.out 4; have hfz17_5 := Zc BK138.out 5; have p145 : 0 ≤ (x1_1 : Int) := of_decide_eq_true (by assumption); have q145 : x1_1 < (l0_3.length : Int) := of_decide_eq_true (by assumption); obtain ⟨ad145, A145_0, c145_0, e145, hx145_0, hl145_0, hi145_0⟩ := at_L1 HR0_3.out x1_1 p145 q145; cases e145; replace hx145_0 := (HB.out.cell (World.block_lt_of_cell? w _ hx145_0)).trans hx145_0; have HR145_0 := Za.mk hi145_0; have HC145_0 := Za.mk hl145_0; clear hi145_0 hl145_0; replace p145 := eq_true p145; replace q145 := eq_true q145; have p146 : 0 ≤ ((rd l2 x13_1) : Int) := of_decide_eq_true (by assumption); have q146 : (rd l2 x13_1) < ((Zj l0_3 x1_1).length : Int) := of_decide_eq_true (by assumption); obtain ⟨ad146, e146, hx146_0⟩ := Kd.at_int HR145_0.out (rd l2 x13_1) p146 q146; cases e146; replace hx146_0 := (HB.out.cell (World.block_lt_of_cell? w _ hx146_0)).trans hx146_0; replace p146 := eq_true p146; replace q146 := eq_true q146))
   go_roundg k1
   case measure => have := HK1.out; omega
   case rel => exact ⟨(rd (Zj l0_3 x1_1) (rd l2 x13_1)), (y142), (wrap64 (x13_1 + 1)), (by first | rfl | (simp; done) | (simp [*]; done)), (by first | rfl | (simp; done) | (simp [*]; done)), H', ⟨by have := HK1.out; omega⟩, ⟨by (with_reducible repeat (first | apply Kd.R_alloc | apply Kd.R_drewN | apply Kd.R_drew)); exact HO144.out⟩, ⟨by (with_reducible repeat (first | apply zb3 | apply zb2 | apply zb1)); exact BK138.out⟩, ⟨by repeat (first | (with_reducible first | exact HB.out | apply zc1 | apply zc2 | apply zc3 | refine zc4 ?_ (by assumption)) | exact HB.out)⟩⟩
end Go.Proofs.Ytlljiegdhelmiaa.PTurnerThens
