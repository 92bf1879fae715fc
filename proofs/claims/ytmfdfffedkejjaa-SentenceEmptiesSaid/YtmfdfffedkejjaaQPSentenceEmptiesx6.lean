-- Printed by a turn of a template of the kit, and shortened: remarks and what nothing here uses are left out.
import Derived.Test.YtmfdfffedkejjaaQPSentenceEmptiesx0
import Derived.Test.YtmfdfffedkejjaaQPSentenceEmptiesx3
import Derived.Test.YtmfdfffedkejjaaQPSentenceEmptiesx5
namespace Go.Proofs.Ytmfdfffedkejjaa.PSentenceEmpties
open Go.RowKit Go.Proofs.YtmfdfffedkejjaaW.PrintWords Go.Proofs.YtmfdfffedkejjaaW.PrintLast Go.Proofs.YtmfdfffedkejjaaW.PrintMore
attribute [local go_sem] max2_int min2_int max_two min_two max_three min_three max_four min_four
set_option linter.unusedVariables false
set_option linter.unusedSimpArgs false
def sentence_Take.f (k : Nat) (l0 : List (S67)) (l1 : List Int) : Option (Bool) := (sentence_spans.f k l0 l1).bind fun t183 => (if 0 ≤ (wrap64 ((l0.length : Int) - 1)) then (if (wrap64 ((l0.length : Int) - 1)) < (t183.length : Int) then (if 0 < ((rd_L5 t183 (wrap64 ((l0.length : Int) - 1))).length : Int) then (some ((Go.bits .and .u32 (shr .u32 (rd (rd_L5 t183 (wrap64 ((l0.length : Int) - 1))) 0) (l1.length : Int)) 1) == 1)) else (none)) else (none)) else (none))
theorem sentence_Take.mono : ∀ a0 a1 k, LeO (sentence_Take.f k a0 a1) (sentence_Take.f (k + 1) a0 a1) := by
  intro a0 a1 k
  unfold sentence_Take.f
  repeat' first
      | (with_reducible exact sentence_spans.mono _ _ _)
      | (with_reducible exact LeO.refl _)
      | (with_reducible exact LeO.none _)
      | (with_reducible refine LeO.ite ?_ ?_)
      | (with_reducible refine LeO.bind ?_ (fun _ => ?_))
      | exact sentence_spans.mono _ _ _
      | exact LeO.none _
      | refine LeO.ite ?_ ?_
      | refine LeO.bind ?_ (fun _ => ?_)
set_option maxHeartbeats 8000000 in
set_option maxRecDepth 100000 in
theorem sentence_Take.calls (k : Nat) (A0 : Option Addr) (c0 : Nat) (l0 : List (S67)) (A1 : Option Addr) (c1 : Nat) (l1 : List Int) (r : Bool) (w : World) (hr0 : Kd.C k67 w A0 l0.length l0) (hc0 : l0.length ≤ c0) (hr1 : Kd.C (Kd.int .i64) w A1 l1.length l1) (hc1 : l1.length ≤ c1) (h : sentence_Take.f k l0 l1 = some r) :
    Calls Try.prog 37 #[.slice A0 l0.length c0, .slice A1 l1.length c1] w fun e w' => e = .returned (.bool r) ∧ Below w.heap.size w w' := by
  (have HR0 := Aside0.mk hr0); (have HC0 := Aside0.mk hc0); (clear hr0 hc0); (have HR1 := Aside0.mk hr1); (have HC1 := Aside0.mk hc1); (clear hr1 hc1); (have HB := Aside0.mk (Below.refl w.heap.size w)); (have H : ((sentence_spans.f k l0 l1).bind fun t183 => (if 0 ≤ (wrap64 ((l0.length : Int) - 1)) then (if (wrap64 ((l0.length : Int) - 1)) < (t183.length : Int) then (if 0 < ((rd_L5 t183 (wrap64 ((l0.length : Int) - 1))).length : Int) then (some ((Go.bits .and .u32 (shr .u32 (rd (rd_L5 t183 (wrap64 ((l0.length : Int) - 1))) 0) (l1.length : Int)) 1) == 1)) else (none)) else (none)) else (none))) = some r := h); (clear h); (replace H := Option.bind_eq_some_iff.mp H); (obtain ⟨t183, A30, H⟩ := H); (replace H : (if 0 ≤ (wrap64 ((l0.length : Int) - 1)) then (if (wrap64 ((l0.length : Int) - 1)) < (t183.length : Int) then (if 0 < ((rd_L5 t183 (wrap64 ((l0.length : Int) - 1))).length : Int) then (some ((Go.bits .and .u32 (shr .u32 (rd (rd_L5 t183 (wrap64 ((l0.length : Int) - 1))) 0) (l1.length : Int)) 1) == 1)) else (none)) else (none)) else (none)) = some r := H); (have A3 := Aside0.mk A30); (clear A30); (obtain ⟨ji4, hji4⟩ : ∃ j_ : Int, (wrap64 ((l0.length : Int) - 1)) = j_ := ⟨_, rfl⟩); (replace H : (if 0 ≤ (ji4) then (if (ji4) < (t183.length : Int) then (if 0 < ((rd_L5 t183 (ji4)).length : Int) then (some ((Go.bits .and .u32 (shr .u32 (rd (rd_L5 t183 (ji4)) 0) (l1.length : Int)) 1) == 1)) else (none)) else (none)) else (none)) = some r := by first | (rw [hji4] at H; exact H) | (simp only [hji4] at H ⊢; exact H)); ((try rw [hji4] at A3)); (have hji4w : (IntKind.i64.wrap ((l0.length : Int) - 1)) = ji4 := (i64_w _).trans hji4)
  by_cases c5 : 0 ≤ (ji4)
  rotate_left
  · rw [if_neg c5] at H
    exact absurd H (by simp)
  (rw [if_pos c5] at H); (have c5b0 : decide (0 ≤ (ji4)) = true := decide_eq_true c5); (clear c5)
  by_cases c6 : (ji4) < (t183.length : Int)
  rotate_left
  · rw [if_neg c6] at H
    exact absurd H (by simp)
  (rw [if_pos c6] at H); (have c6b0 : decide ((ji4) < (t183.length : Int)) = true := decide_eq_true c6); (clear c6)
  by_cases c7 : 0 < ((rd_L5 t183 (ji4)).length : Int)
  rotate_left
  · rw [if_neg c7] at H
    exact absurd H (by simp)
  (rw [if_pos c7] at H); (have c7b0 : decide (0 < ((rd_L5 t183 (ji4)).length : Int)) = true := decide_eq_true c7); (have c7b1 : decide (0 < (rd_L5 t183 (ji4)).length) = true := decide_eq_true (by omega)); (clear c7); (obtain ⟨ji8, hji8⟩ : ∃ j_ : Int, (shr .u32 (rd (rd_L5 t183 (ji4)) 0) (l1.length : Int)) = j_ := ⟨_, rfl⟩); (replace H : (some ((Go.bits .and .u32 (ji8) 1) == 1)) = some r := by first | (rw [hji8] at H; exact H) | (simp only [hji8] at H ⊢; exact H)); ((try rw [hji8] at A3)); (have hji8_ : ((rd (rd_L5 t183 (ji4)) 0) / 2 ^ min (l1.length : Int).toNat 32) = ji8 := hji8); (have hji8z : (l1.length : Int) ≤ 32 → ((rd (rd_L5 t183 (ji4)) 0) / 2 ^ (l1.length : Int).toNat) = ji8 := shr_small hji8); (have hji8p : ((rd (rd_L5 t183 (ji4)) 0) / 2 ^ min l1.length 32) = ji8 := hji8_); (have hji8q : (l1.length : Int) ≤ 32 → ((rd (rd_L5 t183 (ji4)) 0) / 2 ^ l1.length) = ji8 := hji8z); (obtain rfl := Option.some.inj H)
  go_enter Try.func37, Try.ntmps37
  go_wp2_with (first | ((with_reducible refine gate_callee (f := 57) rfl ?_); refine goesL_ (some 7) rfl rfl Try.func57 (by kernel_rfl) rfl #[.slice A0 l0.length c0, .slice A1 l1.length c1] rfl (by (try simp only [List.map_toArray, List.map_cons, List.map_nil]); first | done | rfl | (simp only [List.length_drop, List.length_take]; rfl)) ?_; (with_reducible refine (sentence_spans.calls k _ _ l0 _ _ l1 t183 _ ?side1 ?side2 ?side3 ?side4 A3.out).mono ?_); (case side1 => repeat (first | exact HR0.out | (with_reducible refine Kd.C_alloc ?_ _) | (with_reducible refine Kd.C_drewN ?_ _) | (with_reducible refine Kd.C_drew ?_))); (case side2 => exact HC0.out); (case side3 => repeat (first | exact HR1.out | (with_reducible refine Kd.C_alloc ?_ _) | (with_reducible refine Kd.C_drewN ?_ _) | (with_reducible refine Kd.C_drew ?_))); (case side4 => exact HC1.out); rintro e w9 ⟨v184, rfl, ho0, hb⟩; refine ⟨_, rfl, ?_⟩; have n0_ := Aside0.mk (Kd.S_lower ho0 (below_size (by repeat (first | (with_reducible first | exact HB.out | apply below_alloc | apply pw_below_drewN | apply below_drew1) | exact HB.out)))); have n1_ := Aside0.mk (below_step (by repeat (first | (with_reducible first | exact HB.out | apply below_alloc | apply pw_below_drewN | apply below_drew1) | exact HB.out)) hb); clear HB; have HO185 := n0_; have HB := n1_; clear n0_ n1_; (try clear hb); (try clear hb2); (try clear hk); (try clear hi); (try clear ho0); obtain ⟨Ao10, co10, eo10⟩ := Kd.S_slice HO185.out; subst eo10; have p186 : 0 ≤ ((ji4) : Int) := of_decide_eq_true (by assumption); have q186 : (ji4) < (t183.length : Int) := of_decide_eq_true (by assumption); obtain ⟨ad186, A186_0, c186_0, e186, hx186_0, hl186_0, hi186_0⟩ := at_L5 (Kd.S_reads' HO185.out).2.2 (ji4) p186 q186; cases e186; obtain ⟨ce186, hce186, hMe186, hcc186⟩ := Kd.S_get HO185.out [] (ji4) p186 (by first | exact q186 | exact of_decide_eq_true (by assumption) | (have e_ := (Kd.S_reads' HO185.out).1; omega)); obtain ⟨ve186_0, rfl, ge186_0⟩ := hMe186; have hv186_0 := hcc186 0 _ rfl; rw [Nat.add_zero, show ((Kd.slice 40 (Kd.int .u32))).sz = 1 from rfl, Nat.mul_one] at hv186_0; replace hv186_0 := Option.some.inj (hv186_0.symm.trans hx186_0); rw [hv186_0] at ge186_0; have HL186_0 := Aside0.mk (show Kd.R (Kd.int .u32) 40 _ _ _ _ (rd_L5 t183 (ji4)) from ge186_0); clear hv186_0 ge186_0; clear hcc186 hce186; have HR186_0 := Aside0.mk hi186_0; have HC186_0 := Aside0.mk hl186_0; clear hi186_0 hl186_0; replace p186 := eq_true p186; replace q186 := eq_true q186; have p187 : 0 ≤ (0 : Int) := (by omega); have q187 : 0 < ((rd_L5 t183 (ji4)).length : Int) := of_decide_eq_true (by assumption); obtain ⟨ad187, e187, hx187_0⟩ := Kd.at_int (by repeat (first | (with_reducible exact HR186_0.out) | (with_reducible refine Kd.C_alloc ?_ _) | (with_reducible refine Kd.C_drewN ?_ _) | (with_reducible refine Kd.C_drew ?_) | exact HR186_0.out)) 0 p187 q187; cases e187; have qi187 : (0 < (rd_L5 t183 (ji4)).length) = True := eq_true (by omega); (try rw [show ((0 : Int)).toNat = 0 from rfl] at hx187_0); (try rw [Addr.add_zero'] at hx187_0); replace p187 := eq_true p187; replace q187 := eq_true q187))
  go_ret
  exact ⟨by first | rfl | (simp [errW_none, errW_some] <;> rfl) | (simp only [← hji4, ← hji8]; first | rfl | (simp [errW_none, errW_some] <;> rfl)) | (simp [*, errW_none, errW_some] <;> rfl), by repeat (first | (with_reducible first | exact HB.out | apply below_alloc | apply pw_below_drewN | apply below_drew1) | exact HB.out)⟩
def sentence_None.l0 : Nat → List Bool → List (S67) → Int → Int → Option (List Bool)
  | 0, _, _, _, _ => none
  | k + 1, x3, x9, x10, x11 => if x11 < x10 then (if 0 ≤ x11 then (if x11 < (x9.length : Int) then (if ((rd_T67 x9 x11).f0) = 1 then (if x11 < (x3.length : Int) then (sentence_None.l0 k (x3.set (x11 : Int).toNat true) x9 x10 (wrap64 (x11 + 1))) else (none)) else (if ((rd_T67 x9 x11).f0) = 4 then (if 0 ≤ ((rd_T67 x9 x11).f1) then (if ((rd_T67 x9 x11).f1) < (x3.length : Int) then (if rdOf false x3 ((rd_T67 x9 x11).f1) = true then (if x11 < (x3.length : Int) then (sentence_None.l0 k (x3.set (x11 : Int).toNat true) x9 x10 (wrap64 (x11 + 1))) else (none)) else (if 0 ≤ ((rd_T67 x9 x11).f2) then (if ((rd_T67 x9 x11).f2) < (x3.length : Int) then (if x11 < (x3.length : Int) then (sentence_None.l0 k (x3.set (x11 : Int).toNat (rdOf false x3 ((rd_T67 x9 x11).f2))) x9 x10 (wrap64 (x11 + 1))) else (none)) else (none)) else (none))) else (none)) else (none)) else (if ((rd_T67 x9 x11).f0) = 5 then (if 0 ≤ ((rd_T67 x9 x11).f1) then (if ((rd_T67 x9 x11).f1) < (x3.length : Int) then (if rdOf false x3 ((rd_T67 x9 x11).f1) = true then (if 0 ≤ ((rd_T67 x9 x11).f2) then (if ((rd_T67 x9 x11).f2) < (x3.length : Int) then (if x11 < (x3.length : Int) then (sentence_None.l0 k (x3.set (x11 : Int).toNat (rdOf false x3 ((rd_T67 x9 x11).f2))) x9 x10 (wrap64 (x11 + 1))) else (none)) else (none)) else (none)) else (if x11 < (x3.length : Int) then (sentence_None.l0 k (x3.set (x11 : Int).toNat false) x9 x10 (wrap64 (x11 + 1))) else (none))) else (none)) else (none)) else (sentence_None.l0 k x3 x9 x10 (wrap64 (x11 + 1)))))) else (none)) else (none)) else (some x3)
def sentence_None.f (k : Nat) (l0 : List (S67)) : Option (List Bool) := if 0 ≤ (l0.length : Int) then (if ((l0.length : Int) : Int).toNat ≤ 281474976710656 then (sentence_None.l0 k (List.replicate ((l0.length : Int) : Int).toNat false) l0 (l0.length : Int) 0) else (none)) else (none)
theorem sentence_None.mono_l : ∀ k, (∀ y0 y1 y2 y3, LeO (sentence_None.l0 k y0 y1 y2 y3) (sentence_None.l0 (k + 1) y0 y1 y2 y3))
  | 0 => fun _ _ _ _ r h => by simp [sentence_None.l0] at h
  | k + 1 => by
    have ih0 := sentence_None.mono_l k
    · intro y0 y1 y2 y3
      unfold sentence_None.l0
      repeat' first
      | (with_reducible exact ih0 _ _ _ _)
      | (with_reducible exact LeO.refl _)
      | (with_reducible exact LeO.none _)
      | (with_reducible refine LeO.ite ?_ ?_)
      | (with_reducible refine LeO.bind ?_ (fun _ => ?_))
      | exact ih0 _ _ _ _
      | exact LeO.none _
      | refine LeO.ite ?_ ?_
      | refine LeO.bind ?_ (fun _ => ?_)
theorem sentence_None.mono : ∀ a0 k, LeO (sentence_None.f k a0) (sentence_None.f (k + 1) a0) := by
  intro a0 k
  have ih0 := sentence_None.mono_l k
  unfold sentence_None.f
  repeat' first
      | (with_reducible exact ih0 _ _ _ _)
      | (with_reducible exact LeO.refl _)
      | (with_reducible exact LeO.none _)
      | (with_reducible refine LeO.ite ?_ ?_)
      | (with_reducible refine LeO.bind ?_ (fun _ => ?_))
      | exact ih0 _ _ _ _
      | exact LeO.none _
      | refine LeO.ite ?_ ?_
      | refine LeO.bind ?_ (fun _ => ?_)
set_option maxHeartbeats 8000000 in
set_option maxRecDepth 100000 in
theorem sentence_None.calls (k : Nat) (A0 : Option Addr) (c0 : Nat) (l0 : List (S67)) (r : List Bool) (w : World) (hr0 : Kd.C k67 w A0 l0.length l0) (hc0 : l0.length ≤ c0) (h : sentence_None.f k l0 = some r) :
    Calls Try.prog 38 #[.slice A0 l0.length c0] w fun e w' => ∃ v0_ : Value, e = .returned (v0_) ∧ Kd.R Kd.bool 4 w' w.heap.size (fun _ => True) v0_ r ∧ Below w.heap.size w w' := by
  have hu67 := Try.underlying67
  have hu3 := Try.underlying3
  have HR0 := Aside0.mk hr0
  have HC0 := Aside0.mk hc0
  clear hr0 hc0
  have HB := Aside0.mk (Below.refl w.heap.size w)
  have H : (if 0 ≤ (l0.length : Int) then (if ((l0.length : Int) : Int).toNat ≤ 281474976710656 then (sentence_None.l0 k (List.replicate ((l0.length : Int) : Int).toNat false) l0 (l0.length : Int) 0) else (none)) else (none)) = some r := h
  clear h
  by_cases c2 : 0 ≤ (l0.length : Int)
  · rw [if_pos c2] at H
    have c2b0 := eq_true c2
    have c2b1 : decide (0 ≤ (l0.length : Int)) = true := decide_eq_true c2
    clear c2
    by_cases c3 : ((l0.length : Int) : Int).toNat ≤ 281474976710656
    · rw [if_pos c3] at H
      have c3b0 := eq_true c3
      have c3b1 : decide (((l0.length : Int) : Int).toNat ≤ 281474976710656) = true := decide_eq_true c3
      clear c3
      obtain ⟨y188, hy188⟩ : ∃ y_ : List Bool, y_ = (List.replicate ((l0.length : Int) : Int).toNat false) := ⟨_, rfl⟩
      replace H : (sentence_None.l0 k y188 l0 (l0.length : Int) 0) = some r := by first | (rw [hy188]; with_reducible exact H) | (have H2_ := (Option.bind_some _ _).symm.trans H; rw [hy188]; with_reducible exact H2_) | (have H2_ := (Option.bind_some _ _).symm.trans H; with_reducible exact H2_) | with_reducible exact H | (rw [hy188]; exact H) | exact H
      have Ny188 := Aside0.mk hy188
      clear hy188
      have H' := Aside0.mk H
      clear H
      go_enter Try.func38, Try.ntmps38
      go_wp2_with (first | ((with_reducible refine gate_dst (N := 8) rfl ?_); refine Kd.R_make Kd.bool _ 4 rfl (N := 8) rfl 69 _ _ rfl (l0.length : Int) rfl rfl Try.underlying69 (.bool false) 1 info4 rfl (by decide) (by omega) false (ok := fun _ => True) (okp := fun _ => True) rfl (fun _ hk => hk) trivial (of_decide_eq_true (by assumption)) (Nat.le_trans (Nat.mul_le_mul_right _ (of_decide_eq_true (by assumption) : (l0.length : Int).toNat ≤ 281474976710656)) (by omega)) (Below.refl _ _) (Nat.le_refl _) ?_; intro v189 w4 ho5 hb hg_ hnew_; clear hg_ hnew_; (first | rw [← Ny188.out] at ho5 | (simp only [Int.reduceToNat] at ho5; rw [← Ny188.out] at ho5)); have n0_ := Aside0.mk (Kd.R_lower ho5 (below_size (by repeat (first | (with_reducible first | exact HB.out | apply below_alloc | apply pw_below_drewN | apply below_drew1) | exact HB.out)))); have n1_ := Aside0.mk (below_step (by repeat (first | (with_reducible first | exact HB.out | apply below_alloc | apply pw_below_drewN | apply below_drew1) | exact HB.out)) hb); clear HB; have HO190 := n0_; have HB := n1_; clear n0_ n1_; clear hb ho5))
      go_loopg [11] k (fun kq v11 w' => ∃ (x3_1 : List Bool) (x11_1 : Int), v11 = .int .i64 x11_1 ∧ Aside0 (sentence_None.l0 kq x3_1 l0 (l0.length : Int) x11_1 = some r) ∧ Aside0 (kq ≤ k) ∧ Aside0 (Kd.R Kd.bool 4 w' w.heap.size (fun _ => True) v189 x3_1) ∧ Aside0 (Below w.heap.size w w'))
      case atStart => exact ⟨(y188), (0), (by first | rfl | (simp; done) | (simp [*]; done)), H', ⟨Nat.le_refl _⟩, ⟨by (with_reducible repeat (first | apply Kd.R_alloc | apply Kd.R_drewN | apply Kd.R_drew)); exact HO190.out⟩, ⟨by repeat (first | (with_reducible first | exact HB.out | apply below_alloc | apply pw_below_drewN | apply below_drew1) | exact HB.out)⟩⟩
      case round =>
        clear H'
        try clear c2
        try clear c2b0
        try clear c2b1
        try clear p2
        try clear c3
        try clear c3b0
        try clear c3b1
        obtain ⟨x3_1, x11_1, rfl, HA, HK1, HO_3, HB⟩ := hrel
        cases gk with
        | zero => exact absurd HA.out (by simp [sentence_None.l0])
        | succ k1 =>
          have H := HA.out
          clear HA
          simp only [sentence_None.l0] at H
          by_cases c6 : x11_1 < (l0.length : Int)
          · rw [if_pos c6] at H
            have c6b0 : decide (x11_1 < (l0.length : Int)) = true := decide_eq_true c6
            clear c6
            by_cases c7 : 0 ≤ x11_1
            · rw [if_pos c7] at H
              have c7b0 : decide (0 ≤ x11_1) = true := decide_eq_true c7
              clear c7
              by_cases c8 : x11_1 < (l0.length : Int)
              · rw [if_pos c8] at H
                have c8b0 : decide (x11_1 < (l0.length : Int)) = true := decide_eq_true c8
                clear c8
                by_cases c9 : ((rd_T67 l0 x11_1).f0) = 1
                · rw [if_pos c9] at H
                  have c9b0 : (((rd_T67 l0 x11_1).f0) == 1) = true := beq_iff_eq.mpr c9
                  have c9b1 : (((rd_T67 l0 x11_1).f0) != 1) = false := bne_eq_false_iff_eq.mpr c9
                  clear c9
                  by_cases c10 : x11_1 < (x3_1.length : Int)
                  · rw [if_pos c10] at H
                    have c10b0 : decide (x11_1 < (x3_1.length : Int)) = true := decide_eq_true c10
                    clear c10
                    obtain ⟨y193, hy193⟩ : ∃ y_ : List Bool, y_ = (x3_1.set (x11_1 : Int).toNat true) := ⟨_, rfl⟩
                    replace H : (sentence_None.l0 k1 y193 l0 (l0.length : Int) (wrap64 (x11_1 + 1))) = some r := by first | (rw [hy193]; with_reducible exact H) | (have H2_ := (Option.bind_some _ _).symm.trans H; rw [hy193]; with_reducible exact H2_) | (have H2_ := (Option.bind_some _ _).symm.trans H; with_reducible exact H2_) | with_reducible exact H | (rw [hy193]; exact H) | exact H
                    have Ny193 := Aside0.mk hy193
                    clear hy193
                    have H' := Aside0.mk H
                    clear H
                    have p191 : 0 ≤ (x11_1 : Int) := of_decide_eq_true (by assumption)
                    have q191 : x11_1 < (l0.length : Int) := of_decide_eq_true (by assumption)
                    obtain ⟨ad191, e191, hx191_0, hx191_1, hx191_2⟩ := at_T67 HR0.out x11_1 p191 q191
                    cases e191
                    replace hx191_0 := (HB.out.cell (World.block_lt_of_cell? w _ hx191_0)).trans hx191_0
                    replace hx191_1 := (HB.out.cell (World.block_lt_of_cell? w _ hx191_1)).trans hx191_1
                    replace hx191_2 := (HB.out.cell (World.block_lt_of_cell? w _ hx191_2)).trans hx191_2
                    replace p191 := eq_true p191
                    replace q191 := eq_true q191
                    go_wp2_with (first | ((with_reducible refine gate_dst (N := 5) rfl ?_); refine box_event ?hg (N := 5) ?hd (cs := #[.int .i64 0, .int .i64 0, .int .i64 0]) (t := 67) ?hr ?_; (case hd => rfl); (case hg => rfl); (case hr => first | (go_simp; done) | (go_simp; rfl)); intro gb192 hg w12 hbox hb; have n0_ := Aside0.mk (Kd.R_below (by (with_reducible repeat (first | apply Kd.R_alloc | apply Kd.R_drewN | apply Kd.R_drew)); exact HO_3.out) hb); have n1_ := Aside0.mk (below_step (by repeat (first | (with_reducible first | exact HB.out | apply below_alloc | apply pw_below_drewN | apply below_drew1) | exact HB.out)) hb); have n2_ := Aside0.mk (hbox); have n3_ := Aside0.mk ((by rw [hg]; exact (below_size (by repeat (first | (with_reducible first | exact HB.out | apply below_alloc | apply pw_below_drewN | apply below_drew1) | exact HB.out))) : w.heap.size ≤ gb192)); have n4_ := Aside0.mk ((by rw [hg]; exact (below_size (by repeat (first | (with_reducible first | exact HB.out | apply below_alloc | apply pw_below_drewN | apply below_drew1) | exact HB.out))) : w.heap.size ≤ gb192)); clear HO_3; clear HB; have HO_3 := n0_; have HB := n1_; have BK192 := n2_; have GW192 := n3_; have GE192 := n4_; clear n0_ n1_ n2_ n3_ n4_; clear hb hbox hg; have hcz13_0 : w12.cell? ⟨gb192, 0, none⟩ = some (.int .i64 0) := (blk_cell BK192.out 0).trans rfl; have hcz13_1 : w12.cell? ⟨gb192, 1, none⟩ = some (.int .i64 0) := (blk_cell BK192.out 1).trans rfl; have hcz13_2 : w12.cell? ⟨gb192, 2, none⟩ = some (.int .i64 0) := (blk_cell BK192.out 2).trans rfl; have hfz13_0 := blk_frozen BK192.out 0; have hfz13_1 := blk_frozen BK192.out 1; have hfz13_2 := blk_frozen BK192.out 2) | ((with_reducible refine gate_store (t := 67) (p := 5) rfl ?_); refine store_event (t := 67) (p := 5) (v := ?vo_w14) (w1 := (((w12.setCell ⟨gb192, 0, none⟩ (.int .i64 ((rd_T67 l0 x11_1).f0))).setCell ⟨gb192, 1, none⟩ (.int .i64 ((rd_T67 l0 x11_1).f1))).setCell ⟨gb192, 2, none⟩ (.int .i64 ((rd_T67 l0 x11_1).f2)))) ?hg ?ho ?hn ?hr ?_; (case ho => rfl); (case hg => rfl); (case hn => rfl); (case hr => first | (go_simp; done) | (go_simp; rfl)); intro w14 hw; have n0_ : Aside0 (Kd.R Kd.bool 4 w14 w.heap.size (fun _ => True) v189 x3_1) := ⟨(by rw [hw]; exact (by (with_reducible repeat (first | apply Kd.R_alloc | apply Kd.R_drewN | apply Kd.R_drew)); exact Kd.R_mono (Kd.R_far (p := ⟨gb192, 2, none⟩) (Kd.R_far (p := ⟨gb192, 1, none⟩) (Kd.R_far (p := ⟨gb192, 0, none⟩) (Kd.R_types HO_3.out BK192.out (by decide)) (fun _ hk => hk.2) (.int .i64 ((rd_T67 l0 x11_1).f0))) (fun _ hk => hk.2) (.int .i64 ((rd_T67 l0 x11_1).f1))) (fun _ hk => hk.2) (.int .i64 ((rd_T67 l0 x11_1).f2))) (fun _ hk => trivial)))⟩; have n1_ : Aside0 (w14.heap[gb192]? = some (.cells #[.int .i64 ((rd_T67 l0 x11_1).f0), .int .i64 ((rd_T67 l0 x11_1).f1), .int .i64 ((rd_T67 l0 x11_1).f2)] 67 (0, 0))) := ⟨(by rw [hw]; exact (by (with_reducible repeat (first | refine blk_drewN ?_ _ | refine blk_drew ?_ | refine blk_alloc ?_ _)); refine blk_put (cs := #[.int .i64 ((rd_T67 l0 x11_1).f0), .int .i64 ((rd_T67 l0 x11_1).f1), .int .i64 0]) ?_ 2 _ rfl; (with_reducible repeat (first | refine blk_drewN ?_ _ | refine blk_drew ?_ | refine blk_alloc ?_ _)); refine blk_put (cs := #[.int .i64 ((rd_T67 l0 x11_1).f0), .int .i64 0, .int .i64 0]) ?_ 1 _ rfl; (with_reducible repeat (first | refine blk_drewN ?_ _ | refine blk_drew ?_ | refine blk_alloc ?_ _)); refine blk_put (cs := #[.int .i64 0, .int .i64 0, .int .i64 0]) ?_ 0 _ rfl; (with_reducible repeat (first | refine blk_drewN ?_ _ | refine blk_drew ?_ | refine blk_alloc ?_ _)); exact BK192.out))⟩; have n2_ : Aside0 (Below w.heap.size w w14) := ⟨(by rw [hw]; exact (by repeat (first | (with_reducible first | exact HB.out | apply below_alloc | apply pw_below_drewN | apply below_drew1 | refine below_set ?_ GE192.out) | exact HB.out)))⟩; clear hw; clear HO_3; clear BK192; clear HB; have HO_3 := n0_; have BK192 := n1_; have HB := n2_; clear n0_ n1_ n2_; have hcz15_0 : w14.cell? ⟨gb192, 0, none⟩ = some (.int .i64 ((rd_T67 l0 x11_1).f0)) := (blk_cell BK192.out 0).trans rfl; have hcz15_1 : w14.cell? ⟨gb192, 1, none⟩ = some (.int .i64 ((rd_T67 l0 x11_1).f1)) := (blk_cell BK192.out 1).trans rfl; have hcz15_2 : w14.cell? ⟨gb192, 2, none⟩ = some (.int .i64 ((rd_T67 l0 x11_1).f2)) := (blk_cell BK192.out 2).trans rfl; have hfz15_0 := blk_frozen BK192.out 0; have hfz15_1 := blk_frozen BK192.out 1; have hfz15_2 := blk_frozen BK192.out 2; have p11 : 0 ≤ (x11_1 : Int) := of_decide_eq_true (by assumption); have q11 : (x11_1 : Int) < ((x3_1.length : Int) : Int) := of_decide_eq_true (by assumption); obtain ⟨go11, co11, eo11, gb11, gl11, cl11, HG11⟩ := Kd.R_form HO_3.out (by omega); (first | cases eo11 | (injection eo11 with ea_ en_ ec_; (first | subst ea_ | (injection ea_ with ea_; subst ea_)); subst ec_; clear en_)); have GB11 := Aside0.mk gb11; have GG11 := Aside0.mk HG11; clear gb11 gl11 HG11; obtain ⟨hx11_0, hf11_0⟩ := Kd.R_celln false HO_3.out (x11_1 : Int) p11 q11; replace p11 := eq_true p11; replace q11 := eq_true q11; obtain ⟨hy16_, hz16_⟩ := Kd.R_celln false HO_3.out (x11_1 : Int) (of_decide_eq_true (by assumption)) (of_decide_eq_true (by assumption)); have HP16 := Kd.R_putg HO_3.out (x11_1 : Int) true) | ((with_reducible refine gate_store (t := 4) (p := 22) rfl ?_); refine store_event (t := 4) (p := 22) (v := ?vo_w17) (w1 := (w14.setCell ⟨go11, (x11_1 : Int).toNat, none⟩ (.bool true))) ?hg ?ho ?hn ?hr ?_; (case ho => rfl); (case hg => rfl); (case hn => rfl); (case hr => first | (go_simp; done) | (go_simp; rfl)); intro w17 hw; have hg : w14.grownBy w17 (some go11) := (by rw [hw]; exact HP16.2); have hp_ : Kd.R Kd.bool 4 w17 w.heap.size (fun _ => True) (.slice (some ⟨go11, 0, none⟩) x3_1.length co11) y193 := (by rw [hw, Ny193.out]; exact HP16.1); clear HP16; have n0_ := Aside0.mk (hp_); have n1_ := Aside0.mk (blk_grown (g := gb192) (o := .cells #[.int .i64 ((rd_T67 l0 x11_1).f0), .int .i64 ((rd_T67 l0 x11_1).f1), .int .i64 ((rd_T67 l0 x11_1).f2)] 67 (0, 0)) (by (with_reducible repeat (first | refine blk_drewN ?_ _ | refine blk_drew ?_ | refine blk_alloc ?_ _)); exact BK192.out) hg (Kd.R_ne HO_3.out BK192.out (by decide))); have n2_ := Aside0.mk ((by rw [hw]; exact below_set (HB.out) GB11.out : Below w.heap.size w w17)); clear HO_3; clear BK192; clear HB; have HO_3 := n0_; have BK192 := n1_; have HB := n2_; clear n0_ n1_ n2_; clear hg hw hp_))
                    go_roundg k1
                    case measure => have := HK1.out; omega
                    case rel => exact ⟨(y193), (wrap64 (x11_1 + 1)), (by first | rfl | (simp; done) | (simp [*]; done)), H', ⟨by have := HK1.out; omega⟩, ⟨by (with_reducible repeat (first | apply Kd.R_alloc | apply Kd.R_drewN | apply Kd.R_drew)); exact HO_3.out⟩, ⟨by repeat (first | (with_reducible first | exact HB.out | apply below_alloc | apply pw_below_drewN | apply below_drew1 | refine below_set ?_ GE192.out) | exact HB.out)⟩⟩
                  · rw [if_neg c10] at H
                    exact absurd H (by simp)
                · rw [if_neg c9] at H
                  have c9b0 : (((rd_T67 l0 x11_1).f0) == 1) = false := beq_eq_false_iff_ne.mpr c9
                  have c9b1 : (((rd_T67 l0 x11_1).f0) != 1) = true := bne_iff_ne.mpr c9
                  by_cases c18 : ((rd_T67 l0 x11_1).f0) = 4
                  · rw [if_pos c18] at H
                    have c18b0 : (((rd_T67 l0 x11_1).f0) == 4) = true := beq_iff_eq.mpr c18
                    have c18b1 : (((rd_T67 l0 x11_1).f0) != 4) = false := bne_eq_false_iff_eq.mpr c18
                    clear c18
                    by_cases c19 : 0 ≤ ((rd_T67 l0 x11_1).f1)
                    · rw [if_pos c19] at H
                      have c19b0 : decide (0 ≤ ((rd_T67 l0 x11_1).f1)) = true := decide_eq_true c19
                      clear c19
                      by_cases c20 : ((rd_T67 l0 x11_1).f1) < (x3_1.length : Int)
                      · rw [if_pos c20] at H
                        have c20b0 : decide (((rd_T67 l0 x11_1).f1) < (x3_1.length : Int)) = true := decide_eq_true c20
                        clear c20
                        obtain ⟨bq21, hbq21⟩ : ∃ b_ : Bool, b_ = (rdOf false x3_1 ((rd_T67 l0 x11_1).f1)) := ⟨_, rfl⟩
                        replace H : (if bq21 = true then (if x11_1 < (x3_1.length : Int) then (sentence_None.l0 k1 (x3_1.set (x11_1 : Int).toNat true) l0 (l0.length : Int) (wrap64 (x11_1 + 1))) else (none)) else (if 0 ≤ ((rd_T67 l0 x11_1).f2) then (if ((rd_T67 l0 x11_1).f2) < (x3_1.length : Int) then (if x11_1 < (x3_1.length : Int) then (sentence_None.l0 k1 (x3_1.set (x11_1 : Int).toNat (rdOf false x3_1 ((rd_T67 l0 x11_1).f2))) l0 (l0.length : Int) (wrap64 (x11_1 + 1))) else (none)) else (none)) else (none))) = some r := by rw [← hbq21] at H; exact H
                        have Nbq21 := Aside0.mk hbq21
                        clear hbq21
                        by_cases c22 : bq21 = true
                        · subst c22
                          have H1 : (if x11_1 < (x3_1.length : Int) then (sentence_None.l0 k1 (x3_1.set (x11_1 : Int).toNat true) l0 (l0.length : Int) (wrap64 (x11_1 + 1))) else (none)) = some r := by rw [if_pos rfl] at H; exact H
                          clear H
                          have H := H1
                          clear H1
                          by_cases c23 : x11_1 < (x3_1.length : Int)
                          · rw [if_pos c23] at H
                            have c23b0 : decide (x11_1 < (x3_1.length : Int)) = true := decide_eq_true c23
                            clear c23
                            obtain ⟨y195, hy195⟩ : ∃ y_ : List Bool, y_ = (x3_1.set (x11_1 : Int).toNat true) := ⟨_, rfl⟩
                            replace H : (sentence_None.l0 k1 y195 l0 (l0.length : Int) (wrap64 (x11_1 + 1))) = some r := by first | (rw [hy195]; with_reducible exact H) | (have H2_ := (Option.bind_some _ _).symm.trans H; rw [hy195]; with_reducible exact H2_) | (have H2_ := (Option.bind_some _ _).symm.trans H; with_reducible exact H2_) | with_reducible exact H | (rw [hy195]; exact H) | exact H
                            have Ny195 := Aside0.mk hy195
                            clear hy195
                            have H' := Aside0.mk H
                            clear H
                            have p191 : 0 ≤ (x11_1 : Int) := of_decide_eq_true (by assumption)
                            have q191 : x11_1 < (l0.length : Int) := of_decide_eq_true (by assumption)
                            obtain ⟨ad191, e191, hx191_0, hx191_1, hx191_2⟩ := at_T67 HR0.out x11_1 p191 q191
                            cases e191
                            replace hx191_0 := (HB.out.cell (World.block_lt_of_cell? w _ hx191_0)).trans hx191_0
                            replace hx191_1 := (HB.out.cell (World.block_lt_of_cell? w _ hx191_1)).trans hx191_1
                            replace hx191_2 := (HB.out.cell (World.block_lt_of_cell? w _ hx191_2)).trans hx191_2
                            replace p191 := eq_true p191
                            replace q191 := eq_true q191
                            go_wp2_with (first | ((with_reducible refine gate_dst (N := 5) rfl ?_); refine box_event ?hg (N := 5) ?hd (cs := #[.int .i64 0, .int .i64 0, .int .i64 0]) (t := 67) ?hr ?_; (case hd => rfl); (case hg => rfl); (case hr => first | (go_simp; done) | (go_simp; rfl)); intro gb192 hg w25 hbox hb; have n0_ := Aside0.mk (Kd.R_below (by (with_reducible repeat (first | apply Kd.R_alloc | apply Kd.R_drewN | apply Kd.R_drew)); exact HO_3.out) hb); have n1_ := Aside0.mk (below_step (by repeat (first | (with_reducible first | exact HB.out | apply below_alloc | apply pw_below_drewN | apply below_drew1) | exact HB.out)) hb); have n2_ := Aside0.mk (hbox); have n3_ := Aside0.mk ((by rw [hg]; exact (below_size (by repeat (first | (with_reducible first | exact HB.out | apply below_alloc | apply pw_below_drewN | apply below_drew1) | exact HB.out))) : w.heap.size ≤ gb192)); have n4_ := Aside0.mk ((by rw [hg]; exact (below_size (by repeat (first | (with_reducible first | exact HB.out | apply below_alloc | apply pw_below_drewN | apply below_drew1) | exact HB.out))) : w.heap.size ≤ gb192)); clear HO_3; clear HB; have HO_3 := n0_; have HB := n1_; have BK192 := n2_; have GW192 := n3_; have GE192 := n4_; clear n0_ n1_ n2_ n3_ n4_; clear hb hbox hg; have hcz26_0 : w25.cell? ⟨gb192, 0, none⟩ = some (.int .i64 0) := (blk_cell BK192.out 0).trans rfl; have hcz26_1 : w25.cell? ⟨gb192, 1, none⟩ = some (.int .i64 0) := (blk_cell BK192.out 1).trans rfl; have hcz26_2 : w25.cell? ⟨gb192, 2, none⟩ = some (.int .i64 0) := (blk_cell BK192.out 2).trans rfl; have hfz26_0 := blk_frozen BK192.out 0; have hfz26_1 := blk_frozen BK192.out 1; have hfz26_2 := blk_frozen BK192.out 2) | ((with_reducible refine gate_store (t := 67) (p := 5) rfl ?_); refine store_event (t := 67) (p := 5) (v := ?vo_w27) (w1 := (((w25.setCell ⟨gb192, 0, none⟩ (.int .i64 ((rd_T67 l0 x11_1).f0))).setCell ⟨gb192, 1, none⟩ (.int .i64 ((rd_T67 l0 x11_1).f1))).setCell ⟨gb192, 2, none⟩ (.int .i64 ((rd_T67 l0 x11_1).f2)))) ?hg ?ho ?hn ?hr ?_; (case ho => rfl); (case hg => rfl); (case hn => rfl); (case hr => first | (go_simp; done) | (go_simp; rfl)); intro w27 hw; have n0_ : Aside0 (Kd.R Kd.bool 4 w27 w.heap.size (fun _ => True) v189 x3_1) := ⟨(by rw [hw]; exact (by (with_reducible repeat (first | apply Kd.R_alloc | apply Kd.R_drewN | apply Kd.R_drew)); exact Kd.R_mono (Kd.R_far (p := ⟨gb192, 2, none⟩) (Kd.R_far (p := ⟨gb192, 1, none⟩) (Kd.R_far (p := ⟨gb192, 0, none⟩) (Kd.R_types HO_3.out BK192.out (by decide)) (fun _ hk => hk.2) (.int .i64 ((rd_T67 l0 x11_1).f0))) (fun _ hk => hk.2) (.int .i64 ((rd_T67 l0 x11_1).f1))) (fun _ hk => hk.2) (.int .i64 ((rd_T67 l0 x11_1).f2))) (fun _ hk => trivial)))⟩; have n1_ : Aside0 (w27.heap[gb192]? = some (.cells #[.int .i64 ((rd_T67 l0 x11_1).f0), .int .i64 ((rd_T67 l0 x11_1).f1), .int .i64 ((rd_T67 l0 x11_1).f2)] 67 (0, 0))) := ⟨(by rw [hw]; exact (by (with_reducible repeat (first | refine blk_drewN ?_ _ | refine blk_drew ?_ | refine blk_alloc ?_ _)); refine blk_put (cs := #[.int .i64 ((rd_T67 l0 x11_1).f0), .int .i64 ((rd_T67 l0 x11_1).f1), .int .i64 0]) ?_ 2 _ rfl; (with_reducible repeat (first | refine blk_drewN ?_ _ | refine blk_drew ?_ | refine blk_alloc ?_ _)); refine blk_put (cs := #[.int .i64 ((rd_T67 l0 x11_1).f0), .int .i64 0, .int .i64 0]) ?_ 1 _ rfl; (with_reducible repeat (first | refine blk_drewN ?_ _ | refine blk_drew ?_ | refine blk_alloc ?_ _)); refine blk_put (cs := #[.int .i64 0, .int .i64 0, .int .i64 0]) ?_ 0 _ rfl; (with_reducible repeat (first | refine blk_drewN ?_ _ | refine blk_drew ?_ | refine blk_alloc ?_ _)); exact BK192.out))⟩; have n2_ : Aside0 (Below w.heap.size w w27) := ⟨(by rw [hw]; exact (by repeat (first | (with_reducible first | exact HB.out | apply below_alloc | apply pw_below_drewN | apply below_drew1 | refine below_set ?_ GE192.out) | exact HB.out)))⟩; clear hw; clear HO_3; clear BK192; clear HB; have HO_3 := n0_; have BK192 := n1_; have HB := n2_; clear n0_ n1_ n2_; have hcz28_0 : w27.cell? ⟨gb192, 0, none⟩ = some (.int .i64 ((rd_T67 l0 x11_1).f0)) := (blk_cell BK192.out 0).trans rfl; have hcz28_1 : w27.cell? ⟨gb192, 1, none⟩ = some (.int .i64 ((rd_T67 l0 x11_1).f1)) := (blk_cell BK192.out 1).trans rfl; have hcz28_2 : w27.cell? ⟨gb192, 2, none⟩ = some (.int .i64 ((rd_T67 l0 x11_1).f2)) := (blk_cell BK192.out 2).trans rfl; have hfz28_0 := blk_frozen BK192.out 0; have hfz28_1 := blk_frozen BK192.out 1; have hfz28_2 := blk_frozen BK192.out 2; obtain ⟨Ao29, co29, eo29⟩ := Kd.R_slice HO_3.out; subst eo29; have p194 : 0 ≤ (((rd_T67 l0 x11_1).f1) : Int) := of_decide_eq_true (by assumption); have q194 : ((rd_T67 l0 x11_1).f1) < (x3_1.length : Int) := of_decide_eq_true (by assumption); obtain ⟨ad194, e194, hx194_0⟩ := Kd.at_bool (Kd.R_reads' HO_3.out).2.2 ((rd_T67 l0 x11_1).f1) p194 q194; (try rw [← Nbq21.out] at hx194_0); cases e194; replace p194 := eq_true p194; replace q194 := eq_true q194; have p24 : 0 ≤ (x11_1 : Int) := of_decide_eq_true (by assumption); have q24 : (x11_1 : Int) < ((x3_1.length : Int) : Int) := of_decide_eq_true (by assumption); obtain ⟨go24, co24, eo24, gb24, gl24, cl24, HG24⟩ := Kd.R_form HO_3.out (by omega); (first | cases eo24 | (injection eo24 with ea_ en_ ec_; (first | subst ea_ | (injection ea_ with ea_; subst ea_)); subst ec_; clear en_)); have GB24 := Aside0.mk gb24; have GG24 := Aside0.mk HG24; clear gb24 gl24 HG24; (first | simp only [add_plain] at hx194_0 | skip); obtain ⟨hx24_0, hf24_0⟩ := Kd.R_celln false HO_3.out (x11_1 : Int) p24 q24; replace p24 := eq_true p24; replace q24 := eq_true q24; obtain ⟨hy30_, hz30_⟩ := Kd.R_celln false HO_3.out (x11_1 : Int) (of_decide_eq_true (by assumption)) (of_decide_eq_true (by assumption)); have HP30 := Kd.R_putg HO_3.out (x11_1 : Int) true) | ((with_reducible refine gate_store (t := 4) (p := 39) rfl ?_); refine store_event (t := 4) (p := 39) (v := ?vo_w31) (w1 := (w27.setCell ⟨go24, (x11_1 : Int).toNat, none⟩ (.bool true))) ?hg ?ho ?hn ?hr ?_; (case ho => rfl); (case hg => rfl); (case hn => rfl); (case hr => first | (go_simp; done) | (go_simp; rfl)); intro w31 hw; have hg : w27.grownBy w31 (some go24) := (by rw [hw]; exact HP30.2); have hp_ : Kd.R Kd.bool 4 w31 w.heap.size (fun _ => True) (.slice (some ⟨go24, 0, none⟩) x3_1.length co29) y195 := (by rw [hw, Ny195.out]; exact HP30.1); clear HP30; have n0_ := Aside0.mk (hp_); have n1_ := Aside0.mk (blk_grown (g := gb192) (o := .cells #[.int .i64 ((rd_T67 l0 x11_1).f0), .int .i64 ((rd_T67 l0 x11_1).f1), .int .i64 ((rd_T67 l0 x11_1).f2)] 67 (0, 0)) (by (with_reducible repeat (first | refine blk_drewN ?_ _ | refine blk_drew ?_ | refine blk_alloc ?_ _)); exact BK192.out) hg (Kd.R_ne HO_3.out BK192.out (by decide))); have n2_ := Aside0.mk ((by rw [hw]; exact below_set (HB.out) GB24.out : Below w.heap.size w w31)); clear HO_3; clear BK192; clear HB; have HO_3 := n0_; have BK192 := n1_; have HB := n2_; clear n0_ n1_ n2_; clear hg hw hp_))
                            go_roundg k1
                            case measure => have := HK1.out; omega
                            case rel => exact ⟨(y195), (wrap64 (x11_1 + 1)), (by first | rfl | (simp; done) | (simp [*]; done)), H', ⟨by have := HK1.out; omega⟩, ⟨by (with_reducible repeat (first | apply Kd.R_alloc | apply Kd.R_drewN | apply Kd.R_drew)); exact HO_3.out⟩, ⟨by repeat (first | (with_reducible first | exact HB.out | apply below_alloc | apply pw_below_drewN | apply below_drew1 | refine below_set ?_ GE192.out) | exact HB.out)⟩⟩
                          · rw [if_neg c23] at H
                            exact absurd H (by simp)
                        · replace c22 := Bool.eq_false_iff.mpr c22
                          subst c22
                          have H1 : (if 0 ≤ ((rd_T67 l0 x11_1).f2) then (if ((rd_T67 l0 x11_1).f2) < (x3_1.length : Int) then (if x11_1 < (x3_1.length : Int) then (sentence_None.l0 k1 (x3_1.set (x11_1 : Int).toNat (rdOf false x3_1 ((rd_T67 l0 x11_1).f2))) l0 (l0.length : Int) (wrap64 (x11_1 + 1))) else (none)) else (none)) else (none)) = some r := by rw [if_neg (show ¬ (false = true) by decide)] at H; exact H
                          clear H
                          have H := H1
                          clear H1
                          by_cases c32 : 0 ≤ ((rd_T67 l0 x11_1).f2)
                          · rw [if_pos c32] at H
                            have c32b0 : decide (0 ≤ ((rd_T67 l0 x11_1).f2)) = true := decide_eq_true c32
                            clear c32
                            by_cases c33 : ((rd_T67 l0 x11_1).f2) < (x3_1.length : Int)
                            · rw [if_pos c33] at H
                              have c33b0 : decide (((rd_T67 l0 x11_1).f2) < (x3_1.length : Int)) = true := decide_eq_true c33
                              clear c33
                              by_cases c34 : x11_1 < (x3_1.length : Int)
                              · rw [if_pos c34] at H
                                have c34b0 : decide (x11_1 < (x3_1.length : Int)) = true := decide_eq_true c34
                                clear c34
                                obtain ⟨y197, hy197⟩ : ∃ y_ : List Bool, y_ = (x3_1.set (x11_1 : Int).toNat (rdOf false x3_1 ((rd_T67 l0 x11_1).f2))) := ⟨_, rfl⟩
                                replace H : (sentence_None.l0 k1 y197 l0 (l0.length : Int) (wrap64 (x11_1 + 1))) = some r := by first | (rw [hy197]; with_reducible exact H) | (have H2_ := (Option.bind_some _ _).symm.trans H; rw [hy197]; with_reducible exact H2_) | (have H2_ := (Option.bind_some _ _).symm.trans H; with_reducible exact H2_) | with_reducible exact H | (rw [hy197]; exact H) | exact H
                                have Ny197 := Aside0.mk hy197
                                clear hy197
                                have H' := Aside0.mk H
                                clear H
                                have p191 : 0 ≤ (x11_1 : Int) := of_decide_eq_true (by assumption)
                                have q191 : x11_1 < (l0.length : Int) := of_decide_eq_true (by assumption)
                                obtain ⟨ad191, e191, hx191_0, hx191_1, hx191_2⟩ := at_T67 HR0.out x11_1 p191 q191
                                cases e191
                                replace hx191_0 := (HB.out.cell (World.block_lt_of_cell? w _ hx191_0)).trans hx191_0
                                replace hx191_1 := (HB.out.cell (World.block_lt_of_cell? w _ hx191_1)).trans hx191_1
                                replace hx191_2 := (HB.out.cell (World.block_lt_of_cell? w _ hx191_2)).trans hx191_2
                                replace p191 := eq_true p191
                                replace q191 := eq_true q191
                                go_wp2_with (first | ((with_reducible refine gate_dst (N := 5) rfl ?_); refine box_event ?hg (N := 5) ?hd (cs := #[.int .i64 0, .int .i64 0, .int .i64 0]) (t := 67) ?hr ?_; (case hd => rfl); (case hg => rfl); (case hr => first | (go_simp; done) | (go_simp; rfl)); intro gb192 hg w36 hbox hb; have n0_ := Aside0.mk (Kd.R_below (by (with_reducible repeat (first | apply Kd.R_alloc | apply Kd.R_drewN | apply Kd.R_drew)); exact HO_3.out) hb); have n1_ := Aside0.mk (below_step (by repeat (first | (with_reducible first | exact HB.out | apply below_alloc | apply pw_below_drewN | apply below_drew1) | exact HB.out)) hb); have n2_ := Aside0.mk (hbox); have n3_ := Aside0.mk ((by rw [hg]; exact (below_size (by repeat (first | (with_reducible first | exact HB.out | apply below_alloc | apply pw_below_drewN | apply below_drew1) | exact HB.out))) : w.heap.size ≤ gb192)); have n4_ := Aside0.mk ((by rw [hg]; exact (below_size (by repeat (first | (with_reducible first | exact HB.out | apply below_alloc | apply pw_below_drewN | apply below_drew1) | exact HB.out))) : w.heap.size ≤ gb192)); clear HO_3; clear HB; have HO_3 := n0_; have HB := n1_; have BK192 := n2_; have GW192 := n3_; have GE192 := n4_; clear n0_ n1_ n2_ n3_ n4_; clear hb hbox hg; have hcz37_0 : w36.cell? ⟨gb192, 0, none⟩ = some (.int .i64 0) := (blk_cell BK192.out 0).trans rfl; have hcz37_1 : w36.cell? ⟨gb192, 1, none⟩ = some (.int .i64 0) := (blk_cell BK192.out 1).trans rfl; have hcz37_2 : w36.cell? ⟨gb192, 2, none⟩ = some (.int .i64 0) := (blk_cell BK192.out 2).trans rfl; have hfz37_0 := blk_frozen BK192.out 0; have hfz37_1 := blk_frozen BK192.out 1; have hfz37_2 := blk_frozen BK192.out 2) | ((with_reducible refine gate_store (t := 67) (p := 5) rfl ?_); refine store_event (t := 67) (p := 5) (v := ?vo_w38) (w1 := (((w36.setCell ⟨gb192, 0, none⟩ (.int .i64 ((rd_T67 l0 x11_1).f0))).setCell ⟨gb192, 1, none⟩ (.int .i64 ((rd_T67 l0 x11_1).f1))).setCell ⟨gb192, 2, none⟩ (.int .i64 ((rd_T67 l0 x11_1).f2)))) ?hg ?ho ?hn ?hr ?_; (case ho => rfl); (case hg => rfl); (case hn => rfl); (case hr => first | (go_simp; done) | (go_simp; rfl)); intro w38 hw; have n0_ : Aside0 (Kd.R Kd.bool 4 w38 w.heap.size (fun _ => True) v189 x3_1) := ⟨(by rw [hw]; exact (by (with_reducible repeat (first | apply Kd.R_alloc | apply Kd.R_drewN | apply Kd.R_drew)); exact Kd.R_mono (Kd.R_far (p := ⟨gb192, 2, none⟩) (Kd.R_far (p := ⟨gb192, 1, none⟩) (Kd.R_far (p := ⟨gb192, 0, none⟩) (Kd.R_types HO_3.out BK192.out (by decide)) (fun _ hk => hk.2) (.int .i64 ((rd_T67 l0 x11_1).f0))) (fun _ hk => hk.2) (.int .i64 ((rd_T67 l0 x11_1).f1))) (fun _ hk => hk.2) (.int .i64 ((rd_T67 l0 x11_1).f2))) (fun _ hk => trivial)))⟩; have n1_ : Aside0 (w38.heap[gb192]? = some (.cells #[.int .i64 ((rd_T67 l0 x11_1).f0), .int .i64 ((rd_T67 l0 x11_1).f1), .int .i64 ((rd_T67 l0 x11_1).f2)] 67 (0, 0))) := ⟨(by rw [hw]; exact (by (with_reducible repeat (first | refine blk_drewN ?_ _ | refine blk_drew ?_ | refine blk_alloc ?_ _)); refine blk_put (cs := #[.int .i64 ((rd_T67 l0 x11_1).f0), .int .i64 ((rd_T67 l0 x11_1).f1), .int .i64 0]) ?_ 2 _ rfl; (with_reducible repeat (first | refine blk_drewN ?_ _ | refine blk_drew ?_ | refine blk_alloc ?_ _)); refine blk_put (cs := #[.int .i64 ((rd_T67 l0 x11_1).f0), .int .i64 0, .int .i64 0]) ?_ 1 _ rfl; (with_reducible repeat (first | refine blk_drewN ?_ _ | refine blk_drew ?_ | refine blk_alloc ?_ _)); refine blk_put (cs := #[.int .i64 0, .int .i64 0, .int .i64 0]) ?_ 0 _ rfl; (with_reducible repeat (first | refine blk_drewN ?_ _ | refine blk_drew ?_ | refine blk_alloc ?_ _)); exact BK192.out))⟩; have n2_ : Aside0 (Below w.heap.size w w38) := ⟨(by rw [hw]; exact (by repeat (first | (with_reducible first | exact HB.out | apply below_alloc | apply pw_below_drewN | apply below_drew1 | refine below_set ?_ GE192.out) | exact HB.out)))⟩; clear hw; clear HO_3; clear BK192; clear HB; have HO_3 := n0_; have BK192 := n1_; have HB := n2_; clear n0_ n1_ n2_; have hcz39_0 : w38.cell? ⟨gb192, 0, none⟩ = some (.int .i64 ((rd_T67 l0 x11_1).f0)) := (blk_cell BK192.out 0).trans rfl; have hcz39_1 : w38.cell? ⟨gb192, 1, none⟩ = some (.int .i64 ((rd_T67 l0 x11_1).f1)) := (blk_cell BK192.out 1).trans rfl; have hcz39_2 : w38.cell? ⟨gb192, 2, none⟩ = some (.int .i64 ((rd_T67 l0 x11_1).f2)) := (blk_cell BK192.out 2).trans rfl; have hfz39_0 := blk_frozen BK192.out 0; have hfz39_1 := blk_frozen BK192.out 1; have hfz39_2 := blk_frozen BK192.out 2; obtain ⟨Ao40, co40, eo40⟩ := Kd.R_slice HO_3.out; subst eo40; have p194 : 0 ≤ (((rd_T67 l0 x11_1).f1) : Int) := of_decide_eq_true (by assumption); have q194 : ((rd_T67 l0 x11_1).f1) < (x3_1.length : Int) := of_decide_eq_true (by assumption); obtain ⟨ad194, e194, hx194_0⟩ := Kd.at_bool (Kd.R_reads' HO_3.out).2.2 ((rd_T67 l0 x11_1).f1) p194 q194; (try rw [← Nbq21.out] at hx194_0); cases e194; replace p194 := eq_true p194; replace q194 := eq_true q194; have p196 : 0 ≤ (((rd_T67 l0 x11_1).f2) : Int) := of_decide_eq_true (by assumption); have q196 : ((rd_T67 l0 x11_1).f2) < (x3_1.length : Int) := of_decide_eq_true (by assumption); obtain ⟨ad196, e196, hx196_0⟩ := Kd.at_bool (Kd.R_reads' HO_3.out).2.2 ((rd_T67 l0 x11_1).f2) p196 q196; (try rw [← Nbq21.out] at hx196_0); obtain rfl : ad194 = ad196 := (by injection e196); replace p196 := eq_true p196; replace q196 := eq_true q196; have p35 : 0 ≤ (x11_1 : Int) := of_decide_eq_true (by assumption); have q35 : (x11_1 : Int) < ((x3_1.length : Int) : Int) := of_decide_eq_true (by assumption); obtain ⟨go35, co35, eo35, gb35, gl35, cl35, HG35⟩ := Kd.R_form HO_3.out (by omega); (first | cases eo35 | (injection eo35 with ea_ en_ ec_; (first | subst ea_ | (injection ea_ with ea_; subst ea_)); subst ec_; clear en_)); have GB35 := Aside0.mk gb35; have GG35 := Aside0.mk HG35; clear gb35 gl35 HG35; (first | simp only [add_plain] at hx194_0 | skip); (first | simp only [add_plain] at hx196_0 | skip); obtain ⟨hx35_0, hf35_0⟩ := Kd.R_celln false HO_3.out (x11_1 : Int) p35 q35; replace p35 := eq_true p35; replace q35 := eq_true q35; obtain ⟨hy41_, hz41_⟩ := Kd.R_celln false HO_3.out (x11_1 : Int) (of_decide_eq_true (by assumption)) (of_decide_eq_true (by assumption)); have HP41 := Kd.R_putg HO_3.out (x11_1 : Int) (rdOf false x3_1 ((rd_T67 l0 x11_1).f2))) | ((with_reducible refine gate_store (t := 4) (p := 39) rfl ?_); refine store_event (t := 4) (p := 39) (v := ?vo_w42) (w1 := (w38.setCell ⟨go35, (x11_1 : Int).toNat, none⟩ (.bool (rdOf false x3_1 ((rd_T67 l0 x11_1).f2))))) ?hg ?ho ?hn ?hr ?_; (case ho => rfl); (case hg => rfl); (case hn => rfl); (case hr => first | (go_simp; done) | (go_simp; rfl)); intro w42 hw; have hg : w38.grownBy w42 (some go35) := (by rw [hw]; exact HP41.2); have hp_ : Kd.R Kd.bool 4 w42 w.heap.size (fun _ => True) (.slice (some ⟨go35, 0, none⟩) x3_1.length co40) y197 := (by rw [hw, Ny197.out]; exact HP41.1); clear HP41; have n0_ := Aside0.mk (hp_); have n1_ := Aside0.mk (blk_grown (g := gb192) (o := .cells #[.int .i64 ((rd_T67 l0 x11_1).f0), .int .i64 ((rd_T67 l0 x11_1).f1), .int .i64 ((rd_T67 l0 x11_1).f2)] 67 (0, 0)) (by (with_reducible repeat (first | refine blk_drewN ?_ _ | refine blk_drew ?_ | refine blk_alloc ?_ _)); exact BK192.out) hg (Kd.R_ne HO_3.out BK192.out (by decide))); have n2_ := Aside0.mk ((by rw [hw]; exact below_set (HB.out) GB35.out : Below w.heap.size w w42)); clear HO_3; clear BK192; clear HB; have HO_3 := n0_; have BK192 := n1_; have HB := n2_; clear n0_ n1_ n2_; clear hg hw hp_))
                                go_roundg k1
                                case measure => have := HK1.out; omega
                                case rel => exact ⟨(y197), (wrap64 (x11_1 + 1)), (by first | rfl | (simp; done) | (simp [*]; done)), H', ⟨by have := HK1.out; omega⟩, ⟨by (with_reducible repeat (first | apply Kd.R_alloc | apply Kd.R_drewN | apply Kd.R_drew)); exact HO_3.out⟩, ⟨by repeat (first | (with_reducible first | exact HB.out | apply below_alloc | apply pw_below_drewN | apply below_drew1 | refine below_set ?_ GE192.out) | exact HB.out)⟩⟩
                              · rw [if_neg c34] at H
                                exact absurd H (by simp)
                            · rw [if_neg c33] at H
                              exact absurd H (by simp)
                          · rw [if_neg c32] at H
                            exact absurd H (by simp)
                      · rw [if_neg c20] at H
                        exact absurd H (by simp)
                    · rw [if_neg c19] at H
                      exact absurd H (by simp)
                  · rw [if_neg c18] at H
                    have c18b0 : (((rd_T67 l0 x11_1).f0) == 4) = false := beq_eq_false_iff_ne.mpr c18
                    have c18b1 : (((rd_T67 l0 x11_1).f0) != 4) = true := bne_iff_ne.mpr c18
                    by_cases c43 : ((rd_T67 l0 x11_1).f0) = 5
                    · rw [if_pos c43] at H
                      have c43b0 : (((rd_T67 l0 x11_1).f0) == 5) = true := beq_iff_eq.mpr c43
                      have c43b1 : (((rd_T67 l0 x11_1).f0) != 5) = false := bne_eq_false_iff_eq.mpr c43
                      clear c43
                      by_cases c44 : 0 ≤ ((rd_T67 l0 x11_1).f1)
                      · rw [if_pos c44] at H
                        have c44b0 : decide (0 ≤ ((rd_T67 l0 x11_1).f1)) = true := decide_eq_true c44
                        clear c44
                        by_cases c45 : ((rd_T67 l0 x11_1).f1) < (x3_1.length : Int)
                        · rw [if_pos c45] at H
                          have c45b0 : decide (((rd_T67 l0 x11_1).f1) < (x3_1.length : Int)) = true := decide_eq_true c45
                          clear c45
                          obtain ⟨bq46, hbq46⟩ : ∃ b_ : Bool, b_ = (rdOf false x3_1 ((rd_T67 l0 x11_1).f1)) := ⟨_, rfl⟩
                          replace H : (if bq46 = true then (if 0 ≤ ((rd_T67 l0 x11_1).f2) then (if ((rd_T67 l0 x11_1).f2) < (x3_1.length : Int) then (if x11_1 < (x3_1.length : Int) then (sentence_None.l0 k1 (x3_1.set (x11_1 : Int).toNat (rdOf false x3_1 ((rd_T67 l0 x11_1).f2))) l0 (l0.length : Int) (wrap64 (x11_1 + 1))) else (none)) else (none)) else (none)) else (if x11_1 < (x3_1.length : Int) then (sentence_None.l0 k1 (x3_1.set (x11_1 : Int).toNat false) l0 (l0.length : Int) (wrap64 (x11_1 + 1))) else (none))) = some r := by rw [← hbq46] at H; exact H
                          have Nbq46 := Aside0.mk hbq46
                          clear hbq46
                          by_cases c47 : bq46 = true
                          · subst c47
                            have H1 : (if 0 ≤ ((rd_T67 l0 x11_1).f2) then (if ((rd_T67 l0 x11_1).f2) < (x3_1.length : Int) then (if x11_1 < (x3_1.length : Int) then (sentence_None.l0 k1 (x3_1.set (x11_1 : Int).toNat (rdOf false x3_1 ((rd_T67 l0 x11_1).f2))) l0 (l0.length : Int) (wrap64 (x11_1 + 1))) else (none)) else (none)) else (none)) = some r := by rw [if_pos rfl] at H; exact H
                            clear H
                            have H := H1
                            clear H1
                            by_cases c48 : 0 ≤ ((rd_T67 l0 x11_1).f2)
                            · rw [if_pos c48] at H
                              have c48b0 : decide (0 ≤ ((rd_T67 l0 x11_1).f2)) = true := decide_eq_true c48
                              clear c48
                              by_cases c49 : ((rd_T67 l0 x11_1).f2) < (x3_1.length : Int)
                              · rw [if_pos c49] at H
                                have c49b0 : decide (((rd_T67 l0 x11_1).f2) < (x3_1.length : Int)) = true := decide_eq_true c49
                                clear c49
                                by_cases c50 : x11_1 < (x3_1.length : Int)
                                · rw [if_pos c50] at H
                                  have c50b0 : decide (x11_1 < (x3_1.length : Int)) = true := decide_eq_true c50
                                  clear c50
                                  obtain ⟨y200, hy200⟩ : ∃ y_ : List Bool, y_ = (x3_1.set (x11_1 : Int).toNat (rdOf false x3_1 ((rd_T67 l0 x11_1).f2))) := ⟨_, rfl⟩
                                  replace H : (sentence_None.l0 k1 y200 l0 (l0.length : Int) (wrap64 (x11_1 + 1))) = some r := by first | (rw [hy200]; with_reducible exact H) | (have H2_ := (Option.bind_some _ _).symm.trans H; rw [hy200]; with_reducible exact H2_) | (have H2_ := (Option.bind_some _ _).symm.trans H; with_reducible exact H2_) | with_reducible exact H | (rw [hy200]; exact H) | exact H
                                  have Ny200 := Aside0.mk hy200
                                  clear hy200
                                  have H' := Aside0.mk H
                                  clear H
                                  have p191 : 0 ≤ (x11_1 : Int) := of_decide_eq_true (by assumption)
                                  have q191 : x11_1 < (l0.length : Int) := of_decide_eq_true (by assumption)
                                  obtain ⟨ad191, e191, hx191_0, hx191_1, hx191_2⟩ := at_T67 HR0.out x11_1 p191 q191
                                  cases e191
                                  replace hx191_0 := (HB.out.cell (World.block_lt_of_cell? w _ hx191_0)).trans hx191_0
                                  replace hx191_1 := (HB.out.cell (World.block_lt_of_cell? w _ hx191_1)).trans hx191_1
                                  replace hx191_2 := (HB.out.cell (World.block_lt_of_cell? w _ hx191_2)).trans hx191_2
                                  replace p191 := eq_true p191
                                  replace q191 := eq_true q191
                                  go_wp2_with (first | ((with_reducible refine gate_dst (N := 5) rfl ?_); refine box_event ?hg (N := 5) ?hd (cs := #[.int .i64 0, .int .i64 0, .int .i64 0]) (t := 67) ?hr ?_; (case hd => rfl); (case hg => rfl); (case hr => first | (go_simp; done) | (go_simp; rfl)); intro gb192 hg w52 hbox hb; have n0_ := Aside0.mk (Kd.R_below (by (with_reducible repeat (first | apply Kd.R_alloc | apply Kd.R_drewN | apply Kd.R_drew)); exact HO_3.out) hb); have n1_ := Aside0.mk (below_step (by repeat (first | (with_reducible first | exact HB.out | apply below_alloc | apply pw_below_drewN | apply below_drew1) | exact HB.out)) hb); have n2_ := Aside0.mk (hbox); have n3_ := Aside0.mk ((by rw [hg]; exact (below_size (by repeat (first | (with_reducible first | exact HB.out | apply below_alloc | apply pw_below_drewN | apply below_drew1) | exact HB.out))) : w.heap.size ≤ gb192)); have n4_ := Aside0.mk ((by rw [hg]; exact (below_size (by repeat (first | (with_reducible first | exact HB.out | apply below_alloc | apply pw_below_drewN | apply below_drew1) | exact HB.out))) : w.heap.size ≤ gb192)); clear HO_3; clear HB; have HO_3 := n0_; have HB := n1_; have BK192 := n2_; have GW192 := n3_; have GE192 := n4_; clear n0_ n1_ n2_ n3_ n4_; clear hb hbox hg; have hcz53_0 : w52.cell? ⟨gb192, 0, none⟩ = some (.int .i64 0) := (blk_cell BK192.out 0).trans rfl; have hcz53_1 : w52.cell? ⟨gb192, 1, none⟩ = some (.int .i64 0) := (blk_cell BK192.out 1).trans rfl; have hcz53_2 : w52.cell? ⟨gb192, 2, none⟩ = some (.int .i64 0) := (blk_cell BK192.out 2).trans rfl; have hfz53_0 := blk_frozen BK192.out 0; have hfz53_1 := blk_frozen BK192.out 1; have hfz53_2 := blk_frozen BK192.out 2) | ((with_reducible refine gate_store (t := 67) (p := 5) rfl ?_); refine store_event (t := 67) (p := 5) (v := ?vo_w54) (w1 := (((w52.setCell ⟨gb192, 0, none⟩ (.int .i64 ((rd_T67 l0 x11_1).f0))).setCell ⟨gb192, 1, none⟩ (.int .i64 ((rd_T67 l0 x11_1).f1))).setCell ⟨gb192, 2, none⟩ (.int .i64 ((rd_T67 l0 x11_1).f2)))) ?hg ?ho ?hn ?hr ?_; (case ho => rfl); (case hg => rfl); (case hn => rfl); (case hr => first | (go_simp; done) | (go_simp; rfl)); intro w54 hw; have n0_ : Aside0 (Kd.R Kd.bool 4 w54 w.heap.size (fun _ => True) v189 x3_1) := ⟨(by rw [hw]; exact (by (with_reducible repeat (first | apply Kd.R_alloc | apply Kd.R_drewN | apply Kd.R_drew)); exact Kd.R_mono (Kd.R_far (p := ⟨gb192, 2, none⟩) (Kd.R_far (p := ⟨gb192, 1, none⟩) (Kd.R_far (p := ⟨gb192, 0, none⟩) (Kd.R_types HO_3.out BK192.out (by decide)) (fun _ hk => hk.2) (.int .i64 ((rd_T67 l0 x11_1).f0))) (fun _ hk => hk.2) (.int .i64 ((rd_T67 l0 x11_1).f1))) (fun _ hk => hk.2) (.int .i64 ((rd_T67 l0 x11_1).f2))) (fun _ hk => trivial)))⟩; have n1_ : Aside0 (w54.heap[gb192]? = some (.cells #[.int .i64 ((rd_T67 l0 x11_1).f0), .int .i64 ((rd_T67 l0 x11_1).f1), .int .i64 ((rd_T67 l0 x11_1).f2)] 67 (0, 0))) := ⟨(by rw [hw]; exact (by (with_reducible repeat (first | refine blk_drewN ?_ _ | refine blk_drew ?_ | refine blk_alloc ?_ _)); refine blk_put (cs := #[.int .i64 ((rd_T67 l0 x11_1).f0), .int .i64 ((rd_T67 l0 x11_1).f1), .int .i64 0]) ?_ 2 _ rfl; (with_reducible repeat (first | refine blk_drewN ?_ _ | refine blk_drew ?_ | refine blk_alloc ?_ _)); refine blk_put (cs := #[.int .i64 ((rd_T67 l0 x11_1).f0), .int .i64 0, .int .i64 0]) ?_ 1 _ rfl; (with_reducible repeat (first | refine blk_drewN ?_ _ | refine blk_drew ?_ | refine blk_alloc ?_ _)); refine blk_put (cs := #[.int .i64 0, .int .i64 0, .int .i64 0]) ?_ 0 _ rfl; (with_reducible repeat (first | refine blk_drewN ?_ _ | refine blk_drew ?_ | refine blk_alloc ?_ _)); exact BK192.out))⟩; have n2_ : Aside0 (Below w.heap.size w w54) := ⟨(by rw [hw]; exact (by repeat (first | (with_reducible first | exact HB.out | apply below_alloc | apply pw_below_drewN | apply below_drew1 | refine below_set ?_ GE192.out) | exact HB.out)))⟩; clear hw; clear HO_3; clear BK192; clear HB; have HO_3 := n0_; have BK192 := n1_; have HB := n2_; clear n0_ n1_ n2_; have hcz55_0 : w54.cell? ⟨gb192, 0, none⟩ = some (.int .i64 ((rd_T67 l0 x11_1).f0)) := (blk_cell BK192.out 0).trans rfl; have hcz55_1 : w54.cell? ⟨gb192, 1, none⟩ = some (.int .i64 ((rd_T67 l0 x11_1).f1)) := (blk_cell BK192.out 1).trans rfl; have hcz55_2 : w54.cell? ⟨gb192, 2, none⟩ = some (.int .i64 ((rd_T67 l0 x11_1).f2)) := (blk_cell BK192.out 2).trans rfl; have hfz55_0 := blk_frozen BK192.out 0; have hfz55_1 := blk_frozen BK192.out 1; have hfz55_2 := blk_frozen BK192.out 2; obtain ⟨Ao56, co56, eo56⟩ := Kd.R_slice HO_3.out; subst eo56; have p198 : 0 ≤ (((rd_T67 l0 x11_1).f1) : Int) := of_decide_eq_true (by assumption); have q198 : ((rd_T67 l0 x11_1).f1) < (x3_1.length : Int) := of_decide_eq_true (by assumption); obtain ⟨ad198, e198, hx198_0⟩ := Kd.at_bool (Kd.R_reads' HO_3.out).2.2 ((rd_T67 l0 x11_1).f1) p198 q198; (try rw [← Nbq46.out] at hx198_0); cases e198; replace p198 := eq_true p198; replace q198 := eq_true q198; have p199 : 0 ≤ (((rd_T67 l0 x11_1).f2) : Int) := of_decide_eq_true (by assumption); have q199 : ((rd_T67 l0 x11_1).f2) < (x3_1.length : Int) := of_decide_eq_true (by assumption); obtain ⟨ad199, e199, hx199_0⟩ := Kd.at_bool (Kd.R_reads' HO_3.out).2.2 ((rd_T67 l0 x11_1).f2) p199 q199; (try rw [← Nbq46.out] at hx199_0); obtain rfl : ad198 = ad199 := (by injection e199); replace p199 := eq_true p199; replace q199 := eq_true q199; have p51 : 0 ≤ (x11_1 : Int) := of_decide_eq_true (by assumption); have q51 : (x11_1 : Int) < ((x3_1.length : Int) : Int) := of_decide_eq_true (by assumption); obtain ⟨go51, co51, eo51, gb51, gl51, cl51, HG51⟩ := Kd.R_form HO_3.out (by omega); (first | cases eo51 | (injection eo51 with ea_ en_ ec_; (first | subst ea_ | (injection ea_ with ea_; subst ea_)); subst ec_; clear en_)); have GB51 := Aside0.mk gb51; have GG51 := Aside0.mk HG51; clear gb51 gl51 HG51; (first | simp only [add_plain] at hx198_0 | skip); (first | simp only [add_plain] at hx199_0 | skip); obtain ⟨hx51_0, hf51_0⟩ := Kd.R_celln false HO_3.out (x11_1 : Int) p51 q51; replace p51 := eq_true p51; replace q51 := eq_true q51; obtain ⟨hy57_, hz57_⟩ := Kd.R_celln false HO_3.out (x11_1 : Int) (of_decide_eq_true (by assumption)) (of_decide_eq_true (by assumption)); have HP57 := Kd.R_putg HO_3.out (x11_1 : Int) (rdOf false x3_1 ((rd_T67 l0 x11_1).f2))) | ((with_reducible refine gate_store (t := 4) (p := 56) rfl ?_); refine store_event (t := 4) (p := 56) (v := ?vo_w58) (w1 := (w54.setCell ⟨go51, (x11_1 : Int).toNat, none⟩ (.bool (rdOf false x3_1 ((rd_T67 l0 x11_1).f2))))) ?hg ?ho ?hn ?hr ?_; (case ho => rfl); (case hg => rfl); (case hn => rfl); (case hr => first | (go_simp; done) | (go_simp; rfl)); intro w58 hw; have hg : w54.grownBy w58 (some go51) := (by rw [hw]; exact HP57.2); have hp_ : Kd.R Kd.bool 4 w58 w.heap.size (fun _ => True) (.slice (some ⟨go51, 0, none⟩) x3_1.length co56) y200 := (by rw [hw, Ny200.out]; exact HP57.1); clear HP57; have n0_ := Aside0.mk (hp_); have n1_ := Aside0.mk (blk_grown (g := gb192) (o := .cells #[.int .i64 ((rd_T67 l0 x11_1).f0), .int .i64 ((rd_T67 l0 x11_1).f1), .int .i64 ((rd_T67 l0 x11_1).f2)] 67 (0, 0)) (by (with_reducible repeat (first | refine blk_drewN ?_ _ | refine blk_drew ?_ | refine blk_alloc ?_ _)); exact BK192.out) hg (Kd.R_ne HO_3.out BK192.out (by decide))); have n2_ := Aside0.mk ((by rw [hw]; exact below_set (HB.out) GB51.out : Below w.heap.size w w58)); clear HO_3; clear BK192; clear HB; have HO_3 := n0_; have BK192 := n1_; have HB := n2_; clear n0_ n1_ n2_; clear hg hw hp_))
                                  go_roundg k1
                                  case measure => have := HK1.out; omega
                                  case rel => exact ⟨(y200), (wrap64 (x11_1 + 1)), (by first | rfl | (simp; done) | (simp [*]; done)), H', ⟨by have := HK1.out; omega⟩, ⟨by (with_reducible repeat (first | apply Kd.R_alloc | apply Kd.R_drewN | apply Kd.R_drew)); exact HO_3.out⟩, ⟨by repeat (first | (with_reducible first | exact HB.out | apply below_alloc | apply pw_below_drewN | apply below_drew1 | refine below_set ?_ GE192.out) | exact HB.out)⟩⟩
                                · rw [if_neg c50] at H
                                  exact absurd H (by simp)
                              · rw [if_neg c49] at H
                                exact absurd H (by simp)
                            · rw [if_neg c48] at H
                              exact absurd H (by simp)
                          · replace c47 := Bool.eq_false_iff.mpr c47
                            subst c47
                            have H1 : (if x11_1 < (x3_1.length : Int) then (sentence_None.l0 k1 (x3_1.set (x11_1 : Int).toNat false) l0 (l0.length : Int) (wrap64 (x11_1 + 1))) else (none)) = some r := by rw [if_neg (show ¬ (false = true) by decide)] at H; exact H
                            clear H
                            have H := H1
                            clear H1
                            by_cases c59 : x11_1 < (x3_1.length : Int)
                            · rw [if_pos c59] at H
                              have c59b0 : decide (x11_1 < (x3_1.length : Int)) = true := decide_eq_true c59
                              clear c59
                              obtain ⟨y201, hy201⟩ : ∃ y_ : List Bool, y_ = (x3_1.set (x11_1 : Int).toNat false) := ⟨_, rfl⟩
                              replace H : (sentence_None.l0 k1 y201 l0 (l0.length : Int) (wrap64 (x11_1 + 1))) = some r := by first | (rw [hy201]; with_reducible exact H) | (have H2_ := (Option.bind_some _ _).symm.trans H; rw [hy201]; with_reducible exact H2_) | (have H2_ := (Option.bind_some _ _).symm.trans H; with_reducible exact H2_) | with_reducible exact H | (rw [hy201]; exact H) | exact H
                              have Ny201 := Aside0.mk hy201
                              clear hy201
                              have H' := Aside0.mk H
                              clear H
                              have p191 : 0 ≤ (x11_1 : Int) := of_decide_eq_true (by assumption)
                              have q191 : x11_1 < (l0.length : Int) := of_decide_eq_true (by assumption)
                              obtain ⟨ad191, e191, hx191_0, hx191_1, hx191_2⟩ := at_T67 HR0.out x11_1 p191 q191
                              cases e191
                              replace hx191_0 := (HB.out.cell (World.block_lt_of_cell? w _ hx191_0)).trans hx191_0
                              replace hx191_1 := (HB.out.cell (World.block_lt_of_cell? w _ hx191_1)).trans hx191_1
                              replace hx191_2 := (HB.out.cell (World.block_lt_of_cell? w _ hx191_2)).trans hx191_2
                              replace p191 := eq_true p191
                              replace q191 := eq_true q191
                              go_wp2_with (first | ((with_reducible refine gate_dst (N := 5) rfl ?_); refine box_event ?hg (N := 5) ?hd (cs := #[.int .i64 0, .int .i64 0, .int .i64 0]) (t := 67) ?hr ?_; (case hd => rfl); (case hg => rfl); (case hr => first | (go_simp; done) | (go_simp; rfl)); intro gb192 hg w61 hbox hb; have n0_ := Aside0.mk (Kd.R_below (by (with_reducible repeat (first | apply Kd.R_alloc | apply Kd.R_drewN | apply Kd.R_drew)); exact HO_3.out) hb); have n1_ := Aside0.mk (below_step (by repeat (first | (with_reducible first | exact HB.out | apply below_alloc | apply pw_below_drewN | apply below_drew1) | exact HB.out)) hb); have n2_ := Aside0.mk (hbox); have n3_ := Aside0.mk ((by rw [hg]; exact (below_size (by repeat (first | (with_reducible first | exact HB.out | apply below_alloc | apply pw_below_drewN | apply below_drew1) | exact HB.out))) : w.heap.size ≤ gb192)); have n4_ := Aside0.mk ((by rw [hg]; exact (below_size (by repeat (first | (with_reducible first | exact HB.out | apply below_alloc | apply pw_below_drewN | apply below_drew1) | exact HB.out))) : w.heap.size ≤ gb192)); clear HO_3; clear HB; have HO_3 := n0_; have HB := n1_; have BK192 := n2_; have GW192 := n3_; have GE192 := n4_; clear n0_ n1_ n2_ n3_ n4_; clear hb hbox hg; have hcz62_0 : w61.cell? ⟨gb192, 0, none⟩ = some (.int .i64 0) := (blk_cell BK192.out 0).trans rfl; have hcz62_1 : w61.cell? ⟨gb192, 1, none⟩ = some (.int .i64 0) := (blk_cell BK192.out 1).trans rfl; have hcz62_2 : w61.cell? ⟨gb192, 2, none⟩ = some (.int .i64 0) := (blk_cell BK192.out 2).trans rfl; have hfz62_0 := blk_frozen BK192.out 0; have hfz62_1 := blk_frozen BK192.out 1; have hfz62_2 := blk_frozen BK192.out 2) | ((with_reducible refine gate_store (t := 67) (p := 5) rfl ?_); refine store_event (t := 67) (p := 5) (v := ?vo_w63) (w1 := (((w61.setCell ⟨gb192, 0, none⟩ (.int .i64 ((rd_T67 l0 x11_1).f0))).setCell ⟨gb192, 1, none⟩ (.int .i64 ((rd_T67 l0 x11_1).f1))).setCell ⟨gb192, 2, none⟩ (.int .i64 ((rd_T67 l0 x11_1).f2)))) ?hg ?ho ?hn ?hr ?_; (case ho => rfl); (case hg => rfl); (case hn => rfl); (case hr => first | (go_simp; done) | (go_simp; rfl)); intro w63 hw; have n0_ : Aside0 (Kd.R Kd.bool 4 w63 w.heap.size (fun _ => True) v189 x3_1) := ⟨(by rw [hw]; exact (by (with_reducible repeat (first | apply Kd.R_alloc | apply Kd.R_drewN | apply Kd.R_drew)); exact Kd.R_mono (Kd.R_far (p := ⟨gb192, 2, none⟩) (Kd.R_far (p := ⟨gb192, 1, none⟩) (Kd.R_far (p := ⟨gb192, 0, none⟩) (Kd.R_types HO_3.out BK192.out (by decide)) (fun _ hk => hk.2) (.int .i64 ((rd_T67 l0 x11_1).f0))) (fun _ hk => hk.2) (.int .i64 ((rd_T67 l0 x11_1).f1))) (fun _ hk => hk.2) (.int .i64 ((rd_T67 l0 x11_1).f2))) (fun _ hk => trivial)))⟩; have n1_ : Aside0 (w63.heap[gb192]? = some (.cells #[.int .i64 ((rd_T67 l0 x11_1).f0), .int .i64 ((rd_T67 l0 x11_1).f1), .int .i64 ((rd_T67 l0 x11_1).f2)] 67 (0, 0))) := ⟨(by rw [hw]; exact (by (with_reducible repeat (first | refine blk_drewN ?_ _ | refine blk_drew ?_ | refine blk_alloc ?_ _)); refine blk_put (cs := #[.int .i64 ((rd_T67 l0 x11_1).f0), .int .i64 ((rd_T67 l0 x11_1).f1), .int .i64 0]) ?_ 2 _ rfl; (with_reducible repeat (first | refine blk_drewN ?_ _ | refine blk_drew ?_ | refine blk_alloc ?_ _)); refine blk_put (cs := #[.int .i64 ((rd_T67 l0 x11_1).f0), .int .i64 0, .int .i64 0]) ?_ 1 _ rfl; (with_reducible repeat (first | refine blk_drewN ?_ _ | refine blk_drew ?_ | refine blk_alloc ?_ _)); refine blk_put (cs := #[.int .i64 0, .int .i64 0, .int .i64 0]) ?_ 0 _ rfl; (with_reducible repeat (first | refine blk_drewN ?_ _ | refine blk_drew ?_ | refine blk_alloc ?_ _)); exact BK192.out))⟩; have n2_ : Aside0 (Below w.heap.size w w63) := ⟨(by rw [hw]; exact (by repeat (first | (with_reducible first | exact HB.out | apply below_alloc | apply pw_below_drewN | apply below_drew1 | refine below_set ?_ GE192.out) | exact HB.out)))⟩; clear hw; clear HO_3; clear BK192; clear HB; have HO_3 := n0_; have BK192 := n1_; have HB := n2_; clear n0_ n1_ n2_; have hcz64_0 : w63.cell? ⟨gb192, 0, none⟩ = some (.int .i64 ((rd_T67 l0 x11_1).f0)) := (blk_cell BK192.out 0).trans rfl; have hcz64_1 : w63.cell? ⟨gb192, 1, none⟩ = some (.int .i64 ((rd_T67 l0 x11_1).f1)) := (blk_cell BK192.out 1).trans rfl; have hcz64_2 : w63.cell? ⟨gb192, 2, none⟩ = some (.int .i64 ((rd_T67 l0 x11_1).f2)) := (blk_cell BK192.out 2).trans rfl; have hfz64_0 := blk_frozen BK192.out 0; have hfz64_1 := blk_frozen BK192.out 1; have hfz64_2 := blk_frozen BK192.out 2; obtain ⟨Ao65, co65, eo65⟩ := Kd.R_slice HO_3.out; subst eo65; have p198 : 0 ≤ (((rd_T67 l0 x11_1).f1) : Int) := of_decide_eq_true (by assumption); have q198 : ((rd_T67 l0 x11_1).f1) < (x3_1.length : Int) := of_decide_eq_true (by assumption); obtain ⟨ad198, e198, hx198_0⟩ := Kd.at_bool (Kd.R_reads' HO_3.out).2.2 ((rd_T67 l0 x11_1).f1) p198 q198; (try rw [← Nbq46.out] at hx198_0); cases e198; replace p198 := eq_true p198; replace q198 := eq_true q198; have p60 : 0 ≤ (x11_1 : Int) := of_decide_eq_true (by assumption); have q60 : (x11_1 : Int) < ((x3_1.length : Int) : Int) := of_decide_eq_true (by assumption); obtain ⟨go60, co60, eo60, gb60, gl60, cl60, HG60⟩ := Kd.R_form HO_3.out (by omega); (first | cases eo60 | (injection eo60 with ea_ en_ ec_; (first | subst ea_ | (injection ea_ with ea_; subst ea_)); subst ec_; clear en_)); have GB60 := Aside0.mk gb60; have GG60 := Aside0.mk HG60; clear gb60 gl60 HG60; (first | simp only [add_plain] at hx198_0 | skip); obtain ⟨hx60_0, hf60_0⟩ := Kd.R_celln false HO_3.out (x11_1 : Int) p60 q60; replace p60 := eq_true p60; replace q60 := eq_true q60; obtain ⟨hy66_, hz66_⟩ := Kd.R_celln false HO_3.out (x11_1 : Int) (of_decide_eq_true (by assumption)) (of_decide_eq_true (by assumption)); have HP66 := Kd.R_putg HO_3.out (x11_1 : Int) false) | ((with_reducible refine gate_store (t := 4) (p := 56) rfl ?_); refine store_event (t := 4) (p := 56) (v := ?vo_w67) (w1 := (w63.setCell ⟨go60, (x11_1 : Int).toNat, none⟩ (.bool false))) ?hg ?ho ?hn ?hr ?_; (case ho => rfl); (case hg => rfl); (case hn => rfl); (case hr => first | (go_simp; done) | (go_simp; rfl)); intro w67 hw; have hg : w63.grownBy w67 (some go60) := (by rw [hw]; exact HP66.2); have hp_ : Kd.R Kd.bool 4 w67 w.heap.size (fun _ => True) (.slice (some ⟨go60, 0, none⟩) x3_1.length co65) y201 := (by rw [hw, Ny201.out]; exact HP66.1); clear HP66; have n0_ := Aside0.mk (hp_); have n1_ := Aside0.mk (blk_grown (g := gb192) (o := .cells #[.int .i64 ((rd_T67 l0 x11_1).f0), .int .i64 ((rd_T67 l0 x11_1).f1), .int .i64 ((rd_T67 l0 x11_1).f2)] 67 (0, 0)) (by (with_reducible repeat (first | refine blk_drewN ?_ _ | refine blk_drew ?_ | refine blk_alloc ?_ _)); exact BK192.out) hg (Kd.R_ne HO_3.out BK192.out (by decide))); have n2_ := Aside0.mk ((by rw [hw]; exact below_set (HB.out) GB60.out : Below w.heap.size w w67)); clear HO_3; clear BK192; clear HB; have HO_3 := n0_; have BK192 := n1_; have HB := n2_; clear n0_ n1_ n2_; clear hg hw hp_))
                              go_roundg k1
                              case measure => have := HK1.out; omega
                              case rel => exact ⟨(y201), (wrap64 (x11_1 + 1)), (by first | rfl | (simp; done) | (simp [*]; done)), H', ⟨by have := HK1.out; omega⟩, ⟨by (with_reducible repeat (first | apply Kd.R_alloc | apply Kd.R_drewN | apply Kd.R_drew)); exact HO_3.out⟩, ⟨by repeat (first | (with_reducible first | exact HB.out | apply below_alloc | apply pw_below_drewN | apply below_drew1 | refine below_set ?_ GE192.out) | exact HB.out)⟩⟩
                            · rw [if_neg c59] at H
                              exact absurd H (by simp)
                        · rw [if_neg c45] at H
                          exact absurd H (by simp)
                      · rw [if_neg c44] at H
                        exact absurd H (by simp)
                    · rw [if_neg c43] at H
                      have c43b0 : (((rd_T67 l0 x11_1).f0) == 5) = false := beq_eq_false_iff_ne.mpr c43
                      have c43b1 : (((rd_T67 l0 x11_1).f0) != 5) = true := bne_iff_ne.mpr c43
                      have H' := Aside0.mk H
                      clear H
                      have p191 : 0 ≤ (x11_1 : Int) := of_decide_eq_true (by assumption)
                      have q191 : x11_1 < (l0.length : Int) := of_decide_eq_true (by assumption)
                      obtain ⟨ad191, e191, hx191_0, hx191_1, hx191_2⟩ := at_T67 HR0.out x11_1 p191 q191
                      cases e191
                      replace hx191_0 := (HB.out.cell (World.block_lt_of_cell? w _ hx191_0)).trans hx191_0
                      replace hx191_1 := (HB.out.cell (World.block_lt_of_cell? w _ hx191_1)).trans hx191_1
                      replace hx191_2 := (HB.out.cell (World.block_lt_of_cell? w _ hx191_2)).trans hx191_2
                      replace p191 := eq_true p191
                      replace q191 := eq_true q191
                      go_wp2_with (first | ((with_reducible refine gate_dst (N := 5) rfl ?_); refine box_event ?hg (N := 5) ?hd (cs := #[.int .i64 0, .int .i64 0, .int .i64 0]) (t := 67) ?hr ?_; (case hd => rfl); (case hg => rfl); (case hr => first | (go_simp; done) | (go_simp; rfl)); intro gb192 hg w68 hbox hb; have n0_ := Aside0.mk (Kd.R_below (by (with_reducible repeat (first | apply Kd.R_alloc | apply Kd.R_drewN | apply Kd.R_drew)); exact HO_3.out) hb); have n1_ := Aside0.mk (below_step (by repeat (first | (with_reducible first | exact HB.out | apply below_alloc | apply pw_below_drewN | apply below_drew1) | exact HB.out)) hb); have n2_ := Aside0.mk (hbox); have n3_ := Aside0.mk ((by rw [hg]; exact (below_size (by repeat (first | (with_reducible first | exact HB.out | apply below_alloc | apply pw_below_drewN | apply below_drew1) | exact HB.out))) : w.heap.size ≤ gb192)); have n4_ := Aside0.mk ((by rw [hg]; exact (below_size (by repeat (first | (with_reducible first | exact HB.out | apply below_alloc | apply pw_below_drewN | apply below_drew1) | exact HB.out))) : w.heap.size ≤ gb192)); clear HO_3; clear HB; have HO_3 := n0_; have HB := n1_; have BK192 := n2_; have GW192 := n3_; have GE192 := n4_; clear n0_ n1_ n2_ n3_ n4_; clear hb hbox hg; have hcz69_0 : w68.cell? ⟨gb192, 0, none⟩ = some (.int .i64 0) := (blk_cell BK192.out 0).trans rfl; have hcz69_1 : w68.cell? ⟨gb192, 1, none⟩ = some (.int .i64 0) := (blk_cell BK192.out 1).trans rfl; have hcz69_2 : w68.cell? ⟨gb192, 2, none⟩ = some (.int .i64 0) := (blk_cell BK192.out 2).trans rfl; have hfz69_0 := blk_frozen BK192.out 0; have hfz69_1 := blk_frozen BK192.out 1; have hfz69_2 := blk_frozen BK192.out 2))
                      go_roundg k1
                      case measure => have := HK1.out; omega
                      case rel => exact ⟨(x3_1), (wrap64 (x11_1 + 1)), (by first | rfl | (simp; done) | (simp [*]; done)), H', ⟨by have := HK1.out; omega⟩, ⟨by (with_reducible repeat (first | apply Kd.R_alloc | apply Kd.R_drewN | apply Kd.R_drew)); exact Kd.R_mono (Kd.R_far (p := ⟨gb192, 2, none⟩) (Kd.R_far (p := ⟨gb192, 1, none⟩) (Kd.R_far (p := ⟨gb192, 0, none⟩) (Kd.R_types HO_3.out BK192.out (by decide)) (fun _ hk => hk.2) (.int .i64 ((rd_T67 l0 x11_1).f0))) (fun _ hk => hk.2) (.int .i64 ((rd_T67 l0 x11_1).f1))) (fun _ hk => hk.2) (.int .i64 ((rd_T67 l0 x11_1).f2))) (fun _ hk => trivial)⟩, ⟨by repeat (first | (with_reducible first | exact HB.out | apply below_alloc | apply pw_below_drewN | apply below_drew1 | refine below_set ?_ GE192.out) | exact HB.out)⟩⟩
              · rw [if_neg c8] at H
                exact absurd H (by simp)
            · rw [if_neg c7] at H
              exact absurd H (by simp)
          · rw [if_neg c6] at H
            have c6b0 : decide (x11_1 < (l0.length : Int)) = false := decide_eq_false c6
            clear c6
            obtain rfl := Option.some.inj H
            go_wp2
            go_ret
            exact ⟨_, by first | rfl | (simp [errW_none, errW_some] <;> rfl) | (simp [*, errW_none, errW_some] <;> rfl), by (with_reducible repeat (first | apply Kd.R_alloc | apply Kd.R_drewN | apply Kd.R_drew)); exact HO_3.out, by repeat (first | (with_reducible first | exact HB.out | apply below_alloc | apply pw_below_drewN | apply below_drew1) | exact HB.out)⟩
    · rw [if_neg c3] at H
      exact absurd H (by simp)
  · rw [if_neg c2] at H
    exact absurd H (by simp)
def sentence_Empty.f (k : Nat) (a0 : Int) (l1 : List (S67)) : Option (Bool × Bool × Int) := (sentence_Check.f k a0 l1).bind fun t202 => (if t202 = 0 then ((sentence_Take.f k l1 ([] : List Int)).bind fun t203 => ((sentence_None.f k l1).bind fun t204 => (if 0 ≤ (wrap64 ((l1.length : Int) - 1)) then (if (wrap64 ((l1.length : Int) - 1)) < (t204.length : Int) then (some (t203, rdOf false t204 (wrap64 ((l1.length : Int) - 1)), 0)) else (none)) else (none)))) else (some (false, false, t202)))
theorem sentence_Empty.mono : ∀ a0 a1 k, LeO (sentence_Empty.f k a0 a1) (sentence_Empty.f (k + 1) a0 a1) := by
  intro a0 a1 k
  unfold sentence_Empty.f
  repeat' first
      | (with_reducible exact sentence_Check.mono _ _ _)
      | (with_reducible exact sentence_None.mono _ _)
      | (with_reducible exact sentence_Take.mono _ _ _)
      | (with_reducible exact LeO.refl _)
      | (with_reducible exact LeO.none _)
      | (with_reducible refine LeO.ite ?_ ?_)
      | (with_reducible refine LeO.bind ?_ (fun _ => ?_))
      | exact sentence_Check.mono _ _ _
      | exact sentence_None.mono _ _
      | exact sentence_Take.mono _ _ _
      | exact LeO.none _
      | refine LeO.ite ?_ ?_
      | refine LeO.bind ?_ (fun _ => ?_)
def sentence_Empty.T4 : Bool × List (List Nat × List Nat) := (true, [([], []), ([0], [0]), ([], []), ([2, 1], [2]), ([], []), ([4], [4]), ([5], [5]), ([3, 6], [3, 6]), ([7], [7]), ([1, 3, 0, 1], [1]), ([8, 9, 0, 1, 2, 3, 4, 5, 6, 7, 8, 9], [8]), ([10, 0, 1, 2, 3, 4, 5, 6, 7, 8, 9, 10], [])])
def sentence_Empty.B4 : List Nat := [0, 1, 0, 7, 0, 16, 48, 127, 255, 15, 1023, 2047]
theorem sentence_Empty.tab4 : rtab .any (opsOf Try.f16 4) = sentence_Empty.T4 := by kernel_rfl
theorem sentence_Empty.bits4 : waitsOk sentence_Empty.T4.2 sentence_Empty.B4 = true := by kernel_rfl
set_option maxHeartbeats 8000000 in
set_option maxRecDepth 100000 in
theorem sentence_Empty.calls (k : Nat) (a0 : Int) (A1 : Option Addr) (c1 : Nat) (l1 : List (S67)) (r1 : Bool) (r2 : Bool) (r3 : Int) (w : World) (hr1 : Kd.C k67 w A1 l1.length l1) (hc1 : l1.length ≤ c1) (h : sentence_Empty.f k a0 l1 = some (r1, r2, r3)) :
    Calls Try.prog 16 #[.int .i64 a0, .slice A1 l1.length c1] w fun e w' => e = .returned (.tuple #[.bool r1, .bool r2, .int .i64 r3]) ∧ Below w.heap.size w w' := by
  have HR1 := Aside0.mk hr1
  have HC1 := Aside0.mk hc1
  clear hr1 hc1
  have HB := Aside0.mk (Below.refl w.heap.size w)
  have H : ((sentence_Check.f k a0 l1).bind fun t202 => (if t202 = 0 then ((sentence_Take.f k l1 ([] : List Int)).bind fun t203 => ((sentence_None.f k l1).bind fun t204 => (if 0 ≤ (wrap64 ((l1.length : Int) - 1)) then (if (wrap64 ((l1.length : Int) - 1)) < (t204.length : Int) then (some (t203, rdOf false t204 (wrap64 ((l1.length : Int) - 1)), 0)) else (none)) else (none)))) else (some (false, false, t202)))) = some (r1, r2, r3) := h
  clear h
  replace H := Option.bind_eq_some_iff.mp H
  obtain ⟨t202, A30, H⟩ := H
  replace H : (if t202 = 0 then ((sentence_Take.f k l1 ([] : List Int)).bind fun t203 => ((sentence_None.f k l1).bind fun t204 => (if 0 ≤ (wrap64 ((l1.length : Int) - 1)) then (if (wrap64 ((l1.length : Int) - 1)) < (t204.length : Int) then (some (t203, rdOf false t204 (wrap64 ((l1.length : Int) - 1)), 0)) else (none)) else (none)))) else (some (false, false, t202))) = some (r1, r2, r3) := H
  have A3 := Aside0.mk A30
  clear A30
  by_cases c4 : t202 = 0
  · rw [if_pos c4] at H
    have c4b0 : (t202 == 0) = true := beq_iff_eq.mpr c4
    have c4b1 : (t202 != 0) = false := bne_eq_false_iff_eq.mpr c4
    clear c4
    replace H := Option.bind_eq_some_iff.mp H
    obtain ⟨t203, A50, H⟩ := H
    replace H : ((sentence_None.f k l1).bind fun t204 => (if 0 ≤ (wrap64 ((l1.length : Int) - 1)) then (if (wrap64 ((l1.length : Int) - 1)) < (t204.length : Int) then (some (t203, rdOf false t204 (wrap64 ((l1.length : Int) - 1)), 0)) else (none)) else (none))) = some (r1, r2, r3) := H
    have A5 := Aside0.mk A50
    clear A50
    replace H := Option.bind_eq_some_iff.mp H
    obtain ⟨t204, A60, H⟩ := H
    replace H : (if 0 ≤ (wrap64 ((l1.length : Int) - 1)) then (if (wrap64 ((l1.length : Int) - 1)) < (t204.length : Int) then (some (t203, rdOf false t204 (wrap64 ((l1.length : Int) - 1)), 0)) else (none)) else (none)) = some (r1, r2, r3) := H
    have A6 := Aside0.mk A60
    clear A60
    obtain ⟨ji7, hji7⟩ : ∃ j_ : Int, (wrap64 ((l1.length : Int) - 1)) = j_ := ⟨_, rfl⟩
    replace H : (if 0 ≤ (ji7) then (if (ji7) < (t204.length : Int) then (some (t203, rdOf false t204 (ji7), 0)) else (none)) else (none)) = some (r1, r2, r3) := by first | (rw [hji7] at H; exact H) | (simp only [hji7] at H ⊢; exact H)
    (try rw [hji7] at A3)
    (try rw [hji7] at A5)
    (try rw [hji7] at A6)
    have hji7w : (IntKind.i64.wrap ((l1.length : Int) - 1)) = ji7 := (i64_w _).trans hji7
    by_cases c8 : 0 ≤ (ji7)
    · rw [if_pos c8] at H
      have c8b0 : decide (0 ≤ (ji7)) = true := decide_eq_true c8
      clear c8
      by_cases c9 : (ji7) < (t204.length : Int)
      · rw [if_pos c9] at H
        have c9b0 : decide ((ji7) < (t204.length : Int)) = true := decide_eq_true c9
        clear c9
        simp only [Option.some.injEq, Prod.mk.injEq] at H
        obtain ⟨rfl, rfl, rfl⟩ := H
        go_enter Try.func16, Try.ntmps16
        try go_wp2_with (first | ((with_reducible refine gate_callee (f := 35) rfl ?_); refine goesL_ (some 10) rfl rfl Try.func35 (by kernel_rfl) rfl #[.int .i64 a0, .slice A1 l1.length c1] rfl (by (try simp only [List.map_toArray, List.map_cons, List.map_nil]); first | done | rfl | (simp only [List.length_drop, List.length_take]; rfl)) ?_; (with_reducible refine (sentence_Check.calls k a0 _ _ l1 t202 _ ?side1 ?side2 A3.out).mono ?_); (case side1 => repeat (first | exact HR1.out | (with_reducible refine Kd.C_alloc ?_ _) | (with_reducible refine Kd.C_drewN ?_ _) | (with_reducible refine Kd.C_drew ?_))); (case side2 => exact HC1.out); rintro e w10 ⟨rfl, hb⟩; refine ⟨_, rfl, ?_⟩; have n0_ := Aside0.mk (below_step (by repeat (first | (with_reducible first | exact HB.out | apply below_alloc | apply pw_below_drewN | apply below_drew1) | exact HB.out)) hb); clear HB; have HB := n0_; clear n0_; (try clear hb); (try clear hb2); (try clear hk); (try clear hi)))
        have pi207 : (0 ≤ ((ji7) : Int)) = True := eq_true (of_decide_eq_true (by assumption))
        have qi207 : ((ji7) < (t204.length : Int)) = True := eq_true (of_decide_eq_true (by assumption))
        have n0_ := Aside0.mk (below_drew1 HB.out)
        clear HB
        have HB := n0_
        clear n0_
        refine start_ (n := 12) (S := fun w' => True) (ds := []) #[false, false, false, false, false, false, false, false, false, false, false, false] (by kernel_rfl) rfl rfl trivial (fun hHeld => ?_); refine with_tabW sentence_Empty.tab4 sentence_Empty.bits4 (fun HT_ HW_ => ?_)
        generalize w10.drew = w11 at HB hHeld ⊢
        refine pure_ (i := 0) (N := some 14) (v := ?_) (a' := ?_) #[true, false, false, false, false, false, false, false, false, false, false, false] rfl rfl (any_of HT_.out (by kernel_rfl)) (fun _ _ _ h => h) (Or.inl ⟨by rfl, ?_⟩) ?_ ?_
        rotate_left
        · intro w'
          go_simp
          with_reducible rfl
        rotate_left
        · simp only [Act.put, List.setIfInBounds_toArray, List.set_cons_zero, List.set_cons_succ, i64_w, i32_w]
          rfl
        refine pure_ (i := 2) (N := some 16) (v := ?_) (a' := ?_) #[true, false, true, false, false, false, false, false, false, false, false, false] rfl rfl (any_of HT_.out (by kernel_rfl)) (fun _ _ _ h => h) (Or.inl ⟨by rfl, ?_⟩) ?_ ?_
        rotate_left
        · intro w'
          go_simp
          with_reducible rfl
        rotate_left
        · simp only [Act.put, List.setIfInBounds_toArray, List.set_cons_zero, List.set_cons_succ, i64_w, i32_w]
          rfl
        refine pure_ (i := 4) (N := some 18) (v := ?_) (a' := ?_) #[true, false, true, false, true, false, false, false, false, false, false, false] rfl rfl (any_of HT_.out (by kernel_rfl)) (fun _ _ _ h => h) (Or.inl ⟨by rfl, ?_⟩) ?_ ?_
        rotate_left
        · intro w'
          go_simp
          with_reducible rfl
        rotate_left
        · simp only [Act.put, List.setIfInBounds_toArray, List.set_cons_zero, List.set_cons_succ, i64_w, i32_w]
          rfl
        refine pure_ (i := 5) (N := some 19) (v := ?_) (a' := ?_) #[true, false, true, false, true, true, false, false, false, false, false, false] rfl rfl (any_of HT_.out (by kernel_rfl)) (fun _ _ _ h => h) (Or.inl ⟨by rfl, ?_⟩) ?_ ?_
        rotate_left
        · intro w'
          go_simp
          with_reducible rfl
        rotate_left
        · simp only [Act.put, List.setIfInBounds_toArray, List.set_cons_zero, List.set_cons_succ, i64_w, i32_w]
          rfl
        refine pure_ (i := 6) (N := some 20) (v := ?_) (a' := ?_) #[true, false, true, false, true, true, true, false, false, false, false, false] rfl rfl (any_of HT_.out (by kernel_rfl)) (fun _ _ _ h => h) (Or.inl ⟨by rfl, ?_⟩) ?_ ?_
        rotate_left
        · intro w'
          go_simp
          with_reducible rfl
        rotate_left
        · simp only [Act.put, List.setIfInBounds_toArray, List.set_cons_zero, List.set_cons_succ, i64_w, i32_w]
          rfl
        refine one_ (i := 1) (N := some 15) #[true, true, true, false, true, true, true, false, false, false, false, false] rfl rfl (one_of HT_.out (by kernel_rfl)) (by decide) (fun K hK => ?_)
        refine goes_ Try.func37 (by kernel_rfl) rfl #[.slice A1 l1.length c1, .slice none 0 0] (by rfl) rfl rfl (by (try simp only [List.map_toArray, List.map_cons, List.map_nil]); first | done | rfl | (simp only [List.length_drop, List.length_take]; rfl)) ?_
        refine (sentence_Take.calls k _ _ l1 _ _ ([] : List Int) t203 _ ?side1 ?side2 ?side3 ?side4 A5.out).mono ?_
        (case side1 => repeat (first | exact (Kd.C_below HR1.out HB.out) | (with_reducible refine Kd.C_alloc ?_ _) | (with_reducible refine Kd.C_drewN ?_ _) | (with_reducible refine Kd.C_drew ?_)))
        (case side2 => exact HC1.out)
        (case side3 => exact Kd.C_nil _ _)
        (case side4 => exact Nat.le_refl _)
        rintro e w12 ⟨rfl, hb⟩
        refine ⟨_, rfl, ?_⟩
        have n0_ := Aside0.mk (below_step (by repeat (first | (with_reducible first | exact HB.out | apply below_alloc | apply pw_below_drewN | apply below_drew1) | exact HB.out)) hb)
        clear HB
        have HB := n0_
        clear n0_
        (try clear hb)
        (try clear hb2)
        (try clear hk)
        (try clear hi)
        refine hK.out _ _ trivial (fun hHeld => ?_)
        clear hK K
        refine norm_ (a' := ?_) ?_ ?_
        rotate_left
        · show Act.put _ (some 15) _ = _
          simp only [Act.put, List.setIfInBounds_toArray, List.set_cons_zero, List.set_cons_succ, i64_w, i32_w]
          rfl
        refine one_ (i := 3) (N := some 17) #[true, true, true, true, true, true, true, false, false, false, false, false] rfl rfl (one_of HT_.out (by kernel_rfl)) (by decide) (fun K hK => ?_)
        refine goes_ Try.func38 (by kernel_rfl) rfl #[.slice A1 l1.length c1] (by rfl) rfl rfl (by (try simp only [List.map_toArray, List.map_cons, List.map_nil]); first | done | rfl | (simp only [List.length_drop, List.length_take]; rfl)) ?_
        with_reducible refine (sentence_None.calls k _ _ l1 t204 _ ?side1 ?side2 A6.out).mono ?_
        (case side1 => repeat (first | exact (Kd.C_below HR1.out HB.out) | (with_reducible refine Kd.C_alloc ?_ _) | (with_reducible refine Kd.C_drewN ?_ _) | (with_reducible refine Kd.C_drew ?_)))
        (case side2 => exact HC1.out)
        rintro e w13 ⟨v205, rfl, ho0, hb⟩
        refine ⟨_, rfl, ?_⟩
        have n0_ := Aside0.mk (Kd.R_lower ho0 (below_size (by repeat (first | (with_reducible first | exact HB.out | apply below_alloc | apply pw_below_drewN | apply below_drew1) | exact HB.out))))
        have n1_ := Aside0.mk (below_step (by repeat (first | (with_reducible first | exact HB.out | apply below_alloc | apply pw_below_drewN | apply below_drew1) | exact HB.out)) hb)
        clear HB
        have HO206 := n0_
        have HB := n1_
        clear n0_ n1_
        (try clear hb)
        (try clear hb2)
        (try clear hk)
        (try clear hi)
        (try clear ho0)
        obtain ⟨Ao207, co207, rfl⟩ := Kd.R_slice HO206.out
        have p207 : 0 ≤ ((ji7) : Int) := of_decide_eq_true (by assumption)
        have q207 : (ji7) < (t204.length : Int) := of_decide_eq_true (by assumption)
        obtain ⟨ad207, e207, hx207_0⟩ := Kd.at_bool (Kd.R_reads' HO206.out).2.2 (ji7) p207 q207
        cases e207
        have pi207_ : (0 ≤ ((ji7) : Int)) = True := eq_true p207
        have qi207_ : ((ji7) < (t204.length : Int)) = True := eq_true q207
        clear p207 q207
        refine hK.out _ _ trivial (fun hHeld => ?_)
        clear hK K
        refine norm_ (a' := ?_) ?_ ?_
        rotate_left
        · show Act.put _ (some 17) _ = _
          simp only [Act.put, List.setIfInBounds_toArray, List.set_cons_zero, List.set_cons_succ, i64_w, i32_w]
          rfl
        refine pure_ (i := 7) (N := some 21) (v := ?_) (a' := ?_) #[true, true, true, true, true, true, true, true, false, false, false, false] rfl rfl (any_of HT_.out (by kernel_rfl)) (fun _ _ _ h => h) (Or.inl ⟨by rfl, ?_⟩) ?_ ?_
        rotate_left
        · intro w'
          go_simp
          with_reducible rfl
        rotate_left
        · simp only [Act.put, List.setIfInBounds_toArray, List.set_cons_zero, List.set_cons_succ, i64_w, i32_w]
          rfl
        refine pure_ (i := 9) (N := some 4) (v := ?_) (a' := ?_) #[true, true, true, true, true, true, true, true, false, true, false, false] rfl rfl (any_of HT_.out (by kernel_rfl)) (fun _ _ _ h => h) (Or.inl ⟨by rfl, ?_⟩) ?_ ?_
        rotate_left
        · intro w'
          go_simp
          with_reducible rfl
        rotate_left
        · simp only [Act.put, List.setIfInBounds_toArray, List.set_cons_zero, List.set_cons_succ, i64_w, i32_w]
          rfl
        refine one_ (i := 8) (N := some 22) #[true, true, true, true, true, true, true, true, true, true, false, false] rfl rfl (one_of HT_.out (by kernel_rfl)) (by decide) (fun K hK => ?_)
        skip
        refine value_ (w1 := ?_) (v := ?_) (by rfl) rfl ?_ ?_
        rotate_left 2
        · go_simp
          constructor
          · rfl
          · rfl
        clear hx207_0
        refine hK.out _ _ trivial (fun hHeld => ?_)
        clear hK K
        refine norm_ (a' := ?_) ?_ ?_
        rotate_left
        · show Act.put _ (some 22) _ = _
          simp only [Act.put, List.setIfInBounds_toArray, List.set_cons_zero, List.set_cons_succ, i64_w, i32_w]
          rfl
        refine pure_ (i := 10) (N := some 5) (v := ?_) (a' := ?_) #[true, true, true, true, true, true, true, true, true, true, true, false] rfl rfl (any_of HT_.out (by kernel_rfl)) (fun _ _ _ h => h) (Or.inl ⟨by rfl, ?_⟩) ?_ ?_
        rotate_left
        · intro w'
          go_simp
          with_reducible rfl
        rotate_left
        · simp only [Act.put, List.setIfInBounds_toArray, List.set_cons_zero, List.set_cons_succ, i64_w, i32_w]
          rfl
        refine pure_ (i := 11) (N := some 6) (v := ?_) (a' := ?_) #[true, true, true, true, true, true, true, true, true, true, true, true] rfl rfl (any_of HT_.out (by kernel_rfl)) (fun _ _ _ h => h) (Or.inl ⟨by rfl, ?_⟩) ?_ ?_
        rotate_left
        · intro w'
          go_simp
          with_reducible rfl
        rotate_left
        · simp only [Act.put, List.setIfInBounds_toArray, List.set_cons_zero, List.set_cons_succ, i64_w, i32_w]
          rfl
        refine done_ (done_of HT_.out (by kernel_rfl)) ?_
        try go_wp2
        go_ret3
        exact ⟨by first | rfl | (simp [errW_none, errW_some] <;> rfl) | (simp only [← hji7]; first | rfl | (simp [errW_none, errW_some] <;> rfl)) | (simp [*, errW_none, errW_some] <;> rfl), by repeat (first | (with_reducible first | exact HB.out | apply below_alloc | apply pw_below_drewN | apply below_drew1) | exact HB.out)⟩
      · rw [if_neg c9] at H
        exact absurd H (by simp)
    · rw [if_neg c8] at H
      exact absurd H (by simp)
  · rw [if_neg c4] at H
    have c4b0 : (t202 == 0) = false := beq_eq_false_iff_ne.mpr c4
    have c4b1 : (t202 != 0) = true := bne_iff_ne.mpr c4
    simp only [Option.some.injEq, Prod.mk.injEq] at H
    obtain ⟨rfl, rfl, rfl⟩ := H
    go_enter Try.func16, Try.ntmps16
    go_wp2_with (first | ((with_reducible refine gate_callee (f := 35) rfl ?_); refine goesL_ (some 10) rfl rfl Try.func35 (by kernel_rfl) rfl #[.int .i64 a0, .slice A1 l1.length c1] rfl (by (try simp only [List.map_toArray, List.map_cons, List.map_nil]); first | done | rfl | (simp only [List.length_drop, List.length_take]; rfl)) ?_; (with_reducible refine (sentence_Check.calls k a0 _ _ l1 t202 _ ?side1 ?side2 A3.out).mono ?_); (case side1 => repeat (first | exact HR1.out | (with_reducible refine Kd.C_alloc ?_ _) | (with_reducible refine Kd.C_drewN ?_ _) | (with_reducible refine Kd.C_drew ?_))); (case side2 => exact HC1.out); rintro e w14 ⟨rfl, hb⟩; refine ⟨_, rfl, ?_⟩; have n0_ := Aside0.mk (below_step (by repeat (first | (with_reducible first | exact HB.out | apply below_alloc | apply pw_below_drewN | apply below_drew1) | exact HB.out)) hb); clear HB; have HB := n0_; clear n0_; (try clear hb); (try clear hb2); (try clear hk); (try clear hi)))
    go_ret3
    exact ⟨by first | rfl | (simp [errW_none, errW_some] <;> rfl) | (simp [*, errW_none, errW_some] <;> rfl), by repeat (first | (with_reducible first | exact HB.out | apply below_alloc | apply pw_below_drewN | apply below_drew1) | exact HB.out)⟩
end Go.Proofs.Ytmfdfffedkejjaa.PSentenceEmpties
