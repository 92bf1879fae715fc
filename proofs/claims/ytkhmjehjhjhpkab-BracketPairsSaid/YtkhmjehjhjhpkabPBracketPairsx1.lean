-- Written by a program of this session: a turn of the print kit's own.
import Derived.Test.YtkhmjehjhjhpkabPBracketPairsx0
namespace Go.Proofs.Ytkhmjehjhjhpkab.PBracketPairs
open Go.RowKit Go.Proofs.YtkhmjehjhjhpkabW.PrintWords Go.Proofs.YtkhmjehjhjhpkabW.PrintLast Go.Proofs.YtkhmjehjhjhpkabW.PrintMore
attribute [local go_sem] max2_int min2_int max_two min_two max_three min_three max_four min_four   -- for this text's walks alone
set_option linter.unusedVariables false
set_option linter.unusedSimpArgs false

/-! ### coppicerref_Closed: function 24 -/
def coppicerref_Closed.l0 : Nat → List Bool → Int → Option (Bool)
  | 0, _, _ => none
  | k + 1, x3, x4 => if (wrap64 (x4 + 1)) < (x3.length : Int) then (if 0 ≤ x4 then (if x4 < (x3.length : Int) then (if rdOf false x3 x4 = true then (if 0 ≤ (wrap64 (x4 + 1)) then (if (rdOf false x3 (wrap64 (x4 + 1)) = true) then (coppicerref_Closed.l0 k x3 (wrap64 (x4 + 1))) else ((some (([] : List Bool) : List Bool)).bind fun y109 => (if x4 ≤ (x3.length : Int) then ((some (x3.take (x4 : Int).toNat : List Bool)).bind fun y112 => (if y109.length + y112.length < 140737488355328 then ((some (y109 ++ y112 : List Bool)).bind fun y116 => (if 0 ≤ (wrap64 (x4 + 2)) then (if (wrap64 (x4 + 2)) ≤ (x3.length : Int) then ((some (x3.drop ((wrap64 (x4 + 2)) : Int).toNat : List Bool)).bind fun y119 => (if y116.length + y119.length < 140737488355328 then (coppicerref_Closed.l0 k (y116 ++ y119) 0) else (none))) else (none)) else (none))) else (none))) else (none)))) else (none)) else (coppicerref_Closed.l0 k x3 (wrap64 (x4 + 1)))) else (none)) else (none)) else (some ((x3.length : Int) == 0))
def coppicerref_Closed.f (k : Nat) (l0 : List Bool) : Option (Bool) := (some (([] : List Bool) : List Bool)).bind fun y101 => (if y101.length + l0.length < 140737488355328 then (coppicerref_Closed.l0 k (y101 ++ l0) 0) else (none))
theorem coppicerref_Closed.mono_l : ∀ k, (∀ y0 y1, LeO (coppicerref_Closed.l0 k y0 y1) (coppicerref_Closed.l0 (k + 1) y0 y1))
  | 0 => fun _ _ r h => by simp [coppicerref_Closed.l0] at h
  | k + 1 => by
    have ih0 := coppicerref_Closed.mono_l k
    · intro y0 y1
      unfold coppicerref_Closed.l0
      repeat' first
      | (with_reducible exact ih0 _ _)
      | (with_reducible exact LeO.refl _)
      | (with_reducible exact LeO.none _)
      | (with_reducible refine LeO.ite ?_ ?_)
      | (with_reducible refine LeO.bind ?_ (fun _ => ?_))
      | exact ih0 _ _
      | exact LeO.none _
      | refine LeO.ite ?_ ?_
      | refine LeO.bind ?_ (fun _ => ?_)
theorem coppicerref_Closed.mono : ∀ a0 k, LeO (coppicerref_Closed.f k a0) (coppicerref_Closed.f (k + 1) a0) := by
  intro a0 k
  have ih0 := coppicerref_Closed.mono_l k
  unfold coppicerref_Closed.f
  repeat' first
      | (with_reducible exact ih0 _ _)
      | (with_reducible exact LeO.refl _)
      | (with_reducible exact LeO.none _)
      | (with_reducible refine LeO.ite ?_ ?_)
      | (with_reducible refine LeO.bind ?_ (fun _ => ?_))
      | exact ih0 _ _
      | exact LeO.none _
      | refine LeO.ite ?_ ?_
      | refine LeO.bind ?_ (fun _ => ?_)
def coppicerref_Closed.T5 : Bool × List (List Nat × List Nat) := (true, [([], []), ([], []), ([], []), ([1, 2], [1, 2]), ([0, 3], [0, 3]), ([], []), ([], []), ([6], [6]), ([5, 7], [5, 7]), ([4, 8, 4], [4, 8]), ([9, 9, 0, 1, 2, 3, 4, 5, 6, 7, 8, 9], [1, 5, 9])])
def coppicerref_Closed.B5 : List Nat := [0, 0, 0, 6, 15, 0, 0, 64, 224, 511, 1023]
theorem coppicerref_Closed.tab5 : rtab .any (opsOf Try.f24 5) = coppicerref_Closed.T5 := by kernel_rfl
theorem coppicerref_Closed.bits5 : waitsOk coppicerref_Closed.T5.2 coppicerref_Closed.B5 = true := by kernel_rfl
set_option maxHeartbeats 8000000 in
set_option maxRecDepth 100000 in
theorem coppicerref_Closed.calls (k : Nat) (A0 : Option Addr) (c0 : Nat) (l0 : List Bool) (r : Bool) (w : World) (hr0 : Kd.C Kd.bool w A0 l0.length l0) (hc0 : l0.length ≤ c0) (h : coppicerref_Closed.f k l0 = some r) :
    Calls Try.prog 24 #[.slice A0 l0.length c0] w fun e w' => e = .returned (.bool r) ∧ Below w.heap.size w w' := by
  have HR0 := Aside0.mk hr0
  have HC0 := Aside0.mk hc0
  clear hr0 hc0
  have HB := Aside0.mk (Below.refl w.heap.size w)
  have H : ((some (([] : List Bool) : List Bool)).bind fun y101 => (if y101.length + l0.length < 140737488355328 then (coppicerref_Closed.l0 k (y101 ++ l0) 0) else (none))) = some r := h
  clear h
  obtain ⟨y101, hy101⟩ : ∃ y_ : List Bool, y_ = (([] : List Bool)) := ⟨_, rfl⟩
  replace H : (if y101.length + l0.length < 140737488355328 then (coppicerref_Closed.l0 k (y101 ++ l0) 0) else (none)) = some r := by first | (rw [hy101]; with_reducible exact H) | (have H2_ := (Option.bind_some _ _).symm.trans H; rw [hy101]; with_reducible exact H2_) | (have H2_ := (Option.bind_some _ _).symm.trans H; with_reducible exact H2_) | with_reducible exact H | (rw [hy101]; exact H) | exact H
  have Ny101 := Aside0.mk hy101
  clear hy101
  by_cases c2 : y101.length + l0.length < 140737488355328
  · rw [if_pos c2] at H
    have LMc2 := Aside0.mk c2
    clear c2
    obtain ⟨y104, hy104⟩ : ∃ y_ : List Bool, y_ = (y101 ++ l0) := ⟨_, rfl⟩
    replace H : (coppicerref_Closed.l0 k y104 0) = some r := by first | (rw [hy104]; with_reducible exact H) | (have H2_ := (Option.bind_some _ _).symm.trans H; rw [hy104]; with_reducible exact H2_) | (have H2_ := (Option.bind_some _ _).symm.trans H; with_reducible exact H2_) | with_reducible exact H | (rw [hy104]; exact H) | exact H
    have Ny104 := Aside0.mk hy104
    clear hy104
    have H' := Aside0.mk H
    clear H
    go_enter Try.func24, Try.ntmps24
    go_wp2_with (first | ((with_reducible refine gate_dst (N := 5) rfl ?_); refine Kd.R_lit Kd.bool _ 4 ?hg (N := 5) ?hd (xs := ([] : List Bool)) (inner := []) (ok := fun _ => True) (okp := fun _ => True) ?hr ?hp (fun _ hk => hk) trivial (Below.refl _ _) (Nat.le_refl _) (by simp) ?_; (case hd => rfl); (case hg => rfl); (case hr => first | (go_simp; done) | (go_simp; rfl)); (case hp => exact (Reps.none _ _)); intro v102 w3 ho4 hb hg_ hnew_; clear hg_ hnew_; (first | rw [← Ny101.out] at ho4 | (simp only [Int.reduceToNat] at ho4; rw [← Ny101.out] at ho4)); have n0_ := Aside0.mk (Kd.R_lower ho4 (below_size (by repeat (first | (with_reducible first | exact HB.out | apply below_alloc | apply pw_below_drewN | apply below_drew1) | exact HB.out)))); have n1_ := Aside0.mk (below_step (by repeat (first | (with_reducible first | exact HB.out | apply below_alloc | apply pw_below_drewN | apply below_drew1) | exact HB.out)) hb); clear HB; have HO103 := n0_; have HB := n1_; clear n0_ n1_; clear hb ho4) | ((with_reducible refine gate_builtin (b := .append) (xs := #[.tmp 5, .tmp 6]) rfl ?_); at_builtin; refine Kd.R_append_rows Kd.bool (w0 := w) w.heap.size rfl (.tmp 5) (.tmp 6) 38 4 (.bool false) 1 rfl Try.underlying38 info4 rfl (by decide) (by omega) v102 y101 l0 _ _ _ (fun _ => True) (fun _ => False) rfl rfl ?aO ?aR (fun _ _ h => h) (fun _ h => h.elim) ?aF ?aB ?aS ?aL ?_; (case aR => repeat (first | exact (Kd.C_below HR0.out HB.out) | (with_reducible refine Kd.C_alloc ?_ _) | (with_reducible refine Kd.C_drewN ?_ _) | (with_reducible refine Kd.C_drew ?_))); (case aB => exact (by repeat (first | (with_reducible first | exact HB.out | apply below_alloc | apply pw_below_drewN | apply below_drew1) | exact HB.out))); (case aF => exact (fun _ _ => trivial)); (case aO => exact (by (with_reducible repeat (first | apply Kd.R_alloc | apply Kd.R_drewN | apply Kd.R_drew)); exact HO103.out)); (case aS => exact (below_size (by repeat (first | (with_reducible first | exact HB.out | apply below_alloc | apply pw_below_drewN | apply below_drew1) | exact HB.out)))); (case aL => have := LMc2.out; omega); intro v105 w5 ho hb hg hat; rw [← Ny104.out] at ho; have n0_ := Aside0.mk (hb); have n1_ := Aside0.mk (ho); clear HB; clear HO103; have HB := n0_; have HO106 := n1_; clear n0_ n1_; clear ho hb hg hat))
    go_loopg [3, 4] k (fun kq v3 v4 w' => ∃ (x3_1 : List Bool) (x4_1 : Int), v4 = .int .i64 x4_1 ∧ Aside0 (coppicerref_Closed.l0 kq x3_1 x4_1 = some r) ∧ Aside0 (kq ≤ k) ∧ Aside0 (Kd.R Kd.bool 4 w' w.heap.size (fun _ => True) v3 x3_1) ∧ Aside0 (Below w.heap.size w w'))
    case atStart => exact ⟨(y104), (0), (by first | rfl | (simp; done) | (simp [*]; done)), H', ⟨Nat.le_refl _⟩, ⟨by (with_reducible repeat (first | apply Kd.R_alloc | apply Kd.R_drewN | apply Kd.R_drew)); exact HO106.out⟩, ⟨by repeat (first | (with_reducible first | exact HB.out | apply below_alloc | apply pw_below_drewN | apply below_drew1) | exact HB.out)⟩⟩
    case round =>
      clear H'
      try clear c2
      try clear p2
      obtain ⟨x3_1, x4_1, rfl, HA, HK1, HO_3, HB⟩ := hrel
      cases gk with
      | zero => exact absurd HA.out (by simp [coppicerref_Closed.l0])
      | succ k1 =>
        have H := HA.out
        clear HA
        simp only [coppicerref_Closed.l0] at H
        by_cases c6 : (wrap64 (x4_1 + 1)) < (x3_1.length : Int)
        · rw [if_pos c6] at H
          have c6b0 : decide ((wrap64 (x4_1 + 1)) < (x3_1.length : Int)) = true := decide_eq_true c6
          clear c6
          by_cases c7 : 0 ≤ x4_1
          · rw [if_pos c7] at H
            have c7b0 : decide (0 ≤ x4_1) = true := decide_eq_true c7
            clear c7
            by_cases c8 : x4_1 < (x3_1.length : Int)
            · rw [if_pos c8] at H
              have c8b0 : decide (x4_1 < (x3_1.length : Int)) = true := decide_eq_true c8
              clear c8
              obtain ⟨bq9, hbq9⟩ : ∃ b_ : Bool, b_ = (rdOf false x3_1 x4_1) := ⟨_, rfl⟩
              replace H : (if bq9 = true then (if 0 ≤ (wrap64 (x4_1 + 1)) then (if (rdOf false x3_1 (wrap64 (x4_1 + 1)) = true) then (coppicerref_Closed.l0 k1 x3_1 (wrap64 (x4_1 + 1))) else ((some (([] : List Bool) : List Bool)).bind fun y109 => (if x4_1 ≤ (x3_1.length : Int) then ((some (x3_1.take (x4_1 : Int).toNat : List Bool)).bind fun y112 => (if y109.length + y112.length < 140737488355328 then ((some (y109 ++ y112 : List Bool)).bind fun y116 => (if 0 ≤ (wrap64 (x4_1 + 2)) then (if (wrap64 (x4_1 + 2)) ≤ (x3_1.length : Int) then ((some (x3_1.drop ((wrap64 (x4_1 + 2)) : Int).toNat : List Bool)).bind fun y119 => (if y116.length + y119.length < 140737488355328 then (coppicerref_Closed.l0 k1 (y116 ++ y119) 0) else (none))) else (none)) else (none))) else (none))) else (none)))) else (none)) else (coppicerref_Closed.l0 k1 x3_1 (wrap64 (x4_1 + 1)))) = some r := by rw [← hbq9] at H; exact H
              have Nbq9 := Aside0.mk hbq9
              clear hbq9
              by_cases c10 : bq9 = true
              · subst c10
                have H1 : (if 0 ≤ (wrap64 (x4_1 + 1)) then (if (rdOf false x3_1 (wrap64 (x4_1 + 1)) = true) then (coppicerref_Closed.l0 k1 x3_1 (wrap64 (x4_1 + 1))) else ((some (([] : List Bool) : List Bool)).bind fun y109 => (if x4_1 ≤ (x3_1.length : Int) then ((some (x3_1.take (x4_1 : Int).toNat : List Bool)).bind fun y112 => (if y109.length + y112.length < 140737488355328 then ((some (y109 ++ y112 : List Bool)).bind fun y116 => (if 0 ≤ (wrap64 (x4_1 + 2)) then (if (wrap64 (x4_1 + 2)) ≤ (x3_1.length : Int) then ((some (x3_1.drop ((wrap64 (x4_1 + 2)) : Int).toNat : List Bool)).bind fun y119 => (if y116.length + y119.length < 140737488355328 then (coppicerref_Closed.l0 k1 (y116 ++ y119) 0) else (none))) else (none)) else (none))) else (none))) else (none)))) else (none)) = some r := by rw [if_pos rfl] at H; exact H
                clear H
                have H := H1
                clear H1
                obtain ⟨ji11, hji11⟩ : ∃ j_ : Int, (wrap64 (x4_1 + 1)) = j_ := ⟨_, rfl⟩
                replace H : (if 0 ≤ (ji11) then (if (rdOf false x3_1 (ji11) = true) then (coppicerref_Closed.l0 k1 x3_1 ji11) else ((some (([] : List Bool) : List Bool)).bind fun y109 => (if x4_1 ≤ (x3_1.length : Int) then ((some (x3_1.take (x4_1 : Int).toNat : List Bool)).bind fun y112 => (if y109.length + y112.length < 140737488355328 then ((some (y109 ++ y112 : List Bool)).bind fun y116 => (if 0 ≤ (wrap64 (x4_1 + 2)) then (if (wrap64 (x4_1 + 2)) ≤ (x3_1.length : Int) then ((some (x3_1.drop ((wrap64 (x4_1 + 2)) : Int).toNat : List Bool)).bind fun y119 => (if y116.length + y119.length < 140737488355328 then (coppicerref_Closed.l0 k1 (y116 ++ y119) 0) else (none))) else (none)) else (none))) else (none))) else (none)))) else (none)) = some r := by first | (rw [hji11] at H; exact H) | (simp only [hji11] at H ⊢; exact H)
                (try rw [hji11] at c6b0)
                have hji11w : (IntKind.i64.wrap (x4_1 + 1)) = ji11 := (i64_w _).trans hji11
                by_cases c12 : 0 ≤ (ji11)
                · rw [if_pos c12] at H
                  have c12b0 : decide (0 ≤ (ji11)) = true := decide_eq_true c12
                  clear c12
                  obtain ⟨bq13, hbq13⟩ : ∃ b_ : Bool, b_ = (rdOf false x3_1 (ji11)) := ⟨_, rfl⟩
                  replace H : (if (bq13 = true) then (coppicerref_Closed.l0 k1 x3_1 ji11) else ((some (([] : List Bool) : List Bool)).bind fun y109 => (if x4_1 ≤ (x3_1.length : Int) then ((some (x3_1.take (x4_1 : Int).toNat : List Bool)).bind fun y112 => (if y109.length + y112.length < 140737488355328 then ((some (y109 ++ y112 : List Bool)).bind fun y116 => (if 0 ≤ (wrap64 (x4_1 + 2)) then (if (wrap64 (x4_1 + 2)) ≤ (x3_1.length : Int) then ((some (x3_1.drop ((wrap64 (x4_1 + 2)) : Int).toNat : List Bool)).bind fun y119 => (if y116.length + y119.length < 140737488355328 then (coppicerref_Closed.l0 k1 (y116 ++ y119) 0) else (none))) else (none)) else (none))) else (none))) else (none)))) = some r := by rw [← hbq13] at H; exact H
                  have Nbq13 := Aside0.mk hbq13
                  clear hbq13
                  by_cases c14 : (bq13 = true)
                  · subst c14
                    have H1 : (coppicerref_Closed.l0 k1 x3_1 ji11) = some r := by rw [if_pos rfl] at H; exact H
                    clear H
                    have H := H1
                    clear H1
                    have H' := Aside0.mk H
                    clear H
                    obtain ⟨Ao15, co15, eo15⟩ := Kd.R_slice HO_3.out
                    subst eo15
                    have p107 : 0 ≤ (x4_1 : Int) := of_decide_eq_true (by first | (with_reducible assumption) | assumption)
                    have q107 : x4_1 < (x3_1.length : Int) := of_decide_eq_true (by first | (with_reducible assumption) | assumption)
                    obtain ⟨ad107, e107, hx107_0⟩ := Kd.at_bool (Kd.R_reads' HO_3.out).2.2 x4_1 p107 q107
                    (try rw [← Nbq9.out] at hx107_0)
                    (try rw [← Nbq13.out] at hx107_0)
                    cases e107
                    replace p107 := eq_true p107
                    replace q107 := eq_true q107
                    have p108 : 0 ≤ ((ji11) : Int) := of_decide_eq_true (by first | (with_reducible assumption) | assumption)
                    have q108 : (ji11) < (x3_1.length : Int) := of_decide_eq_true (by first | (with_reducible assumption) | assumption)
                    obtain ⟨ad108, e108, hx108_0⟩ := Kd.at_bool (Kd.R_reads' HO_3.out).2.2 (ji11) p108 q108
                    (try rw [← Nbq9.out] at hx108_0)
                    (try rw [← Nbq13.out] at hx108_0)
                    obtain rfl : ad107 = ad108 := (by injection e108)
                    replace p108 := eq_true p108
                    replace q108 := eq_true q108
                    go_wp2
                    (first | go_roundg k1 | (simp only [← hji11]; go_roundg k1))
                    case measure => have := HK1.out; omega
                    case rel => exact ⟨(x3_1), (ji11), (by first | rfl | (simp; done) | (simp only [← hji11] <;> (first | rfl | simp)) | (simp [*]; done)), H', ⟨by have := HK1.out; omega⟩, ⟨by (with_reducible repeat (first | apply Kd.R_alloc | apply Kd.R_drewN | apply Kd.R_drew)); exact HO_3.out⟩, ⟨by repeat (first | (with_reducible first | exact HB.out | apply below_alloc | apply pw_below_drewN | apply below_drew1) | exact HB.out)⟩⟩
                  · replace c14 := Bool.eq_false_iff.mpr c14
                    subst c14
                    have H1 : ((some (([] : List Bool) : List Bool)).bind fun y109 => (if x4_1 ≤ (x3_1.length : Int) then ((some (x3_1.take (x4_1 : Int).toNat : List Bool)).bind fun y112 => (if y109.length + y112.length < 140737488355328 then ((some (y109 ++ y112 : List Bool)).bind fun y116 => (if 0 ≤ (wrap64 (x4_1 + 2)) then (if (wrap64 (x4_1 + 2)) ≤ (x3_1.length : Int) then ((some (x3_1.drop ((wrap64 (x4_1 + 2)) : Int).toNat : List Bool)).bind fun y119 => (if y116.length + y119.length < 140737488355328 then (coppicerref_Closed.l0 k1 (y116 ++ y119) 0) else (none))) else (none)) else (none))) else (none))) else (none))) = some r := by rw [if_neg (show ¬ (false = true) by decide)] at H; exact H
                    clear H
                    have H := H1
                    clear H1
                    obtain ⟨y109, hy109⟩ : ∃ y_ : List Bool, y_ = (([] : List Bool)) := ⟨_, rfl⟩
                    replace H : (if x4_1 ≤ (x3_1.length : Int) then ((some (x3_1.take (x4_1 : Int).toNat : List Bool)).bind fun y112 => (if y109.length + y112.length < 140737488355328 then ((some (y109 ++ y112 : List Bool)).bind fun y116 => (if 0 ≤ (wrap64 (x4_1 + 2)) then (if (wrap64 (x4_1 + 2)) ≤ (x3_1.length : Int) then ((some (x3_1.drop ((wrap64 (x4_1 + 2)) : Int).toNat : List Bool)).bind fun y119 => (if y116.length + y119.length < 140737488355328 then (coppicerref_Closed.l0 k1 (y116 ++ y119) 0) else (none))) else (none)) else (none))) else (none))) else (none)) = some r := by first | (rw [hy109]; with_reducible exact H) | (have H2_ := (Option.bind_some _ _).symm.trans H; rw [hy109]; with_reducible exact H2_) | (have H2_ := (Option.bind_some _ _).symm.trans H; with_reducible exact H2_) | with_reducible exact H | (rw [hy109]; exact H) | exact H
                    have Ny109 := Aside0.mk hy109
                    clear hy109
                    have c16b0 := eq_true (of_decide_eq_true (by first | (with_reducible assumption) | assumption) : 0 ≤ x4_1)
                    by_cases c17 : x4_1 ≤ (x3_1.length : Int)
                    · rw [if_pos c17] at H
                      have c17b0 := eq_true c17
                      have c17b1 : decide (x4_1 ≤ (x3_1.length : Int)) = true := decide_eq_true c17
                      clear c17
                      obtain ⟨y112, hy112⟩ : ∃ y_ : List Bool, y_ = (x3_1.take (x4_1 : Int).toNat) := ⟨_, rfl⟩
                      replace H : (if y109.length + y112.length < 140737488355328 then ((some (y109 ++ y112 : List Bool)).bind fun y116 => (if 0 ≤ (wrap64 (x4_1 + 2)) then (if (wrap64 (x4_1 + 2)) ≤ (x3_1.length : Int) then ((some (x3_1.drop ((wrap64 (x4_1 + 2)) : Int).toNat : List Bool)).bind fun y119 => (if y116.length + y119.length < 140737488355328 then (coppicerref_Closed.l0 k1 (y116 ++ y119) 0) else (none))) else (none)) else (none))) else (none)) = some r := by first | (rw [hy112]; with_reducible exact H) | (have H2_ := (Option.bind_some _ _).symm.trans H; rw [hy112]; with_reducible exact H2_) | (have H2_ := (Option.bind_some _ _).symm.trans H; with_reducible exact H2_) | with_reducible exact H | (rw [hy112]; exact H) | exact H
                      have Ny112 := Aside0.mk hy112
                      clear hy112
                      by_cases c18 : y109.length + y112.length < 140737488355328
                      · rw [if_pos c18] at H
                        have LMc18 := Aside0.mk c18
                        clear c18
                        obtain ⟨y116, hy116⟩ : ∃ y_ : List Bool, y_ = (y109 ++ y112) := ⟨_, rfl⟩
                        replace H : (if 0 ≤ (wrap64 (x4_1 + 2)) then (if (wrap64 (x4_1 + 2)) ≤ (x3_1.length : Int) then ((some (x3_1.drop ((wrap64 (x4_1 + 2)) : Int).toNat : List Bool)).bind fun y119 => (if y116.length + y119.length < 140737488355328 then (coppicerref_Closed.l0 k1 (y116 ++ y119) 0) else (none))) else (none)) else (none)) = some r := by first | (rw [hy116]; with_reducible exact H) | (have H2_ := (Option.bind_some _ _).symm.trans H; rw [hy116]; with_reducible exact H2_) | (have H2_ := (Option.bind_some _ _).symm.trans H; with_reducible exact H2_) | with_reducible exact H | (rw [hy116]; exact H) | exact H
                        have Ny116 := Aside0.mk hy116
                        clear hy116
                        obtain ⟨ji19, hji19⟩ : ∃ j_ : Int, (wrap64 (x4_1 + 2)) = j_ := ⟨_, rfl⟩
                        replace H : (if 0 ≤ (ji19) then (if (ji19) ≤ (x3_1.length : Int) then ((some (x3_1.drop ((ji19) : Int).toNat : List Bool)).bind fun y119 => (if y116.length + y119.length < 140737488355328 then (coppicerref_Closed.l0 k1 (y116 ++ y119) 0) else (none))) else (none)) else (none)) = some r := by first | (rw [hji19] at H; exact H) | (simp only [hji19] at H ⊢; exact H)
                        have hji19w : (IntKind.i64.wrap (x4_1 + 2)) = ji19 := (i64_w _).trans hji19
                        by_cases c20 : 0 ≤ (ji19)
                        · rw [if_pos c20] at H
                          have c20b0 := eq_true c20
                          have c20b1 : decide (0 ≤ (ji19)) = true := decide_eq_true c20
                          clear c20
                          by_cases c21 : (ji19) ≤ (x3_1.length : Int)
                          · rw [if_pos c21] at H
                            have c21b0 := eq_true c21
                            have c21b1 : decide ((ji19) ≤ (x3_1.length : Int)) = true := decide_eq_true c21
                            clear c21
                            obtain ⟨y119, hy119⟩ : ∃ y_ : List Bool, y_ = (x3_1.drop ((ji19) : Int).toNat) := ⟨_, rfl⟩
                            replace H : (if y116.length + y119.length < 140737488355328 then (coppicerref_Closed.l0 k1 (y116 ++ y119) 0) else (none)) = some r := by first | (rw [hy119]; with_reducible exact H) | (have H2_ := (Option.bind_some _ _).symm.trans H; rw [hy119]; with_reducible exact H2_) | (have H2_ := (Option.bind_some _ _).symm.trans H; with_reducible exact H2_) | with_reducible exact H | (rw [hy119]; exact H) | exact H
                            have Ny119 := Aside0.mk hy119
                            clear hy119
                            by_cases c22 : y116.length + y119.length < 140737488355328
                            · rw [if_pos c22] at H
                              have LMc22 := Aside0.mk c22
                              clear c22
                              obtain ⟨y123, hy123⟩ : ∃ y_ : List Bool, y_ = (y116 ++ y119) := ⟨_, rfl⟩
                              replace H : (coppicerref_Closed.l0 k1 y123 0) = some r := by first | (rw [hy123]; with_reducible exact H) | (have H2_ := (Option.bind_some _ _).symm.trans H; rw [hy123]; with_reducible exact H2_) | (have H2_ := (Option.bind_some _ _).symm.trans H; with_reducible exact H2_) | with_reducible exact H | (rw [hy123]; exact H) | exact H
                              have Ny123 := Aside0.mk hy123
                              clear hy123
                              have H' := Aside0.mk H
                              clear H
                              obtain ⟨Ao23, co23, eo23⟩ := Kd.R_slice HO_3.out
                              subst eo23
                              have p107 : 0 ≤ (x4_1 : Int) := of_decide_eq_true (by first | (with_reducible assumption) | assumption)
                              have q107 : x4_1 < (x3_1.length : Int) := of_decide_eq_true (by first | (with_reducible assumption) | assumption)
                              obtain ⟨ad107, e107, hx107_0⟩ := Kd.at_bool (Kd.R_reads' HO_3.out).2.2 x4_1 p107 q107
                              (try rw [← Nbq9.out] at hx107_0)
                              (try rw [← Nbq13.out] at hx107_0)
                              cases e107
                              replace p107 := eq_true p107
                              replace q107 := eq_true q107
                              have p108 : 0 ≤ ((ji11) : Int) := of_decide_eq_true (by first | (with_reducible assumption) | assumption)
                              have q108 : (ji11) < (x3_1.length : Int) := of_decide_eq_true (by first | (with_reducible assumption) | assumption)
                              obtain ⟨ad108, e108, hx108_0⟩ := Kd.at_bool (Kd.R_reads' HO_3.out).2.2 (ji11) p108 q108
                              (try rw [← Nbq9.out] at hx108_0)
                              (try rw [← Nbq13.out] at hx108_0)
                              obtain rfl : ad107 = ad108 := (by injection e108)
                              replace p108 := eq_true p108
                              replace q108 := eq_true q108
                              try go_wp2
                              have n0_ := Aside0.mk (Kd.R_drew HO_3.out)
                              have n1_ := Aside0.mk (below_drew1 HB.out)
                              clear HO_3
                              clear HB
                              have HO_3 := n0_
                              have HB := n1_
                              clear n0_ n1_
                              have q25 : (x4_1 : Int) ≤ ((x3_1.length : Int) : Int) := of_decide_eq_true (by first | (with_reducible assumption) | assumption)
                              obtain ⟨i025, hi025, _, hsz25, _⟩ := info_parts info4
                              have hroom25 : x3_1.length ≤ co23 := (Kd.R_reads' HO_3.out).2.1
                              have hC25 : Kd.C Kd.bool _ (some ad107) x3_1.length x3_1 := (Kd.R_reads' HO_3.out).2.2
                              have hcut25 := cut_to (P := Try.prog) 38 4 .i64 Try.underlying38 hi025 (some ad107) x3_1.length co23 x4_1 (of_decide_eq_true (by first | (with_reducible assumption) | assumption)) q25 hroom25
                              have hr25 := Kd.C_take (m := (x4_1 : Int).toNat) hC25 (by omega)
                              have hy25 : y112.length = (x4_1 : Int).toNat := (by rw [Ny112.out, List.length_take]; omega)
                              rw [← Ny112.out] at hr25
                              rw [← hy25] at hcut25
                              have HR115 := Aside0.mk hr25
                              have HC115 := Aside0.mk (show y112.length ≤ co23 from by omega)
                              clear hr25 hC25 hroom25 hi025 hsz25
                              have KY25 := Aside0.mk hy25
                              clear hy25
                              have KL25 := Aside0.mk (show (x4_1 : Int).toNat ≤ x3_1.length from by omega)
                              replace q25 := eq_true q25
                              have q26 : ((ji19) : Int) ≤ ((x3_1.length : Int) : Int) := of_decide_eq_true (by first | (with_reducible assumption) | assumption)
                              obtain ⟨i026, hi026, _, hsz26, _⟩ := info_parts info4
                              have hroom26 : x3_1.length ≤ co23 := (Kd.R_reads' HO_3.out).2.1
                              have hC26 : Kd.C Kd.bool _ (some ad107) x3_1.length x3_1 := (Kd.R_reads' HO_3.out).2.2
                              have q026 : (0 : Int) ≤ ((ji19) : Int) := of_decide_eq_true (by first | (with_reducible assumption) | assumption)
                              have hcut26 := cut_from (P := Try.prog) 38 4 .i64 Try.underlying38 hi026 1 hsz26 (some ad107) x3_1.length co23 (ji19) q026 q26
                              have hr26 := Kd.C_drop (m := ((ji19) : Int).toNat) (c := co23) hC26 (by omega) hroom26
                              obtain ⟨A26, hA26⟩ : ∃ A1, A1 = (if co23 = ((ji19) : Int).toNat then (some ad107) else ((some ad107) : Option Addr).map (·.add (((ji19) : Int).toNat * 1))) := ⟨_, rfl⟩
                              obtain ⟨c26, hc26⟩ : ∃ c1, c1 = co23 - ((ji19) : Int).toNat := ⟨_, rfl⟩
                              have hy26 : y119.length = x3_1.length - ((ji19) : Int).toNat := (by rw [Ny119.out, List.length_drop] <;> omega)
                              rw [show (x3_1).drop ((ji19) : Int).toNat = y119 from Ny119.out.symm] at hr26
                              replace hr26 : Kd.C Kd.bool _ A26 y119.length y119 := (by rw [hA26]; exact hr26)
                              rw [← hy26, ← hA26, ← hc26] at hcut26
                              have HR122 := Aside0.mk hr26
                              have HC122 := Aside0.mk (show y119.length ≤ c26 from by rw [hy26, hc26]; exact Nat.sub_le_sub_right hroom26 _)
                              clear hr26 hC26 hroom26 hi026 hsz26 hc26
                              have KY26 := Aside0.mk hy26
                              have KA26 := Aside0.mk hA26
                              clear hy26 hA26
                              have KL26 := Aside0.mk (show ((ji19) : Int).toNat ≤ x3_1.length from by omega)
                              replace q26 := eq_true q26
                              refine start_ (n := 11) (S := fun w' => True) (ds := []) #[false, false, false, false, false, false, false, false, false, false, false] (by kernel_rfl) rfl rfl trivial (fun hHeld => ?_); refine with_tabW coppicerref_Closed.tab5 coppicerref_Closed.bits5 (fun HT_ HW_ => ?_)
                              generalize wr.drew = w24 at HO_3 HB HR115 HR122 hHeld ⊢
                              refine pure_ (i := 1) (N := some 26) (v := ?_) (a' := ?_) #[false, true, false, false, false, false, false, false, false, false, false] rfl rfl (any_of HT_.out (by kernel_rfl)) (fun _ _ _ h => h) (Or.inl ⟨by rfl, ?_⟩) ?_ ?_
                              rotate_left
                              · intro w'
                                go_simp
                                with_reducible rfl
                              rotate_left
                              · simp only [Act.put, List.setIfInBounds_toArray, List.set_cons_zero, List.set_cons_succ, i64_w, i32_w]
                                rfl
                              refine pure_ (i := 2) (N := some 27) (v := ?_) (a' := ?_) #[false, true, true, false, false, false, false, false, false, false, false] rfl rfl (any_of HT_.out (by kernel_rfl)) (fun _ _ _ h => h) (Or.inl ⟨by rfl, ?_⟩) ?_ ?_
                              rotate_left
                              · intro w'
                                go_simp
                                with_reducible rfl
                              rotate_left
                              · simp only [Act.put, List.setIfInBounds_toArray, List.set_cons_zero, List.set_cons_succ, i64_w, i32_w]
                                rfl
                              refine pure_ (i := 3) (N := some 28) (v := ?_) (a' := ?_) #[false, true, true, true, false, false, false, false, false, false, false] rfl rfl (any_of HT_.out (by kernel_rfl)) (fun _ _ _ h => h) (Or.inl ⟨by rfl, ?_⟩) ?_ ?_
                              rotate_left
                              · intro w'
                                go_simp
                                with_reducible rfl
                              rotate_left
                              · simp only [Act.put, List.setIfInBounds_toArray, List.set_cons_zero, List.set_cons_succ, i64_w, i32_w]
                                rfl
                              refine pure_ (i := 5) (N := some 30) (v := ?_) (a' := ?_) #[false, true, true, true, false, true, false, false, false, false, false] rfl rfl (any_of HT_.out (by kernel_rfl)) (fun _ _ _ h => h) (Or.inl ⟨by rfl, ?_⟩) ?_ ?_
                              rotate_left
                              · intro w'
                                go_simp
                                with_reducible rfl
                              rotate_left
                              · simp only [Act.put, List.setIfInBounds_toArray, List.set_cons_zero, List.set_cons_succ, i64_w, i32_w]
                                rfl
                              refine pure_ (i := 6) (N := some 31) (v := ?_) (a' := ?_) #[false, true, true, true, false, true, true, false, false, false, false] rfl rfl (any_of HT_.out (by kernel_rfl)) (fun _ _ _ h => h) (Or.inl ⟨by rfl, ?_⟩) ?_ ?_
                              rotate_left
                              · intro w'
                                go_simp
                                with_reducible rfl
                              rotate_left
                              · simp only [Act.put, List.setIfInBounds_toArray, List.set_cons_zero, List.set_cons_succ, i64_w, i32_w]
                                rfl
                              refine pure_ (i := 7) (N := some 32) (v := ?_) (a' := ?_) #[false, true, true, true, false, true, true, true, false, false, false] rfl rfl (any_of HT_.out (by kernel_rfl)) (fun _ _ _ h => h) (Or.inl ⟨by rfl, ?_⟩) ?_ ?_
                              rotate_left
                              · intro w'
                                go_simp
                                with_reducible rfl
                              rotate_left
                              · simp only [Act.put, List.setIfInBounds_toArray, List.set_cons_zero, List.set_cons_succ, i64_w, i32_w]
                                rfl
                              refine pure_ (i := 8) (N := some 33) (v := ?_) (a' := ?_) #[false, true, true, true, false, true, true, true, true, false, false] rfl rfl (any_of HT_.out (by kernel_rfl)) (fun _ _ _ h => h) (Or.inl ⟨by rfl, ?_⟩) ?_ ?_
                              rotate_left
                              · intro w'
                                go_simp
                                with_reducible rfl
                              rotate_left
                              · simp only [Act.put, List.setIfInBounds_toArray, List.set_cons_zero, List.set_cons_succ, i64_w, i32_w]
                                rfl
                              refine one_ (i := 0) (N := some 25) #[true, true, true, true, false, true, true, true, true, false, false] rfl rfl (one_of HT_.out (by kernel_rfl)) (by decide) (fun K hK => ?_)
                              refine Kd.R_lit_step Kd.bool _ 4 ?hg (N := 25) ?hd (xs := ([] : List Bool)) (inner := []) (ok := fun _ => True) (okp := fun _ => True) ?hr ?hp (fun _ hk => hk) trivial (Below.refl _ _) (Nat.le_refl _) (by simp) ?_; (case hd => rfl); (case hg => rfl); (case hr => first | (go_simp; done) | (go_simp; rfl)); (case hp => exact (Reps.none _ _))
                              intro v110 w27 ho28 hb hg_ hnew_
                              clear hg_ hnew_
                              (first | rw [← Ny109.out] at ho28 | (simp only [Int.reduceToNat] at ho28; rw [← Ny109.out] at ho28))
                              have n0_ := Aside0.mk (Kd.R_elder' (by (with_reducible repeat (first | apply Kd.R_alloc | apply Kd.R_drewN | apply Kd.R_drew)); exact HO_3.out) (Kd.R_base ho28) hb)
                              have n1_ := Aside0.mk (Kd.R_lower (Kd.R_new' ho28 (Kd.R_lt (by (with_reducible repeat (first | apply Kd.R_alloc | apply Kd.R_drewN | apply Kd.R_drew)); exact HO_3.out))) (below_size (by repeat (first | (with_reducible first | exact HB.out | apply below_alloc | apply pw_below_drewN | apply below_drew1) | exact HB.out))))
                              have n2_ := Aside0.mk (Kd.C_below (by repeat (first | (with_reducible exact HR115.out) | (with_reducible refine Kd.C_alloc ?_ _) | (with_reducible refine Kd.C_drewN ?_ _) | (with_reducible refine Kd.C_drew ?_) | exact HR115.out)) hb)
                              have n3_ := Aside0.mk (Kd.C_below (by repeat (first | (with_reducible exact HR122.out) | (with_reducible refine Kd.C_alloc ?_ _) | (with_reducible refine Kd.C_drewN ?_ _) | (with_reducible refine Kd.C_drew ?_) | exact HR122.out)) hb)
                              have n4_ := Aside0.mk (below_step (by repeat (first | (with_reducible first | exact HB.out | apply below_alloc | apply pw_below_drewN | apply below_drew1) | exact HB.out)) hb)
                              clear HO_3
                              clear HR115
                              clear HR122
                              clear HB
                              have HO_3 := n0_
                              have HO111 := n1_
                              have HR115 := n2_
                              have HR122 := n3_
                              have HB := n4_
                              clear n0_ n1_ n2_ n3_ n4_
                              clear hb ho28
                              refine hK.out _ _ trivial (fun hHeld => ?_)
                              clear hK K
                              refine norm_ (a' := ?_) ?_ ?_
                              rotate_left
                              · show Act.put _ (some 25) _ = _
                                simp only [Act.put, List.setIfInBounds_toArray, List.set_cons_zero, List.set_cons_succ, i64_w, i32_w]
                                rfl
                              refine one_ (i := 4) (N := some 29) #[true, true, true, true, true, true, true, true, true, false, false] rfl rfl (one_of HT_.out (by kernel_rfl)) (by decide) (fun K hK => ?_)
                              refine Kd.R_append_rows_step Kd.bool (w0 := w) w.heap.size (by rfl) (.tmp 25) (.tmp 28) 38 4 (.bool false) 1 rfl Try.underlying38 info4 rfl (by decide) (by omega) v110 y109 y112 _ _ _ (fun k_ => some k_ ≠ (.slice (some ad107) x3_1.length co23 : Value).ownBlock) (fun _ => False) rfl rfl ?aO ?aR (fun _ _ h => h) (fun _ h => h.elim) ?aF ?aB ?aS ?aL ?_
                              (case aR => repeat (first | exact (by repeat (first | (with_reducible exact HR115.out) | (with_reducible refine Kd.C_alloc ?_ _) | (with_reducible refine Kd.C_drewN ?_ _) | (with_reducible refine Kd.C_drew ?_) | exact HR115.out)) | (with_reducible refine Kd.C_alloc ?_ _) | (with_reducible refine Kd.C_drewN ?_ _) | (with_reducible refine Kd.C_drew ?_)))
                              (case aB => exact (by repeat (first | (with_reducible first | exact HB.out | apply below_alloc | apply pw_below_drewN | apply below_drew1) | exact HB.out)))
                              (case aF => exact (fun k_ hk => Kd.fresh' (Kd.R_lt (by (with_reducible repeat (first | apply Kd.R_alloc | apply Kd.R_drewN | apply Kd.R_drew)); exact HO_3.out)) k_ hk))
                              (case aO => exact (by (with_reducible repeat (first | apply Kd.R_alloc | apply Kd.R_drewN | apply Kd.R_drew)); exact Kd.R_mono HO111.out (fun _ hk => hk.2)))
                              (case aS => exact (below_size (by repeat (first | (with_reducible first | exact HB.out | apply below_alloc | apply pw_below_drewN | apply below_drew1) | exact HB.out))))
                              (case aL => have := LMc18.out; omega)
                              intro v117 w29 ho hb hg hat
                              rw [← Ny116.out] at ho
                              have n0_ := Aside0.mk (Kd.R_after (ok := (fun _ => True)) (by (with_reducible repeat (first | apply Kd.R_alloc | apply Kd.R_drewN | apply Kd.R_drew)); exact HO_3.out) hg hat)
                              have n1_ := Aside0.mk (hb)
                              have n2_ := Aside0.mk ((show Kd.C Kd.bool w29 (some ad107) y112.length y112 from by rw [Ny112.out]; exact Kd.C_take (m := (x4_1 : Int).toNat) ((Kd.R_reads' (Kd.R_after (ok := (fun _ => True)) (by (with_reducible repeat (first | apply Kd.R_alloc | apply Kd.R_drewN | apply Kd.R_drew)); exact HO_3.out) hg hat)).2.2) KL25.out))
                              have n3_ := Aside0.mk ((show Kd.C Kd.bool w29 A26 y119.length y119 from by rw [Ny119.out, KA26.out]; exact Kd.C_drop (m := ((ji19) : Int).toNat) (c := co23) ((Kd.R_reads' (Kd.R_after (ok := (fun _ => True)) (by (with_reducible repeat (first | apply Kd.R_alloc | apply Kd.R_drewN | apply Kd.R_drew)); exact HO_3.out) hg hat)).2.2) KL26.out ((Kd.R_reads' (Kd.R_after (ok := (fun _ => True)) (by (with_reducible repeat (first | apply Kd.R_alloc | apply Kd.R_drewN | apply Kd.R_drew)); exact HO_3.out) hg hat)).2.1)))
                              have n4_ := Aside0.mk (ho)
                              clear HO_3
                              clear HB
                              clear HR115
                              clear HR122
                              clear HO111
                              have HO_3 := n0_
                              have HB := n1_
                              have HR115 := n2_
                              have HR122 := n3_
                              have HO118 := n4_
                              clear n0_ n1_ n2_ n3_ n4_
                              clear ho hb hg hat
                              refine hK.out _ _ trivial (fun hHeld => ?_)
                              clear hK K
                              refine norm_ (a' := ?_) ?_ ?_
                              rotate_left
                              · show Act.put _ (some 29) _ = _
                                simp only [Act.put, List.setIfInBounds_toArray, List.set_cons_zero, List.set_cons_succ, i64_w, i32_w]
                                rfl
                              refine one_ (i := 9) (N := some 34) #[true, true, true, true, true, true, true, true, true, true, false] rfl rfl (one_of HT_.out (by kernel_rfl)) (by decide) (fun K hK => ?_)
                              refine Kd.R_append_rows_step Kd.bool (w0 := w) w.heap.size (by rfl) (.tmp 29) (.tmp 33) 38 4 (.bool false) 1 rfl Try.underlying38 info4 rfl (by decide) (by omega) v117 y116 y119 _ _ _ (fun k_ => some k_ ≠ (.slice (some ad107) x3_1.length co23 : Value).ownBlock) (fun _ => False) rfl rfl ?aO ?aR (fun _ _ h => h) (fun _ h => h.elim) ?aF ?aB ?aS ?aL ?_
                              (case aR => repeat (first | exact (by repeat (first | (with_reducible exact HR122.out) | (with_reducible refine Kd.C_alloc ?_ _) | (with_reducible refine Kd.C_drewN ?_ _) | (with_reducible refine Kd.C_drew ?_) | exact HR122.out)) | (with_reducible refine Kd.C_alloc ?_ _) | (with_reducible refine Kd.C_drewN ?_ _) | (with_reducible refine Kd.C_drew ?_)))
                              (case aB => exact (by repeat (first | (with_reducible first | exact HB.out | apply below_alloc | apply pw_below_drewN | apply below_drew1) | exact HB.out)))
                              (case aF => exact (fun k_ hk => Kd.fresh' (Kd.R_lt (by (with_reducible repeat (first | apply Kd.R_alloc | apply Kd.R_drewN | apply Kd.R_drew)); exact HO_3.out)) k_ hk))
                              (case aO => exact (by (with_reducible repeat (first | apply Kd.R_alloc | apply Kd.R_drewN | apply Kd.R_drew)); exact HO118.out))
                              (case aS => exact (below_size (by repeat (first | (with_reducible first | exact HB.out | apply below_alloc | apply pw_below_drewN | apply below_drew1) | exact HB.out))))
                              (case aL => have := LMc22.out; omega)
                              intro v124 w30 ho hb hg hat
                              rw [← Ny123.out] at ho
                              have n0_ := Aside0.mk (Kd.R_after (ok := (fun _ => True)) (by (with_reducible repeat (first | apply Kd.R_alloc | apply Kd.R_drewN | apply Kd.R_drew)); exact HO_3.out) hg hat)
                              have n1_ := Aside0.mk (hb)
                              have n2_ := Aside0.mk ((show Kd.C Kd.bool w30 (some ad107) y112.length y112 from by rw [Ny112.out]; exact Kd.C_take (m := (x4_1 : Int).toNat) ((Kd.R_reads' (Kd.R_after (ok := (fun _ => True)) (by (with_reducible repeat (first | apply Kd.R_alloc | apply Kd.R_drewN | apply Kd.R_drew)); exact HO_3.out) hg hat)).2.2) KL25.out))
                              have n3_ := Aside0.mk ((show Kd.C Kd.bool w30 A26 y119.length y119 from by rw [Ny119.out, KA26.out]; exact Kd.C_drop (m := ((ji19) : Int).toNat) (c := co23) ((Kd.R_reads' (Kd.R_after (ok := (fun _ => True)) (by (with_reducible repeat (first | apply Kd.R_alloc | apply Kd.R_drewN | apply Kd.R_drew)); exact HO_3.out) hg hat)).2.2) KL26.out ((Kd.R_reads' (Kd.R_after (ok := (fun _ => True)) (by (with_reducible repeat (first | apply Kd.R_alloc | apply Kd.R_drewN | apply Kd.R_drew)); exact HO_3.out) hg hat)).2.1)))
                              have n4_ := Aside0.mk (ho)
                              clear HO_3
                              clear HB
                              clear HR115
                              clear HR122
                              clear HO118
                              have HO_3 := n0_
                              have HB := n1_
                              have HR115 := n2_
                              have HR122 := n3_
                              have HO125 := n4_
                              clear n0_ n1_ n2_ n3_ n4_
                              clear ho hb hg hat
                              refine hK.out _ _ trivial (fun hHeld => ?_)
                              clear hK K
                              refine norm_ (a' := ?_) ?_ ?_
                              rotate_left
                              · show Act.put _ (some 34) _ = _
                                simp only [Act.put, List.setIfInBounds_toArray, List.set_cons_zero, List.set_cons_succ, i64_w, i32_w]
                                rfl
                              refine pure_ (i := 10) (N := some 3) (v := ?_) (a' := ?_) #[true, true, true, true, true, true, true, true, true, true, true] rfl rfl (any_of HT_.out (by kernel_rfl)) (fun _ _ _ h => h) (Or.inl ⟨by rfl, ?_⟩) ?_ ?_
                              rotate_left
                              · intro w'
                                go_simp
                                with_reducible rfl
                              rotate_left
                              · simp only [Act.put, List.setIfInBounds_toArray, List.set_cons_zero, List.set_cons_succ, i64_w, i32_w]
                                rfl
                              refine done_ (done_of HT_.out (by kernel_rfl)) ?_
                              try go_wp2
                              (first | go_roundg k1 | (simp only [← hji19]; go_roundg k1) | (simp only [← hji11, ← hji19]; go_roundg k1))
                              case measure => have := HK1.out; omega
                              case rel => exact ⟨(y123), (0), (by first | rfl | (simp; done) | (simp [*]; done)), H', ⟨by have := HK1.out; omega⟩, ⟨by (with_reducible repeat (first | apply Kd.R_alloc | apply Kd.R_drewN | apply Kd.R_drew)); exact Kd.R_mono HO125.out (fun _ hk => trivial)⟩, ⟨by repeat (first | (with_reducible first | exact HB.out | apply below_alloc | apply pw_below_drewN | apply below_drew1) | exact HB.out)⟩⟩
                            · rw [if_neg c22] at H
                              exact absurd H (by simp)
                          · rw [if_neg c21] at H
                            exact absurd H (by simp)
                        · rw [if_neg c20] at H
                          exact absurd H (by simp)
                      · rw [if_neg c18] at H
                        exact absurd H (by simp)
                    · rw [if_neg c17] at H
                      exact absurd H (by simp)
                · rw [if_neg c12] at H
                  exact absurd H (by simp)
              · replace c10 := Bool.eq_false_iff.mpr c10
                subst c10
                have H1 : (coppicerref_Closed.l0 k1 x3_1 (wrap64 (x4_1 + 1))) = some r := by rw [if_neg (show ¬ (false = true) by decide)] at H; exact H
                clear H
                have H := H1
                clear H1
                have H' := Aside0.mk H
                clear H
                obtain ⟨Ao31, co31, eo31⟩ := Kd.R_slice HO_3.out
                subst eo31
                have p107 : 0 ≤ (x4_1 : Int) := of_decide_eq_true (by first | (with_reducible assumption) | assumption)
                have q107 : x4_1 < (x3_1.length : Int) := of_decide_eq_true (by first | (with_reducible assumption) | assumption)
                obtain ⟨ad107, e107, hx107_0⟩ := Kd.at_bool (Kd.R_reads' HO_3.out).2.2 x4_1 p107 q107
                (try rw [← Nbq9.out] at hx107_0)
                cases e107
                replace p107 := eq_true p107
                replace q107 := eq_true q107
                go_wp2
                go_roundg k1
                case measure => have := HK1.out; omega
                case rel => exact ⟨(x3_1), (wrap64 (x4_1 + 1)), (by first | rfl | (simp; done) | (simp [*]; done)), H', ⟨by have := HK1.out; omega⟩, ⟨by (with_reducible repeat (first | apply Kd.R_alloc | apply Kd.R_drewN | apply Kd.R_drew)); exact HO_3.out⟩, ⟨by repeat (first | (with_reducible first | exact HB.out | apply below_alloc | apply pw_below_drewN | apply below_drew1) | exact HB.out)⟩⟩
            · rw [if_neg c8] at H
              exact absurd H (by simp)
          · rw [if_neg c7] at H
            exact absurd H (by simp)
        · rw [if_neg c6] at H
          have c6b0 : decide ((wrap64 (x4_1 + 1)) < (x3_1.length : Int)) = false := decide_eq_false c6
          clear c6
          obtain rfl := Option.some.inj H
          obtain ⟨Ao32, co32, eo32⟩ := Kd.R_slice HO_3.out
          subst eo32
          go_wp2
          go_ret
          exact ⟨by first | rfl | (simp [errW_none, errW_some] <;> rfl) | (simp [*, errW_none, errW_some] <;> rfl), by repeat (first | (with_reducible first | exact HB.out | apply below_alloc | apply pw_below_drewN | apply below_drew1) | exact HB.out)⟩
  · rw [if_neg c2] at H
    exact absurd H (by simp)

/-! ### bracket_is: function 53 -/
def bracket_is.l0 : Nat → Int → List Bool → Int → Int → Option (Bool)
  | 0, _, _, _, _ => none
  | k + 1, x3, x6, x7, x8 => if x8 < x7 then (if 0 ≤ x8 then (if x8 < (x6.length : Int) then (if rdOf false x6 x8 = true then (bracket_is.l0 k (wrap64 (x3 + 1)) x6 x7 (wrap64 (x8 + 1))) else (if (wrap64 (x3 - 1)) < 0 then (some false) else (bracket_is.l0 k (wrap64 (x3 - 1)) x6 x7 (wrap64 (x8 + 1))))) else (none)) else (none)) else (some (x3 == 0))
def bracket_is.f (k : Nat) (l0 : List Bool) : Option (Bool) := bracket_is.l0 k 0 l0 (l0.length : Int) 0
theorem bracket_is.mono_l : ∀ k, (∀ y0 y1 y2 y3, LeO (bracket_is.l0 k y0 y1 y2 y3) (bracket_is.l0 (k + 1) y0 y1 y2 y3))
  | 0 => fun _ _ _ _ r h => by simp [bracket_is.l0] at h
  | k + 1 => by
    have ih0 := bracket_is.mono_l k
    · intro y0 y1 y2 y3
      unfold bracket_is.l0
      repeat' first
      | (with_reducible exact ih0 _ _ _ _)
      | (with_reducible exact LeO.refl _)
      | (with_reducible exact LeO.none _)
      | (with_reducible refine LeO.ite ?_ ?_)
      | (with_reducible refine LeO.bind ?_ (fun _ => ?_))
      | exact ih0 _ _ _ _
      | exact LeO.none _
      | refine LeO.ite ?_ ?_
      | refine LeO.bind ?_ (fun _ => ?_)
theorem bracket_is.mono : ∀ a0 k, LeO (bracket_is.f k a0) (bracket_is.f (k + 1) a0) := by
  intro a0 k
  have ih0 := bracket_is.mono_l k
  unfold bracket_is.f
  repeat' first
      | (with_reducible exact ih0 _ _ _ _)
      | (with_reducible exact LeO.refl _)
      | (with_reducible exact LeO.none _)
      | (with_reducible refine LeO.ite ?_ ?_)
      | (with_reducible refine LeO.bind ?_ (fun _ => ?_))
      | exact ih0 _ _ _ _
      | exact LeO.none _
      | refine LeO.ite ?_ ?_
      | refine LeO.bind ?_ (fun _ => ?_)
set_option maxHeartbeats 8000000 in
set_option maxRecDepth 100000 in
theorem bracket_is.calls (k : Nat) (A0 : Option Addr) (c0 : Nat) (l0 : List Bool) (r : Bool) (w : World) (hr0 : Kd.C Kd.bool w A0 l0.length l0) (hc0 : l0.length ≤ c0) (h : bracket_is.f k l0 = some r) :
    Calls Try.prog 53 #[.slice A0 l0.length c0] w fun e w' => e = .returned (.bool r) ∧ Drawn0 w w' := by
  have HR0 := Aside0.mk hr0
  have HC0 := Aside0.mk hc0
  clear hr0 hc0
  have H : (bracket_is.l0 k 0 l0 (l0.length : Int) 0) = some r := h
  clear h
  have H' := Aside0.mk H
  clear H
  go_enter Try.func53, Try.ntmps53
  go_wp2
  go_loopg [3, 8] k (fun kq v3 v8 w' => ∃ (x3_1 : Int) (x8_1 : Int), v3 = .int .i64 x3_1 ∧ v8 = .int .i64 x8_1 ∧ Aside0 (bracket_is.l0 kq x3_1 l0 (l0.length : Int) x8_1 = some r) ∧ Aside0 (kq ≤ k) ∧ Drawn0 w w')
  case atStart => exact ⟨(0), (0), (by first | rfl | (simp; done) | (simp [*]; done)), (by first | rfl | (simp; done) | (simp [*]; done)), H', ⟨Nat.le_refl _⟩, by repeat (first | exact Drawn0.refl _ | apply Drawn0.step)⟩
  case round =>
    clear H'
    obtain ⟨x3_1, x8_1, rfl, rfl, HA, HK1, ⟨m1, rfl⟩⟩ := hrel
    cases gk with
    | zero => exact absurd HA.out (by simp [bracket_is.l0])
    | succ k1 =>
      have H := HA.out
      clear HA
      simp only [bracket_is.l0] at H
      by_cases c2 : x8_1 < (l0.length : Int)
      · rw [if_pos c2] at H
        have c2b0 : decide (x8_1 < (l0.length : Int)) = true := decide_eq_true c2
        clear c2
        by_cases c3 : 0 ≤ x8_1
        · rw [if_pos c3] at H
          have c3b0 : decide (0 ≤ x8_1) = true := decide_eq_true c3
          clear c3
          by_cases c4 : x8_1 < (l0.length : Int)
          · rw [if_pos c4] at H
            have c4b0 : decide (x8_1 < (l0.length : Int)) = true := decide_eq_true c4
            clear c4
            obtain ⟨bq5, hbq5⟩ : ∃ b_ : Bool, b_ = (rdOf false l0 x8_1) := ⟨_, rfl⟩
            replace H : (if bq5 = true then (bracket_is.l0 k1 (wrap64 (x3_1 + 1)) l0 (l0.length : Int) (wrap64 (x8_1 + 1))) else (if (wrap64 (x3_1 - 1)) < 0 then (some false) else (bracket_is.l0 k1 (wrap64 (x3_1 - 1)) l0 (l0.length : Int) (wrap64 (x8_1 + 1))))) = some r := by rw [← hbq5] at H; exact H
            have Nbq5 := Aside0.mk hbq5
            clear hbq5
            by_cases c6 : bq5 = true
            · subst c6
              have H1 : (bracket_is.l0 k1 (wrap64 (x3_1 + 1)) l0 (l0.length : Int) (wrap64 (x8_1 + 1))) = some r := by rw [if_pos rfl] at H; exact H
              clear H
              have H := H1
              clear H1
              have H' := Aside0.mk H
              clear H
              have p126 : 0 ≤ (x8_1 : Int) := of_decide_eq_true (by first | (with_reducible assumption) | assumption)
              have q126 : x8_1 < (l0.length : Int) := of_decide_eq_true (by first | (with_reducible assumption) | assumption)
              obtain ⟨ad126, e126, hx126_0⟩ := Kd.at_bool HR0.out x8_1 p126 q126
              (try rw [← Nbq5.out] at hx126_0)
              cases e126
              replace p126 := eq_true p126
              replace q126 := eq_true q126
              go_wp2
              go_roundg k1
              case measure => have := HK1.out; omega
              case rel => exact ⟨(wrap64 (x3_1 + 1)), (wrap64 (x8_1 + 1)), (by first | rfl | (simp; done) | (simp [*]; done)), (by first | rfl | (simp; done) | (simp [*]; done)), H', ⟨by have := HK1.out; omega⟩, by repeat (first | exact Drawn0.refl _ | apply Drawn0.step)⟩
            · replace c6 := Bool.eq_false_iff.mpr c6
              subst c6
              have H1 : (if (wrap64 (x3_1 - 1)) < 0 then (some false) else (bracket_is.l0 k1 (wrap64 (x3_1 - 1)) l0 (l0.length : Int) (wrap64 (x8_1 + 1)))) = some r := by rw [if_neg (show ¬ (false = true) by decide)] at H; exact H
              clear H
              have H := H1
              clear H1
              by_cases c7 : (wrap64 (x3_1 - 1)) < 0
              · rw [if_pos c7] at H
                have c7b0 : decide ((wrap64 (x3_1 - 1)) < 0) = true := decide_eq_true c7
                clear c7
                obtain rfl := Option.some.inj H
                have p126 : 0 ≤ (x8_1 : Int) := of_decide_eq_true (by first | (with_reducible assumption) | assumption)
                have q126 : x8_1 < (l0.length : Int) := of_decide_eq_true (by first | (with_reducible assumption) | assumption)
                obtain ⟨ad126, e126, hx126_0⟩ := Kd.at_bool HR0.out x8_1 p126 q126
                (try rw [← Nbq5.out] at hx126_0)
                cases e126
                replace p126 := eq_true p126
                replace q126 := eq_true q126
                go_wp2
                go_ret
                exact ⟨by first | rfl | (simp; done) | (simp [*]; done), by repeat (first | exact Drawn0.refl _ | apply Drawn0.step)⟩
              · rw [if_neg c7] at H
                have c7b0 : decide ((wrap64 (x3_1 - 1)) < 0) = false := decide_eq_false c7
                clear c7
                have H' := Aside0.mk H
                clear H
                have p126 : 0 ≤ (x8_1 : Int) := of_decide_eq_true (by first | (with_reducible assumption) | assumption)
                have q126 : x8_1 < (l0.length : Int) := of_decide_eq_true (by first | (with_reducible assumption) | assumption)
                obtain ⟨ad126, e126, hx126_0⟩ := Kd.at_bool HR0.out x8_1 p126 q126
                (try rw [← Nbq5.out] at hx126_0)
                cases e126
                replace p126 := eq_true p126
                replace q126 := eq_true q126
                go_wp2
                go_roundg k1
                case measure => have := HK1.out; omega
                case rel => exact ⟨(wrap64 (x3_1 - 1)), (wrap64 (x8_1 + 1)), (by first | rfl | (simp; done) | (simp [*]; done)), (by first | rfl | (simp; done) | (simp [*]; done)), H', ⟨by have := HK1.out; omega⟩, by repeat (first | exact Drawn0.refl _ | apply Drawn0.step)⟩
          · rw [if_neg c4] at H
            exact absurd H (by simp)
        · rw [if_neg c3] at H
          exact absurd H (by simp)
      · rw [if_neg c2] at H
        have c2b0 : decide (x8_1 < (l0.length : Int)) = false := decide_eq_false c2
        clear c2
        obtain rfl := Option.some.inj H
        go_wp2
        go_ret
        exact ⟨by first | rfl | (simp; done) | (simp [*]; done), by repeat (first | exact Drawn0.refl _ | apply Drawn0.step)⟩

end Go.Proofs.Ytkhmjehjhjhpkab.PBracketPairs
