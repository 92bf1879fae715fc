-- Written by a program of this session: a turn of the print kit's own.
import Derived.Test.YtmcgapnjafocnaaPEditSharesx0
import Derived.Test.YtmcgapnjafocnaaPEditSharesx1
namespace Go.Proofs.Ytmcgapnjafocnaa.PEditShares
open Go.RowKit Go.Proofs.YtmcgapnjafocnaaW.PrintWords Go.Proofs.YtmcgapnjafocnaaW.PrintLast Go.Proofs.YtmcgapnjafocnaaW.PrintMore
attribute [local go_sem] max2_int min2_int max_two min_two max_three min_three max_four min_four   -- for this text's walks alone
set_option linter.unusedVariables false
set_option linter.unusedSimpArgs false

theorem edit_Shared.goesC_ {P : Program} {ops : Array Oper} {Q : Exit → Act → World → Prop} {oi : Oper} {N : Option Tmp} {a : Act} {w : World} {K : Act → World → Prop} {f : FuncId} {fn : Func} {op_ : Operand} {xs_ : Array Operand} {ts : Array TypeId} (hf : P.funcs[f]? = some fn) (hname : (fn.name == "runtime.NumGoroutine") = false) (hb : fn.body.isSome = true) (caps args : Array Value)
    (hw : Region.wanted oi (yielded ops a.tmps) = true) (hN : oi.dst = N) (hop : oi.op = .call { callee := .value op_, args := xs_, argTypes := ts }) (hclo : a.eval op_ = .func (.func f) #[] caps) (hargs : xs_.map a.eval ++ caps = args)
    (h : Calls P f args w fun e w' => ∃ v, e = .returned v ∧ K (a.put N v) w') : if Region.wanted oi (yielded ops a.tmps) = true then Oper.wp P oi a w K Q else K (a.put N undef) w := by
  refine call_ f args hw hN ?_ h
  have he := enters_ hf hname hb args w
  unfold execOp
  rw [hop]
  simp [resolve, hclo, Deferred.ofValue, invoke, hargs, he]
/-! ### edit_Shared: function 4 -/
mutual
def edit_Shared.j0 : Nat → List Int → List Int → Bool → Option (List Int × Int)
  | 0, _, _, _ => none
  | k + 1, x0, x1, x19 => if x19 = true then (some (([] : List Int), 1)) else (if 0 ≤ (wrap64 ((x1.length : Int) + 1)) then (if (wrap64 ((x1.length : Int) + 1) : Int).toNat ≤ 11728124029610 then (edit_Shared.l0 k x0 x1 (List.replicate (wrap64 ((x1.length : Int) + 1) : Int).toNat []) (wrap64 ((x0.length : Int) - 1))) else (none)) else (none))
def edit_Shared.l0 : Nat → List Int → List Int → List (List Int) → Int → Option (List Int × Int)
  | 0, _, _, _, _ => none
  | k + 1, x0, x1, x6, x8 => if x8 ≥ 0 then (if 0 ≤ (wrap64 ((x1.length : Int) + 1)) then (if (wrap64 ((x1.length : Int) + 1) : Int).toNat ≤ 11728124029610 then (edit_Shared.l1 k x0 x1 x6 x8 (List.replicate (wrap64 ((x1.length : Int) + 1) : Int).toNat []) (wrap64 ((x1.length : Int) - 1))) else (none)) else (none)) else (if 0 < (x6.length : Int) then ((bytes_Clone.f (rd_L1 x6 0)).bind fun t106 => (some (t106, 0))) else (none))
def edit_Shared.l1 : Nat → List Int → List Int → List (List Int) → Int → List (List Int) → Int → Option (List Int × Int)
  | 0, _, _, _, _, _, _ => none
  | k + 1, x0, x1, x6, x8, x9, x10 => if x10 ≥ 0 then (if 0 ≤ (wrap64 (x10 + 1)) then (if (wrap64 (x10 + 1)) < (x9.length : Int) then (if 0 ≤ x10 then (if x10 < (x9.length : Int) then ((some (x9.set (x10 : Int).toNat (rd_L1 x9 (wrap64 (x10 + 1))) : List (List Int))).bind fun y113 => (if x10 < (x6.length : Int) then ((edit_Shared_1.f (rd_L1 x6 x10) (rd_L1 y113 x10)).bind fun t116 => (if t116 = true then (edit_Shared.j3 k x0 x1 x6 x8 (y113.set (x10 : Int).toNat (rd_L1 x6 x10)) x10) else (edit_Shared.j3 k x0 x1 x6 x8 y113 x10))) else (none))) else (none)) else (none)) else (none)) else (none)) else (edit_Shared.l0 k x0 x1 x9 (wrap64 (x8 - 1)))
def edit_Shared.j3 : Nat → List Int → List Int → List (List Int) → Int → List (List Int) → Int → Option (List Int × Int)
  | 0, _, _, _, _, _, _ => none
  | k + 1, x0, x1, x6, x8, x9, x10 => if 0 ≤ x8 then (if x8 < (x0.length : Int) then (if 0 ≤ x10 then (if x10 < (x1.length : Int) then (if (rd x0 x8) = (rd x1 x10) then ((some (([rd x0 x8] : List Int) : List Int)).bind fun y122 => (if 0 ≤ (wrap64 (x10 + 1)) then (if (wrap64 (x10 + 1)) < (x6.length : Int) then (if y122.length + (rd_L1 x6 (wrap64 (x10 + 1))).length < 140737488355328 then ((some (y122 ++ (rd_L1 x6 (wrap64 (x10 + 1))) : List Int)).bind fun y126 => (if x10 < (x9.length : Int) then ((edit_Shared_1.f y126 (rd_L1 x9 x10)).bind fun t130 => (if t130 = true then (edit_Shared.l1 k x0 x1 x6 x8 (x9.set (x10 : Int).toNat y126) (wrap64 (x10 - 1))) else (edit_Shared.l1 k x0 x1 x6 x8 x9 (wrap64 (x10 - 1))))) else (none))) else (none)) else (none)) else (none))) else (edit_Shared.l1 k x0 x1 x6 x8 x9 (wrap64 (x10 - 1)))) else (none)) else (none)) else (none)) else (none)
end
def edit_Shared.f (k : Nat) (l0 : List Int) (l1 : List Int) : Option (List Int × Int) := if (l0.length : Int) > 60 then (edit_Shared.j0 k l0 l1 true) else (edit_Shared.j0 k l0 l1 (decide ((l1.length : Int) > 60)))
theorem edit_Shared.mono_l : ∀ k, (∀ y0 y1 y2, LeO (edit_Shared.j0 k y0 y1 y2) (edit_Shared.j0 (k + 1) y0 y1 y2)) ∧ (∀ y0 y1 y2 y3, LeO (edit_Shared.l0 k y0 y1 y2 y3) (edit_Shared.l0 (k + 1) y0 y1 y2 y3)) ∧ (∀ y0 y1 y2 y3 y4 y5, LeO (edit_Shared.l1 k y0 y1 y2 y3 y4 y5) (edit_Shared.l1 (k + 1) y0 y1 y2 y3 y4 y5)) ∧ (∀ y0 y1 y2 y3 y4 y5, LeO (edit_Shared.j3 k y0 y1 y2 y3 y4 y5) (edit_Shared.j3 (k + 1) y0 y1 y2 y3 y4 y5))
  | 0 => ⟨fun _ _ _ r h => by simp [edit_Shared.j0] at h, fun _ _ _ _ r h => by simp [edit_Shared.l0] at h, fun _ _ _ _ _ _ r h => by simp [edit_Shared.l1] at h, fun _ _ _ _ _ _ r h => by simp [edit_Shared.j3] at h⟩
  | k + 1 => by
    obtain ⟨ih0, ih1, ih2, ih3⟩ := edit_Shared.mono_l k
    refine ⟨?_, ?_, ?_, ?_⟩
    · intro y0 y1 y2
      unfold edit_Shared.j0
      repeat' first
      | (with_reducible exact ih0 _ _ _)
      | (with_reducible exact ih1 _ _ _ _)
      | (with_reducible exact ih2 _ _ _ _ _ _)
      | (with_reducible exact ih3 _ _ _ _ _ _)
      | (with_reducible exact LeO.refl _)
      | (with_reducible exact LeO.none _)
      | (with_reducible refine LeO.ite ?_ ?_)
      | (with_reducible refine LeO.bind ?_ (fun _ => ?_))
      | exact ih0 _ _ _
      | exact ih1 _ _ _ _
      | exact ih2 _ _ _ _ _ _
      | exact ih3 _ _ _ _ _ _
      | exact LeO.none _
      | refine LeO.ite ?_ ?_
      | refine LeO.bind ?_ (fun _ => ?_)
    · intro y0 y1 y2 y3
      unfold edit_Shared.l0
      repeat' first
      | (with_reducible exact ih0 _ _ _)
      | (with_reducible exact ih1 _ _ _ _)
      | (with_reducible exact ih2 _ _ _ _ _ _)
      | (with_reducible exact ih3 _ _ _ _ _ _)
      | (with_reducible exact LeO.refl _)
      | (with_reducible exact LeO.none _)
      | (with_reducible refine LeO.ite ?_ ?_)
      | (with_reducible refine LeO.bind ?_ (fun _ => ?_))
      | exact ih0 _ _ _
      | exact ih1 _ _ _ _
      | exact ih2 _ _ _ _ _ _
      | exact ih3 _ _ _ _ _ _
      | exact LeO.none _
      | refine LeO.ite ?_ ?_
      | refine LeO.bind ?_ (fun _ => ?_)
    · intro y0 y1 y2 y3 y4 y5
      unfold edit_Shared.l1
      repeat' first
      | (with_reducible exact ih0 _ _ _)
      | (with_reducible exact ih1 _ _ _ _)
      | (with_reducible exact ih2 _ _ _ _ _ _)
      | (with_reducible exact ih3 _ _ _ _ _ _)
      | (with_reducible exact LeO.refl _)
      | (with_reducible exact LeO.none _)
      | (with_reducible refine LeO.ite ?_ ?_)
      | (with_reducible refine LeO.bind ?_ (fun _ => ?_))
      | exact ih0 _ _ _
      | exact ih1 _ _ _ _
      | exact ih2 _ _ _ _ _ _
      | exact ih3 _ _ _ _ _ _
      | exact LeO.none _
      | refine LeO.ite ?_ ?_
      | refine LeO.bind ?_ (fun _ => ?_)
    · intro y0 y1 y2 y3 y4 y5
      unfold edit_Shared.j3
      repeat' first
      | (with_reducible exact ih0 _ _ _)
      | (with_reducible exact ih1 _ _ _ _)
      | (with_reducible exact ih2 _ _ _ _ _ _)
      | (with_reducible exact ih3 _ _ _ _ _ _)
      | (with_reducible exact LeO.refl _)
      | (with_reducible exact LeO.none _)
      | (with_reducible refine LeO.ite ?_ ?_)
      | (with_reducible refine LeO.bind ?_ (fun _ => ?_))
      | exact ih0 _ _ _
      | exact ih1 _ _ _ _
      | exact ih2 _ _ _ _ _ _
      | exact ih3 _ _ _ _ _ _
      | exact LeO.none _
      | refine LeO.ite ?_ ?_
      | refine LeO.bind ?_ (fun _ => ?_)
theorem edit_Shared.mono : ∀ a0 a1 k, LeO (edit_Shared.f k a0 a1) (edit_Shared.f (k + 1) a0 a1) := by
  intro a0 a1 k
  obtain ⟨ih0, ih1, ih2, ih3⟩ := edit_Shared.mono_l k
  unfold edit_Shared.f
  repeat' first
      | (with_reducible exact ih0 _ _ _)
      | (with_reducible exact ih1 _ _ _ _)
      | (with_reducible exact ih2 _ _ _ _ _ _)
      | (with_reducible exact ih3 _ _ _ _ _ _)
      | (with_reducible exact LeO.refl _)
      | (with_reducible exact LeO.none _)
      | (with_reducible refine LeO.ite ?_ ?_)
      | (with_reducible refine LeO.bind ?_ (fun _ => ?_))
      | exact ih0 _ _ _
      | exact ih1 _ _ _ _
      | exact ih2 _ _ _ _ _ _
      | exact ih3 _ _ _ _ _ _
      | exact LeO.none _
      | refine LeO.ite ?_ ?_
      | refine LeO.bind ?_ (fun _ => ?_)
def edit_Shared.T13 : Bool × List (List Nat × List Nat) := (true, [([], []), ([], []), ([], []), ([1, 2], [1, 2]), ([3], [3]), ([], []), ([], []), ([5, 6], [5, 6]), ([7], [7]), ([0, 4, 8], [0, 4, 8])])
def edit_Shared.B13 : List Nat := [0, 0, 0, 6, 14, 0, 0, 96, 224, 511]
theorem edit_Shared.tab13 : rtab .any (opsOf Try.f4 13) = edit_Shared.T13 := by kernel_rfl
theorem edit_Shared.bits13 : waitsOk edit_Shared.T13.2 edit_Shared.B13 = true := by kernel_rfl
def edit_Shared.T15 : Bool × List (List Nat × List Nat) := (true, [([], []), ([], []), ([0, 1], [0, 1]), ([2], [2]), ([], []), ([], []), ([4, 5], [4, 5]), ([6], [6]), ([3, 7], [3, 7])])
def edit_Shared.B15 : List Nat := [0, 0, 3, 7, 0, 0, 48, 112, 255]
theorem edit_Shared.tab15 : rtab .any (opsOf Try.f4 15) = edit_Shared.T15 := by kernel_rfl
theorem edit_Shared.bits15 : waitsOk edit_Shared.T15.2 edit_Shared.B15 = true := by kernel_rfl
def edit_Shared.T16 : Bool × List (List Nat × List Nat) := (true, [([], []), ([], []), ([0, 1], [0, 1]), ([2], [2]), ([3], [3]), ([], []), ([], []), ([6], [6]), ([5, 7], [5, 7]), ([8], [8]), ([4, 9], [4, 9]), ([10, 10, 0, 1, 2, 3, 4, 5, 6, 7, 8, 9, 10], [10])])
def edit_Shared.B16 : List Nat := [0, 0, 3, 7, 15, 0, 0, 64, 224, 480, 1023, 2047]
theorem edit_Shared.tab16 : rtab .any (opsOf Try.f4 16) = edit_Shared.T16 := by kernel_rfl
theorem edit_Shared.bits16 : waitsOk edit_Shared.T16.2 edit_Shared.B16 = true := by kernel_rfl
set_option maxHeartbeats 8000000 in
set_option maxRecDepth 100000 in
theorem edit_Shared.calls (k : Nat) (A0 : Option Addr) (c0 : Nat) (l0 : List Int) (A1 : Option Addr) (c1 : Nat) (l1 : List Int) (r1 : List Int) (r2 : Int) (w : World) (hr0 : Kd.C (Kd.int .u8) w A0 l0.length l0) (hc0 : l0.length ≤ c0) (hr1 : Kd.C (Kd.int .u8) w A1 l1.length l1) (hc1 : l1.length ≤ c1) (h : edit_Shared.f k l0 l1 = some (r1, r2)) :
    Calls Try.prog 4 #[.slice A0 l0.length c0, .slice A1 l1.length c1] w fun e w' => ∃ v0_ : Value, e = .returned (.tuple #[v0_, .int .i64 r2]) ∧ Kd.R (Kd.int .u8) 5 w' w.heap.size (fun _ => True) v0_ r1 ∧ Below w.heap.size w w' := by
  have HR0 := Aside0.mk hr0
  have HC0 := Aside0.mk hc0
  clear hr0 hc0
  have HR1 := Aside0.mk hr1
  have HC1 := Aside0.mk hc1
  clear hr1 hc1
  have HB := Aside0.mk (Below.refl w.heap.size w)
  have H : (if (l0.length : Int) > 60 then (edit_Shared.j0 k l0 l1 true) else (edit_Shared.j0 k l0 l1 (decide ((l1.length : Int) > 60)))) = some (r1, r2) := h
  clear h
  have HC3 := Aside0.mk H
  clear H
  go_enter Try.func4, Try.ntmps4
  go_upto_region 1 with (fail)
  go_cut [19] (fun v19 wc => ∃ (kq : Nat) (x19_2 : Bool), v19 = .bool x19_2 ∧ Aside0 (edit_Shared.j0 kq l0 l1 x19_2 = some (r1, r2)) ∧ Aside0 (kq ≤ k) ∧ Aside0 (Below w.heap.size w wc))
  case first =>
    have H := HC3.out
    clear HC3
    by_cases c4 : (l0.length : Int) > 60
    · rw [if_pos c4] at H
      have c4b0 : decide (60 < (l0.length : Int)) = true := decide_eq_true c4
      have c4b1 : decide (60 < l0.length) = true := decide_eq_true (by omega)
      clear c4
      (first | rw [c4b0] | (simp only [i64_w, i32_w]; rw [c4b0]) | skip)
      have H' := Aside0.mk H
      clear H
      go_wp2
      go_meet
      case rel => exact ⟨_, (true), (by first | rfl | (simp; done) | (simp [*]; done)), H', ⟨by first | omega | exact Nat.le_refl _⟩, ⟨by repeat (first | (with_reducible first | exact HB.out | apply below_alloc | apply pw_below_drewN | apply below_drew1) | exact HB.out)⟩⟩
    · rw [if_neg c4] at H
      have c4b0 : decide (60 < (l0.length : Int)) = false := decide_eq_false c4
      have c4b1 : decide (60 < l0.length) = false := decide_eq_false (by omega)
      clear c4
      (first | rw [c4b0] | (simp only [i64_w, i32_w]; rw [c4b0]) | skip)
      have H' := Aside0.mk H
      clear H
      go_wp2
      go_meet
      case rel => exact ⟨_, (decide ((l1.length : Int) > 60)), (by first | rfl | (simp; done) | (simp [*]; done)), H', ⟨by first | omega | exact Nat.le_refl _⟩, ⟨by repeat (first | (with_reducible first | exact HB.out | apply below_alloc | apply pw_below_drewN | apply below_drew1) | exact HB.out)⟩⟩
  case rest =>
    clear HC3
    try clear c1
    try clear p2
    try clear c4
    try clear c4b0
    try clear c4b1
    obtain ⟨kq, x19_2, rfl, HA, HJ2, HB⟩ := hcut
    cases kq with
    | zero => exact absurd HA.out (by simp [edit_Shared.j0])
    | succ kj2 =>
      have H := HA.out
      clear HA
      simp only [edit_Shared.j0] at H
      by_cases c5 : x19_2 = true
      · subst c5
        have H1 : (some (([] : List Int), 1)) = some (r1, r2) := by rw [if_pos rfl] at H; exact H
        clear H
        have H := H1
        clear H1
        simp only [Option.some.injEq, Prod.mk.injEq] at H
        obtain ⟨rfl, rfl⟩ := H
        go_wp2
        go_ret2
        exact ⟨_, by first | rfl | (simp [errW_none, errW_some] <;> rfl) | (simp [*, errW_none, errW_some] <;> rfl), by first | exact Kd.R_nil _ _ _ _ _ | exact Kd.N_nil _ _ _ _ _ | exact Kd.V_nil _ _ _ _ _ | exact Kd.Q_nil _ _ _ _ _ | exact Kd.S_nil _ _ _ _ _ | (go_simp; exact Kd.R_nil _ _ _ _ _), by repeat (first | (with_reducible first | exact HB.out | apply below_alloc | apply pw_below_drewN | apply below_drew1) | exact HB.out)⟩
      · replace c5 := Bool.eq_false_iff.mpr c5
        subst c5
        have H1 : (if 0 ≤ (wrap64 ((l1.length : Int) + 1)) then (if (wrap64 ((l1.length : Int) + 1) : Int).toNat ≤ 11728124029610 then (edit_Shared.l0 kj2 l0 l1 (List.replicate (wrap64 ((l1.length : Int) + 1) : Int).toNat []) (wrap64 ((l0.length : Int) - 1))) else (none)) else (none)) = some (r1, r2) := by rw [if_neg (show ¬ (false = true) by decide)] at H; exact H
        clear H
        have H := H1
        clear H1
        obtain ⟨ji6, hji6⟩ : ∃ j_ : Int, (wrap64 ((l1.length : Int) + 1)) = j_ := ⟨_, rfl⟩
        replace H : (if 0 ≤ (ji6) then (if (ji6 : Int).toNat ≤ 11728124029610 then (edit_Shared.l0 kj2 l0 l1 (List.replicate (ji6 : Int).toNat []) (wrap64 ((l0.length : Int) - 1))) else (none)) else (none)) = some (r1, r2) := by first | (rw [hji6] at H; exact H) | (simp only [hji6] at H ⊢; exact H)
        have hji6w : (IntKind.i64.wrap ((l1.length : Int) + 1)) = ji6 := (i64_w _).trans hji6
        by_cases c7 : 0 ≤ (ji6)
        · rw [if_pos c7] at H
          have c7b0 := eq_true c7
          have c7b1 : decide (0 ≤ (ji6)) = true := decide_eq_true c7
          clear c7
          by_cases c8 : (ji6 : Int).toNat ≤ 11728124029610
          · rw [if_pos c8] at H
            have c8b0 := eq_true c8
            have c8b1 : decide ((ji6 : Int).toNat ≤ 11728124029610) = true := decide_eq_true c8
            clear c8
            obtain ⟨y102, hy102⟩ : ∃ y_ : List (List Int), y_ = (List.replicate (ji6 : Int).toNat []) := ⟨_, rfl⟩
            replace H : (edit_Shared.l0 kj2 l0 l1 y102 (wrap64 ((l0.length : Int) - 1))) = some (r1, r2) := by first | (rw [hy102]; with_reducible exact H) | (have H2_ := (Option.bind_some _ _).symm.trans H; rw [hy102]; with_reducible exact H2_) | (have H2_ := (Option.bind_some _ _).symm.trans H; with_reducible exact H2_) | with_reducible exact H | (rw [hy102]; exact H) | exact H
            have Ny102 := Aside0.mk hy102
            clear hy102
            have H' := Aside0.mk H
            clear H
            go_wp2_with (first | ((with_reducible refine gate_dst (N := 23) rfl ?_); (try (refine gate_guard (by rfl) ?_; dsimp only)); refine Kd.N_make (Kd.slice 5 (Kd.int .u8)) _ 22 rfl (N' := 23) rfl 28 _ _ rfl ji6 rfl rfl Try.underlying28 (.slice none 0 0) 24 info22 rfl (by decide) (by omega) [] (ok := fun k_ => wc.heap.size ≤ k_) (okp := fun _ => False) (Kd.FK_slice_mk (Nat.le_refl _) (Kd.F_nil _ _ _)) (fun _ hk => hk.elim) (Nat.le_refl _) (of_decide_eq_true (by first | (with_reducible assumption) | assumption)) (Nat.le_trans (Nat.mul_le_mul_right _ (of_decide_eq_true (by first | (with_reducible assumption) | assumption) : ji6.toNat ≤ 11728124029610)) (by omega)) (Below.refl _ _) (Nat.le_refl _) ?_; intro v103 w9 ho10 hb hg_ hnew_; clear hg_ hnew_; (first | rw [← Ny102.out] at ho10 | (simp only [Int.reduceToNat] at ho10; rw [← Ny102.out] at ho10)); have n0_ := Aside0.mk (Kd.N_lower (Kd.N_mono (ok' := fun k_ => True) ho10 (fun k_ hk_ => trivial)) (below_size (by repeat (first | (with_reducible first | exact HB.out | apply below_alloc | apply pw_below_drewN | apply below_drew1) | exact HB.out)))); have n1_ := Aside0.mk (below_step (by repeat (first | (with_reducible first | exact HB.out | apply below_alloc | apply pw_below_drewN | apply below_drew1) | exact HB.out)) hb); clear HB; have HO104 := n0_; have HB := n1_; clear n0_ n1_; clear hb ho10))
            go_loopg [6, 8] kj2 (fun kq v6 v8 w' => ∃ (x6_2 : List (List Int)) (x8_2 : Int), v8 = .int .i64 x8_2 ∧ Aside0 (edit_Shared.l0 kq l0 l1 x6_2 x8_2 = some (r1, r2)) ∧ Aside0 (kq ≤ kj2) ∧ Aside0 (Kd.N (Kd.slice 5 (Kd.int .u8)) 22 w' w.heap.size (fun _ => True) v6 x6_2) ∧ Aside0 (Below w.heap.size w w'))
            case atStart => exact ⟨(y102), (wrap64 ((l0.length : Int) - 1)), (by first | rfl | (simp; done) | (simp [*]; done)), H', ⟨Nat.le_refl _⟩, ⟨by (with_reducible repeat (first | apply Kd.N_alloc | apply Kd.N_drewN | apply Kd.N_drew)); exact HO104.out⟩, ⟨by repeat (first | (with_reducible first | exact HB.out | apply below_alloc | apply pw_below_drewN | apply below_drew1) | exact HB.out)⟩⟩
            case round =>
              clear H'
              try clear c1
              try clear p2
              try clear c4
              try clear c4b0
              try clear c4b1
              try clear c5
              try clear p6
              try clear c7
              try clear c7b0
              try clear c7b1
              try clear c8
              try clear c8b0
              try clear c8b1
              try clear p2
              obtain ⟨x6_2, x8_2, rfl, HA, HK2, HO_6, HB⟩ := hrel
              cases gk with
              | zero => exact absurd HA.out (by simp [edit_Shared.l0])
              | succ k2 =>
                have H := HA.out
                clear HA
                simp only [edit_Shared.l0] at H
                by_cases c11 : x8_2 ≥ 0
                · rw [if_pos c11] at H
                  have c11b0 : decide (0 ≤ x8_2) = true := decide_eq_true c11
                  clear c11
                  skip
                  replace H : (if 0 ≤ (ji6) then (if (ji6 : Int).toNat ≤ 11728124029610 then (edit_Shared.l1 k2 l0 l1 x6_2 x8_2 (List.replicate (ji6 : Int).toNat []) (wrap64 ((l1.length : Int) - 1))) else (none)) else (none)) = some (r1, r2) := by first | (rw [hji6] at H; exact H) | (simp only [hji6] at H ⊢; exact H)
                  skip
                  by_cases c13 : 0 ≤ (ji6)
                  · rw [if_pos c13] at H
                    have c13b0 := eq_true c13
                    have c13b1 : decide (0 ≤ (ji6)) = true := decide_eq_true c13
                    clear c13
                    by_cases c14 : (ji6 : Int).toNat ≤ 11728124029610
                    · rw [if_pos c14] at H
                      have c14b0 := eq_true c14
                      have c14b1 : decide ((ji6 : Int).toNat ≤ 11728124029610) = true := decide_eq_true c14
                      clear c14
                      obtain ⟨y109, hy109⟩ : ∃ y_ : List (List Int), y_ = (List.replicate (ji6 : Int).toNat []) := ⟨_, rfl⟩
                      replace H : (edit_Shared.l1 k2 l0 l1 x6_2 x8_2 y109 (wrap64 ((l1.length : Int) - 1))) = some (r1, r2) := by first | (rw [hy109]; with_reducible exact H) | (have H2_ := (Option.bind_some _ _).symm.trans H; rw [hy109]; with_reducible exact H2_) | (have H2_ := (Option.bind_some _ _).symm.trans H; with_reducible exact H2_) | with_reducible exact H | (rw [hy109]; exact H) | exact H
                      have Ny109 := Aside0.mk hy109
                      clear hy109
                      have H' := Aside0.mk H
                      clear H
                      go_wp2_with (first | ((with_reducible refine gate_dst (N := 34) rfl ?_); (try (refine gate_guard (by rfl) ?_; dsimp only)); refine Kd.N_make (Kd.slice 5 (Kd.int .u8)) _ 22 rfl (N' := 34) rfl 28 _ _ rfl ji6 rfl rfl Try.underlying28 (.slice none 0 0) 24 info22 rfl (by decide) (by omega) [] (ok := fun k_ => wr.heap.size ≤ k_) (okp := fun _ => False) (Kd.FK_slice_mk (Nat.le_refl _) (Kd.F_nil _ _ _)) (fun _ hk => hk.elim) (Nat.le_refl _) (of_decide_eq_true (by first | (with_reducible assumption) | assumption)) (Nat.le_trans (Nat.mul_le_mul_right _ (of_decide_eq_true (by first | (with_reducible assumption) | assumption) : ji6.toNat ≤ 11728124029610)) (by omega)) (Below.refl _ _) (Nat.le_refl _) ?_; intro v110 w15 ho16 hb hg_ hnew_; clear hg_ hnew_; (first | rw [← Ny109.out] at ho16 | (simp only [Int.reduceToNat] at ho16; rw [← Ny109.out] at ho16)); have n0_ := Aside0.mk (Kd.N_elder' (by (with_reducible repeat (first | apply Kd.N_alloc | apply Kd.N_drewN | apply Kd.N_drew)); exact HO_6.out) (Kd.N_base ho16) hb); have n1_ := Aside0.mk (Kd.N_lower (Kd.N_mono (ok' := fun k_ => some k_ ≠ (u6 : Value).ownBlock) ho16 (fun k_ hk_ => (Kd.fresh' (Kd.N_lt (by (with_reducible repeat (first | apply Kd.N_alloc | apply Kd.N_drewN | apply Kd.N_drew)); exact HO_6.out)) k_ hk_))) (below_size (by repeat (first | (with_reducible first | exact HB.out | apply below_alloc | apply pw_below_drewN | apply below_drew1) | exact HB.out)))); have n2_ := Aside0.mk (below_step (by repeat (first | (with_reducible first | exact HB.out | apply below_alloc | apply pw_below_drewN | apply below_drew1) | exact HB.out)) hb); clear HO_6; clear HB; have HO_6 := n0_; have HO111 := n1_; have HB := n2_; clear n0_ n1_ n2_; clear hb ho16))
                      go_loopg [10] k2 (fun kq v10 w' => ∃ (x9_3 : List (List Int)) (x10_3 : Int), v10 = .int .i64 x10_3 ∧ Aside0 (edit_Shared.l1 kq l0 l1 x6_2 x8_2 x9_3 x10_3 = some (r1, r2)) ∧ Aside0 (kq ≤ k2) ∧ Aside0 (Kd.N (Kd.slice 5 (Kd.int .u8)) 22 w' w.heap.size (fun k_ => some k_ ≠ (v110 : Value).ownBlock) u6 x6_2) ∧ Aside0 (Kd.N (Kd.slice 5 (Kd.int .u8)) 22 w' w.heap.size (fun k_ => some k_ ≠ (u6 : Value).ownBlock) v110 x9_3) ∧ Aside0 (Below w.heap.size w w'))
                      case atStart => exact ⟨(y109), (wrap64 ((l1.length : Int) - 1)), (by first | rfl | (simp; done) | (simp [*]; done)), H', ⟨Nat.le_refl _⟩, ⟨by (with_reducible repeat (first | apply Kd.N_alloc | apply Kd.N_drewN | apply Kd.N_drew)); exact Kd.N_mono HO_6.out (fun _ hk => hk.2)⟩, ⟨by (with_reducible repeat (first | apply Kd.N_alloc | apply Kd.N_drewN | apply Kd.N_drew)); exact HO111.out⟩, ⟨by repeat (first | (with_reducible first | exact HB.out | apply below_alloc | apply pw_below_drewN | apply below_drew1) | exact HB.out)⟩⟩
                      case round =>
                        clear H'
                        try clear c1
                        try clear p2
                        try clear c4
                        try clear c4b0
                        try clear c4b1
                        try clear c5
                        try clear p6
                        try clear c7
                        try clear c7b0
                        try clear c7b1
                        try clear c8
                        try clear c8b0
                        try clear c8b1
                        try clear c11
                        try clear c11b0
                        try clear c13
                        try clear c13b0
                        try clear c13b1
                        try clear c14
                        try clear c14b0
                        try clear c14b1
                        try clear p2
                        try clear p6
                        obtain ⟨x9_3, x10_3, rfl, HA, HK3, HO_6, HO_9, HB⟩ := hrel
                        cases gk with
                        | zero => exact absurd HA.out (by simp [edit_Shared.l1])
                        | succ k3 =>
                          have H := HA.out
                          clear HA
                          simp only [edit_Shared.l1] at H
                          by_cases c17 : x10_3 ≥ 0
                          · rw [if_pos c17] at H
                            have c17b0 : decide (0 ≤ x10_3) = true := decide_eq_true c17
                            clear c17
                            obtain ⟨ji18, hji18⟩ : ∃ j_ : Int, (wrap64 (x10_3 + 1)) = j_ := ⟨_, rfl⟩
                            replace H : (if 0 ≤ (ji18) then (if (ji18) < (x9_3.length : Int) then (if 0 ≤ x10_3 then (if x10_3 < (x9_3.length : Int) then ((some (x9_3.set (x10_3 : Int).toNat (rd_L1 x9_3 (ji18)) : List (List Int))).bind fun y113 => (if x10_3 < (x6_2.length : Int) then ((edit_Shared_1.f (rd_L1 x6_2 x10_3) (rd_L1 y113 x10_3)).bind fun t116 => (if t116 = true then (edit_Shared.j3 k3 l0 l1 x6_2 x8_2 (y113.set (x10_3 : Int).toNat (rd_L1 x6_2 x10_3)) x10_3) else (edit_Shared.j3 k3 l0 l1 x6_2 x8_2 y113 x10_3))) else (none))) else (none)) else (none)) else (none)) else (none)) = some (r1, r2) := by first | (rw [hji18] at H; exact H) | (simp only [hji18] at H ⊢; exact H)
                            have hji18w : (IntKind.i64.wrap (x10_3 + 1)) = ji18 := (i64_w _).trans hji18
                            by_cases c19 : 0 ≤ (ji18)
                            · rw [if_pos c19] at H
                              have c19b0 : decide (0 ≤ (ji18)) = true := decide_eq_true c19
                              clear c19
                              by_cases c20 : (ji18) < (x9_3.length : Int)
                              · rw [if_pos c20] at H
                                have c20b0 : decide ((ji18) < (x9_3.length : Int)) = true := decide_eq_true c20
                                clear c20
                                by_cases c21 : 0 ≤ x10_3
                                · rw [if_pos c21] at H
                                  have c21b0 : decide (0 ≤ x10_3) = true := decide_eq_true c21
                                  clear c21
                                  by_cases c22 : x10_3 < (x9_3.length : Int)
                                  · rw [if_pos c22] at H
                                    have c22b0 : decide (x10_3 < (x9_3.length : Int)) = true := decide_eq_true c22
                                    clear c22
                                    obtain ⟨y113, hy113⟩ : ∃ y_ : List (List Int), y_ = (x9_3.set (x10_3 : Int).toNat (rd_L1 x9_3 (ji18))) := ⟨_, rfl⟩
                                    replace H : (if x10_3 < (x6_2.length : Int) then ((edit_Shared_1.f (rd_L1 x6_2 x10_3) (rd_L1 y113 x10_3)).bind fun t116 => (if t116 = true then (edit_Shared.j3 k3 l0 l1 x6_2 x8_2 (y113.set (x10_3 : Int).toNat (rd_L1 x6_2 x10_3)) x10_3) else (edit_Shared.j3 k3 l0 l1 x6_2 x8_2 y113 x10_3))) else (none)) = some (r1, r2) := by first | (rw [hy113]; with_reducible exact H) | (have H2_ := (Option.bind_some _ _).symm.trans H; rw [hy113]; with_reducible exact H2_) | (have H2_ := (Option.bind_some _ _).symm.trans H; with_reducible exact H2_) | with_reducible exact H | (rw [hy113]; exact H) | exact H
                                    have Ny113 := Aside0.mk hy113
                                    clear hy113
                                    by_cases c24 : x10_3 < (x6_2.length : Int)
                                    · rw [if_pos c24] at H
                                      have c24b0 : decide (x10_3 < (x6_2.length : Int)) = true := decide_eq_true c24
                                      clear c24
                                      replace H := Option.bind_eq_some_iff.mp H
                                      obtain ⟨t116, A250, H⟩ := H
                                      replace H : (if t116 = true then (edit_Shared.j3 k3 l0 l1 x6_2 x8_2 (y113.set (x10_3 : Int).toNat (rd_L1 x6_2 x10_3)) x10_3) else (edit_Shared.j3 k3 l0 l1 x6_2 x8_2 y113 x10_3)) = some (r1, r2) := H
                                      have A25 := Aside0.mk A250
                                      clear A250
                                      have HC26 := Aside0.mk H
                                      clear H
                                      obtain ⟨Ao27, co27, eo27⟩ := Kd.N_slice HO_9.out
                                      subst eo27
                                      have p112 : 0 ≤ ((ji18) : Int) := of_decide_eq_true (by first | (with_reducible assumption) | assumption)
                                      have q112 : (ji18) < (x9_3.length : Int) := of_decide_eq_true (by first | (with_reducible assumption) | assumption)
                                      obtain ⟨ad112, A112_0, c112_0, e112, hx112_0, hl112_0, hi112_0⟩ := at_L1 (Kd.N_reads' HO_9.out).2.2 (ji18) p112 q112
                                      cases e112
                                      obtain ⟨ce112, hce112, hMe112, hcc112⟩ := Kd.N_get HO_9.out [] (ji18) p112 (by first | exact q112 | exact of_decide_eq_true (by first | (with_reducible assumption) | assumption) | (have e_ := (Kd.N_reads' HO_9.out).1; omega))
                                      obtain ⟨ua112_0, uc112_0, rfl, ul112_0, ge112_0⟩ := Kd.FK_slice_open hMe112
                                      have hv112_0 := hcc112 0 _ rfl
                                      rw [Nat.add_zero, show ((Kd.slice 5 (Kd.int .u8))).sz = 1 from rfl, Nat.mul_one] at hv112_0
                                      replace hv112_0 := Option.some.inj (hv112_0.symm.trans hx112_0)
                                      injection hv112_0 with hva_ hvn_ hvc_
                                      rw [hva_] at ge112_0
                                      rw [hvc_] at ul112_0
                                      have HL112_0 := Aside0.mk (show Kd.V (Kd.int .u8) 5 _ w.heap.size _ _ (rd_L1 x9_3 (ji18)) from Kd.V_mk ul112_0 ge112_0)
                                      clear hva_ hvn_ hvc_ ge112_0 ul112_0
                                      clear hcc112 hce112
                                      have HR112_0 := Aside0.mk hi112_0
                                      have HC112_0 := Aside0.mk hl112_0
                                      clear hi112_0 hl112_0
                                      replace p112 := eq_true p112
                                      replace q112 := eq_true q112
                                      have p23 : 0 ≤ (x10_3 : Int) := of_decide_eq_true (by first | (with_reducible assumption) | assumption)
                                      have q23 : (x10_3 : Int) < ((x9_3.length : Int) : Int) := of_decide_eq_true (by first | (with_reducible assumption) | assumption)
                                      obtain ⟨go23, co23, eo23, gb23, gl23, cl23, HG23⟩ := Kd.N_form HO_9.out (by omega)
                                      (first | cases eo23 | (injection eo23 with ea_ en_ ec_; (first | subst ea_ | (injection ea_ with ea_; subst ea_)); subst ec_; clear en_))
                                      have GB23 := Aside0.mk gb23
                                      have GG23 := Aside0.mk HG23
                                      clear gb23 gl23 HG23
                                      (first | simp only [add_plain] at hx112_0 | skip)
                                      obtain ⟨ce23, hcl23, hM23, hcc23, hfr23⟩ := Kd.N_elem HO_9.out [] (x10_3 : Int) p23 q23
                                      obtain ⟨ua23_0, uc23_0, rfl, ul23_0, ge23_0⟩ := Kd.FK_slice_open hM23
                                      have hx23_0 := hcc23 0 _ rfl
                                      have hf23_0 := hfr23 0
                                      (try simp only [show ((Kd.slice 5 (Kd.int .u8))).sz = 1 from rfl, Nat.mul_one, Nat.add_zero] at hx23_0)
                                      (try simp only [show ((Kd.slice 5 (Kd.int .u8))).sz = 1 from rfl, Nat.mul_one, Nat.add_zero] at hf23_0)
                                      (try clear hcl23); (try clear hcc23); (try clear hfr23); (try clear hM23)
                                      replace p23 := eq_true p23
                                      replace q23 := eq_true q23
                                      have HX28 := Aside0.mk (show Kd.N (Kd.slice 5 (Kd.int .u8)) 22 wr w.heap.size (fun k_ => some k_ ≠ (u6 : Value).ownBlock) (.slice (some ⟨go23, 0, none⟩) x9_3.length co27) x9_3 from (by (with_reducible repeat (first | apply Kd.N_alloc | apply Kd.N_drewN | apply Kd.N_drew)); exact HO_9.out))
                                      obtain ⟨ce28, hcl28, hM28, hcc28, hfr28⟩ := Kd.N_elem HX28.out [] (x10_3 : Int) (of_decide_eq_true (by first | (with_reducible assumption) | assumption)) (by have h_ : (x10_3 : Int) < ((x9_3.length : Int) : Int) := of_decide_eq_true (by first | (with_reducible assumption) | assumption); first | exact h_ | (have e_ := (Kd.N_reads' HO_9.out).1; omega) | simpa using h_)
                                      obtain ⟨ua28_0, uc28_0, rfl, ul28_0, ge28_0⟩ := Kd.FK_slice_open hM28
                                      have HP28 := Kd.N_seg HX28.out (x10_3 : Int) (of_decide_eq_true (by first | (with_reducible assumption) | assumption)) (by have h_ : (x10_3 : Int) < ((x9_3.length : Int) : Int) := of_decide_eq_true (by first | (with_reducible assumption) | assumption); first | exact h_ | (have e_ := (Kd.N_reads' HO_9.out).1; omega) | simpa using h_) (seg := [.slice A112_0 (rd_L1 x9_3 (ji18)).length c112_0]) (j := 0) hcl28 hcc28 (show 1 ≤ 1 from by decide) (x' := rd_L1 x9_3 (ji18)) (Kd.FK_slice_mk (Kd.V_reads' (Kd.V_mono (ok' := (fun k_ => ((fun k_ => some k_ ≠ (u6 : Value).ownBlock)) k_ ∧ k_ ≠ go23)) (HL112_0.out) (fun k_ hk => ⟨hk.1, fun e_ => (hk.2) (by rw [e_]; rfl)⟩))).2.1 (Kd.V_F (Kd.V_mono (ok' := (fun k_ => ((fun k_ => some k_ ≠ (u6 : Value).ownBlock)) k_ ∧ k_ ≠ go23)) (HL112_0.out) (fun k_ hk => ⟨hk.1, fun e_ => (hk.2) (by rw [e_]; rfl)⟩)))) (fun _ hk => hk)
                                      have hx28_0 := hcc28 0 _ rfl
                                      (try simp only [show ((Kd.slice 5 (Kd.int .u8))).sz = 1 from rfl, Nat.mul_one, Nat.add_zero] at hx28_0)
                                      have hf28_0 := hfr28 0
                                      (try simp only [show ((Kd.slice 5 (Kd.int .u8))).sz = 1 from rfl, Nat.mul_one, Nat.add_zero] at hf28_0)
                                      (try clear hcl28); (try clear hcc28); (try clear hfr28); (try clear hM28)
                                      (try simp only [show ((Kd.slice 5 (Kd.int .u8))).sz = 1 from rfl, Nat.mul_one, Nat.add_zero] at HP28)
                                      (try simp only [show ((Kd.slice 5 (Kd.int .u8))).sz = 1 from rfl, Nat.mul_one, Nat.add_zero] at HP28)
                                      try go_wp2_with (first | ((with_reducible refine gate_store (t := 22) (p := 49) rfl ?_); (try (rw [drewN_self wr]; generalize hq_ : World.drewN wr _ = wr; (try (have nx_ := Aside0.mk (Kd.N_at hq_ HO_6.out); clear HO_6; have HO_6 := nx_; clear nx_)); (try (have nx_ := Aside0.mk (Kd.N_at hq_ HO_9.out); clear HO_9; have HO_9 := nx_; clear nx_)); (try (have nx_ := Aside0.mk (Kd.V_map (base' := w.heap.size) HL112_0.out (fun _ hf_ => Kd.F_at hq_ hf_)); clear HL112_0; have HL112_0 := nx_; clear nx_)); (try (have nx_ := Aside0.mk (below_at hq_ HB.out); clear HB; have HB := nx_; clear nx_)); (try clear hq_); (try (have HX28 := Aside0.mk (show Kd.N (Kd.slice 5 (Kd.int .u8)) 22 wr w.heap.size (fun k_ => some k_ ≠ (u6 : Value).ownBlock) (.slice (some ⟨go23, 0, none⟩) x9_3.length co27) x9_3 from (by (with_reducible repeat (first | apply Kd.N_alloc | apply Kd.N_drewN | apply Kd.N_drew)); exact HO_9.out)))); (try (obtain ⟨ce28, hcl28, hM28, hcc28, hfr28⟩ := Kd.N_elem HX28.out [] (x10_3 : Int) (of_decide_eq_true (by first | (with_reducible assumption) | assumption)) (by have h_ : (x10_3 : Int) < ((x9_3.length : Int) : Int) := of_decide_eq_true (by first | (with_reducible assumption) | assumption); first | exact h_ | (have e_ := (Kd.N_reads' HO_9.out).1; omega) | simpa using h_))); (try (obtain ⟨ua28_0, uc28_0, rfl, ul28_0, ge28_0⟩ := Kd.FK_slice_open hM28)); (try (have HP28 := Kd.N_seg HX28.out (x10_3 : Int) (of_decide_eq_true (by first | (with_reducible assumption) | assumption)) (by have h_ : (x10_3 : Int) < ((x9_3.length : Int) : Int) := of_decide_eq_true (by first | (with_reducible assumption) | assumption); first | exact h_ | (have e_ := (Kd.N_reads' HO_9.out).1; omega) | simpa using h_) (seg := [.slice A112_0 (rd_L1 x9_3 (ji18)).length c112_0]) (j := 0) hcl28 hcc28 (show 1 ≤ 1 from by decide) (x' := rd_L1 x9_3 (ji18)) (Kd.FK_slice_mk (Kd.V_reads' (Kd.V_mono (ok' := (fun k_ => ((fun k_ => some k_ ≠ (u6 : Value).ownBlock)) k_ ∧ k_ ≠ go23)) (HL112_0.out) (fun k_ hk => ⟨hk.1, fun e_ => (hk.2) (by rw [e_]; rfl)⟩))).2.1 (Kd.V_F (Kd.V_mono (ok' := (fun k_ => ((fun k_ => some k_ ≠ (u6 : Value).ownBlock)) k_ ∧ k_ ≠ go23)) (HL112_0.out) (fun k_ hk => ⟨hk.1, fun e_ => (hk.2) (by rw [e_]; rfl)⟩)))) (fun _ hk => hk))); (try (have hx28_0 := hcc28 0 _ rfl)); (try (try simp only [show ((Kd.slice 5 (Kd.int .u8))).sz = 1 from rfl, Nat.mul_one, Nat.add_zero] at hx28_0)); (try (have hf28_0 := hfr28 0)); (try (try simp only [show ((Kd.slice 5 (Kd.int .u8))).sz = 1 from rfl, Nat.mul_one, Nat.add_zero] at hf28_0)); (try (try clear hcl28); (try clear hcc28); (try clear hfr28); (try clear hM28)); (try (try simp only [show ((Kd.slice 5 (Kd.int .u8))).sz = 1 from rfl, Nat.mul_one, Nat.add_zero] at HP28)); (try (try simp only [show ((Kd.slice 5 (Kd.int .u8))).sz = 1 from rfl, Nat.mul_one, Nat.add_zero] at HP28)))); refine store_event (t := 22) (p := 49) (v := ?vo_w29) (w1 := (wr.setCell ⟨go23, (x10_3 : Int).toNat, none⟩ (.slice A112_0 (rd_L1 x9_3 (ji18)).length c112_0))) ?hg ?ho ?hn ?hr ?_; (case ho => rfl); (case hg => rfl); (case hn => rfl); (case hr => first | (go_simp; done) | (go_simp; rfl)); intro w29 hw; have hg : wr.grownBy w29 (some go23) := (by rw [hw]; exact HP28.2); have hp_ : Kd.N (Kd.slice 5 (Kd.int .u8)) 22 w29 w.heap.size (fun k_ => some k_ ≠ (u6 : Value).ownBlock) (.slice (some ⟨go23, 0, none⟩) x9_3.length co27) y113 := (by rw [hw, Ny113.out]; exact HP28.1); clear HP28; have n0_ := Aside0.mk (Kd.N_afterv (v := (.slice (some ⟨go23, 0, none⟩) x9_3.length co27)) (v1 := (.slice (some ⟨go23, 0, none⟩) x9_3.length co27)) (ok := (fun _ => True)) (by (with_reducible repeat (first | apply Kd.N_alloc | apply Kd.N_drewN | apply Kd.N_drew)); exact Kd.N_mono HO_6.out (fun _ hk => ⟨trivial, hk⟩)) hg (.inl rfl)); have n1_ := Aside0.mk (hp_); have n2_ := Aside0.mk (Kd.V_afterv (v := (.slice (some ⟨go23, 0, none⟩) x9_3.length co27)) (v1 := (.slice (some ⟨go23, 0, none⟩) x9_3.length co27)) (ok := (fun k_ => some k_ ≠ (u6 : Value).ownBlock)) (by (with_reducible repeat (first | apply Kd.V_alloc | apply Kd.V_drewN | apply Kd.V_drew)); exact HL112_0.out) hg (.inl rfl)); have n3_ := Aside0.mk ((by rw [hw]; exact below_set (HB.out) GB23.out : Below w.heap.size w w29)); clear HO_6; clear HO_9; clear HL112_0; clear HB; have HO_6 := n0_; have HO_9 := n1_; have HL112_0 := n2_; have HB := n3_; clear n0_ n1_ n2_ n3_; clear hg hw hp_))
                                      have n0_ := Aside0.mk (Kd.N_drew HO_6.out)
                                      have n1_ := Aside0.mk (Kd.N_drew HO_9.out)
                                      have n2_ := Aside0.mk (Kd.V_drew HL112_0.out)
                                      have n3_ := Aside0.mk (below_drew1 HB.out)
                                      clear HO_6
                                      clear HO_9
                                      clear HL112_0
                                      clear HB
                                      have HO_6 := n0_
                                      have HO_9 := n1_
                                      have HL112_0 := n2_
                                      have HB := n3_
                                      clear n0_ n1_ n2_ n3_
                                      obtain ⟨Ao31, co31, eo31⟩ := Kd.N_slice HO_6.out
                                      (first | subst eo31 | (injection eo31 with f1_ f2_ f3_; have f4_ := f1_.symm; have f5_ := f3_.symm; clear f1_ f2_ f3_; subst f4_; subst f5_))
                                      have p114 : 0 ≤ (x10_3 : Int) := of_decide_eq_true (by first | (with_reducible assumption) | assumption)
                                      have q114 : x10_3 < (x6_2.length : Int) := of_decide_eq_true (by first | (with_reducible assumption) | assumption)
                                      obtain ⟨ad114, A114_0, c114_0, e114, hx114_0, hl114_0, hi114_0⟩ := at_L1 (Kd.N_reads' HO_6.out).2.2 x10_3 p114 q114
                                      cases e114
                                      obtain ⟨ce114, hce114, hMe114, hcc114⟩ := Kd.N_get HO_6.out [] x10_3 p114 (by first | exact q114 | exact of_decide_eq_true (by first | (with_reducible assumption) | assumption) | (have e_ := (Kd.N_reads' HO_6.out).1; omega))
                                      obtain ⟨ua114_0, uc114_0, rfl, ul114_0, ge114_0⟩ := Kd.FK_slice_open hMe114
                                      have hv114_0 := hcc114 0 _ rfl
                                      rw [Nat.add_zero, show ((Kd.slice 5 (Kd.int .u8))).sz = 1 from rfl, Nat.mul_one] at hv114_0
                                      replace hv114_0 := Option.some.inj (hv114_0.symm.trans hx114_0)
                                      injection hv114_0 with hva_ hvn_ hvc_
                                      rw [hva_] at ge114_0
                                      rw [hvc_] at ul114_0
                                      have HL114_0 := Aside0.mk (show Kd.V (Kd.int .u8) 5 _ w.heap.size _ _ (rd_L1 x6_2 x10_3) from Kd.V_mk ul114_0 ge114_0)
                                      clear hva_ hvn_ hvc_ ge114_0 ul114_0
                                      clear hcc114 hce114
                                      have HR114_0 := Aside0.mk hi114_0
                                      have HC114_0 := Aside0.mk hl114_0
                                      clear hi114_0 hl114_0
                                      replace p114 := eq_true p114
                                      replace q114 := eq_true q114
                                      have p115 : 0 ≤ (x10_3 : Int) := of_decide_eq_true (by first | (with_reducible assumption) | assumption)
                                      have q115 : x10_3 < (y113.length : Int) := (by have h_ : (x10_3 : Int) < ((x9_3.length : Int) : Int) := of_decide_eq_true (by first | (with_reducible assumption) | assumption); first | (have e_ := (Kd.N_reads' HO_9.out).1; omega) | simpa only [Ny113.out, List.length_set] using h_)
                                      have ql115 : ((x10_3 : Int) < ((x9_3.length : Int) : Int)) = True := eq_true (of_decide_eq_true (by first | (with_reducible assumption) | assumption))
                                      obtain ⟨ad115, A115_0, c115_0, e115, hx115_0, hl115_0, hi115_0⟩ := at_L1 (Kd.N_reads' HO_9.out).2.2 x10_3 p115 q115
                                      obtain rfl : (⟨go23, 0, none⟩ : Addr) = ad115 := (by injection e115)
                                      obtain ⟨ce115, hce115, hMe115, hcc115⟩ := Kd.N_get HO_9.out [] x10_3 p115 (by first | exact q115 | exact of_decide_eq_true (by first | (with_reducible assumption) | assumption) | (have e_ := (Kd.N_reads' HO_9.out).1; omega))
                                      obtain ⟨ua115_0, uc115_0, rfl, ul115_0, ge115_0⟩ := Kd.FK_slice_open hMe115
                                      have hv115_0 := hcc115 0 _ rfl
                                      rw [Nat.add_zero, show ((Kd.slice 5 (Kd.int .u8))).sz = 1 from rfl, Nat.mul_one] at hv115_0
                                      replace hv115_0 := Option.some.inj (hv115_0.symm.trans hx115_0)
                                      injection hv115_0 with hva_ hvn_ hvc_
                                      rw [hva_] at ge115_0
                                      rw [hvc_] at ul115_0
                                      have HL115_0 := Aside0.mk (show Kd.V (Kd.int .u8) 5 _ w.heap.size _ _ (rd_L1 y113 x10_3) from Kd.V_mk ul115_0 ge115_0)
                                      clear hva_ hvn_ hvc_ ge115_0 ul115_0
                                      clear hcc115 hce115
                                      (first | simp only [add_plain] at hx115_0 | simp only [add_at] at hx115_0 | simp only [Addr.add, Nat.zero_add] at hx115_0 | skip)
                                      have HR115_0 := Aside0.mk hi115_0
                                      have HC115_0 := Aside0.mk hl115_0
                                      clear hi115_0 hl115_0
                                      replace p115 := eq_true p115
                                      replace q115 := eq_true q115
                                      refine start_ (n := 10) (S := fun w' => w'.cell? (ad114.add (x10_3).toNat) = some (.slice A114_0 (rd_L1 x6_2 x10_3).length c114_0) ∧ w'.cell? ⟨go23, (x10_3).toNat, none⟩ = some (.slice A115_0 (rd_L1 y113 x10_3).length c115_0)) (ds := []) #[false, false, false, false, false, false, false, false, false, false] (by kernel_rfl) rfl rfl ⟨hx114_0, hx115_0⟩ (fun hHeld => ?_); refine with_tabW edit_Shared.tab13 edit_Shared.bits13 (fun HT_ HW_ => ?_)
                                      generalize w29.drew = w30 at HO_6 HO_9 HL112_0 HB HL114_0 HL115_0 HR114_0 HR115_0 hx114_0 hx115_0 hHeld ⊢
                                      refine pure_ (i := 0) (N := some 50) (v := ?_) (a' := ?_) #[true, false, false, false, false, false, false, false, false, false] rfl rfl (any_of HT_.out (by kernel_rfl)) (fun _ _ _ h => h) (Or.inl ⟨by rfl, ?_⟩) ?_ ?_
                                      rotate_left
                                      · intro w'
                                        go_simp
                                        with_reducible rfl
                                      rotate_left
                                      · simp only [Act.put, List.setIfInBounds_toArray, List.set_cons_zero, List.set_cons_succ, i64_w, i32_w]
                                        rfl
                                      refine pure_ (i := 1) (N := some 51) (v := ?_) (a' := ?_) #[true, true, false, false, false, false, false, false, false, false] rfl rfl (any_of HT_.out (by kernel_rfl)) (fun _ _ _ h => h) (Or.inl ⟨by rfl, ?_⟩) ?_ ?_
                                      rotate_left
                                      · intro w'
                                        go_simp
                                        with_reducible rfl
                                      rotate_left
                                      · simp only [Act.put, List.setIfInBounds_toArray, List.set_cons_zero, List.set_cons_succ, i64_w, i32_w]
                                        rfl
                                      refine pure_ (i := 2) (N := some 52) (v := ?_) (a' := ?_) #[true, true, true, false, false, false, false, false, false, false] rfl rfl (any_of HT_.out (by kernel_rfl)) (fun _ _ _ h => h) (Or.inl ⟨by rfl, ?_⟩) ?_ ?_
                                      rotate_left
                                      · intro w'
                                        go_simp
                                        with_reducible rfl
                                      rotate_left
                                      · simp only [Act.put, List.setIfInBounds_toArray, List.set_cons_zero, List.set_cons_succ, i64_w, i32_w]
                                        rfl
                                      refine pure_ (i := 3) (N := some 53) (v := ?_) (a' := ?_) #[true, true, true, true, false, false, false, false, false, false] rfl rfl (any_of HT_.out (by kernel_rfl)) (fun _ _ _ h => h) (Or.inl ⟨by rfl, ?_⟩) ?_ ?_
                                      rotate_left
                                      · intro w'
                                        go_simp
                                        with_reducible rfl
                                      rotate_left
                                      · simp only [Act.put, List.setIfInBounds_toArray, List.set_cons_zero, List.set_cons_succ, i64_w, i32_w]
                                        rfl
                                      refine pure_ (i := 5) (N := some 55) (v := ?_) (a' := ?_) #[true, true, true, true, false, true, false, false, false, false] rfl rfl (any_of HT_.out (by kernel_rfl)) (fun _ _ _ h => h) (Or.inl ⟨by rfl, ?_⟩) ?_ ?_
                                      rotate_left
                                      · intro w'
                                        go_simp
                                        with_reducible rfl
                                      rotate_left
                                      · simp only [Act.put, List.setIfInBounds_toArray, List.set_cons_zero, List.set_cons_succ, i64_w, i32_w]
                                        rfl
                                      refine pure_ (i := 6) (N := some 56) (v := ?_) (a' := ?_) #[true, true, true, true, false, true, true, false, false, false] rfl rfl (any_of HT_.out (by kernel_rfl)) (fun _ _ _ h => h) (Or.inl ⟨by rfl, ?_⟩) ?_ ?_
                                      rotate_left
                                      · intro w'
                                        go_simp
                                        with_reducible rfl
                                      rotate_left
                                      · simp only [Act.put, List.setIfInBounds_toArray, List.set_cons_zero, List.set_cons_succ, i64_w, i32_w]
                                        rfl
                                      refine pure_ (i := 7) (N := some 57) (v := ?_) (a' := ?_) #[true, true, true, true, false, true, true, true, false, false] rfl rfl (any_of HT_.out (by kernel_rfl)) (fun _ _ _ h => h) (Or.inl ⟨by rfl, ?_⟩) ?_ ?_
                                      rotate_left
                                      · intro w'
                                        go_simp
                                        with_reducible rfl
                                      rotate_left
                                      · simp only [Act.put, List.setIfInBounds_toArray, List.set_cons_zero, List.set_cons_succ, i64_w, i32_w]
                                        rfl
                                      refine take_ (i := 4) (N := some 54) (v := ?_) (a' := ?_) #[true, true, true, true, true, true, true, true, false, false] rfl rfl (take_ofW HT_.out HW_.out (by kernel_rfl)) (fun _ _ _ h => h) (Or.inl ⟨by rfl, ?_⟩) hHeld ?_ ?_
                                      rotate_left
                                      · rintro w' ⟨s0, s1⟩
                                        go_simp
                                        with_reducible rfl
                                      rotate_left
                                      · simp only [Act.put, List.setIfInBounds_toArray, List.set_cons_zero, List.set_cons_succ, i64_w, i32_w]
                                        rfl
                                      refine take_ (i := 8) (N := some 58) (v := ?_) (a' := ?_) #[true, true, true, true, true, true, true, true, true, false] rfl rfl (take_ofW HT_.out HW_.out (by kernel_rfl)) (fun _ _ _ h => h) (Or.inl ⟨by rfl, ?_⟩) hHeld ?_ ?_
                                      rotate_left
                                      · rintro w' ⟨s0, s1⟩
                                        go_simp
                                        with_reducible rfl
                                      rotate_left
                                      · simp only [Act.put, List.setIfInBounds_toArray, List.set_cons_zero, List.set_cons_succ, i64_w, i32_w]
                                        rfl
                                      refine one_ (i := 9) (N := some 59) #[true, true, true, true, true, true, true, true, true, true] rfl rfl (one_of HT_.out (by kernel_rfl)) (by decide) (fun K hK => ?_)
                                      refine edit_Shared.goesC_ Try.func7 (by kernel_rfl) rfl #[] #[.slice A114_0 (rd_L1 x6_2 x10_3).length c114_0, .slice A115_0 (rd_L1 y113 x10_3).length c115_0] (by rfl) rfl rfl (by first | rfl | (go_simp; rfl)) (by first | (simp only [List.map_toArray, List.map_cons, List.map_nil, List.append_toArray, List.cons_append, List.nil_append]; rfl) | rfl) ?_
                                      with_reducible refine (edit_Shared_1.calls _ _ (rd_L1 x6_2 x10_3) _ _ (rd_L1 y113 x10_3) t116 _ ?side1 ?side2 ?side3 ?side4 A25.out).mono ?_
                                      (case side1 => repeat (first | exact (by repeat (first | (with_reducible exact HR114_0.out) | (with_reducible refine Kd.C_alloc ?_ _) | (with_reducible refine Kd.C_drewN ?_ _) | (with_reducible refine Kd.C_drew ?_) | exact HR114_0.out)) | (with_reducible refine Kd.C_alloc ?_ _) | (with_reducible refine Kd.C_drewN ?_ _) | (with_reducible refine Kd.C_drew ?_)))
                                      (case side2 => exact HC114_0.out)
                                      (case side3 => repeat (first | exact (by repeat (first | (with_reducible exact HR115_0.out) | (with_reducible refine Kd.C_alloc ?_ _) | (with_reducible refine Kd.C_drewN ?_ _) | (with_reducible refine Kd.C_drew ?_) | exact HR115_0.out)) | (with_reducible refine Kd.C_alloc ?_ _) | (with_reducible refine Kd.C_drewN ?_ _) | (with_reducible refine Kd.C_drew ?_)))
                                      (case side4 => exact HC115_0.out)
                                      rintro e w' ⟨rfl, ⟨nd, rfl⟩⟩
                                      refine ⟨_, rfl, ?_⟩
                                      refine hK.out _ _ ⟨hHeld.1, hHeld.2⟩ (fun hHeld => ?_)
                                      clear hK K
                                      refine norm_ (a' := ?_) ?_ ?_
                                      rotate_left
                                      · show Act.put _ (some 59) _ = _
                                        simp only [Act.put, List.setIfInBounds_toArray, List.set_cons_zero, List.set_cons_succ, i64_w, i32_w]
                                        rfl
                                      refine done_ (done_of HT_.out (by kernel_rfl)) ?_
                                      go_upto_if 59 with (fail)
                                      go_cut [] (fun wc => ∃ (kq : Nat) (x9_25 : List (List Int)), Aside0 (edit_Shared.j3 kq l0 l1 x6_2 x8_2 x9_25 x10_3 = some (r1, r2)) ∧ Aside0 (kq ≤ k3) ∧ Aside0 (Kd.N (Kd.slice 5 (Kd.int .u8)) 22 wc w.heap.size (fun k_ => some k_ ≠ ((.slice (some ⟨go23, 0, none⟩) x9_3.length co27) : Value).ownBlock) (.slice (some ad114) x6_2.length co31) x6_2) ∧ Aside0 (Kd.N (Kd.slice 5 (Kd.int .u8)) 22 wc w.heap.size (fun k_ => some k_ ≠ ((.slice (some ad114) x6_2.length co31) : Value).ownBlock) (.slice (some ⟨go23, 0, none⟩) x9_3.length co27) x9_25) ∧ Aside0 (Below w.heap.size w wc))
                                      case first =>
                                        have H := HC26.out
                                        clear HC26
                                        by_cases c32 : t116 = true
                                        · subst c32
                                          have H1 : (edit_Shared.j3 k3 l0 l1 x6_2 x8_2 (y113.set (x10_3 : Int).toNat (rd_L1 x6_2 x10_3)) x10_3) = some (r1, r2) := by rw [if_pos rfl] at H; exact H
                                          clear H
                                          have H := H1
                                          clear H1
                                          obtain ⟨y118, hy118⟩ : ∃ y_ : List (List Int), y_ = (y113.set (x10_3 : Int).toNat (rd_L1 x6_2 x10_3)) := ⟨_, rfl⟩
                                          replace H : (edit_Shared.j3 k3 l0 l1 x6_2 x8_2 y118 x10_3) = some (r1, r2) := by first | (rw [hy118]; with_reducible exact H) | (have H2_ := (Option.bind_some _ _).symm.trans H; rw [hy118]; with_reducible exact H2_) | (have H2_ := (Option.bind_some _ _).symm.trans H; with_reducible exact H2_) | with_reducible exact H | (rw [hy118]; exact H) | exact H
                                          have Ny118 := Aside0.mk hy118
                                          clear hy118
                                          have H' := Aside0.mk H
                                          clear H
                                          have p117 : 0 ≤ (x10_3 : Int) := of_decide_eq_true (by first | (with_reducible assumption) | assumption)
                                          have q117 : x10_3 < (x6_2.length : Int) := of_decide_eq_true (by first | (with_reducible assumption) | assumption)
                                          obtain ⟨ad117, A117_0, c117_0, e117, hx117_0, hl117_0, hi117_0⟩ := at_L1 (Kd.N_reads' HO_6.out).2.2 x10_3 p117 q117
                                          obtain rfl : ad114 = ad117 := (by injection e117)
                                          (try (have ea_ := Option.some.inj (hx117_0.symm.trans hx114_0); injection ea_ with ea_ en_ ec_; subst ea_; subst ec_; clear en_)); (try clear hx114_0)
                                          obtain ⟨ce117, hce117, hMe117, hcc117⟩ := Kd.N_get HO_6.out [] x10_3 p117 (by first | exact q117 | exact of_decide_eq_true (by first | (with_reducible assumption) | assumption) | (have e_ := (Kd.N_reads' HO_6.out).1; omega))
                                          obtain ⟨ua117_0, uc117_0, rfl, ul117_0, ge117_0⟩ := Kd.FK_slice_open hMe117
                                          have hv117_0 := hcc117 0 _ rfl
                                          rw [Nat.add_zero, show ((Kd.slice 5 (Kd.int .u8))).sz = 1 from rfl, Nat.mul_one] at hv117_0
                                          replace hv117_0 := Option.some.inj (hv117_0.symm.trans hx117_0)
                                          injection hv117_0 with hva_ hvn_ hvc_
                                          rw [hva_] at ge117_0
                                          rw [hvc_] at ul117_0
                                          have HL117_0 := Aside0.mk (show Kd.V (Kd.int .u8) 5 _ w.heap.size _ _ (rd_L1 x6_2 x10_3) from Kd.V_mk ul117_0 ge117_0)
                                          clear hva_ hvn_ hvc_ ge117_0 ul117_0
                                          clear hcc117 hce117
                                          have HR117_0 := Aside0.mk hi117_0
                                          have HC117_0 := Aside0.mk hl117_0
                                          clear hi117_0 hl117_0
                                          replace p117 := eq_true p117
                                          replace q117 := eq_true q117
                                          have p33 : 0 ≤ (x10_3 : Int) := of_decide_eq_true (by first | (with_reducible assumption) | assumption)
                                          have q33 : (x10_3 : Int) < ((x9_3.length : Int) : Int) := of_decide_eq_true (by first | (with_reducible assumption) | assumption)
                                          obtain ⟨ce33, hcl33, hM33, hcc33, hfr33⟩ := Kd.N_elem HO_9.out [] (x10_3 : Int) p33 q33
                                          obtain ⟨ua33_0, uc33_0, rfl, ul33_0, ge33_0⟩ := Kd.FK_slice_open hM33
                                          have hx33_0 := hcc33 0 _ rfl
                                          have hf33_0 := hfr33 0
                                          (try simp only [show ((Kd.slice 5 (Kd.int .u8))).sz = 1 from rfl, Nat.mul_one, Nat.add_zero] at hx33_0)
                                          (try simp only [show ((Kd.slice 5 (Kd.int .u8))).sz = 1 from rfl, Nat.mul_one, Nat.add_zero] at hf33_0)
                                          (try clear hcl33); (try clear hcc33); (try clear hfr33); (try clear hM33)
                                          replace p33 := eq_true p33
                                          replace q33 := eq_true q33
                                          have HX34 := Aside0.mk (show Kd.N (Kd.slice 5 (Kd.int .u8)) 22 w30 w.heap.size (fun k_ => some k_ ≠ (.slice (some ad114) x6_2.length co31 : Value).ownBlock) (.slice (some ⟨go23, 0, none⟩) x9_3.length co27) y113 from (by (with_reducible repeat (first | apply Kd.N_alloc | apply Kd.N_drewN | apply Kd.N_drew)); exact HO_9.out))
                                          obtain ⟨ce34, hcl34, hM34, hcc34, hfr34⟩ := Kd.N_elem HX34.out [] (x10_3 : Int) (of_decide_eq_true (by first | (with_reducible assumption) | assumption)) (by have h_ : (x10_3 : Int) < ((x9_3.length : Int) : Int) := of_decide_eq_true (by first | (with_reducible assumption) | assumption); first | exact h_ | (have e_ := (Kd.N_reads' HO_9.out).1; omega) | simpa using h_)
                                          obtain ⟨ua34_0, uc34_0, rfl, ul34_0, ge34_0⟩ := Kd.FK_slice_open hM34
                                          have HP34 := Kd.N_seg HX34.out (x10_3 : Int) (of_decide_eq_true (by first | (with_reducible assumption) | assumption)) (by have h_ : (x10_3 : Int) < ((x9_3.length : Int) : Int) := of_decide_eq_true (by first | (with_reducible assumption) | assumption); first | exact h_ | (have e_ := (Kd.N_reads' HO_9.out).1; omega) | simpa using h_) (seg := [.slice A117_0 (rd_L1 x6_2 x10_3).length c117_0]) (j := 0) hcl34 hcc34 (show 1 ≤ 1 from by decide) (x' := rd_L1 x6_2 x10_3) (Kd.FK_slice_mk (Kd.V_reads' (Kd.V_mono (ok' := (fun k_ => ((fun k_ => some k_ ≠ (.slice (some ad114) x6_2.length co31 : Value).ownBlock)) k_ ∧ k_ ≠ go23)) (HL117_0.out) (fun k_ hk => ⟨hk.2, fun e_ => (hk.1.2) (by rw [e_]; rfl)⟩))).2.1 (Kd.V_F (Kd.V_mono (ok' := (fun k_ => ((fun k_ => some k_ ≠ (.slice (some ad114) x6_2.length co31 : Value).ownBlock)) k_ ∧ k_ ≠ go23)) (HL117_0.out) (fun k_ hk => ⟨hk.2, fun e_ => (hk.1.2) (by rw [e_]; rfl)⟩)))) (fun _ hk => hk)
                                          have hx34_0 := hcc34 0 _ rfl
                                          (try simp only [show ((Kd.slice 5 (Kd.int .u8))).sz = 1 from rfl, Nat.mul_one, Nat.add_zero] at hx34_0)
                                          have hf34_0 := hfr34 0
                                          (try simp only [show ((Kd.slice 5 (Kd.int .u8))).sz = 1 from rfl, Nat.mul_one, Nat.add_zero] at hf34_0)
                                          (try clear hcl34); (try clear hcc34); (try clear hfr34); (try clear hM34)
                                          (try simp only [show ((Kd.slice 5 (Kd.int .u8))).sz = 1 from rfl, Nat.mul_one, Nat.add_zero] at HP34)
                                          (try simp only [show ((Kd.slice 5 (Kd.int .u8))).sz = 1 from rfl, Nat.mul_one, Nat.add_zero] at HP34)
                                          go_wp2_with (first | ((with_reducible refine gate_store (t := 22) (p := 66) rfl ?_); (try (rw [drewN_self w30]; generalize hq_ : World.drewN w30 _ = w30; (try (have nx_ := Aside0.mk (Kd.N_at hq_ HO_6.out); clear HO_6; have HO_6 := nx_; clear nx_)); (try (have nx_ := Aside0.mk (Kd.N_at hq_ HO_9.out); clear HO_9; have HO_9 := nx_; clear nx_)); (try (have nx_ := Aside0.mk (Kd.V_map (base' := w.heap.size) HL112_0.out (fun _ hf_ => Kd.F_at hq_ hf_)); clear HL112_0; have HL112_0 := nx_; clear nx_)); (try (have nx_ := Aside0.mk (Kd.V_map (base' := w.heap.size) HL114_0.out (fun _ hf_ => Kd.F_at hq_ hf_)); clear HL114_0; have HL114_0 := nx_; clear nx_)); (try (have nx_ := Aside0.mk (Kd.V_map (base' := w.heap.size) HL115_0.out (fun _ hf_ => Kd.F_at hq_ hf_)); clear HL115_0; have HL115_0 := nx_; clear nx_)); (try (have nx_ := Aside0.mk (Kd.V_map (base' := w.heap.size) HL117_0.out (fun _ hf_ => Kd.F_at hq_ hf_)); clear HL117_0; have HL117_0 := nx_; clear nx_)); (try (have nx_ := Aside0.mk (below_at hq_ HB.out); clear HB; have HB := nx_; clear nx_)); (try clear hq_); (try (have HX34 := Aside0.mk (show Kd.N (Kd.slice 5 (Kd.int .u8)) 22 w30 w.heap.size (fun k_ => some k_ ≠ (.slice (some ad114) x6_2.length co31 : Value).ownBlock) (.slice (some ⟨go23, 0, none⟩) x9_3.length co27) y113 from (by (with_reducible repeat (first | apply Kd.N_alloc | apply Kd.N_drewN | apply Kd.N_drew)); exact HO_9.out)))); (try (obtain ⟨ce34, hcl34, hM34, hcc34, hfr34⟩ := Kd.N_elem HX34.out [] (x10_3 : Int) (of_decide_eq_true (by first | (with_reducible assumption) | assumption)) (by have h_ : (x10_3 : Int) < ((x9_3.length : Int) : Int) := of_decide_eq_true (by first | (with_reducible assumption) | assumption); first | exact h_ | (have e_ := (Kd.N_reads' HO_9.out).1; omega) | simpa using h_))); (try (obtain ⟨ua34_0, uc34_0, rfl, ul34_0, ge34_0⟩ := Kd.FK_slice_open hM34)); (try (have HP34 := Kd.N_seg HX34.out (x10_3 : Int) (of_decide_eq_true (by first | (with_reducible assumption) | assumption)) (by have h_ : (x10_3 : Int) < ((x9_3.length : Int) : Int) := of_decide_eq_true (by first | (with_reducible assumption) | assumption); first | exact h_ | (have e_ := (Kd.N_reads' HO_9.out).1; omega) | simpa using h_) (seg := [.slice A117_0 (rd_L1 x6_2 x10_3).length c117_0]) (j := 0) hcl34 hcc34 (show 1 ≤ 1 from by decide) (x' := rd_L1 x6_2 x10_3) (Kd.FK_slice_mk (Kd.V_reads' (Kd.V_mono (ok' := (fun k_ => ((fun k_ => some k_ ≠ (.slice (some ad114) x6_2.length co31 : Value).ownBlock)) k_ ∧ k_ ≠ go23)) (HL117_0.out) (fun k_ hk => ⟨hk.2, fun e_ => (hk.1.2) (by rw [e_]; rfl)⟩))).2.1 (Kd.V_F (Kd.V_mono (ok' := (fun k_ => ((fun k_ => some k_ ≠ (.slice (some ad114) x6_2.length co31 : Value).ownBlock)) k_ ∧ k_ ≠ go23)) (HL117_0.out) (fun k_ hk => ⟨hk.2, fun e_ => (hk.1.2) (by rw [e_]; rfl)⟩)))) (fun _ hk => hk))); (try (have hx34_0 := hcc34 0 _ rfl)); (try (try simp only [show ((Kd.slice 5 (Kd.int .u8))).sz = 1 from rfl, Nat.mul_one, Nat.add_zero] at hx34_0)); (try (have hf34_0 := hfr34 0)); (try (try simp only [show ((Kd.slice 5 (Kd.int .u8))).sz = 1 from rfl, Nat.mul_one, Nat.add_zero] at hf34_0)); (try (try clear hcl34); (try clear hcc34); (try clear hfr34); (try clear hM34)); (try (try simp only [show ((Kd.slice 5 (Kd.int .u8))).sz = 1 from rfl, Nat.mul_one, Nat.add_zero] at HP34)); (try (try simp only [show ((Kd.slice 5 (Kd.int .u8))).sz = 1 from rfl, Nat.mul_one, Nat.add_zero] at HP34)))); refine store_event (t := 22) (p := 66) (v := ?vo_w35) (w1 := (w30.setCell ⟨go23, (x10_3 : Int).toNat, none⟩ (.slice A117_0 (rd_L1 x6_2 x10_3).length c117_0))) ?hg ?ho ?hn ?hr ?_; (case ho => rfl); (case hg => rfl); (case hn => rfl); (case hr => first | (go_simp; done) | (go_simp; rfl)); intro w35 hw; have hg : w30.grownBy w35 (some go23) := (by rw [hw]; exact HP34.2); have hp_ : Kd.N (Kd.slice 5 (Kd.int .u8)) 22 w35 w.heap.size (fun k_ => some k_ ≠ (.slice (some ad114) x6_2.length co31 : Value).ownBlock) (.slice (some ⟨go23, 0, none⟩) x9_3.length co27) y118 := (by rw [hw, Ny118.out]; exact HP34.1); clear HP34; have n0_ := Aside0.mk (Kd.N_afterv (v := (.slice (some ⟨go23, 0, none⟩) x9_3.length co27)) (v1 := (.slice (some ⟨go23, 0, none⟩) x9_3.length co27)) (ok := (fun _ => True)) (by (with_reducible repeat (first | apply Kd.N_alloc | apply Kd.N_drewN | apply Kd.N_drew)); exact HO_6.out) hg (.inl rfl)); have n1_ := Aside0.mk (hp_); have n2_ := Aside0.mk (Kd.V_afterv (v := (.slice (some ⟨go23, 0, none⟩) x9_3.length co27)) (v1 := (.slice (some ⟨go23, 0, none⟩) x9_3.length co27)) (ok := (fun k_ => some k_ ≠ (.slice (some ad114) x6_2.length co31 : Value).ownBlock)) (by (with_reducible repeat (first | apply Kd.V_alloc | apply Kd.V_drewN | apply Kd.V_drew)); exact HL112_0.out) hg (.inl rfl)); have n3_ := Aside0.mk (Kd.V_afterv (v := (.slice (some ⟨go23, 0, none⟩) x9_3.length co27)) (v1 := (.slice (some ⟨go23, 0, none⟩) x9_3.length co27)) (ok := (fun k_ => some k_ ≠ (.slice (some ad114) x6_2.length co31 : Value).ownBlock)) (by (with_reducible repeat (first | apply Kd.V_alloc | apply Kd.V_drewN | apply Kd.V_drew)); exact Kd.V_mono HL114_0.out (fun _ hk => ⟨hk.2, hk.1.2⟩)) hg (.inl rfl)); have n4_ := Aside0.mk (Kd.V_afterv (v := (.slice (some ⟨go23, 0, none⟩) x9_3.length co27)) (v1 := (.slice (some ⟨go23, 0, none⟩) x9_3.length co27)) (ok := (fun k_ => some k_ ≠ (.slice (some ad114) x6_2.length co31 : Value).ownBlock)) (by (with_reducible repeat (first | apply Kd.V_alloc | apply Kd.V_drewN | apply Kd.V_drew)); exact HL115_0.out) hg (.inl rfl)); have n5_ := Aside0.mk (Kd.V_afterv (v := (.slice (some ⟨go23, 0, none⟩) x9_3.length co27)) (v1 := (.slice (some ⟨go23, 0, none⟩) x9_3.length co27)) (ok := (fun k_ => some k_ ≠ (.slice (some ad114) x6_2.length co31 : Value).ownBlock)) (by (with_reducible repeat (first | apply Kd.V_alloc | apply Kd.V_drewN | apply Kd.V_drew)); exact Kd.V_mono HL117_0.out (fun _ hk => ⟨hk.2, hk.1.2⟩)) hg (.inl rfl)); have n6_ := Aside0.mk ((by rw [hw]; exact below_set (HB.out) GB23.out : Below w.heap.size w w35)); clear HO_6; clear HO_9; clear HL112_0; clear HL114_0; clear HL115_0; clear HL117_0; clear HB; have HO_6 := n0_; have HO_9 := n1_; have HL112_0 := n2_; have HL114_0 := n3_; have HL115_0 := n4_; have HL117_0 := n5_; have HB := n6_; clear n0_ n1_ n2_ n3_ n4_ n5_ n6_; clear hg hw hp_))
                                          go_meet
                                          case rel => exact ⟨_, (y118), H', ⟨by have := HJ2.out; have := HK2.out; have := HK3.out; first | omega | exact Nat.le_refl _⟩, ⟨by (with_reducible repeat (first | apply Kd.N_alloc | apply Kd.N_drewN | apply Kd.N_drew)); exact Kd.N_mono HO_6.out (fun _ hk => hk.2)⟩, ⟨by (with_reducible repeat (first | apply Kd.N_alloc | apply Kd.N_drewN | apply Kd.N_drew)); exact HO_9.out⟩, ⟨by repeat (first | (with_reducible first | exact HB.out | apply below_alloc | apply pw_below_drewN | apply below_drew1) | exact HB.out)⟩⟩
                                        · replace c32 := Bool.eq_false_iff.mpr c32
                                          subst c32
                                          have H1 : (edit_Shared.j3 k3 l0 l1 x6_2 x8_2 y113 x10_3) = some (r1, r2) := by rw [if_neg (show ¬ (false = true) by decide)] at H; exact H
                                          clear H
                                          have H := H1
                                          clear H1
                                          have H' := Aside0.mk H
                                          clear H
                                          go_wp2
                                          go_meet
                                          case rel => exact ⟨_, (y113), H', ⟨by have := HJ2.out; have := HK2.out; have := HK3.out; first | omega | exact Nat.le_refl _⟩, ⟨by (with_reducible repeat (first | apply Kd.N_alloc | apply Kd.N_drewN | apply Kd.N_drew)); exact Kd.N_mono HO_6.out (fun _ hk => hk.2)⟩, ⟨by (with_reducible repeat (first | apply Kd.N_alloc | apply Kd.N_drewN | apply Kd.N_drew)); exact HO_9.out⟩, ⟨by repeat (first | (with_reducible first | exact HB.out | apply below_alloc | apply pw_below_drewN | apply below_drew1) | exact HB.out)⟩⟩
                                      case rest =>
                                        clear HC26
                                        try clear c1
                                        try clear p1
                                        try clear q1
                                        try clear hx1
                                        try clear c2
                                        try clear p2
                                        try clear q2
                                        try clear hx2
                                        try clear hf2
                                        try clear c3
                                        try clear p3
                                        try clear q3
                                        try clear hx3
                                        try clear hf3
                                        try clear c4
                                        try clear c4b0
                                        try clear c4b1
                                        try clear c5
                                        try clear p6
                                        try clear c7
                                        try clear c7b0
                                        try clear c7b1
                                        try clear c8
                                        try clear c8b0
                                        try clear c8b1
                                        try clear c11
                                        try clear c11b0
                                        try clear p11
                                        try clear q11
                                        try clear hx11
                                        try clear c13
                                        try clear c13b0
                                        try clear c13b1
                                        try clear c14
                                        try clear c14b0
                                        try clear c14b1
                                        try clear c17
                                        try clear c17b0
                                        try clear c19
                                        try clear c19b0
                                        try clear c20
                                        try clear c20b0
                                        try clear c21
                                        try clear c21b0
                                        try clear c22
                                        try clear c22b0
                                        try clear c23
                                        try clear p23
                                        try clear q23
                                        try clear hx23
                                        try clear hf23
                                        try clear c24
                                        try clear c24b0
                                        try clear c28
                                        try clear hx28
                                        try clear hf28
                                        try clear c32
                                        try clear c33
                                        try clear p33
                                        try clear q33
                                        try clear hx33
                                        try clear hf33
                                        try clear c34
                                        try clear hx34
                                        try clear hf34
                                        try clear hx112_0
                                        try clear hx114_0
                                        try clear hx115_0
                                        try clear hx117_0
                                        try clear hx23_0
                                        try clear hx28_0
                                        try clear hx33_0
                                        try clear hx34_0
                                        try clear p112
                                        try clear p114
                                        try clear p115
                                        try clear p117
                                        try clear p2
                                        try clear p23
                                        try clear p33
                                        try clear p6
                                        try clear q112
                                        try clear q114
                                        try clear q115
                                        try clear q117
                                        try clear q23
                                        try clear q33
                                        obtain ⟨kq, x9_25, HA, HJ25, HO_6, HO_9, HB⟩ := hcut
                                        have hl9_25 := (Kd.N_reads' HO_9.out).1
                                        rw [hl9_25] at HO_9
                                        (try simp only [hl9_25])
                                        (try simp only [hl9_25] at HO_6)
                                        cases kq with
                                        | zero => exact absurd HA.out (by simp [edit_Shared.j3])
                                        | succ kj25 =>
                                          have H := HA.out
                                          clear HA
                                          simp only [edit_Shared.j3] at H
                                          by_cases c36 : 0 ≤ x8_2
                                          · rw [if_pos c36] at H
                                            have c36b0 : decide (0 ≤ x8_2) = true := decide_eq_true c36
                                            clear c36
                                            by_cases c37 : x8_2 < (l0.length : Int)
                                            · rw [if_pos c37] at H
                                              have c37b0 : decide (x8_2 < (l0.length : Int)) = true := decide_eq_true c37
                                              (try (have c37b0h := c37b0; simp only [hl9_25] at c37b0h))
                                              clear c37
                                              by_cases c38 : 0 ≤ x10_3
                                              · rw [if_pos c38] at H
                                                have c38b0 : decide (0 ≤ x10_3) = true := decide_eq_true c38
                                                clear c38
                                                by_cases c39 : x10_3 < (l1.length : Int)
                                                · rw [if_pos c39] at H
                                                  have c39b0 : decide (x10_3 < (l1.length : Int)) = true := decide_eq_true c39
                                                  (try (have c39b0h := c39b0; simp only [hl9_25] at c39b0h))
                                                  clear c39
                                                  by_cases c40 : (rd l0 x8_2) = (rd l1 x10_3)
                                                  · rw [if_pos c40] at H
                                                    have c40b0 : ((rd l0 x8_2) == (rd l1 x10_3)) = true := beq_iff_eq.mpr c40
                                                    have c40b1 : ((rd l0 x8_2) != (rd l1 x10_3)) = false := bne_eq_false_iff_eq.mpr c40
                                                    clear c40
                                                    obtain ⟨y122, hy122⟩ : ∃ y_ : List Int, y_ = (([rd l0 x8_2] : List Int)) := ⟨_, rfl⟩
                                                    replace H : (if 0 ≤ (wrap64 (x10_3 + 1)) then (if (wrap64 (x10_3 + 1)) < (x6_2.length : Int) then (if y122.length + (rd_L1 x6_2 (wrap64 (x10_3 + 1))).length < 140737488355328 then ((some (y122 ++ (rd_L1 x6_2 (wrap64 (x10_3 + 1))) : List Int)).bind fun y126 => (if x10_3 < (x9_25.length : Int) then ((edit_Shared_1.f y126 (rd_L1 x9_25 x10_3)).bind fun t130 => (if t130 = true then (edit_Shared.l1 kj25 l0 l1 x6_2 x8_2 (x9_25.set (x10_3 : Int).toNat y126) (wrap64 (x10_3 - 1))) else (edit_Shared.l1 kj25 l0 l1 x6_2 x8_2 x9_25 (wrap64 (x10_3 - 1))))) else (none))) else (none)) else (none)) else (none)) = some (r1, r2) := by first | (rw [hy122]; with_reducible exact H) | (have H2_ := (Option.bind_some _ _).symm.trans H; rw [hy122]; with_reducible exact H2_) | (have H2_ := (Option.bind_some _ _).symm.trans H; with_reducible exact H2_) | with_reducible exact H | (rw [hy122]; exact H) | exact H
                                                    have Ny122 := Aside0.mk hy122
                                                    clear hy122
                                                    skip
                                                    replace H : (if 0 ≤ (ji18) then (if (ji18) < (x6_2.length : Int) then (if y122.length + (rd_L1 x6_2 (ji18)).length < 140737488355328 then ((some (y122 ++ (rd_L1 x6_2 (ji18)) : List Int)).bind fun y126 => (if x10_3 < (x9_25.length : Int) then ((edit_Shared_1.f y126 (rd_L1 x9_25 x10_3)).bind fun t130 => (if t130 = true then (edit_Shared.l1 kj25 l0 l1 x6_2 x8_2 (x9_25.set (x10_3 : Int).toNat y126) (wrap64 (x10_3 - 1))) else (edit_Shared.l1 kj25 l0 l1 x6_2 x8_2 x9_25 (wrap64 (x10_3 - 1))))) else (none))) else (none)) else (none)) else (none)) = some (r1, r2) := by first | (rw [hji18] at H; exact H) | (simp only [hji18] at H ⊢; exact H)
                                                    have hji18w : (IntKind.i64.wrap (x10_3 + 1)) = ji18 := (i64_w _).trans hji18
                                                    by_cases c42 : 0 ≤ (ji18)
                                                    · rw [if_pos c42] at H
                                                      have c42b0 : decide (0 ≤ (ji18)) = true := decide_eq_true c42
                                                      clear c42
                                                      by_cases c43 : (ji18) < (x6_2.length : Int)
                                                      · rw [if_pos c43] at H
                                                        have c43b0 : decide ((ji18) < (x6_2.length : Int)) = true := decide_eq_true c43
                                                        (try (have c43b0h := c43b0; simp only [hl9_25] at c43b0h))
                                                        clear c43
                                                        by_cases c44 : y122.length + (rd_L1 x6_2 (ji18)).length < 140737488355328
                                                        · rw [if_pos c44] at H
                                                          have LMc44 := Aside0.mk c44
                                                          clear c44
                                                          obtain ⟨y126, hy126⟩ : ∃ y_ : List Int, y_ = (y122 ++ (rd_L1 x6_2 (ji18))) := ⟨_, rfl⟩
                                                          replace H : (if x10_3 < (x9_25.length : Int) then ((edit_Shared_1.f y126 (rd_L1 x9_25 x10_3)).bind fun t130 => (if t130 = true then (edit_Shared.l1 kj25 l0 l1 x6_2 x8_2 (x9_25.set (x10_3 : Int).toNat y126) (wrap64 (x10_3 - 1))) else (edit_Shared.l1 kj25 l0 l1 x6_2 x8_2 x9_25 (wrap64 (x10_3 - 1))))) else (none)) = some (r1, r2) := by first | (rw [hy126]; with_reducible exact H) | (have H2_ := (Option.bind_some _ _).symm.trans H; rw [hy126]; with_reducible exact H2_) | (have H2_ := (Option.bind_some _ _).symm.trans H; with_reducible exact H2_) | with_reducible exact H | (rw [hy126]; exact H) | exact H
                                                          have Ny126 := Aside0.mk hy126
                                                          clear hy126
                                                          by_cases c45 : x10_3 < (x9_25.length : Int)
                                                          · rw [if_pos c45] at H
                                                            have c45b0 : decide (x10_3 < (x9_25.length : Int)) = true := decide_eq_true c45
                                                            (try (have c45b0h := c45b0; simp only [hl9_25] at c45b0h))
                                                            clear c45
                                                            replace H := Option.bind_eq_some_iff.mp H
                                                            obtain ⟨t130, A460, H⟩ := H
                                                            replace H : (if t130 = true then (edit_Shared.l1 kj25 l0 l1 x6_2 x8_2 (x9_25.set (x10_3 : Int).toNat y126) (wrap64 (x10_3 - 1))) else (edit_Shared.l1 kj25 l0 l1 x6_2 x8_2 x9_25 (wrap64 (x10_3 - 1)))) = some (r1, r2) := H
                                                            have A46 := Aside0.mk A460
                                                            clear A460
                                                            by_cases c47 : t130 = true
                                                            · subst c47
                                                              have H1 : (edit_Shared.l1 kj25 l0 l1 x6_2 x8_2 (x9_25.set (x10_3 : Int).toNat y126) (wrap64 (x10_3 - 1))) = some (r1, r2) := by rw [if_pos rfl] at H; exact H
                                                              clear H
                                                              have H := H1
                                                              clear H1
                                                              obtain ⟨y131, hy131⟩ : ∃ y_ : List (List Int), y_ = (x9_25.set (x10_3 : Int).toNat y126) := ⟨_, rfl⟩
                                                              replace H : (edit_Shared.l1 kj25 l0 l1 x6_2 x8_2 y131 (wrap64 (x10_3 - 1))) = some (r1, r2) := by first | (rw [hy131]; with_reducible exact H) | (have H2_ := (Option.bind_some _ _).symm.trans H; rw [hy131]; with_reducible exact H2_) | (have H2_ := (Option.bind_some _ _).symm.trans H; with_reducible exact H2_) | with_reducible exact H | (rw [hy131]; exact H) | exact H
                                                              have Ny131 := Aside0.mk hy131
                                                              clear hy131
                                                              have H' := Aside0.mk H
                                                              clear H
                                                              try go_wp2
                                                              have n0_ := Aside0.mk (Kd.N_drew HO_6.out)
                                                              have n1_ := Aside0.mk (Kd.N_drew HO_9.out)
                                                              have n2_ := Aside0.mk (below_drew1 HB.out)
                                                              clear HO_6
                                                              clear HO_9
                                                              clear HB
                                                              have HO_6 := n0_
                                                              have HO_9 := n1_
                                                              have HB := n2_
                                                              clear n0_ n1_ n2_
                                                              have p119 : 0 ≤ (x8_2 : Int) := of_decide_eq_true (by first | (with_reducible assumption) | assumption)
                                                              have q119 : x8_2 < (l0.length : Int) := of_decide_eq_true (by first | (with_reducible assumption) | assumption)
                                                              obtain ⟨ad119, e119, hx119_0⟩ := Kd.at_int HR0.out x8_2 p119 q119
                                                              have hw119_0 := hx119_0
                                                              cases e119
                                                              replace hx119_0 := (HB.out.cell (World.block_lt_of_cell? w _ hx119_0)).trans hx119_0
                                                              replace p119 := eq_true p119
                                                              replace q119 := eq_true q119
                                                              have p120 : 0 ≤ (x10_3 : Int) := of_decide_eq_true (by first | (with_reducible assumption) | assumption)
                                                              have q120 : x10_3 < (l1.length : Int) := of_decide_eq_true (by first | (with_reducible assumption) | assumption)
                                                              obtain ⟨ad120, e120, hx120_0⟩ := Kd.at_int HR1.out x10_3 p120 q120
                                                              have hw120_0 := hx120_0
                                                              cases e120
                                                              replace hx120_0 := (HB.out.cell (World.block_lt_of_cell? w _ hx120_0)).trans hx120_0
                                                              replace p120 := eq_true p120
                                                              replace q120 := eq_true q120
                                                              refine start_ (n := 9) (S := fun w' => w'.cell? (ad119.add (x8_2).toNat) = some (.int .u8 (rd l0 x8_2)) ∧ w'.cell? (ad120.add (x10_3).toNat) = some (.int .u8 (rd l1 x10_3))) (ds := []) #[false, false, false, false, false, false, false, false, false] (by kernel_rfl) rfl rfl ⟨((HB.out.cell (World.block_lt_of_cell? w _ hw119_0)).trans hw119_0), ((HB.out.cell (World.block_lt_of_cell? w _ hw120_0)).trans hw120_0)⟩ (fun hHeld => ?_); refine with_tabW edit_Shared.tab15 edit_Shared.bits15 (fun HT_ HW_ => ?_)
                                                              generalize wc.drew = w49 at HO_6 HO_9 HB hx119_0 hx120_0 hHeld ⊢
                                                              refine pure_ (i := 0) (N := some 67) (v := ?_) (a' := ?_) #[true, false, false, false, false, false, false, false, false] rfl rfl (any_of HT_.out (by kernel_rfl)) (fun _ _ _ h => h) (Or.inl ⟨by rfl, ?_⟩) ?_ ?_
                                                              rotate_left
                                                              · intro w'
                                                                go_simp
                                                                with_reducible rfl
                                                              rotate_left
                                                              · simp only [Act.put, List.setIfInBounds_toArray, List.set_cons_zero, List.set_cons_succ, i64_w, i32_w]
                                                                rfl
                                                              refine pure_ (i := 1) (N := some 68) (v := ?_) (a' := ?_) #[true, true, false, false, false, false, false, false, false] rfl rfl (any_of HT_.out (by kernel_rfl)) (fun _ _ _ h => h) (Or.inl ⟨by rfl, ?_⟩) ?_ ?_
                                                              rotate_left
                                                              · intro w'
                                                                go_simp
                                                                with_reducible rfl
                                                              rotate_left
                                                              · simp only [Act.put, List.setIfInBounds_toArray, List.set_cons_zero, List.set_cons_succ, i64_w, i32_w]
                                                                rfl
                                                              refine pure_ (i := 2) (N := some 69) (v := ?_) (a' := ?_) #[true, true, true, false, false, false, false, false, false] rfl rfl (any_of HT_.out (by kernel_rfl)) (fun _ _ _ h => h) (Or.inl ⟨by rfl, ?_⟩) ?_ ?_
                                                              rotate_left
                                                              · intro w'
                                                                go_simp
                                                                with_reducible rfl
                                                              rotate_left
                                                              · simp only [Act.put, List.setIfInBounds_toArray, List.set_cons_zero, List.set_cons_succ, i64_w, i32_w]
                                                                rfl
                                                              refine pure_ (i := 4) (N := some 71) (v := ?_) (a' := ?_) #[true, true, true, false, true, false, false, false, false] rfl rfl (any_of HT_.out (by kernel_rfl)) (fun _ _ _ h => h) (Or.inl ⟨by rfl, ?_⟩) ?_ ?_
                                                              rotate_left
                                                              · intro w'
                                                                go_simp
                                                                with_reducible rfl
                                                              rotate_left
                                                              · simp only [Act.put, List.setIfInBounds_toArray, List.set_cons_zero, List.set_cons_succ, i64_w, i32_w]
                                                                rfl
                                                              refine pure_ (i := 5) (N := some 72) (v := ?_) (a' := ?_) #[true, true, true, false, true, true, false, false, false] rfl rfl (any_of HT_.out (by kernel_rfl)) (fun _ _ _ h => h) (Or.inl ⟨by rfl, ?_⟩) ?_ ?_
                                                              rotate_left
                                                              · intro w'
                                                                go_simp
                                                                with_reducible rfl
                                                              rotate_left
                                                              · simp only [Act.put, List.setIfInBounds_toArray, List.set_cons_zero, List.set_cons_succ, i64_w, i32_w]
                                                                rfl
                                                              refine pure_ (i := 6) (N := some 73) (v := ?_) (a' := ?_) #[true, true, true, false, true, true, true, false, false] rfl rfl (any_of HT_.out (by kernel_rfl)) (fun _ _ _ h => h) (Or.inl ⟨by rfl, ?_⟩) ?_ ?_
                                                              rotate_left
                                                              · intro w'
                                                                go_simp
                                                                with_reducible rfl
                                                              rotate_left
                                                              · simp only [Act.put, List.setIfInBounds_toArray, List.set_cons_zero, List.set_cons_succ, i64_w, i32_w]
                                                                rfl
                                                              refine take_ (i := 3) (N := some 70) (v := ?_) (a' := ?_) #[true, true, true, true, true, true, true, false, false] rfl rfl (take_ofW HT_.out HW_.out (by kernel_rfl)) (fun _ _ _ h => h) (Or.inl ⟨by rfl, ?_⟩) hHeld ?_ ?_
                                                              rotate_left
                                                              · rintro w' ⟨s0, s1⟩
                                                                go_simp
                                                                with_reducible rfl
                                                              rotate_left
                                                              · simp only [Act.put, List.setIfInBounds_toArray, List.set_cons_zero, List.set_cons_succ, i64_w, i32_w]
                                                                rfl
                                                              refine take_ (i := 7) (N := some 74) (v := ?_) (a' := ?_) #[true, true, true, true, true, true, true, true, false] rfl rfl (take_ofW HT_.out HW_.out (by kernel_rfl)) (fun _ _ _ h => h) (Or.inl ⟨by rfl, ?_⟩) hHeld ?_ ?_
                                                              rotate_left
                                                              · rintro w' ⟨s0, s1⟩
                                                                go_simp
                                                                with_reducible rfl
                                                              rotate_left
                                                              · simp only [Act.put, List.setIfInBounds_toArray, List.set_cons_zero, List.set_cons_succ, i64_w, i32_w]
                                                                rfl
                                                              refine pure_ (i := 8) (N := some 75) (v := ?_) (a' := ?_) #[true, true, true, true, true, true, true, true, true] rfl rfl (any_of HT_.out (by kernel_rfl)) (fun _ _ _ h => h) (Or.inl ⟨by rfl, ?_⟩) ?_ ?_
                                                              rotate_left
                                                              · intro w'
                                                                go_simp
                                                                with_reducible rfl
                                                              rotate_left
                                                              · simp only [Act.put, List.setIfInBounds_toArray, List.set_cons_zero, List.set_cons_succ, i64_w, i32_w]
                                                                rfl
                                                              refine done_ (done_of HT_.out (by kernel_rfl)) ?_
                                                              try go_wp2
                                                              have n0_ := Aside0.mk (Kd.N_drew HO_6.out)
                                                              have n1_ := Aside0.mk (Kd.N_drew HO_9.out)
                                                              have n2_ := Aside0.mk (below_drew1 HB.out)
                                                              clear HO_6
                                                              clear HO_9
                                                              clear HB
                                                              have HO_6 := n0_
                                                              have HO_9 := n1_
                                                              have HB := n2_
                                                              clear n0_ n1_ n2_
                                                              have p121 : 0 ≤ (x8_2 : Int) := of_decide_eq_true (by first | (with_reducible assumption) | assumption)
                                                              have q121 : x8_2 < (l0.length : Int) := of_decide_eq_true (by first | (with_reducible assumption) | assumption)
                                                              obtain ⟨ad121, e121, hx121_0⟩ := Kd.at_int HR0.out x8_2 p121 q121
                                                              have hw121_0 := hx121_0
                                                              obtain rfl : ad119 = ad121 := (by injection e121)
                                                              replace hx121_0 := (HB.out.cell (World.block_lt_of_cell? w _ hx121_0)).trans hx121_0
                                                              replace p121 := eq_true p121
                                                              replace q121 := eq_true q121
                                                              have p125 : 0 ≤ ((ji18) : Int) := of_decide_eq_true (by first | (with_reducible assumption) | assumption)
                                                              have q125 : (ji18) < (x6_2.length : Int) := of_decide_eq_true (by first | (with_reducible assumption) | assumption)
                                                              obtain ⟨ad125, A125_0, c125_0, e125, hx125_0, hl125_0, hi125_0⟩ := at_L1 (Kd.N_reads' HO_6.out).2.2 (ji18) p125 q125
                                                              obtain rfl : ad114 = ad125 := (by injection e125)
                                                              obtain ⟨ce125, hce125, hMe125, hcc125⟩ := Kd.N_get HO_6.out [] (ji18) p125 (by first | exact q125 | exact of_decide_eq_true (by first | (with_reducible assumption) | assumption) | (have e_ := (Kd.N_reads' HO_6.out).1; omega))
                                                              obtain ⟨ua125_0, uc125_0, rfl, ul125_0, ge125_0⟩ := Kd.FK_slice_open hMe125
                                                              have hv125_0 := hcc125 0 _ rfl
                                                              rw [Nat.add_zero, show ((Kd.slice 5 (Kd.int .u8))).sz = 1 from rfl, Nat.mul_one] at hv125_0
                                                              replace hv125_0 := Option.some.inj (hv125_0.symm.trans hx125_0)
                                                              injection hv125_0 with hva_ hvn_ hvc_
                                                              rw [hva_] at ge125_0
                                                              rw [hvc_] at ul125_0
                                                              have HL125_0 := Aside0.mk (show Kd.V (Kd.int .u8) 5 _ w.heap.size _ _ (rd_L1 x6_2 (ji18)) from Kd.V_mk ul125_0 ge125_0)
                                                              clear hva_ hvn_ hvc_ ge125_0 ul125_0
                                                              clear hcc125 hce125
                                                              have HR125_0 := Aside0.mk hi125_0
                                                              have HC125_0 := Aside0.mk hl125_0
                                                              clear hi125_0 hl125_0
                                                              replace p125 := eq_true p125
                                                              replace q125 := eq_true q125
                                                              refine start_ (n := 12) (S := fun w' => w'.cell? (ad119.add (x8_2).toNat) = some (.int .u8 (rd l0 x8_2)) ∧ w'.cell? (ad114.add ((ji18)).toNat) = some (.slice A125_0 (rd_L1 x6_2 (ji18)).length c125_0)) (ds := [10]) #[false, false, false, false, false, false, false, false, false, false, false, false] (by kernel_rfl) rfl rfl ⟨((HB.out.cell (World.block_lt_of_cell? w _ hw121_0)).trans hw121_0), hx125_0⟩ (fun hHeld => ?_); refine with_tabW edit_Shared.tab16 edit_Shared.bits16 (fun HT_ HW_ => ?_)
                                                              generalize w49.drew = w50 at HO_6 HO_9 HB HL125_0 HR125_0 hx121_0 hx125_0 hHeld ⊢
                                                              refine pure_ (i := 0) (N := some 76) (v := ?_) (a' := ?_) #[true, false, false, false, false, false, false, false, false, false, false, false] rfl rfl (any_of HT_.out (by kernel_rfl)) (fun _ _ _ h => h) (Or.inl ⟨by rfl, ?_⟩) ?_ ?_
                                                              rotate_left
                                                              · intro w'
                                                                go_simp
                                                                with_reducible rfl
                                                              rotate_left
                                                              · simp only [Act.put, List.setIfInBounds_toArray, List.set_cons_zero, List.set_cons_succ, i64_w, i32_w]
                                                                rfl
                                                              refine pure_ (i := 1) (N := some 77) (v := ?_) (a' := ?_) #[true, true, false, false, false, false, false, false, false, false, false, false] rfl rfl (any_of HT_.out (by kernel_rfl)) (fun _ _ _ h => h) (Or.inl ⟨by rfl, ?_⟩) ?_ ?_
                                                              rotate_left
                                                              · intro w'
                                                                go_simp
                                                                with_reducible rfl
                                                              rotate_left
                                                              · simp only [Act.put, List.setIfInBounds_toArray, List.set_cons_zero, List.set_cons_succ, i64_w, i32_w]
                                                                rfl
                                                              refine pure_ (i := 2) (N := some 78) (v := ?_) (a' := ?_) #[true, true, true, false, false, false, false, false, false, false, false, false] rfl rfl (any_of HT_.out (by kernel_rfl)) (fun _ _ _ h => h) (Or.inl ⟨by rfl, ?_⟩) ?_ ?_
                                                              rotate_left
                                                              · intro w'
                                                                go_simp
                                                                with_reducible rfl
                                                              rotate_left
                                                              · simp only [Act.put, List.setIfInBounds_toArray, List.set_cons_zero, List.set_cons_succ, i64_w, i32_w]
                                                                rfl
                                                              refine pure_ (i := 5) (N := some 81) (v := ?_) (a' := ?_) #[true, true, true, false, false, true, false, false, false, false, false, false] rfl rfl (any_of HT_.out (by kernel_rfl)) (fun _ _ _ h => h) (Or.inl ⟨by rfl, ?_⟩) ?_ ?_
                                                              rotate_left
                                                              · intro w'
                                                                go_simp
                                                                with_reducible rfl
                                                              rotate_left
                                                              · simp only [Act.put, List.setIfInBounds_toArray, List.set_cons_zero, List.set_cons_succ, i64_w, i32_w]
                                                                rfl
                                                              refine pure_ (i := 6) (N := some 82) (v := ?_) (a' := ?_) #[true, true, true, false, false, true, true, false, false, false, false, false] rfl rfl (any_of HT_.out (by kernel_rfl)) (fun _ _ _ h => h) (Or.inl ⟨by rfl, ?_⟩) ?_ ?_
                                                              rotate_left
                                                              · intro w'
                                                                go_simp
                                                                with_reducible rfl
                                                              rotate_left
                                                              · simp only [Act.put, List.setIfInBounds_toArray, List.set_cons_zero, List.set_cons_succ, i64_w, i32_w]
                                                                rfl
                                                              refine pure_ (i := 7) (N := some 83) (v := ?_) (a' := ?_) #[true, true, true, false, false, true, true, true, false, false, false, false] rfl rfl (any_of HT_.out (by kernel_rfl)) (fun _ _ _ h => h) (Or.inl ⟨by rfl, ?_⟩) ?_ ?_
                                                              rotate_left
                                                              · intro w'
                                                                go_simp
                                                                with_reducible rfl
                                                              rotate_left
                                                              · simp only [Act.put, List.setIfInBounds_toArray, List.set_cons_zero, List.set_cons_succ, i64_w, i32_w]
                                                                rfl
                                                              refine pure_ (i := 8) (N := some 84) (v := ?_) (a' := ?_) #[true, true, true, false, false, true, true, true, true, false, false, false] rfl rfl (any_of HT_.out (by kernel_rfl)) (fun _ _ _ h => h) (Or.inl ⟨by rfl, ?_⟩) ?_ ?_
                                                              rotate_left
                                                              · intro w'
                                                                go_simp
                                                                with_reducible rfl
                                                              rotate_left
                                                              · simp only [Act.put, List.setIfInBounds_toArray, List.set_cons_zero, List.set_cons_succ, i64_w, i32_w]
                                                                rfl
                                                              refine take_ (i := 3) (N := some 79) (v := ?_) (a' := ?_) #[true, true, true, true, false, true, true, true, true, false, false, false] rfl rfl (take_ofW HT_.out HW_.out (by kernel_rfl)) (fun _ _ _ h => h) (Or.inl ⟨by rfl, ?_⟩) hHeld ?_ ?_
                                                              rotate_left
                                                              · rintro w' ⟨s0, s1⟩
                                                                go_simp
                                                                with_reducible rfl
                                                              rotate_left
                                                              · simp only [Act.put, List.setIfInBounds_toArray, List.set_cons_zero, List.set_cons_succ, i64_w, i32_w]
                                                                rfl
                                                              refine take_ (i := 9) (N := some 85) (v := ?_) (a' := ?_) #[true, true, true, true, false, true, true, true, true, true, false, false] rfl rfl (take_ofW HT_.out HW_.out (by kernel_rfl)) (fun _ _ _ h => h) (Or.inl ⟨by rfl, ?_⟩) hHeld ?_ ?_
                                                              rotate_left
                                                              · rintro w' ⟨s0, s1⟩
                                                                go_simp
                                                                with_reducible rfl
                                                              rotate_left
                                                              · simp only [Act.put, List.setIfInBounds_toArray, List.set_cons_zero, List.set_cons_succ, i64_w, i32_w]
                                                                rfl
                                                              refine one_ (i := 4) (N := some 80) #[true, true, true, true, true, true, true, true, true, true, false, false] rfl rfl (one_of HT_.out (by kernel_rfl)) (by decide) (fun K hK => ?_)
                                                              refine Kd.R_lit_step (Kd.int .u8) _ 5 ?hg (N := 80) ?hd (xs := ([rd l0 x8_2] : List Int)) (inner := [.int .u8 (rd l0 x8_2)]) (ok := fun _ => True) (okp := fun _ => True) ?hr ?hp (fun _ hk => hk) trivial (Below.refl _ _) (Nat.le_refl _) (by simp) ?_; (case hd => rfl); (case hg => rfl); (case hr => first | (go_simp; done) | (go_simp; rfl)); (case hp => exact (Reps.one (show Kd.M (Kd.int .u8) _ _ _ (rd l0 x8_2) [.int .u8 (rd l0 x8_2)] from rfl) (Reps.none _ _)))
                                                              intro v123 w51 ho52 hb hg_ hnew_
                                                              have HS1_ := (hb.cell (World.block_lt_of_cell? _ _ (hHeld.2))).trans (hHeld.2)
                                                              clear hg_ hnew_
                                                              (first | rw [← Ny122.out] at ho52 | (simp only [Int.reduceToNat] at ho52; rw [← Ny122.out] at ho52))
                                                              have n0_ := Aside0.mk (Kd.N_elder' (by (with_reducible repeat (first | apply Kd.N_alloc | apply Kd.N_drewN | apply Kd.N_drew)); exact HO_6.out) (Kd.R_base ho52) hb)
                                                              have n1_ := Aside0.mk (Kd.N_elder' (by (with_reducible repeat (first | apply Kd.N_alloc | apply Kd.N_drewN | apply Kd.N_drew)); exact HO_9.out) (Kd.R_base ho52) hb)
                                                              have n2_ := Aside0.mk (Kd.V_elder' (by (with_reducible repeat (first | apply Kd.V_alloc | apply Kd.V_drewN | apply Kd.V_drew)); exact HL125_0.out) (Kd.R_base ho52) hb)
                                                              have n3_ := Aside0.mk (Kd.R_lower ho52 (below_size (by repeat (first | (with_reducible first | exact HB.out | apply below_alloc | apply pw_below_drewN | apply below_drew1) | exact HB.out))))
                                                              have n4_ := Aside0.mk (Kd.C_below (by repeat (first | (with_reducible exact HR125_0.out) | (with_reducible refine Kd.C_alloc ?_ _) | (with_reducible refine Kd.C_drewN ?_ _) | (with_reducible refine Kd.C_drew ?_) | exact HR125_0.out)) hb)
                                                              have n5_ := Aside0.mk (below_step (by repeat (first | (with_reducible first | exact HB.out | apply below_alloc | apply pw_below_drewN | apply below_drew1) | exact HB.out)) hb)
                                                              clear HO_6
                                                              clear HO_9
                                                              clear HL125_0
                                                              clear HR125_0
                                                              clear HB
                                                              have HO_6 := n0_
                                                              have HO_9 := n1_
                                                              have HL125_0 := n2_
                                                              have HO124 := n3_
                                                              have HR125_0 := n4_
                                                              have HB := n5_
                                                              clear n0_ n1_ n2_ n3_ n4_ n5_
                                                              clear hb ho52
                                                              refine hK.out _ _ ⟨((HB.out.cell (World.block_lt_of_cell? w _ hw121_0)).trans hw121_0), HS1_⟩ (fun hHeld => ?_)
                                                              clear hK K
                                                              refine norm_ (a' := ?_) ?_ ?_
                                                              rotate_left
                                                              · show Act.put _ (some 80) _ = _
                                                                simp only [Act.put, List.setIfInBounds_toArray, List.set_cons_zero, List.set_cons_succ, i64_w, i32_w]
                                                                rfl
                                                              refine last_ (i := 10) (N := some 86) #[true, true, true, true, true, true, true, true, true, true, true, false] rfl rfl (one_of HT_.out (by kernel_rfl)) (by decide) (fun K hK => ?_)
                                                              refine Kd.R_append_rows_step (Kd.int .u8) (w0 := w) w.heap.size (by rfl) (.tmp 80) (.tmp 85) 22 5 (.int .u8 0) 1 rfl Try.underlying22 info5 rfl (by decide) (by omega) v123 y122 (rd_L1 x6_2 (ji18)) _ _ _ (fun _ => True) (fun _ => False) rfl rfl ?aO ?aR (fun _ _ h => h) (fun _ h => h.elim) ?aF ?aB ?aS ?aL ?_
                                                              (case aR => repeat (first | exact (by repeat (first | (with_reducible exact HR125_0.out) | (with_reducible refine Kd.C_alloc ?_ _) | (with_reducible refine Kd.C_drewN ?_ _) | (with_reducible refine Kd.C_drew ?_) | exact HR125_0.out)) | (with_reducible refine Kd.C_alloc ?_ _) | (with_reducible refine Kd.C_drewN ?_ _) | (with_reducible refine Kd.C_drew ?_)))
                                                              (case aB => exact (by repeat (first | (with_reducible first | exact HB.out | apply below_alloc | apply pw_below_drewN | apply below_drew1) | exact HB.out)))
                                                              (case aF => exact (fun _ _ => trivial))
                                                              (case aO => exact (by (with_reducible repeat (first | apply Kd.R_alloc | apply Kd.R_drewN | apply Kd.R_drew)); exact HO124.out))
                                                              (case aS => exact (below_size (by repeat (first | (with_reducible first | exact HB.out | apply below_alloc | apply pw_below_drewN | apply below_drew1) | exact HB.out))))
                                                              (case aL => have := LMc44.out; omega)
                                                              intro v127 w53 ho hb hg hat
                                                              rw [← Ny126.out] at ho
                                                              have n0_ := Aside0.mk (Kd.N_afterv (ok := (fun k_ => some k_ ≠ (.slice (some ⟨go23, 0, none⟩) x9_25.length co27 : Value).ownBlock)) (by (with_reducible repeat (first | apply Kd.N_alloc | apply Kd.N_drewN | apply Kd.N_drew)); exact HO_6.out) hg hat)
                                                              have n1_ := Aside0.mk (Kd.N_afterv (ok := (fun k_ => some k_ ≠ (.slice (some ad114) x6_2.length co31 : Value).ownBlock)) (by (with_reducible repeat (first | apply Kd.N_alloc | apply Kd.N_drewN | apply Kd.N_drew)); exact HO_9.out) hg hat)
                                                              have n2_ := Aside0.mk (Kd.V_afterv (ok := (fun k_ => some k_ ≠ (.slice (some ad114) x6_2.length co31 : Value).ownBlock ∧ some k_ ≠ (.slice (some ⟨go23, 0, none⟩) x9_25.length co27 : Value).ownBlock)) (by (with_reducible repeat (first | apply Kd.V_alloc | apply Kd.V_drewN | apply Kd.V_drew)); exact Kd.V_mono HL125_0.out (fun _ hk => ⟨⟨hk.1.2, hk.1.1⟩, hk.2⟩)) hg hat)
                                                              have n3_ := Aside0.mk (hb)
                                                              have n4_ := Aside0.mk (ho)
                                                              clear HO_6
                                                              clear HO_9
                                                              clear HL125_0
                                                              clear HB
                                                              clear HO124
                                                              have HO_6 := n0_
                                                              have HO_9 := n1_
                                                              have HL125_0 := n2_
                                                              have HB := n3_
                                                              have HO128 := n4_
                                                              clear n0_ n1_ n2_ n3_ n4_
                                                              clear ho hb hg hat
                                                              refine hK.out _ _ ?_
                                                              clear hK K
                                                              refine norm_ (a' := ?_) ?_ ?_
                                                              rotate_left
                                                              · show Act.put _ (some 86) _ = _
                                                                simp only [Act.put, List.setIfInBounds_toArray, List.set_cons_zero, List.set_cons_succ, i64_w, i32_w]
                                                                rfl
                                                              refine pure_ (i := 11) (N := some 11) (v := ?_) (a' := ?_) #[true, true, true, true, true, true, true, true, true, true, true, true] rfl rfl (any_of HT_.out (by kernel_rfl)) (fun _ _ _ h => h) (Or.inl ⟨by rfl, ?_⟩) ?_ ?_
                                                              rotate_left
                                                              · intro w'
                                                                go_simp
                                                                with_reducible rfl
                                                              rotate_left
                                                              · simp only [Act.put, List.setIfInBounds_toArray, List.set_cons_zero, List.set_cons_succ, i64_w, i32_w]
                                                                rfl
                                                              refine done_ (done_of HT_.out (by kernel_rfl)) ?_
                                                              have p129 : 0 ≤ (x10_3 : Int) := of_decide_eq_true (by first | (with_reducible assumption) | assumption)
                                                              have q129 : x10_3 < (x9_25.length : Int) := of_decide_eq_true (by first | (with_reducible assumption) | assumption)
                                                              obtain ⟨ad129, A129_0, c129_0, e129, hx129_0, hl129_0, hi129_0⟩ := at_L1 (Kd.N_reads' HO_9.out).2.2 x10_3 p129 q129
                                                              obtain rfl : (⟨go23, 0, none⟩ : Addr) = ad129 := (by injection e129)
                                                              (try (have ea_ := Option.some.inj (hx129_0.symm.trans hx115_0); injection ea_ with ea_ en_ ec_; subst ea_; subst ec_; clear en_)); (try clear hx115_0)
                                                              obtain ⟨ce129, hce129, hMe129, hcc129⟩ := Kd.N_get HO_9.out [] x10_3 p129 (by first | exact q129 | exact of_decide_eq_true (by first | (with_reducible assumption) | assumption) | (have e_ := (Kd.N_reads' HO_9.out).1; omega))
                                                              obtain ⟨ua129_0, uc129_0, rfl, ul129_0, ge129_0⟩ := Kd.FK_slice_open hMe129
                                                              have hv129_0 := hcc129 0 _ rfl
                                                              rw [Nat.add_zero, show ((Kd.slice 5 (Kd.int .u8))).sz = 1 from rfl, Nat.mul_one] at hv129_0
                                                              replace hv129_0 := Option.some.inj (hv129_0.symm.trans hx129_0)
                                                              injection hv129_0 with hva_ hvn_ hvc_
                                                              rw [hva_] at ge129_0
                                                              rw [hvc_] at ul129_0
                                                              have HL129_0 := Aside0.mk (show Kd.V (Kd.int .u8) 5 _ w.heap.size _ _ (rd_L1 x9_25 x10_3) from Kd.V_mk ul129_0 ge129_0)
                                                              clear hva_ hvn_ hvc_ ge129_0 ul129_0
                                                              clear hcc129 hce129
                                                              (first | simp only [add_plain] at hx129_0 | simp only [add_at] at hx129_0 | simp only [Addr.add, Nat.zero_add] at hx129_0 | skip)
                                                              have HR129_0 := Aside0.mk hi129_0
                                                              have HC129_0 := Aside0.mk hl129_0
                                                              clear hi129_0 hl129_0
                                                              replace p129 := eq_true p129
                                                              replace q129 := eq_true q129
                                                              obtain ⟨Ao54, co54, eo54⟩ := Kd.R_slice HO128.out
                                                              subst eo54
                                                              try go_wp2_with (first | (go_at_call 7; (with_reducible refine (edit_Shared_1.calls _ _ y126 _ _ (rd_L1 x9_25 x10_3) true _ ?side1 ?side2 ?side3 ?side4 A46.out).mono ?_); (case side1 => repeat (first | exact (Kd.R_reads' HO128.out).2.2 | (with_reducible refine Kd.C_alloc ?_ _) | (with_reducible refine Kd.C_drewN ?_ _) | (with_reducible refine Kd.C_drew ?_))); (case side2 => exact (Kd.R_reads' HO128.out).2.1); (case side3 => repeat (first | exact (by repeat (first | (with_reducible exact HR129_0.out) | (with_reducible refine Kd.C_alloc ?_ _) | (with_reducible refine Kd.C_drewN ?_ _) | (with_reducible refine Kd.C_drew ?_) | exact HR129_0.out)) | (with_reducible refine Kd.C_alloc ?_ _) | (with_reducible refine Kd.C_drewN ?_ _) | (with_reducible refine Kd.C_drew ?_))); (case side4 => exact HC129_0.out); rintro e w' ⟨rfl, ⟨nd, rfl⟩⟩; (try (rw [drewN_self w53]; generalize hq_ : World.drewN w53 _ = w53; have n0_ := Aside0.mk (Kd.V_map (base' := w.heap.size) HL125_0.out (fun _ hf_ => Kd.F_at hq_ hf_)); have n1_ := Aside0.mk (Kd.V_map (base' := w.heap.size) HL129_0.out (fun _ hf_ => Kd.F_at hq_ hf_)); have n2_ : Aside0 (Kd.R (Kd.int .u8) 5 w53 w.heap.size (fun _ => True) (.slice Ao54 y126.length co54) y126) := ⟨by rw [← hq_]; exact (by (with_reducible repeat (first | apply Kd.R_alloc | apply Kd.R_drewN | apply Kd.R_drew)); exact HO128.out)⟩; have n3_ := Aside0.mk (Kd.N_at hq_ HO_6.out); have n4_ := Aside0.mk (Kd.N_at hq_ HO_9.out); have n5_ : Aside0 (Below w.heap.size w w53) := ⟨by rw [← hq_]; exact (by repeat (first | (with_reducible first | exact HB.out | apply below_alloc | apply pw_below_drewN | apply below_drew1) | exact HB.out))⟩; have n6_ : Aside0 (Kd.C (Kd.int .u8) w53 A129_0 (rd_L1 x9_25 x10_3).length (rd_L1 x9_25 x10_3)) := ⟨by rw [← hq_]; exact (by repeat (first | (with_reducible exact HR129_0.out) | (with_reducible refine Kd.C_alloc ?_ _) | (with_reducible refine Kd.C_drewN ?_ _) | (with_reducible refine Kd.C_drew ?_) | exact HR129_0.out))⟩; clear HL125_0 HL129_0 HO128 HO_6 HO_9 HB HR129_0 hq_; have HL125_0 := n0_; have HL129_0 := n1_; have HO128 := n2_; have HO_6 := n3_; have HO_9 := n4_; have HB := n5_; have HR129_0 := n6_; clear n0_ n1_ n2_ n3_ n4_ n5_ n6_)); have p48 : 0 ≤ (x10_3 : Int) := of_decide_eq_true (by first | (with_reducible assumption) | assumption); have q48 : (x10_3 : Int) < ((x9_25.length : Int) : Int) := of_decide_eq_true (by first | (with_reducible assumption) | assumption); obtain ⟨ce48, hcl48, hM48, hcc48, hfr48⟩ := Kd.N_elem HO_9.out [] (x10_3 : Int) p48 q48; obtain ⟨ua48_0, uc48_0, rfl, ul48_0, ge48_0⟩ := Kd.FK_slice_open hM48; have hx48_0 := hcc48 0 _ rfl; have hf48_0 := hfr48 0; (try simp only [show ((Kd.slice 5 (Kd.int .u8))).sz = 1 from rfl, Nat.mul_one, Nat.add_zero] at hx48_0); (try simp only [show ((Kd.slice 5 (Kd.int .u8))).sz = 1 from rfl, Nat.mul_one, Nat.add_zero] at hf48_0); (try clear hcl48); (try clear hcc48); (try clear hfr48); (try clear hM48); replace p48 := eq_true p48; replace q48 := eq_true q48; have HX55 := Aside0.mk (show Kd.N (Kd.slice 5 (Kd.int .u8)) 22 w53 w.heap.size (fun k_ => some k_ ≠ (.slice (some ad114) x6_2.length co31 : Value).ownBlock) (.slice (some ⟨go23, 0, none⟩) x9_25.length co27) x9_25 from (by (with_reducible repeat (first | apply Kd.N_alloc | apply Kd.N_drewN | apply Kd.N_drew)); exact Kd.N_mono HO_9.out (fun _ hk => hk.1))); obtain ⟨ce55, hcl55, hM55, hcc55, hfr55⟩ := Kd.N_elem HX55.out [] (x10_3 : Int) (of_decide_eq_true (by first | (with_reducible assumption) | assumption)) (by have h_ : (x10_3 : Int) < ((x9_25.length : Int) : Int) := of_decide_eq_true (by first | (with_reducible assumption) | assumption); first | exact h_ | (have e_ := (Kd.N_reads' HO_9.out).1; omega) | simpa using h_); obtain ⟨ua55_0, uc55_0, rfl, ul55_0, ge55_0⟩ := Kd.FK_slice_open hM55; have HP55 := Kd.N_seg HX55.out (x10_3 : Int) (of_decide_eq_true (by first | (with_reducible assumption) | assumption)) (by have h_ : (x10_3 : Int) < ((x9_25.length : Int) : Int) := of_decide_eq_true (by first | (with_reducible assumption) | assumption); first | exact h_ | (have e_ := (Kd.N_reads' HO_9.out).1; omega) | simpa using h_) (seg := [.slice Ao54 y126.length co54]) (j := 0) hcl55 hcc55 (show 1 ≤ 1 from by decide) (x' := y126) (Kd.FK_slice_mk (Kd.R_reads' (Kd.R_mono (ok' := (fun k_ => ((fun k_ => some k_ ≠ (.slice (some ad114) x6_2.length co31 : Value).ownBlock)) k_ ∧ k_ ≠ go23)) (Kd.R_apart' (Kd.R_apart' (HO128.out) (Kd.N_typed HO_6.out) (by decide)) (Kd.N_typed HO_9.out) (by decide)) (fun k_ hk => ⟨hk.1.2, fun e_ => (hk.2) (by rw [e_]; rfl)⟩))).2.1 (Kd.R_F (Kd.R_mono (ok' := (fun k_ => ((fun k_ => some k_ ≠ (.slice (some ad114) x6_2.length co31 : Value).ownBlock)) k_ ∧ k_ ≠ go23)) (Kd.R_apart' (Kd.R_apart' (HO128.out) (Kd.N_typed HO_6.out) (by decide)) (Kd.N_typed HO_9.out) (by decide)) (fun k_ hk => ⟨hk.1.2, fun e_ => (hk.2) (by rw [e_]; rfl)⟩)))) (fun _ hk => hk); have hx55_0 := hcc55 0 _ rfl; (try simp only [show ((Kd.slice 5 (Kd.int .u8))).sz = 1 from rfl, Nat.mul_one, Nat.add_zero] at hx55_0); have hf55_0 := hfr55 0; (try simp only [show ((Kd.slice 5 (Kd.int .u8))).sz = 1 from rfl, Nat.mul_one, Nat.add_zero] at hf55_0); (try clear hcl55); (try clear hcc55); (try clear hfr55); (try clear hM55); (try simp only [show ((Kd.slice 5 (Kd.int .u8))).sz = 1 from rfl, Nat.mul_one, Nat.add_zero] at HP55); (try simp only [show ((Kd.slice 5 (Kd.int .u8))).sz = 1 from rfl, Nat.mul_one, Nat.add_zero] at HP55)) | ((with_reducible refine gate_store (t := 22) (p := 97) rfl ?_); (try (rw [drewN_self w53]; generalize hq_ : World.drewN w53 _ = w53; (try (have nx_ := Aside0.mk (Kd.N_at hq_ HO_6.out); clear HO_6; have HO_6 := nx_; clear nx_)); (try (have nx_ := Aside0.mk (Kd.N_at hq_ HO_9.out); clear HO_9; have HO_9 := nx_; clear nx_)); (try (have nx_ := Aside0.mk (Kd.V_map (base' := w.heap.size) HL125_0.out (fun _ hf_ => Kd.F_at hq_ hf_)); clear HL125_0; have HL125_0 := nx_; clear nx_)); (try (have nx_ := Aside0.mk (Kd.V_map (base' := w.heap.size) HL129_0.out (fun _ hf_ => Kd.F_at hq_ hf_)); clear HL129_0; have HL129_0 := nx_; clear nx_)); (try (have nx_ := Aside0.mk (below_at hq_ HB.out); clear HB; have HB := nx_; clear nx_)); (try clear hq_); (try (have HX55 := Aside0.mk (show Kd.N (Kd.slice 5 (Kd.int .u8)) 22 w53 w.heap.size (fun k_ => some k_ ≠ (.slice (some ad114) x6_2.length co31 : Value).ownBlock) (.slice (some ⟨go23, 0, none⟩) x9_25.length co27) x9_25 from (by (with_reducible repeat (first | apply Kd.N_alloc | apply Kd.N_drewN | apply Kd.N_drew)); exact Kd.N_mono HO_9.out (fun _ hk => hk.1))))); (try (obtain ⟨ce55, hcl55, hM55, hcc55, hfr55⟩ := Kd.N_elem HX55.out [] (x10_3 : Int) (of_decide_eq_true (by first | (with_reducible assumption) | assumption)) (by have h_ : (x10_3 : Int) < ((x9_25.length : Int) : Int) := of_decide_eq_true (by first | (with_reducible assumption) | assumption); first | exact h_ | (have e_ := (Kd.N_reads' HO_9.out).1; omega) | simpa using h_))); (try (obtain ⟨ua55_0, uc55_0, rfl, ul55_0, ge55_0⟩ := Kd.FK_slice_open hM55)); (try (have HP55 := Kd.N_seg HX55.out (x10_3 : Int) (of_decide_eq_true (by first | (with_reducible assumption) | assumption)) (by have h_ : (x10_3 : Int) < ((x9_25.length : Int) : Int) := of_decide_eq_true (by first | (with_reducible assumption) | assumption); first | exact h_ | (have e_ := (Kd.N_reads' HO_9.out).1; omega) | simpa using h_) (seg := [.slice Ao54 y126.length co54]) (j := 0) hcl55 hcc55 (show 1 ≤ 1 from by decide) (x' := y126) (Kd.FK_slice_mk (Kd.R_reads' (Kd.R_mono (ok' := (fun k_ => ((fun k_ => some k_ ≠ (.slice (some ad114) x6_2.length co31 : Value).ownBlock)) k_ ∧ k_ ≠ go23)) (Kd.R_apart' (Kd.R_apart' (HO128.out) (Kd.N_typed HO_6.out) (by decide)) (Kd.N_typed HO_9.out) (by decide)) (fun k_ hk => ⟨hk.1.2, fun e_ => (hk.2) (by rw [e_]; rfl)⟩))).2.1 (Kd.R_F (Kd.R_mono (ok' := (fun k_ => ((fun k_ => some k_ ≠ (.slice (some ad114) x6_2.length co31 : Value).ownBlock)) k_ ∧ k_ ≠ go23)) (Kd.R_apart' (Kd.R_apart' (HO128.out) (Kd.N_typed HO_6.out) (by decide)) (Kd.N_typed HO_9.out) (by decide)) (fun k_ hk => ⟨hk.1.2, fun e_ => (hk.2) (by rw [e_]; rfl)⟩)))) (fun _ hk => hk))); (try (have hx55_0 := hcc55 0 _ rfl)); (try (try simp only [show ((Kd.slice 5 (Kd.int .u8))).sz = 1 from rfl, Nat.mul_one, Nat.add_zero] at hx55_0)); (try (have hf55_0 := hfr55 0)); (try (try simp only [show ((Kd.slice 5 (Kd.int .u8))).sz = 1 from rfl, Nat.mul_one, Nat.add_zero] at hf55_0)); (try (try clear hcl55); (try clear hcc55); (try clear hfr55); (try clear hM55)); (try (try simp only [show ((Kd.slice 5 (Kd.int .u8))).sz = 1 from rfl, Nat.mul_one, Nat.add_zero] at HP55)); (try (try simp only [show ((Kd.slice 5 (Kd.int .u8))).sz = 1 from rfl, Nat.mul_one, Nat.add_zero] at HP55)))); refine store_event (t := 22) (p := 97) (v := ?vo_w56) (w1 := (w53.setCell ⟨go23, (x10_3 : Int).toNat, none⟩ (.slice Ao54 y126.length co54))) ?hg ?ho ?hn ?hr ?_; (case ho => rfl); (case hg => rfl); (case hn => rfl); (case hr => first | (go_simp; done) | (go_simp; rfl) | (obtain ⟨_, _, rfl⟩ := Kd.R_slice HO128.out; (first | (go_simp; done) | (go_simp; rfl)))); intro w56 hw; have hg : w53.grownBy w56 (some go23) := (by rw [hw]; exact HP55.2); have hp_ : Kd.N (Kd.slice 5 (Kd.int .u8)) 22 w56 w.heap.size (fun k_ => some k_ ≠ (.slice (some ad114) x6_2.length co31 : Value).ownBlock) (.slice (some ⟨go23, 0, none⟩) x9_25.length co27) y131 := (by rw [hw, Ny131.out]; exact HP55.1); clear HP55; have n0_ := Aside0.mk (Kd.N_afterv (v := (.slice (some ⟨go23, 0, none⟩) x9_25.length co27)) (v1 := (.slice (some ⟨go23, 0, none⟩) x9_25.length co27)) (ok := (fun k_ => some k_ ≠ (.slice Ao54 y126.length co54 : Value).ownBlock)) (by (with_reducible repeat (first | apply Kd.N_alloc | apply Kd.N_drewN | apply Kd.N_drew)); exact Kd.N_mono HO_6.out (fun _ hk => ⟨hk.2, hk.1⟩)) hg (.inl rfl)); have n1_ := Aside0.mk (hp_); have n2_ := Aside0.mk (Kd.V_afterv (v := (.slice (some ⟨go23, 0, none⟩) x9_25.length co27)) (v1 := (.slice (some ⟨go23, 0, none⟩) x9_25.length co27)) (ok := (fun k_ => some k_ ≠ (.slice (some ad114) x6_2.length co31 : Value).ownBlock ∧ some k_ ≠ (.slice Ao54 y126.length co54 : Value).ownBlock)) (by (with_reducible repeat (first | apply Kd.V_alloc | apply Kd.V_drewN | apply Kd.V_drew)); exact Kd.V_mono HL125_0.out (fun _ hk => ⟨⟨hk.1.1, hk.2⟩, hk.1.2⟩)) hg (.inl rfl)); have n3_ := Aside0.mk (Kd.V_afterv (v := (.slice (some ⟨go23, 0, none⟩) x9_25.length co27)) (v1 := (.slice (some ⟨go23, 0, none⟩) x9_25.length co27)) (ok := (fun k_ => some k_ ≠ (.slice (some ad114) x6_2.length co31 : Value).ownBlock ∧ some k_ ≠ (.slice Ao54 y126.length co54 : Value).ownBlock)) (by (with_reducible repeat (first | apply Kd.V_alloc | apply Kd.V_drewN | apply Kd.V_drew)); exact HL129_0.out) hg (.inl rfl)); have n4_ := Aside0.mk ((by rw [hw]; exact below_set (HB.out) GB23.out : Below w.heap.size w w56)); clear HO_6; clear HO_9; clear HL125_0; clear HL129_0; clear HB; clear HO128; have HO_6 := n0_; have HO_9 := n1_; have HL125_0 := n2_; have HL129_0 := n3_; have HB := n4_; clear n0_ n1_ n2_ n3_ n4_; clear hg hw hp_))
                                                              (try simp only [← hl9_25])
                                                              (first | go_roundg kj25 | (simp only [← hji18]; go_roundg kj25) | (simp only [← hji18, ← hji18]; go_roundg kj25) | (simp only [← hji6, ← hji18, ← hji18]; go_roundg kj25) | (simp only [← hji6, ← hji6, ← hji18, ← hji18]; go_roundg kj25))
                                                              case measure => have := HJ2.out; have := HK2.out; have := HK3.out; have := HJ25.out; omega
                                                              case rel => first | exact ⟨(y131), (wrap64 (x10_3 - 1)), (by first | rfl | (simp; done) | (simp [*]; done)), H', ⟨by have := HJ2.out; have := HK2.out; have := HK3.out; have := HJ25.out; omega⟩, ⟨by (try simp only [hl9_25]); (with_reducible repeat (first | apply Kd.N_alloc | apply Kd.N_drewN | apply Kd.N_drew)); exact Kd.N_mono HO_6.out (fun _ hk => hk.2)⟩, ⟨by (try simp only [hl9_25]); (with_reducible repeat (first | apply Kd.N_alloc | apply Kd.N_drewN | apply Kd.N_drew)); exact HO_9.out⟩, ⟨by repeat (first | (with_reducible first | exact HB.out | apply below_alloc | apply pw_below_drewN | apply below_drew1) | exact HB.out)⟩⟩ | (subst hji18; subst hji18; subst hji6; subst hji6; exact ⟨(y131), (wrap64 (x10_3 - 1)), (by first | rfl | (simp; done) | (simp [*]; done)), H', ⟨by have := HJ2.out; have := HK2.out; have := HK3.out; have := HJ25.out; omega⟩, ⟨by (try simp only [hl9_25]); (with_reducible repeat (first | apply Kd.N_alloc | apply Kd.N_drewN | apply Kd.N_drew)); exact Kd.N_mono HO_6.out (fun _ hk => hk.2)⟩, ⟨by (try simp only [hl9_25]); (with_reducible repeat (first | apply Kd.N_alloc | apply Kd.N_drewN | apply Kd.N_drew)); exact HO_9.out⟩, ⟨by repeat (first | (with_reducible first | exact HB.out | apply below_alloc | apply pw_below_drewN | apply below_drew1) | exact HB.out)⟩⟩)
                                                            · replace c47 := Bool.eq_false_iff.mpr c47
                                                              subst c47
                                                              have H1 : (edit_Shared.l1 kj25 l0 l1 x6_2 x8_2 x9_25 (wrap64 (x10_3 - 1))) = some (r1, r2) := by rw [if_neg (show ¬ (false = true) by decide)] at H; exact H
                                                              clear H
                                                              have H := H1
                                                              clear H1
                                                              have H' := Aside0.mk H
                                                              clear H
                                                              try go_wp2
                                                              have n0_ := Aside0.mk (Kd.N_drew HO_6.out)
                                                              have n1_ := Aside0.mk (Kd.N_drew HO_9.out)
                                                              have n2_ := Aside0.mk (below_drew1 HB.out)
                                                              clear HO_6
                                                              clear HO_9
                                                              clear HB
                                                              have HO_6 := n0_
                                                              have HO_9 := n1_
                                                              have HB := n2_
                                                              clear n0_ n1_ n2_
                                                              have p119 : 0 ≤ (x8_2 : Int) := of_decide_eq_true (by first | (with_reducible assumption) | assumption)
                                                              have q119 : x8_2 < (l0.length : Int) := of_decide_eq_true (by first | (with_reducible assumption) | assumption)
                                                              obtain ⟨ad119, e119, hx119_0⟩ := Kd.at_int HR0.out x8_2 p119 q119
                                                              have hw119_0 := hx119_0
                                                              cases e119
                                                              replace hx119_0 := (HB.out.cell (World.block_lt_of_cell? w _ hx119_0)).trans hx119_0
                                                              replace p119 := eq_true p119
                                                              replace q119 := eq_true q119
                                                              have p120 : 0 ≤ (x10_3 : Int) := of_decide_eq_true (by first | (with_reducible assumption) | assumption)
                                                              have q120 : x10_3 < (l1.length : Int) := of_decide_eq_true (by first | (with_reducible assumption) | assumption)
                                                              obtain ⟨ad120, e120, hx120_0⟩ := Kd.at_int HR1.out x10_3 p120 q120
                                                              have hw120_0 := hx120_0
                                                              cases e120
                                                              replace hx120_0 := (HB.out.cell (World.block_lt_of_cell? w _ hx120_0)).trans hx120_0
                                                              replace p120 := eq_true p120
                                                              replace q120 := eq_true q120
                                                              refine start_ (n := 9) (S := fun w' => w'.cell? (ad119.add (x8_2).toNat) = some (.int .u8 (rd l0 x8_2)) ∧ w'.cell? (ad120.add (x10_3).toNat) = some (.int .u8 (rd l1 x10_3))) (ds := []) #[false, false, false, false, false, false, false, false, false] (by kernel_rfl) rfl rfl ⟨((HB.out.cell (World.block_lt_of_cell? w _ hw119_0)).trans hw119_0), ((HB.out.cell (World.block_lt_of_cell? w _ hw120_0)).trans hw120_0)⟩ (fun hHeld => ?_); refine with_tabW edit_Shared.tab15 edit_Shared.bits15 (fun HT_ HW_ => ?_)
                                                              generalize wc.drew = w57 at HO_6 HO_9 HB hx119_0 hx120_0 hHeld ⊢
                                                              refine pure_ (i := 0) (N := some 67) (v := ?_) (a' := ?_) #[true, false, false, false, false, false, false, false, false] rfl rfl (any_of HT_.out (by kernel_rfl)) (fun _ _ _ h => h) (Or.inl ⟨by rfl, ?_⟩) ?_ ?_
                                                              rotate_left
                                                              · intro w'
                                                                go_simp
                                                                with_reducible rfl
                                                              rotate_left
                                                              · simp only [Act.put, List.setIfInBounds_toArray, List.set_cons_zero, List.set_cons_succ, i64_w, i32_w]
                                                                rfl
                                                              refine pure_ (i := 1) (N := some 68) (v := ?_) (a' := ?_) #[true, true, false, false, false, false, false, false, false] rfl rfl (any_of HT_.out (by kernel_rfl)) (fun _ _ _ h => h) (Or.inl ⟨by rfl, ?_⟩) ?_ ?_
                                                              rotate_left
                                                              · intro w'
                                                                go_simp
                                                                with_reducible rfl
                                                              rotate_left
                                                              · simp only [Act.put, List.setIfInBounds_toArray, List.set_cons_zero, List.set_cons_succ, i64_w, i32_w]
                                                                rfl
                                                              refine pure_ (i := 2) (N := some 69) (v := ?_) (a' := ?_) #[true, true, true, false, false, false, false, false, false] rfl rfl (any_of HT_.out (by kernel_rfl)) (fun _ _ _ h => h) (Or.inl ⟨by rfl, ?_⟩) ?_ ?_
                                                              rotate_left
                                                              · intro w'
                                                                go_simp
                                                                with_reducible rfl
                                                              rotate_left
                                                              · simp only [Act.put, List.setIfInBounds_toArray, List.set_cons_zero, List.set_cons_succ, i64_w, i32_w]
                                                                rfl
                                                              refine pure_ (i := 4) (N := some 71) (v := ?_) (a' := ?_) #[true, true, true, false, true, false, false, false, false] rfl rfl (any_of HT_.out (by kernel_rfl)) (fun _ _ _ h => h) (Or.inl ⟨by rfl, ?_⟩) ?_ ?_
                                                              rotate_left
                                                              · intro w'
                                                                go_simp
                                                                with_reducible rfl
                                                              rotate_left
                                                              · simp only [Act.put, List.setIfInBounds_toArray, List.set_cons_zero, List.set_cons_succ, i64_w, i32_w]
                                                                rfl
                                                              refine pure_ (i := 5) (N := some 72) (v := ?_) (a' := ?_) #[true, true, true, false, true, true, false, false, false] rfl rfl (any_of HT_.out (by kernel_rfl)) (fun _ _ _ h => h) (Or.inl ⟨by rfl, ?_⟩) ?_ ?_
                                                              rotate_left
                                                              · intro w'
                                                                go_simp
                                                                with_reducible rfl
                                                              rotate_left
                                                              · simp only [Act.put, List.setIfInBounds_toArray, List.set_cons_zero, List.set_cons_succ, i64_w, i32_w]
                                                                rfl
                                                              refine pure_ (i := 6) (N := some 73) (v := ?_) (a' := ?_) #[true, true, true, false, true, true, true, false, false] rfl rfl (any_of HT_.out (by kernel_rfl)) (fun _ _ _ h => h) (Or.inl ⟨by rfl, ?_⟩) ?_ ?_
                                                              rotate_left
                                                              · intro w'
                                                                go_simp
                                                                with_reducible rfl
                                                              rotate_left
                                                              · simp only [Act.put, List.setIfInBounds_toArray, List.set_cons_zero, List.set_cons_succ, i64_w, i32_w]
                                                                rfl
                                                              refine take_ (i := 3) (N := some 70) (v := ?_) (a' := ?_) #[true, true, true, true, true, true, true, false, false] rfl rfl (take_ofW HT_.out HW_.out (by kernel_rfl)) (fun _ _ _ h => h) (Or.inl ⟨by rfl, ?_⟩) hHeld ?_ ?_
                                                              rotate_left
                                                              · rintro w' ⟨s0, s1⟩
                                                                go_simp
                                                                with_reducible rfl
                                                              rotate_left
                                                              · simp only [Act.put, List.setIfInBounds_toArray, List.set_cons_zero, List.set_cons_succ, i64_w, i32_w]
                                                                rfl
                                                              refine take_ (i := 7) (N := some 74) (v := ?_) (a' := ?_) #[true, true, true, true, true, true, true, true, false] rfl rfl (take_ofW HT_.out HW_.out (by kernel_rfl)) (fun _ _ _ h => h) (Or.inl ⟨by rfl, ?_⟩) hHeld ?_ ?_
                                                              rotate_left
                                                              · rintro w' ⟨s0, s1⟩
                                                                go_simp
                                                                with_reducible rfl
                                                              rotate_left
                                                              · simp only [Act.put, List.setIfInBounds_toArray, List.set_cons_zero, List.set_cons_succ, i64_w, i32_w]
                                                                rfl
                                                              refine pure_ (i := 8) (N := some 75) (v := ?_) (a' := ?_) #[true, true, true, true, true, true, true, true, true] rfl rfl (any_of HT_.out (by kernel_rfl)) (fun _ _ _ h => h) (Or.inl ⟨by rfl, ?_⟩) ?_ ?_
                                                              rotate_left
                                                              · intro w'
                                                                go_simp
                                                                with_reducible rfl
                                                              rotate_left
                                                              · simp only [Act.put, List.setIfInBounds_toArray, List.set_cons_zero, List.set_cons_succ, i64_w, i32_w]
                                                                rfl
                                                              refine done_ (done_of HT_.out (by kernel_rfl)) ?_
                                                              try go_wp2
                                                              have n0_ := Aside0.mk (Kd.N_drew HO_6.out)
                                                              have n1_ := Aside0.mk (Kd.N_drew HO_9.out)
                                                              have n2_ := Aside0.mk (below_drew1 HB.out)
                                                              clear HO_6
                                                              clear HO_9
                                                              clear HB
                                                              have HO_6 := n0_
                                                              have HO_9 := n1_
                                                              have HB := n2_
                                                              clear n0_ n1_ n2_
                                                              have p121 : 0 ≤ (x8_2 : Int) := of_decide_eq_true (by first | (with_reducible assumption) | assumption)
                                                              have q121 : x8_2 < (l0.length : Int) := of_decide_eq_true (by first | (with_reducible assumption) | assumption)
                                                              obtain ⟨ad121, e121, hx121_0⟩ := Kd.at_int HR0.out x8_2 p121 q121
                                                              have hw121_0 := hx121_0
                                                              obtain rfl : ad119 = ad121 := (by injection e121)
                                                              replace hx121_0 := (HB.out.cell (World.block_lt_of_cell? w _ hx121_0)).trans hx121_0
                                                              replace p121 := eq_true p121
                                                              replace q121 := eq_true q121
                                                              have p125 : 0 ≤ ((ji18) : Int) := of_decide_eq_true (by first | (with_reducible assumption) | assumption)
                                                              have q125 : (ji18) < (x6_2.length : Int) := of_decide_eq_true (by first | (with_reducible assumption) | assumption)
                                                              obtain ⟨ad125, A125_0, c125_0, e125, hx125_0, hl125_0, hi125_0⟩ := at_L1 (Kd.N_reads' HO_6.out).2.2 (ji18) p125 q125
                                                              obtain rfl : ad114 = ad125 := (by injection e125)
                                                              obtain ⟨ce125, hce125, hMe125, hcc125⟩ := Kd.N_get HO_6.out [] (ji18) p125 (by first | exact q125 | exact of_decide_eq_true (by first | (with_reducible assumption) | assumption) | (have e_ := (Kd.N_reads' HO_6.out).1; omega))
                                                              obtain ⟨ua125_0, uc125_0, rfl, ul125_0, ge125_0⟩ := Kd.FK_slice_open hMe125
                                                              have hv125_0 := hcc125 0 _ rfl
                                                              rw [Nat.add_zero, show ((Kd.slice 5 (Kd.int .u8))).sz = 1 from rfl, Nat.mul_one] at hv125_0
                                                              replace hv125_0 := Option.some.inj (hv125_0.symm.trans hx125_0)
                                                              injection hv125_0 with hva_ hvn_ hvc_
                                                              rw [hva_] at ge125_0
                                                              rw [hvc_] at ul125_0
                                                              have HL125_0 := Aside0.mk (show Kd.V (Kd.int .u8) 5 _ w.heap.size _ _ (rd_L1 x6_2 (ji18)) from Kd.V_mk ul125_0 ge125_0)
                                                              clear hva_ hvn_ hvc_ ge125_0 ul125_0
                                                              clear hcc125 hce125
                                                              have HR125_0 := Aside0.mk hi125_0
                                                              have HC125_0 := Aside0.mk hl125_0
                                                              clear hi125_0 hl125_0
                                                              replace p125 := eq_true p125
                                                              replace q125 := eq_true q125
                                                              refine start_ (n := 12) (S := fun w' => w'.cell? (ad119.add (x8_2).toNat) = some (.int .u8 (rd l0 x8_2)) ∧ w'.cell? (ad114.add ((ji18)).toNat) = some (.slice A125_0 (rd_L1 x6_2 (ji18)).length c125_0)) (ds := [10]) #[false, false, false, false, false, false, false, false, false, false, false, false] (by kernel_rfl) rfl rfl ⟨((HB.out.cell (World.block_lt_of_cell? w _ hw121_0)).trans hw121_0), hx125_0⟩ (fun hHeld => ?_); refine with_tabW edit_Shared.tab16 edit_Shared.bits16 (fun HT_ HW_ => ?_)
                                                              generalize w57.drew = w58 at HO_6 HO_9 HB HL125_0 HR125_0 hx121_0 hx125_0 hHeld ⊢
                                                              refine pure_ (i := 0) (N := some 76) (v := ?_) (a' := ?_) #[true, false, false, false, false, false, false, false, false, false, false, false] rfl rfl (any_of HT_.out (by kernel_rfl)) (fun _ _ _ h => h) (Or.inl ⟨by rfl, ?_⟩) ?_ ?_
                                                              rotate_left
                                                              · intro w'
                                                                go_simp
                                                                with_reducible rfl
                                                              rotate_left
                                                              · simp only [Act.put, List.setIfInBounds_toArray, List.set_cons_zero, List.set_cons_succ, i64_w, i32_w]
                                                                rfl
                                                              refine pure_ (i := 1) (N := some 77) (v := ?_) (a' := ?_) #[true, true, false, false, false, false, false, false, false, false, false, false] rfl rfl (any_of HT_.out (by kernel_rfl)) (fun _ _ _ h => h) (Or.inl ⟨by rfl, ?_⟩) ?_ ?_
                                                              rotate_left
                                                              · intro w'
                                                                go_simp
                                                                with_reducible rfl
                                                              rotate_left
                                                              · simp only [Act.put, List.setIfInBounds_toArray, List.set_cons_zero, List.set_cons_succ, i64_w, i32_w]
                                                                rfl
                                                              refine pure_ (i := 2) (N := some 78) (v := ?_) (a' := ?_) #[true, true, true, false, false, false, false, false, false, false, false, false] rfl rfl (any_of HT_.out (by kernel_rfl)) (fun _ _ _ h => h) (Or.inl ⟨by rfl, ?_⟩) ?_ ?_
                                                              rotate_left
                                                              · intro w'
                                                                go_simp
                                                                with_reducible rfl
                                                              rotate_left
                                                              · simp only [Act.put, List.setIfInBounds_toArray, List.set_cons_zero, List.set_cons_succ, i64_w, i32_w]
                                                                rfl
                                                              refine pure_ (i := 5) (N := some 81) (v := ?_) (a' := ?_) #[true, true, true, false, false, true, false, false, false, false, false, false] rfl rfl (any_of HT_.out (by kernel_rfl)) (fun _ _ _ h => h) (Or.inl ⟨by rfl, ?_⟩) ?_ ?_
                                                              rotate_left
                                                              · intro w'
                                                                go_simp
                                                                with_reducible rfl
                                                              rotate_left
                                                              · simp only [Act.put, List.setIfInBounds_toArray, List.set_cons_zero, List.set_cons_succ, i64_w, i32_w]
                                                                rfl
                                                              refine pure_ (i := 6) (N := some 82) (v := ?_) (a' := ?_) #[true, true, true, false, false, true, true, false, false, false, false, false] rfl rfl (any_of HT_.out (by kernel_rfl)) (fun _ _ _ h => h) (Or.inl ⟨by rfl, ?_⟩) ?_ ?_
                                                              rotate_left
                                                              · intro w'
                                                                go_simp
                                                                with_reducible rfl
                                                              rotate_left
                                                              · simp only [Act.put, List.setIfInBounds_toArray, List.set_cons_zero, List.set_cons_succ, i64_w, i32_w]
                                                                rfl
                                                              refine pure_ (i := 7) (N := some 83) (v := ?_) (a' := ?_) #[true, true, true, false, false, true, true, true, false, false, false, false] rfl rfl (any_of HT_.out (by kernel_rfl)) (fun _ _ _ h => h) (Or.inl ⟨by rfl, ?_⟩) ?_ ?_
                                                              rotate_left
                                                              · intro w'
                                                                go_simp
                                                                with_reducible rfl
                                                              rotate_left
                                                              · simp only [Act.put, List.setIfInBounds_toArray, List.set_cons_zero, List.set_cons_succ, i64_w, i32_w]
                                                                rfl
                                                              refine pure_ (i := 8) (N := some 84) (v := ?_) (a' := ?_) #[true, true, true, false, false, true, true, true, true, false, false, false] rfl rfl (any_of HT_.out (by kernel_rfl)) (fun _ _ _ h => h) (Or.inl ⟨by rfl, ?_⟩) ?_ ?_
                                                              rotate_left
                                                              · intro w'
                                                                go_simp
                                                                with_reducible rfl
                                                              rotate_left
                                                              · simp only [Act.put, List.setIfInBounds_toArray, List.set_cons_zero, List.set_cons_succ, i64_w, i32_w]
                                                                rfl
                                                              refine take_ (i := 3) (N := some 79) (v := ?_) (a' := ?_) #[true, true, true, true, false, true, true, true, true, false, false, false] rfl rfl (take_ofW HT_.out HW_.out (by kernel_rfl)) (fun _ _ _ h => h) (Or.inl ⟨by rfl, ?_⟩) hHeld ?_ ?_
                                                              rotate_left
                                                              · rintro w' ⟨s0, s1⟩
                                                                go_simp
                                                                with_reducible rfl
                                                              rotate_left
                                                              · simp only [Act.put, List.setIfInBounds_toArray, List.set_cons_zero, List.set_cons_succ, i64_w, i32_w]
                                                                rfl
                                                              refine take_ (i := 9) (N := some 85) (v := ?_) (a' := ?_) #[true, true, true, true, false, true, true, true, true, true, false, false] rfl rfl (take_ofW HT_.out HW_.out (by kernel_rfl)) (fun _ _ _ h => h) (Or.inl ⟨by rfl, ?_⟩) hHeld ?_ ?_
                                                              rotate_left
                                                              · rintro w' ⟨s0, s1⟩
                                                                go_simp
                                                                with_reducible rfl
                                                              rotate_left
                                                              · simp only [Act.put, List.setIfInBounds_toArray, List.set_cons_zero, List.set_cons_succ, i64_w, i32_w]
                                                                rfl
                                                              refine one_ (i := 4) (N := some 80) #[true, true, true, true, true, true, true, true, true, true, false, false] rfl rfl (one_of HT_.out (by kernel_rfl)) (by decide) (fun K hK => ?_)
                                                              refine Kd.R_lit_step (Kd.int .u8) _ 5 ?hg (N := 80) ?hd (xs := ([rd l0 x8_2] : List Int)) (inner := [.int .u8 (rd l0 x8_2)]) (ok := fun _ => True) (okp := fun _ => True) ?hr ?hp (fun _ hk => hk) trivial (Below.refl _ _) (Nat.le_refl _) (by simp) ?_; (case hd => rfl); (case hg => rfl); (case hr => first | (go_simp; done) | (go_simp; rfl)); (case hp => exact (Reps.one (show Kd.M (Kd.int .u8) _ _ _ (rd l0 x8_2) [.int .u8 (rd l0 x8_2)] from rfl) (Reps.none _ _)))
                                                              intro v123 w59 ho60 hb hg_ hnew_
                                                              have HS1_ := (hb.cell (World.block_lt_of_cell? _ _ (hHeld.2))).trans (hHeld.2)
                                                              clear hg_ hnew_
                                                              (first | rw [← Ny122.out] at ho60 | (simp only [Int.reduceToNat] at ho60; rw [← Ny122.out] at ho60))
                                                              have n0_ := Aside0.mk (Kd.N_elder' (by (with_reducible repeat (first | apply Kd.N_alloc | apply Kd.N_drewN | apply Kd.N_drew)); exact HO_6.out) (Kd.R_base ho60) hb)
                                                              have n1_ := Aside0.mk (Kd.N_elder' (by (with_reducible repeat (first | apply Kd.N_alloc | apply Kd.N_drewN | apply Kd.N_drew)); exact HO_9.out) (Kd.R_base ho60) hb)
                                                              have n2_ := Aside0.mk (Kd.V_elder' (by (with_reducible repeat (first | apply Kd.V_alloc | apply Kd.V_drewN | apply Kd.V_drew)); exact HL125_0.out) (Kd.R_base ho60) hb)
                                                              have n3_ := Aside0.mk (Kd.R_lower ho60 (below_size (by repeat (first | (with_reducible first | exact HB.out | apply below_alloc | apply pw_below_drewN | apply below_drew1) | exact HB.out))))
                                                              have n4_ := Aside0.mk (Kd.C_below (by repeat (first | (with_reducible exact HR125_0.out) | (with_reducible refine Kd.C_alloc ?_ _) | (with_reducible refine Kd.C_drewN ?_ _) | (with_reducible refine Kd.C_drew ?_) | exact HR125_0.out)) hb)
                                                              have n5_ := Aside0.mk (below_step (by repeat (first | (with_reducible first | exact HB.out | apply below_alloc | apply pw_below_drewN | apply below_drew1) | exact HB.out)) hb)
                                                              clear HO_6
                                                              clear HO_9
                                                              clear HL125_0
                                                              clear HR125_0
                                                              clear HB
                                                              have HO_6 := n0_
                                                              have HO_9 := n1_
                                                              have HL125_0 := n2_
                                                              have HO124 := n3_
                                                              have HR125_0 := n4_
                                                              have HB := n5_
                                                              clear n0_ n1_ n2_ n3_ n4_ n5_
                                                              clear hb ho60
                                                              refine hK.out _ _ ⟨((HB.out.cell (World.block_lt_of_cell? w _ hw121_0)).trans hw121_0), HS1_⟩ (fun hHeld => ?_)
                                                              clear hK K
                                                              refine norm_ (a' := ?_) ?_ ?_
                                                              rotate_left
                                                              · show Act.put _ (some 80) _ = _
                                                                simp only [Act.put, List.setIfInBounds_toArray, List.set_cons_zero, List.set_cons_succ, i64_w, i32_w]
                                                                rfl
                                                              refine last_ (i := 10) (N := some 86) #[true, true, true, true, true, true, true, true, true, true, true, false] rfl rfl (one_of HT_.out (by kernel_rfl)) (by decide) (fun K hK => ?_)
                                                              refine Kd.R_append_rows_step (Kd.int .u8) (w0 := w) w.heap.size (by rfl) (.tmp 80) (.tmp 85) 22 5 (.int .u8 0) 1 rfl Try.underlying22 info5 rfl (by decide) (by omega) v123 y122 (rd_L1 x6_2 (ji18)) _ _ _ (fun _ => True) (fun _ => False) rfl rfl ?aO ?aR (fun _ _ h => h) (fun _ h => h.elim) ?aF ?aB ?aS ?aL ?_
                                                              (case aR => repeat (first | exact (by repeat (first | (with_reducible exact HR125_0.out) | (with_reducible refine Kd.C_alloc ?_ _) | (with_reducible refine Kd.C_drewN ?_ _) | (with_reducible refine Kd.C_drew ?_) | exact HR125_0.out)) | (with_reducible refine Kd.C_alloc ?_ _) | (with_reducible refine Kd.C_drewN ?_ _) | (with_reducible refine Kd.C_drew ?_)))
                                                              (case aB => exact (by repeat (first | (with_reducible first | exact HB.out | apply below_alloc | apply pw_below_drewN | apply below_drew1) | exact HB.out)))
                                                              (case aF => exact (fun _ _ => trivial))
                                                              (case aO => exact (by (with_reducible repeat (first | apply Kd.R_alloc | apply Kd.R_drewN | apply Kd.R_drew)); exact HO124.out))
                                                              (case aS => exact (below_size (by repeat (first | (with_reducible first | exact HB.out | apply below_alloc | apply pw_below_drewN | apply below_drew1) | exact HB.out))))
                                                              (case aL => have := LMc44.out; omega)
                                                              intro v127 w61 ho hb hg hat
                                                              rw [← Ny126.out] at ho
                                                              have n0_ := Aside0.mk (Kd.N_afterv (ok := (fun k_ => some k_ ≠ (.slice (some ⟨go23, 0, none⟩) x9_25.length co27 : Value).ownBlock)) (by (with_reducible repeat (first | apply Kd.N_alloc | apply Kd.N_drewN | apply Kd.N_drew)); exact HO_6.out) hg hat)
                                                              have n1_ := Aside0.mk (Kd.N_afterv (ok := (fun k_ => some k_ ≠ (.slice (some ad114) x6_2.length co31 : Value).ownBlock)) (by (with_reducible repeat (first | apply Kd.N_alloc | apply Kd.N_drewN | apply Kd.N_drew)); exact HO_9.out) hg hat)
                                                              have n2_ := Aside0.mk (Kd.V_afterv (ok := (fun k_ => some k_ ≠ (.slice (some ad114) x6_2.length co31 : Value).ownBlock ∧ some k_ ≠ (.slice (some ⟨go23, 0, none⟩) x9_25.length co27 : Value).ownBlock)) (by (with_reducible repeat (first | apply Kd.V_alloc | apply Kd.V_drewN | apply Kd.V_drew)); exact Kd.V_mono HL125_0.out (fun _ hk => ⟨⟨hk.1.2, hk.1.1⟩, hk.2⟩)) hg hat)
                                                              have n3_ := Aside0.mk (hb)
                                                              have n4_ := Aside0.mk (ho)
                                                              clear HO_6
                                                              clear HO_9
                                                              clear HL125_0
                                                              clear HB
                                                              clear HO124
                                                              have HO_6 := n0_
                                                              have HO_9 := n1_
                                                              have HL125_0 := n2_
                                                              have HB := n3_
                                                              have HO128 := n4_
                                                              clear n0_ n1_ n2_ n3_ n4_
                                                              clear ho hb hg hat
                                                              refine hK.out _ _ ?_
                                                              clear hK K
                                                              refine norm_ (a' := ?_) ?_ ?_
                                                              rotate_left
                                                              · show Act.put _ (some 86) _ = _
                                                                simp only [Act.put, List.setIfInBounds_toArray, List.set_cons_zero, List.set_cons_succ, i64_w, i32_w]
                                                                rfl
                                                              refine pure_ (i := 11) (N := some 11) (v := ?_) (a' := ?_) #[true, true, true, true, true, true, true, true, true, true, true, true] rfl rfl (any_of HT_.out (by kernel_rfl)) (fun _ _ _ h => h) (Or.inl ⟨by rfl, ?_⟩) ?_ ?_
                                                              rotate_left
                                                              · intro w'
                                                                go_simp
                                                                with_reducible rfl
                                                              rotate_left
                                                              · simp only [Act.put, List.setIfInBounds_toArray, List.set_cons_zero, List.set_cons_succ, i64_w, i32_w]
                                                                rfl
                                                              refine done_ (done_of HT_.out (by kernel_rfl)) ?_
                                                              have p129 : 0 ≤ (x10_3 : Int) := of_decide_eq_true (by first | (with_reducible assumption) | assumption)
                                                              have q129 : x10_3 < (x9_25.length : Int) := of_decide_eq_true (by first | (with_reducible assumption) | assumption)
                                                              obtain ⟨ad129, A129_0, c129_0, e129, hx129_0, hl129_0, hi129_0⟩ := at_L1 (Kd.N_reads' HO_9.out).2.2 x10_3 p129 q129
                                                              obtain rfl : (⟨go23, 0, none⟩ : Addr) = ad129 := (by injection e129)
                                                              (try (have ea_ := Option.some.inj (hx129_0.symm.trans hx115_0); injection ea_ with ea_ en_ ec_; subst ea_; subst ec_; clear en_)); (try clear hx115_0)
                                                              obtain ⟨ce129, hce129, hMe129, hcc129⟩ := Kd.N_get HO_9.out [] x10_3 p129 (by first | exact q129 | exact of_decide_eq_true (by first | (with_reducible assumption) | assumption) | (have e_ := (Kd.N_reads' HO_9.out).1; omega))
                                                              obtain ⟨ua129_0, uc129_0, rfl, ul129_0, ge129_0⟩ := Kd.FK_slice_open hMe129
                                                              have hv129_0 := hcc129 0 _ rfl
                                                              rw [Nat.add_zero, show ((Kd.slice 5 (Kd.int .u8))).sz = 1 from rfl, Nat.mul_one] at hv129_0
                                                              replace hv129_0 := Option.some.inj (hv129_0.symm.trans hx129_0)
                                                              injection hv129_0 with hva_ hvn_ hvc_
                                                              rw [hva_] at ge129_0
                                                              rw [hvc_] at ul129_0
                                                              have HL129_0 := Aside0.mk (show Kd.V (Kd.int .u8) 5 _ w.heap.size _ _ (rd_L1 x9_25 x10_3) from Kd.V_mk ul129_0 ge129_0)
                                                              clear hva_ hvn_ hvc_ ge129_0 ul129_0
                                                              clear hcc129 hce129
                                                              (first | simp only [add_plain] at hx129_0 | simp only [add_at] at hx129_0 | simp only [Addr.add, Nat.zero_add] at hx129_0 | skip)
                                                              have HR129_0 := Aside0.mk hi129_0
                                                              have HC129_0 := Aside0.mk hl129_0
                                                              clear hi129_0 hl129_0
                                                              replace p129 := eq_true p129
                                                              replace q129 := eq_true q129
                                                              obtain ⟨Ao62, co62, eo62⟩ := Kd.R_slice HO128.out
                                                              subst eo62
                                                              try go_wp2_with (first | (go_at_call 7; (with_reducible refine (edit_Shared_1.calls _ _ y126 _ _ (rd_L1 x9_25 x10_3) false _ ?side1 ?side2 ?side3 ?side4 A46.out).mono ?_); (case side1 => repeat (first | exact (Kd.R_reads' HO128.out).2.2 | (with_reducible refine Kd.C_alloc ?_ _) | (with_reducible refine Kd.C_drewN ?_ _) | (with_reducible refine Kd.C_drew ?_))); (case side2 => exact (Kd.R_reads' HO128.out).2.1); (case side3 => repeat (first | exact (by repeat (first | (with_reducible exact HR129_0.out) | (with_reducible refine Kd.C_alloc ?_ _) | (with_reducible refine Kd.C_drewN ?_ _) | (with_reducible refine Kd.C_drew ?_) | exact HR129_0.out)) | (with_reducible refine Kd.C_alloc ?_ _) | (with_reducible refine Kd.C_drewN ?_ _) | (with_reducible refine Kd.C_drew ?_))); (case side4 => exact HC129_0.out); rintro e w' ⟨rfl, ⟨nd, rfl⟩⟩))
                                                              (try simp only [← hl9_25])
                                                              (first | go_roundg kj25 | (simp only [← hji18]; go_roundg kj25) | (simp only [← hji18, ← hji18]; go_roundg kj25) | (simp only [← hji6, ← hji18, ← hji18]; go_roundg kj25) | (simp only [← hji6, ← hji6, ← hji18, ← hji18]; go_roundg kj25))
                                                              case measure => have := HJ2.out; have := HK2.out; have := HK3.out; have := HJ25.out; omega
                                                              case rel => first | exact ⟨(x9_25), (wrap64 (x10_3 - 1)), (by first | rfl | (simp; done) | (simp [*]; done)), H', ⟨by have := HJ2.out; have := HK2.out; have := HK3.out; have := HJ25.out; omega⟩, ⟨by (try simp only [hl9_25]); (with_reducible repeat (first | apply Kd.N_alloc | apply Kd.N_drewN | apply Kd.N_drew)); exact Kd.N_mono HO_6.out (fun _ hk => hk.1)⟩, ⟨by (try simp only [hl9_25]); (with_reducible repeat (first | apply Kd.N_alloc | apply Kd.N_drewN | apply Kd.N_drew)); exact Kd.N_mono HO_9.out (fun _ hk => hk.1)⟩, ⟨by repeat (first | (with_reducible first | exact HB.out | apply below_alloc | apply pw_below_drewN | apply below_drew1) | exact HB.out)⟩⟩ | (subst hji18; subst hji18; subst hji6; subst hji6; exact ⟨(x9_25), (wrap64 (x10_3 - 1)), (by first | rfl | (simp; done) | (simp [*]; done)), H', ⟨by have := HJ2.out; have := HK2.out; have := HK3.out; have := HJ25.out; omega⟩, ⟨by (try simp only [hl9_25]); (with_reducible repeat (first | apply Kd.N_alloc | apply Kd.N_drewN | apply Kd.N_drew)); exact Kd.N_mono HO_6.out (fun _ hk => hk.1)⟩, ⟨by (try simp only [hl9_25]); (with_reducible repeat (first | apply Kd.N_alloc | apply Kd.N_drewN | apply Kd.N_drew)); exact Kd.N_mono HO_9.out (fun _ hk => hk.1)⟩, ⟨by repeat (first | (with_reducible first | exact HB.out | apply below_alloc | apply pw_below_drewN | apply below_drew1) | exact HB.out)⟩⟩)
                                                          · rw [if_neg c45] at H
                                                            exact absurd H (by simp)
                                                        · rw [if_neg c44] at H
                                                          exact absurd H (by simp)
                                                      · rw [if_neg c43] at H
                                                        exact absurd H (by simp)
                                                    · rw [if_neg c42] at H
                                                      exact absurd H (by simp)
                                                  · rw [if_neg c40] at H
                                                    have c40b0 : ((rd l0 x8_2) == (rd l1 x10_3)) = false := beq_eq_false_iff_ne.mpr c40
                                                    have c40b1 : ((rd l0 x8_2) != (rd l1 x10_3)) = true := bne_iff_ne.mpr c40
                                                    have H' := Aside0.mk H
                                                    clear H
                                                    try go_wp2
                                                    have n0_ := Aside0.mk (Kd.N_drew HO_6.out)
                                                    have n1_ := Aside0.mk (Kd.N_drew HO_9.out)
                                                    have n2_ := Aside0.mk (below_drew1 HB.out)
                                                    clear HO_6
                                                    clear HO_9
                                                    clear HB
                                                    have HO_6 := n0_
                                                    have HO_9 := n1_
                                                    have HB := n2_
                                                    clear n0_ n1_ n2_
                                                    have p119 : 0 ≤ (x8_2 : Int) := of_decide_eq_true (by first | (with_reducible assumption) | assumption)
                                                    have q119 : x8_2 < (l0.length : Int) := of_decide_eq_true (by first | (with_reducible assumption) | assumption)
                                                    obtain ⟨ad119, e119, hx119_0⟩ := Kd.at_int HR0.out x8_2 p119 q119
                                                    have hw119_0 := hx119_0
                                                    cases e119
                                                    replace hx119_0 := (HB.out.cell (World.block_lt_of_cell? w _ hx119_0)).trans hx119_0
                                                    replace p119 := eq_true p119
                                                    replace q119 := eq_true q119
                                                    have p120 : 0 ≤ (x10_3 : Int) := of_decide_eq_true (by first | (with_reducible assumption) | assumption)
                                                    have q120 : x10_3 < (l1.length : Int) := of_decide_eq_true (by first | (with_reducible assumption) | assumption)
                                                    obtain ⟨ad120, e120, hx120_0⟩ := Kd.at_int HR1.out x10_3 p120 q120
                                                    have hw120_0 := hx120_0
                                                    cases e120
                                                    replace hx120_0 := (HB.out.cell (World.block_lt_of_cell? w _ hx120_0)).trans hx120_0
                                                    replace p120 := eq_true p120
                                                    replace q120 := eq_true q120
                                                    refine start_ (n := 9) (S := fun w' => w'.cell? (ad119.add (x8_2).toNat) = some (.int .u8 (rd l0 x8_2)) ∧ w'.cell? (ad120.add (x10_3).toNat) = some (.int .u8 (rd l1 x10_3))) (ds := []) #[false, false, false, false, false, false, false, false, false] (by kernel_rfl) rfl rfl ⟨((HB.out.cell (World.block_lt_of_cell? w _ hw119_0)).trans hw119_0), ((HB.out.cell (World.block_lt_of_cell? w _ hw120_0)).trans hw120_0)⟩ (fun hHeld => ?_); refine with_tabW edit_Shared.tab15 edit_Shared.bits15 (fun HT_ HW_ => ?_)
                                                    generalize wc.drew = w63 at HO_6 HO_9 HB hx119_0 hx120_0 hHeld ⊢
                                                    refine pure_ (i := 0) (N := some 67) (v := ?_) (a' := ?_) #[true, false, false, false, false, false, false, false, false] rfl rfl (any_of HT_.out (by kernel_rfl)) (fun _ _ _ h => h) (Or.inl ⟨by rfl, ?_⟩) ?_ ?_
                                                    rotate_left
                                                    · intro w'
                                                      go_simp
                                                      with_reducible rfl
                                                    rotate_left
                                                    · simp only [Act.put, List.setIfInBounds_toArray, List.set_cons_zero, List.set_cons_succ, i64_w, i32_w]
                                                      rfl
                                                    refine pure_ (i := 1) (N := some 68) (v := ?_) (a' := ?_) #[true, true, false, false, false, false, false, false, false] rfl rfl (any_of HT_.out (by kernel_rfl)) (fun _ _ _ h => h) (Or.inl ⟨by rfl, ?_⟩) ?_ ?_
                                                    rotate_left
                                                    · intro w'
                                                      go_simp
                                                      with_reducible rfl
                                                    rotate_left
                                                    · simp only [Act.put, List.setIfInBounds_toArray, List.set_cons_zero, List.set_cons_succ, i64_w, i32_w]
                                                      rfl
                                                    refine pure_ (i := 2) (N := some 69) (v := ?_) (a' := ?_) #[true, true, true, false, false, false, false, false, false] rfl rfl (any_of HT_.out (by kernel_rfl)) (fun _ _ _ h => h) (Or.inl ⟨by rfl, ?_⟩) ?_ ?_
                                                    rotate_left
                                                    · intro w'
                                                      go_simp
                                                      with_reducible rfl
                                                    rotate_left
                                                    · simp only [Act.put, List.setIfInBounds_toArray, List.set_cons_zero, List.set_cons_succ, i64_w, i32_w]
                                                      rfl
                                                    refine pure_ (i := 4) (N := some 71) (v := ?_) (a' := ?_) #[true, true, true, false, true, false, false, false, false] rfl rfl (any_of HT_.out (by kernel_rfl)) (fun _ _ _ h => h) (Or.inl ⟨by rfl, ?_⟩) ?_ ?_
                                                    rotate_left
                                                    · intro w'
                                                      go_simp
                                                      with_reducible rfl
                                                    rotate_left
                                                    · simp only [Act.put, List.setIfInBounds_toArray, List.set_cons_zero, List.set_cons_succ, i64_w, i32_w]
                                                      rfl
                                                    refine pure_ (i := 5) (N := some 72) (v := ?_) (a' := ?_) #[true, true, true, false, true, true, false, false, false] rfl rfl (any_of HT_.out (by kernel_rfl)) (fun _ _ _ h => h) (Or.inl ⟨by rfl, ?_⟩) ?_ ?_
                                                    rotate_left
                                                    · intro w'
                                                      go_simp
                                                      with_reducible rfl
                                                    rotate_left
                                                    · simp only [Act.put, List.setIfInBounds_toArray, List.set_cons_zero, List.set_cons_succ, i64_w, i32_w]
                                                      rfl
                                                    refine pure_ (i := 6) (N := some 73) (v := ?_) (a' := ?_) #[true, true, true, false, true, true, true, false, false] rfl rfl (any_of HT_.out (by kernel_rfl)) (fun _ _ _ h => h) (Or.inl ⟨by rfl, ?_⟩) ?_ ?_
                                                    rotate_left
                                                    · intro w'
                                                      go_simp
                                                      with_reducible rfl
                                                    rotate_left
                                                    · simp only [Act.put, List.setIfInBounds_toArray, List.set_cons_zero, List.set_cons_succ, i64_w, i32_w]
                                                      rfl
                                                    refine take_ (i := 3) (N := some 70) (v := ?_) (a' := ?_) #[true, true, true, true, true, true, true, false, false] rfl rfl (take_ofW HT_.out HW_.out (by kernel_rfl)) (fun _ _ _ h => h) (Or.inl ⟨by rfl, ?_⟩) hHeld ?_ ?_
                                                    rotate_left
                                                    · rintro w' ⟨s0, s1⟩
                                                      go_simp
                                                      with_reducible rfl
                                                    rotate_left
                                                    · simp only [Act.put, List.setIfInBounds_toArray, List.set_cons_zero, List.set_cons_succ, i64_w, i32_w]
                                                      rfl
                                                    refine take_ (i := 7) (N := some 74) (v := ?_) (a' := ?_) #[true, true, true, true, true, true, true, true, false] rfl rfl (take_ofW HT_.out HW_.out (by kernel_rfl)) (fun _ _ _ h => h) (Or.inl ⟨by rfl, ?_⟩) hHeld ?_ ?_
                                                    rotate_left
                                                    · rintro w' ⟨s0, s1⟩
                                                      go_simp
                                                      with_reducible rfl
                                                    rotate_left
                                                    · simp only [Act.put, List.setIfInBounds_toArray, List.set_cons_zero, List.set_cons_succ, i64_w, i32_w]
                                                      rfl
                                                    refine pure_ (i := 8) (N := some 75) (v := ?_) (a' := ?_) #[true, true, true, true, true, true, true, true, true] rfl rfl (any_of HT_.out (by kernel_rfl)) (fun _ _ _ h => h) (Or.inl ⟨by rfl, ?_⟩) ?_ ?_
                                                    rotate_left
                                                    · intro w'
                                                      go_simp
                                                      with_reducible rfl
                                                    rotate_left
                                                    · simp only [Act.put, List.setIfInBounds_toArray, List.set_cons_zero, List.set_cons_succ, i64_w, i32_w]
                                                      rfl
                                                    refine done_ (done_of HT_.out (by kernel_rfl)) ?_
                                                    try go_wp2
                                                    (try simp only [← hl9_25])
                                                    (first | go_roundg kj25 | (simp only [← hji18]; go_roundg kj25) | (simp only [← hji6, ← hji18]; go_roundg kj25) | (simp only [← hji6, ← hji6, ← hji18]; go_roundg kj25))
                                                    case measure => have := HJ2.out; have := HK2.out; have := HK3.out; have := HJ25.out; omega
                                                    case rel => first | exact ⟨(x9_25), (wrap64 (x10_3 - 1)), (by first | rfl | (simp; done) | (simp [*]; done)), H', ⟨by have := HJ2.out; have := HK2.out; have := HK3.out; have := HJ25.out; omega⟩, ⟨by (try simp only [hl9_25]); (with_reducible repeat (first | apply Kd.N_alloc | apply Kd.N_drewN | apply Kd.N_drew)); exact HO_6.out⟩, ⟨by (try simp only [hl9_25]); (with_reducible repeat (first | apply Kd.N_alloc | apply Kd.N_drewN | apply Kd.N_drew)); exact HO_9.out⟩, ⟨by repeat (first | (with_reducible first | exact HB.out | apply below_alloc | apply pw_below_drewN | apply below_drew1) | exact HB.out)⟩⟩ | (subst hji18; subst hji6; subst hji6; exact ⟨(x9_25), (wrap64 (x10_3 - 1)), (by first | rfl | (simp; done) | (simp [*]; done)), H', ⟨by have := HJ2.out; have := HK2.out; have := HK3.out; have := HJ25.out; omega⟩, ⟨by (try simp only [hl9_25]); (with_reducible repeat (first | apply Kd.N_alloc | apply Kd.N_drewN | apply Kd.N_drew)); exact HO_6.out⟩, ⟨by (try simp only [hl9_25]); (with_reducible repeat (first | apply Kd.N_alloc | apply Kd.N_drewN | apply Kd.N_drew)); exact HO_9.out⟩, ⟨by repeat (first | (with_reducible first | exact HB.out | apply below_alloc | apply pw_below_drewN | apply below_drew1) | exact HB.out)⟩⟩)
                                                · rw [if_neg c39] at H
                                                  exact absurd H (by simp)
                                              · rw [if_neg c38] at H
                                                exact absurd H (by simp)
                                            · rw [if_neg c37] at H
                                              exact absurd H (by simp)
                                          · rw [if_neg c36] at H
                                            exact absurd H (by simp)
                                    · rw [if_neg c24] at H
                                      exact absurd H (by simp)
                                  · rw [if_neg c22] at H
                                    exact absurd H (by simp)
                                · rw [if_neg c21] at H
                                  exact absurd H (by simp)
                              · rw [if_neg c20] at H
                                exact absurd H (by simp)
                            · rw [if_neg c19] at H
                              exact absurd H (by simp)
                          · rw [if_neg c17] at H
                            have c17b0 : decide (0 ≤ x10_3) = false := decide_eq_false c17
                            clear c17
                            have H' := Aside0.mk H
                            clear H
                            go_wp2
                            (first | go_roundg k3 | (simp only [← hji6]; go_roundg k3) | (simp only [← hji6, ← hji6]; go_roundg k3))
                            case measure => have := HJ2.out; have := HK2.out; have := HK3.out; omega
                            case rel => first | exact ⟨(x9_3), (wrap64 (x8_2 - 1)), (by first | rfl | (simp; done) | (simp [*]; done)), H', ⟨by have := HJ2.out; have := HK2.out; have := HK3.out; omega⟩, ⟨by (with_reducible repeat (first | apply Kd.N_alloc | apply Kd.N_drewN | apply Kd.N_drew)); exact Kd.N_mono HO_9.out (fun _ hk => trivial)⟩, ⟨by repeat (first | (with_reducible first | exact HB.out | apply below_alloc | apply pw_below_drewN | apply below_drew1) | exact HB.out)⟩⟩ | (subst hji6; subst hji6; exact ⟨(x9_3), (wrap64 (x8_2 - 1)), (by first | rfl | (simp; done) | (simp [*]; done)), H', ⟨by have := HJ2.out; have := HK2.out; have := HK3.out; omega⟩, ⟨by (with_reducible repeat (first | apply Kd.N_alloc | apply Kd.N_drewN | apply Kd.N_drew)); exact Kd.N_mono HO_9.out (fun _ hk => trivial)⟩, ⟨by repeat (first | (with_reducible first | exact HB.out | apply below_alloc | apply pw_below_drewN | apply below_drew1) | exact HB.out)⟩⟩)
                    · rw [if_neg c14] at H
                      exact absurd H (by simp)
                  · rw [if_neg c13] at H
                    exact absurd H (by simp)
                · rw [if_neg c11] at H
                  have c11b0 : decide (0 ≤ x8_2) = false := decide_eq_false c11
                  clear c11
                  by_cases c64 : 0 < (x6_2.length : Int)
                  · rw [if_pos c64] at H
                    have c64b0 : decide (0 < (x6_2.length : Int)) = true := decide_eq_true c64
                    have c64b1 : decide (0 < x6_2.length) = true := decide_eq_true (by omega)
                    clear c64
                    replace H := Option.bind_eq_some_iff.mp H
                    obtain ⟨t106, A650, H⟩ := H
                    replace H : (some (t106, 0)) = some (r1, r2) := H
                    have A65 := Aside0.mk A650
                    clear A650
                    simp only [Option.some.injEq, Prod.mk.injEq] at H
                    obtain ⟨rfl, rfl⟩ := H
                    obtain ⟨Ao66, co66, eo66⟩ := Kd.N_slice HO_6.out
                    subst eo66
                    have p105 : 0 ≤ (0 : Int) := (by omega)
                    have q105 : 0 < (x6_2.length : Int) := of_decide_eq_true (by first | (with_reducible assumption) | assumption)
                    obtain ⟨ad105, A105_0, c105_0, e105, hx105_0, hl105_0, hi105_0⟩ := at_L1 (Kd.N_reads' HO_6.out).2.2 0 p105 q105
                    cases e105
                    obtain ⟨ce105, hce105, hMe105, hcc105⟩ := Kd.N_get HO_6.out [] 0 p105 (by first | exact q105 | exact of_decide_eq_true (by first | (with_reducible assumption) | assumption) | (have e_ := (Kd.N_reads' HO_6.out).1; omega))
                    obtain ⟨ua105_0, uc105_0, rfl, ul105_0, ge105_0⟩ := Kd.FK_slice_open hMe105
                    have hv105_0 := hcc105 0 _ rfl
                    rw [Nat.add_zero, show ((Kd.slice 5 (Kd.int .u8))).sz = 1 from rfl, Nat.mul_one] at hv105_0
                    replace hv105_0 := Option.some.inj (hv105_0.symm.trans hx105_0)
                    injection hv105_0 with hva_ hvn_ hvc_
                    rw [hva_] at ge105_0
                    rw [hvc_] at ul105_0
                    have HL105_0 := Aside0.mk (show Kd.V (Kd.int .u8) 5 _ w.heap.size _ _ (rd_L1 x6_2 0) from Kd.V_mk ul105_0 ge105_0)
                    clear hva_ hvn_ hvc_ ge105_0 ul105_0
                    clear hcc105 hce105
                    have qi105 : (0 < x6_2.length) = True := eq_true (by omega)
                    (try rw [show ((0 : Int)).toNat = 0 from rfl] at hx105_0)
                    (try rw [Addr.add_zero'] at hx105_0)
                    have HR105_0 := Aside0.mk hi105_0
                    have HC105_0 := Aside0.mk hl105_0
                    clear hi105_0 hl105_0
                    replace p105 := eq_true p105
                    replace q105 := eq_true q105
                    go_wp2_with (first | ((with_reducible refine gate_callee (f := 9) rfl ?_); refine goesL_ (some 102) rfl rfl Try.func9 (by kernel_rfl) rfl #[.slice A105_0 (rd_L1 x6_2 0).length c105_0] rfl (by (try simp only [List.map_toArray, List.map_cons, List.map_nil]); first | done | rfl | (simp only [List.length_drop, List.length_take]; rfl)) ?_; (with_reducible refine (bytes_Clone.calls _ _ (rd_L1 x6_2 0) t106 _ ?side1 ?side2 A65.out).mono ?_); (case side1 => repeat (first | exact (by repeat (first | (with_reducible exact HR105_0.out) | (with_reducible refine Kd.C_alloc ?_ _) | (with_reducible refine Kd.C_drewN ?_ _) | (with_reducible refine Kd.C_drew ?_) | exact HR105_0.out)) | (with_reducible refine Kd.C_alloc ?_ _) | (with_reducible refine Kd.C_drewN ?_ _) | (with_reducible refine Kd.C_drew ?_))); (case side2 => exact HC105_0.out); rintro e w67 ⟨v107, rfl, ho0, hb⟩; refine ⟨_, rfl, ?_⟩; have n0_ := Aside0.mk (Kd.N_elder' (by (with_reducible repeat (first | apply Kd.N_alloc | apply Kd.N_drewN | apply Kd.N_drew)); exact HO_6.out) (Kd.R_base ho0) hb); have n1_ := Aside0.mk (Kd.V_elder' (by (with_reducible repeat (first | apply Kd.V_alloc | apply Kd.V_drewN | apply Kd.V_drew)); exact HL105_0.out) (Kd.R_base ho0) hb); have n2_ := Aside0.mk (Kd.R_lower ho0 (below_size (by repeat (first | (with_reducible first | exact HB.out | apply below_alloc | apply pw_below_drewN | apply below_drew1) | exact HB.out)))); have n3_ := Aside0.mk (Kd.C_below (by repeat (first | (with_reducible exact HR105_0.out) | (with_reducible refine Kd.C_alloc ?_ _) | (with_reducible refine Kd.C_drewN ?_ _) | (with_reducible refine Kd.C_drew ?_) | exact HR105_0.out)) hb); have n4_ := Aside0.mk (below_step (by repeat (first | (with_reducible first | exact HB.out | apply below_alloc | apply pw_below_drewN | apply below_drew1) | exact HB.out)) hb); clear HO_6; clear HL105_0; clear HR105_0; clear HB; have HO_6 := n0_; have HL105_0 := n1_; have HO108 := n2_; have HR105_0 := n3_; have HB := n4_; clear n0_ n1_ n2_ n3_ n4_; (try clear hb); (try clear hb2); (try clear hk); (try clear hi); (try clear ho0)))
                    go_ret2
                    exact ⟨_, by first | rfl | (simp [errW_none, errW_some] <;> rfl) | (simp only [← hji6]; first | rfl | (simp [errW_none, errW_some] <;> rfl)) | (simp [*, errW_none, errW_some] <;> rfl), by (with_reducible repeat (first | apply Kd.R_alloc | apply Kd.R_drewN | apply Kd.R_drew)); exact HO108.out, by repeat (first | (with_reducible first | exact HB.out | apply below_alloc | apply pw_below_drewN | apply below_drew1) | exact HB.out)⟩
                  · rw [if_neg c64] at H
                    exact absurd H (by simp)
          · rw [if_neg c8] at H
            exact absurd H (by simp)
        · rw [if_neg c7] at H
          exact absurd H (by simp)

end Go.Proofs.Ytmcgapnjafocnaa.PEditShares
