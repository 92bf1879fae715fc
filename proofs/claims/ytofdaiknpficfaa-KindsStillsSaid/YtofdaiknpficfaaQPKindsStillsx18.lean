-- Printed by a turn of a template of the kit.
import Derived.Test.YtofdaiknpficfaaQPKindsStillsx0
import Derived.Test.YtofdaiknpficfaaQPKindsStillsx3
import Derived.Test.YtofdaiknpficfaaQPKindsStillsx6
import Derived.Test.YtofdaiknpficfaaQPKindsStillsx17
namespace Go.Proofs.Ytofdaiknpficfaa.PKindsStills
open Go.RowKit Go.Proofs.YtofdaiknpficfaaW.PrintWords Go.Proofs.YtofdaiknpficfaaW.PrintLast Go.Proofs.YtofdaiknpficfaaW.PrintMore
attribute [local go_sem] max2_int min2_int max_two min_two max_three min_three max_four min_four
set_option linter.unusedVariables false
set_option linter.unusedSimpArgs false
def Zh1.l0 : Nat → List (List Int) → List (List Int) → Int → Int → Int → Int → List (List Int) → Int → Int → Option (Bool)
  | 0, _, _, _, _, _, _, _, _, _ => none
  | k + 1, x1, x7, x8, x9, x371000, x371001, x371002, x371003, x371004 => if x9 < x8 then (if 0 ≤ x9 then (if x9 < (x7.length : Int) then ((Zr1.f k (Ze x7 x9) (x1.length : Int)).bind fun t372 => ((Zq.f k x371000 x371001 x371002 x371003 x371004 t372).bind fun t375 => ((Zr1.f k (Ze x7 x9) (wrap64 ((x1.length : Int) + 1))).bind fun t378 => ((Zq.f k x371000 x371001 x371002 x371003 x371004 t378).bind fun t381 => ((Zk1.f k t375 t381).bind fun t384 => (if t384 = true then (Zh1.l0 k x1 x7 x8 (wrap64 (x9 + 1)) x371000 x371001 x371002 x371003 x371004) else (some false))))))) else (none)) else (none)) else (some true)
def Zh1.f (k : Nat) (a0_0 : Int) (a0_1 : Int) (l0_2 : List (List Int)) (a0_3 : Int) (a0_4 : Int) (l1 : List (List Int)) : Option (Bool) := Zh1.l0 k l1 l1 (l1.length : Int) 0 a0_0 a0_1 l0_2 a0_3 a0_4
theorem Zh1.mono_l : ∀ k, (∀ y0 y1 y2 y3 y4 y5 y6 y7 y8, LeO (Zh1.l0 k y0 y1 y2 y3 y4 y5 y6 y7 y8) (Zh1.l0 (k + 1) y0 y1 y2 y3 y4 y5 y6 y7 y8))
  | 0 => fun _ _ _ _ _ _ _ _ _ r h => by simp [Zh1.l0] at h
  | k + 1 => by
    have ih0 := Zh1.mono_l k
    · intro y0 y1 y2 y3 y4 y5 y6 y7 y8
      unfold Zh1.l0
      repeat' first | (with_reducible exact ih0 _ _ _ _ _ _ _ _ _) | (with_reducible exact Zr1.mono _ _ _) | (with_reducible exact Zq.mono _ _ _ _ _ _ _) | (with_reducible exact Zk1.mono _ _ _) | (with_reducible exact LeO.refl _) | (with_reducible exact LeO.none _) | (with_reducible refine LeO.ite ?_ ?_) | (with_reducible refine LeO.bind ?_ (fun _ => ?_))
theorem Zh1.mono : ∀ a0 a1 a2 a3 a4 a5 k, LeO (Zh1.f k a0 a1 a2 a3 a4 a5) (Zh1.f (k + 1) a0 a1 a2 a3 a4 a5) := by
  intro a0 a1 a2 a3 a4 a5 k
  have ih0 := Zh1.mono_l k
  unfold Zh1.f
  repeat' first | (with_reducible exact ih0 _ _ _ _ _ _ _ _ _) | (with_reducible exact Zr1.mono _ _ _) | (with_reducible exact Zq.mono _ _ _ _ _ _ _) | (with_reducible exact Zk1.mono _ _ _) | (with_reducible exact LeO.refl _) | (with_reducible exact LeO.none _) | (with_reducible refine LeO.ite ?_ ?_) | (with_reducible refine LeO.bind ?_ (fun _ => ?_))
def Zh1.T4 : Bool × List (List Nat × List Nat) := (true, [([], []), ([], []), ([], []), ([2], [2]), ([1, 3], [1, 3]), ([0, 4, 4], [0, 4]), ([], []), ([], []), ([], []), ([8], [8]), ([9], [9]), ([7, 10, 5], [7, 10]), ([6, 11, 11], [6, 11]), ([5, 12, 12], [5, 12]), ([13], [13])])
def Zh1.B4 : List Nat := [0, 0, 0, 4, 14, 31, 0, 0, 0, 256, 768, 1983, 4095, 8191, 16383]
theorem Zh1.tab4 : rtab .any (opsOf Try.f14 4) = Zh1.T4 := by kernel_rfl
theorem Zh1.bits4 : waitsOk Zh1.T4.2 Zh1.B4 = true := by kernel_rfl
set_option maxHeartbeats 8000000 in
set_option maxRecDepth 100000 in
theorem Zh1.calls (k : Nat) (a0_0 : Int) (a0_1 : Int) (A0_2 : Option Addr) (c0_2 : Nat) (l0_2 : List (List Int)) (a0_3 : Int) (a0_4 : Int) (A1 : Option Addr) (c1 : Nat) (l1 : List (List Int)) (r : Bool) (w : World) (hr0_2 : Kd.C (Kd.slice 3 (Kd.int .i64)) w A0_2 l0_2.length l0_2) (hc0_2 : l0_2.length ≤ c0_2) (hr1 : Kd.C (Kd.slice 3 (Kd.int .i64)) w A1 l1.length l1) (hc1 : l1.length ≤ c1) (h : Zh1.f k a0_0 a0_1 l0_2 a0_3 a0_4 l1 = some r) :
    Calls Try.prog 14 #[.agg #[.int .i64 a0_0, .int .i64 a0_1, .slice A0_2 l0_2.length c0_2, .int .i64 a0_3, .int .u32 a0_4], .slice A1 l1.length c1] w fun e w' => e = .returned (.bool r) ∧ Below w.heap.size w w' := by
 (have hu25 := Try.underlying25); (have HR0_2 := Za.mk hr0_2); (have HC0_2 := Za.mk hc0_2); (clear hr0_2 hc0_2); (have HR1 := Za.mk hr1); (have HC1 := Za.mk hc1); (clear hr1 hc1); (have HB := Za.mk (Below.refl w.heap.size w)); (have H : (Zh1.l0 k l1 l1 (l1.length : Int) 0 a0_0 a0_1 l0_2 a0_3 a0_4) = some r := h); (clear h); (have H' := Za.mk H); (clear H)
 go_enter Try.func14, Try.ntmps14
 go_wp2_with (first | ((with_reducible refine Zb1 (N := 2) rfl ?_); refine Zl1 ?hg (N := 2) ?hd (cs := #[.int .i64 a0_0, .int .i64 a0_1, .slice A0_2 l0_2.length c0_2, .int .i64 a0_3, .int .u32 a0_4]) (t := 25) ?hr ?_; (case hd => rfl); (case hg => rfl); (case hr => first | (go_simp; done) | (go_simp; rfl)); intro gb370 hg w3 hbox hb; have BK370 := Za.mk (hbox); have GW370 := Za.mk ((by rw [hg]; exact (Zl (by repeat (first | (with_reducible first | exact HB.out | apply zc1 | apply zc2 | apply zc3) | exact HB.out))) : w.heap.size ≤ gb370)); have GE370 := Za.mk ((by rw [hg]; exact (Zl (by repeat (first | (with_reducible first | exact HB.out | apply zc1 | apply zc2 | apply zc3) | exact HB.out))) : w.heap.size ≤ gb370)); replace HB := Za.mk (Zr (by repeat (first | (with_reducible first | exact HB.out | apply zc1 | apply zc2 | apply zc3) | exact HB.out)) hb); clear hb hbox hg))
 go_loopg [9] k (fun kq v9 w' => ∃ (x9_1 : Int), v9 = .int .i64 x9_1 ∧ Za (Zh1.l0 kq l1 l1 (l1.length : Int) x9_1 a0_0 a0_1 l0_2 a0_3 a0_4 = some r) ∧ Za (kq ≤ k) ∧ Za (w'.heap[gb370]? = some (.cells #[.int .i64 a0_0, .int .i64 a0_1, (.slice A0_2 l0_2.length c0_2), .int .i64 a0_3, .int .u32 a0_4] 25 (0, 0))) ∧ Za (Below w.heap.size w w'))
 case atStart => exact ⟨(0), (by first | rfl | (simp; done) | (simp [*]; done)), H', ⟨Nat.le_refl _⟩, ⟨by (with_reducible repeat (first | apply zb3 | apply zb2 | apply zb1)); exact BK370.out⟩, ⟨by repeat (first | (with_reducible first | exact HB.out | apply zc1 | apply zc2 | apply zc3 | refine zc4 ?_ (by assumption)) | exact HB.out)⟩⟩
 case round =>
  (clear H'); (try clear c1); (try clear p2); (obtain ⟨x9_1, rfl, HA, HK1, BK370, HB⟩ := hrel)
  cases gk with
  | zero => exact absurd HA.out (by simp [Zh1.l0])
  | succ k1 =>
   (have H := HA.out); (clear HA); (simp only [Zh1.l0] at H)
   by_cases c4 : x9_1 < (l1.length : Int)
   rotate_left
   ·rw [if_neg c4] at H
    (have c4b0 : decide (x9_1 < (l1.length : Int)) = false := decide_eq_false c4); (clear c4); (obtain rfl := Option.some.inj H)
    go_wp2
    go_ret
    exact ⟨by first | rfl | (simp [Zw, Zx] <;> rfl) | (simp [*, Zw, Zx] <;> rfl), by repeat (first | (with_reducible first | exact HB.out | apply zc1 | apply zc2 | apply zc3 | refine zc4 ?_ (by assumption)) | exact HB.out)⟩
   (rw [if_pos c4] at H); (have c4b0 : decide (x9_1 < (l1.length : Int)) = true := decide_eq_true c4); (clear c4)
   by_cases c5 : 0 ≤ x9_1
   rotate_left
   ·rw [if_neg c5] at H
    exact absurd H (by simp)
   (rw [if_pos c5] at H); (have c5b0 : decide (0 ≤ x9_1) = true := decide_eq_true c5); (clear c5)
   by_cases c6 : x9_1 < (l1.length : Int)
   rotate_left
   ·rw [if_neg c6] at H
    exact absurd H (by simp)
   (rw [if_pos c6] at H); (have c6b0 : decide (x9_1 < (l1.length : Int)) = true := decide_eq_true c6); (clear c6); (replace H := Option.bind_eq_some_iff.mp H); (obtain ⟨t372, A70, H⟩ := H); (replace H : ((Zq.f k1 a0_0 a0_1 l0_2 a0_3 a0_4 t372).bind fun t375 => ((Zr1.f k1 (Ze l1 x9_1) (wrap64 ((l1.length : Int) + 1))).bind fun t378 => ((Zq.f k1 a0_0 a0_1 l0_2 a0_3 a0_4 t378).bind fun t381 => ((Zk1.f k1 t375 t381).bind fun t384 => (if t384 = true then (Zh1.l0 k1 l1 l1 (l1.length : Int) (wrap64 (x9_1 + 1)) a0_0 a0_1 l0_2 a0_3 a0_4) else (some false)))))) = some r := H); (have A7 := Za.mk A70); (clear A70); (replace H := Option.bind_eq_some_iff.mp H); (obtain ⟨t375, A80, H⟩ := H); (replace H : ((Zr1.f k1 (Ze l1 x9_1) (wrap64 ((l1.length : Int) + 1))).bind fun t378 => ((Zq.f k1 a0_0 a0_1 l0_2 a0_3 a0_4 t378).bind fun t381 => ((Zk1.f k1 t375 t381).bind fun t384 => (if t384 = true then (Zh1.l0 k1 l1 l1 (l1.length : Int) (wrap64 (x9_1 + 1)) a0_0 a0_1 l0_2 a0_3 a0_4) else (some false))))) = some r := H); (have A8 := Za.mk A80); (clear A80); (replace H := Option.bind_eq_some_iff.mp H); (obtain ⟨t378, A90, H⟩ := H); (replace H : ((Zq.f k1 a0_0 a0_1 l0_2 a0_3 a0_4 t378).bind fun t381 => ((Zk1.f k1 t375 t381).bind fun t384 => (if t384 = true then (Zh1.l0 k1 l1 l1 (l1.length : Int) (wrap64 (x9_1 + 1)) a0_0 a0_1 l0_2 a0_3 a0_4) else (some false)))) = some r := H); (have A9 := Za.mk A90)
   (clear A90); (replace H := Option.bind_eq_some_iff.mp H); (obtain ⟨t381, A100, H⟩ := H); (replace H : ((Zk1.f k1 t375 t381).bind fun t384 => (if t384 = true then (Zh1.l0 k1 l1 l1 (l1.length : Int) (wrap64 (x9_1 + 1)) a0_0 a0_1 l0_2 a0_3 a0_4) else (some false))) = some r := H); (have A10 := Za.mk A100); (clear A100); (replace H := Option.bind_eq_some_iff.mp H); (obtain ⟨t384, A110, H⟩ := H); (replace H : (if t384 = true then (Zh1.l0 k1 l1 l1 (l1.length : Int) (wrap64 (x9_1 + 1)) a0_0 a0_1 l0_2 a0_3 a0_4) else (some false)) = some r := H); (have A11 := Za.mk A110); (clear A110)
   by_cases c12 : t384 = true
   rotate_left
   ·replace c12 := Bool.eq_false_iff.mpr c12
    (subst c12); (have H1 : (some false) = some r := by rw [if_neg (show ¬ (false = true) by decide)] at H; exact H); (clear H); (have H := H1); (clear H1); (obtain rfl := Option.some.inj H); (have p371 : 0 ≤ (x9_1 : Int) := of_decide_eq_true (by assumption)); (have q371 : x9_1 < (l1.length : Int) := of_decide_eq_true (by assumption)); (obtain ⟨ad371, A371_0, c371_0, e371, hx371_0, hl371_0, hi371_0⟩ := at_L1 HR1.out x9_1 p371 q371); (cases e371); (replace hx371_0 := (HB.out.cell (World.block_lt_of_cell? w _ hx371_0)).trans hx371_0); (have HR371_0 := Za.mk hi371_0); (have HC371_0 := Za.mk hl371_0); (clear hi371_0 hl371_0); (replace p371 := eq_true p371); (replace q371 := eq_true q371)
    try go_wp2
    (replace BK370 := Za.mk (Zj BK370.out)); (replace HB := Za.mk (below_drew1 HB.out))
    refine start_ (n := 15) (S := fun w' => w'.cell? ⟨gb370, 0, none⟩ = some (.int .i64 a0_0) ∧ w'.cell? ⟨gb370, 1, none⟩ = some (.int .i64 a0_1) ∧ w'.cell? ⟨gb370, 2, none⟩ = some (.slice A0_2 l0_2.length c0_2) ∧ w'.cell? ⟨gb370, 3, none⟩ = some (.int .i64 a0_3) ∧ w'.cell? ⟨gb370, 4, none⟩ = some (.int .u32 a0_4)) (ds := []) #[false, false, false, false, false, false, false, false, false, false, false, false, false, false, false] (by kernel_rfl) rfl rfl ⟨(Zb BK370.out 0).trans rfl, (Zb BK370.out 1).trans rfl, (Zb BK370.out 2).trans rfl, (Zb BK370.out 3).trans rfl, (Zb BK370.out 4).trans rfl⟩ (fun hHeld => ?_); refine with_tabW Zh1.tab4 Zh1.bits4 (fun HT_ HW_ => ?_)
    generalize wr.drew = w22 at BK370 HB hHeld ⊢
    refine pure_ (i := 1) (N := some 14) (v := ?_) (a' := ?_) #[false, true, false, false, false, false, false, false, false, false, false, false, false, false, false] rfl rfl (Zm HT_.out (by kernel_rfl)) (fun _ _ _ h => h) (Or.inl ⟨by rfl, ?_⟩) ?_ ?_
    rotate_left;·(intro w';go_simp;with_reducible rfl)
    rotate_left;·(simp only [Act.put, zp1, zp2, zp3, Zg, Zf];rfl)
    refine pure_ (i := 2) (N := some 15) (v := ?_) (a' := ?_) #[false, true, true, false, false, false, false, false, false, false, false, false, false, false, false] rfl rfl (Zm HT_.out (by kernel_rfl)) (fun _ _ _ h => h) (Or.inl ⟨by rfl, ?_⟩) ?_ ?_
    rotate_left;·(intro w';go_simp;with_reducible rfl)
    rotate_left;·(simp only [Act.put, zp1, zp2, zp3, Zg, Zf];rfl)
    refine pure_ (i := 3) (N := some 16) (v := ?_) (a' := ?_) #[false, true, true, true, false, false, false, false, false, false, false, false, false, false, false] rfl rfl (Zm HT_.out (by kernel_rfl)) (fun _ _ _ h => h) (Or.inl ⟨by rfl, ?_⟩) ?_ ?_
    rotate_left;·(intro w';go_simp;with_reducible rfl)
    rotate_left;·(simp only [Act.put, zp1, zp2, zp3, Zg, Zf];rfl)
    refine pure_ (i := 7) (N := some 20) (v := ?_) (a' := ?_) #[false, true, true, true, false, false, false, true, false, false, false, false, false, false, false] rfl rfl (Zm HT_.out (by kernel_rfl)) (fun _ _ _ h => h) (Or.inl ⟨by rfl, ?_⟩) ?_ ?_
    rotate_left;·(intro w';go_simp;with_reducible rfl)
    rotate_left;·(simp only [Act.put, zp1, zp2, zp3, Zg, Zf];rfl)
    refine pure_ (i := 8) (N := some 21) (v := ?_) (a' := ?_) #[false, true, true, true, false, false, false, true, true, false, false, false, false, false, false] rfl rfl (Zm HT_.out (by kernel_rfl)) (fun _ _ _ h => h) (Or.inl ⟨by rfl, ?_⟩) ?_ ?_
    rotate_left;·(intro w';go_simp;with_reducible rfl)
    rotate_left;·(simp only [Act.put, zp1, zp2, zp3, Zg, Zf];rfl)
    refine pure_ (i := 9) (N := some 22) (v := ?_) (a' := ?_) #[false, true, true, true, false, false, false, true, true, true, false, false, false, false, false] rfl rfl (Zm HT_.out (by kernel_rfl)) (fun _ _ _ h => h) (Or.inl ⟨by rfl, ?_⟩) ?_ ?_
    rotate_left;·(intro w';go_simp;with_reducible rfl)
    rotate_left;·(simp only [Act.put, zp1, zp2, zp3, Zg, Zf];rfl)
    refine pure_ (i := 10) (N := some 23) (v := ?_) (a' := ?_) #[false, true, true, true, false, false, false, true, true, true, true, false, false, false, false] rfl rfl (Zm HT_.out (by kernel_rfl)) (fun _ _ _ h => h) (Or.inl ⟨by rfl, ?_⟩) ?_ ?_
    rotate_left;·(intro w';go_simp;with_reducible rfl)
    rotate_left;·(simp only [Act.put, zp1, zp2, zp3, Zg, Zf];rfl)
    refine take_ (i := 0) (N := some 13) (v := ?_) (a' := ?_) #[true, true, true, true, false, false, false, true, true, true, true, false, false, false, false] rfl rfl (Zi1 HT_.out HW_.out (by kernel_rfl)) (fun _ _ _ h => h) (Or.inl ⟨by rfl, ?_⟩) hHeld ?_ ?_
    rotate_left
    ·rintro w' ⟨s0, s1, s2, s3, s4⟩
     go_simp
     with_reducible rfl
    rotate_left
    ·simp only [Act.put, zp1, zp2, zp3, Zg, Zf]
     rfl
    refine take_ (i := 6) (N := some 19) (v := ?_) (a' := ?_) #[true, true, true, true, false, false, true, true, true, true, true, false, false, false, false] rfl rfl (Zi1 HT_.out HW_.out (by kernel_rfl)) (fun _ _ _ h => h) (Or.inl ⟨by rfl, ?_⟩) hHeld ?_ ?_
    rotate_left
    ·rintro w' ⟨s0, s1, s2, s3, s4⟩
     go_simp
     with_reducible rfl
    rotate_left
    ·simp only [Act.put, zp1, zp2, zp3, Zg, Zf]
     rfl
    refine one_ (i := 4) (N := some 17) #[true, true, true, true, true, false, true, true, true, true, true, false, false, false, false] rfl rfl (one_of HT_.out (by kernel_rfl)) (by decide) (fun K hK => ?_)
    refine goes_ Try.func25 (by kernel_rfl) rfl #[.slice A371_0 (Ze l1 x9_1).length c371_0, .int .i64 (l1.length : Int)] (by rfl) rfl rfl (by (try simp only [List.map_toArray, List.map_cons, List.map_nil]); first | done | rfl | (simp only [List.length_drop, List.length_take]; rfl)) ?_
    with_reducible refine (Zr1.calls k1 _ _ (Ze l1 x9_1) (l1.length : Int) t372 _ ?side1 ?side2 A7.out).mono ?_
    (case side1 => repeat (first | exact (Kd.C_below HR371_0.out HB.out) | (with_reducible refine Kd.C_alloc ?_ _) | (with_reducible refine Kd.C_drewN ?_ _) | (with_reducible refine Kd.C_drew ?_)))
    (case side2 => exact HC371_0.out)
    rintro e w23 ⟨v373, rfl, ho0, hb⟩
    refine ⟨_, rfl, ?_⟩
    (have HO374 := Za.mk (Kd.R_lower ho0 (Zl (by repeat (first | (with_reducible first | exact HB.out | apply zc1 | apply zc2 | apply zc3 | refine zc4 ?_ (by assumption)) | exact HB.out))))); (replace BK370 := Za.mk (Zp (g := gb370) (by (with_reducible repeat (first | apply zb3 | apply zb2 | apply zb1)); exact BK370.out) hb)); (replace HB := Za.mk (Zr (by repeat (first | (with_reducible first | exact HB.out | apply zc1 | apply zc2 | apply zc3 | refine zc4 ?_ (by assumption)) | exact HB.out)) hb)); ((try clear hb)); ((try clear hb2)); ((try clear hk)); ((try clear hi)); ((try clear ho0)); (obtain ⟨Ao24, co24, eo24⟩ := Kd.R_slice HO374.out)
    (first | subst eo24 | (injection eo24 with f1_ f2_ f3_; have f4_ := f1_.symm; have f5_ := f3_.symm; clear f1_ f2_ f3_; subst f4_; subst f5_))
    refine hK.out _ _ ⟨(Zb BK370.out 0).trans rfl, (Zb BK370.out 1).trans rfl, (Zb BK370.out 2).trans rfl, (Zb BK370.out 3).trans rfl, (Zb BK370.out 4).trans rfl⟩ (fun hHeld => ?_)
    clear hK K
    refine norm_ (a' := ?_) ?_ ?_
    rotate_left
    ·show Act.put _ (some 17) _ = _
     simp only [Act.put, zp1, zp2, zp3, Zg, Zf]
     rfl
    refine one_ (i := 5) (N := some 18) #[true, true, true, true, true, true, true, true, true, true, true, false, false, false, false] rfl rfl (one_of HT_.out (by kernel_rfl)) (by decide) (fun K hK => ?_)
    refine goes_ Try.func12 (by kernel_rfl) rfl #[.agg #[.int .i64 a0_0, .int .i64 a0_1, .slice A0_2 l0_2.length c0_2, .int .i64 a0_3, .int .u32 a0_4], .slice Ao24 t372.length co24] (by rfl) rfl rfl (by (try simp only [List.map_toArray, List.map_cons, List.map_nil]); first | done | rfl | (simp only [List.length_drop, List.length_take]; rfl)) ?_
    with_reducible refine (Zq.calls k1 a0_0 a0_1 _ _ l0_2 a0_3 a0_4 _ _ t372 t375 _ ?side1 ?side2 ?side3 ?side4 A8.out).mono ?_
    (case side1 => repeat (first | exact (Kd.C_below HR0_2.out HB.out) | (with_reducible refine Kd.C_alloc ?_ _) | (with_reducible refine Kd.C_drewN ?_ _) | (with_reducible refine Kd.C_drew ?_)))
    (case side2 => exact HC0_2.out)
    (case side3 => repeat (first | exact (Kd.R_reads' HO374.out).2.2 | (with_reducible refine Kd.C_alloc ?_ _) | (with_reducible refine Kd.C_drewN ?_ _) | (with_reducible refine Kd.C_drew ?_)))
    (case side4 => exact (Kd.R_reads' HO374.out).2.1)
    rintro e w25 ⟨v376, rfl, ho0, hb⟩
    refine ⟨_, rfl, ?_⟩
    (have HO377 := Za.mk (Kd.R_lower (Kd.R_new' ho0 (Kd.R_lt (by (with_reducible repeat (first | apply Kd.R_alloc | apply Kd.R_drewN | apply Kd.R_drew)); exact HO374.out))) (Zl (by repeat (first | (with_reducible first | exact HB.out | apply zc1 | apply zc2 | apply zc3 | refine zc4 ?_ (by assumption)) | exact HB.out))))); (replace HO374 := Za.mk (Kd.R_elder' (by (with_reducible repeat (first | apply Kd.R_alloc | apply Kd.R_drewN | apply Kd.R_drew)); exact HO374.out) (Kd.R_base ho0) hb)); (replace BK370 := Za.mk (Zp (g := gb370) (by (with_reducible repeat (first | apply zb3 | apply zb2 | apply zb1)); exact BK370.out) hb)); (replace HB := Za.mk (Zr (by repeat (first | (with_reducible first | exact HB.out | apply zc1 | apply zc2 | apply zc3 | refine zc4 ?_ (by assumption)) | exact HB.out)) hb)); ((try clear hb)); ((try clear hb2)); ((try clear hk)); ((try clear hi)); ((try clear ho0))
    refine hK.out _ _ ⟨(Zb BK370.out 0).trans rfl, (Zb BK370.out 1).trans rfl, (Zb BK370.out 2).trans rfl, (Zb BK370.out 3).trans rfl, (Zb BK370.out 4).trans rfl⟩ (fun hHeld => ?_)
    clear hK K
    refine norm_ (a' := ?_) ?_ ?_
    rotate_left
    ·show Act.put _ (some 18) _ = _
     simp only [Act.put, zp1, zp2, zp3, Zg, Zf]
     rfl
    refine one_ (i := 11) (N := some 24) #[true, true, true, true, true, true, true, true, true, true, true, true, false, false, false] rfl rfl (one_of HT_.out (by kernel_rfl)) (by decide) (fun K hK => ?_)
    refine goes_ Try.func25 (by kernel_rfl) rfl #[.slice A371_0 (Ze l1 x9_1).length c371_0, .int .i64 (wrap64 ((l1.length : Int) + 1))] (by rfl) rfl rfl (by (try simp only [List.map_toArray, List.map_cons, List.map_nil]); first | done | rfl | (simp only [List.length_drop, List.length_take]; rfl)) ?_
    with_reducible refine (Zr1.calls k1 _ _ (Ze l1 x9_1) (wrap64 ((l1.length : Int) + 1)) t378 _ ?side1 ?side2 A9.out).mono ?_
    (case side1 => repeat (first | exact (Kd.C_below HR371_0.out HB.out) | (with_reducible refine Kd.C_alloc ?_ _) | (with_reducible refine Kd.C_drewN ?_ _) | (with_reducible refine Kd.C_drew ?_)))
    (case side2 => exact HC371_0.out)
    rintro e w26 ⟨v379, rfl, ho0, hb⟩
    refine ⟨_, rfl, ?_⟩
    (have HO380 := Za.mk (Kd.R_lower (Kd.R_new' (Kd.R_new' ho0 (Kd.R_lt (by (with_reducible repeat (first | apply Kd.R_alloc | apply Kd.R_drewN | apply Kd.R_drew)); exact HO374.out))) (Kd.R_lt (by (with_reducible repeat (first | apply Kd.R_alloc | apply Kd.R_drewN | apply Kd.R_drew)); exact HO377.out))) (Zl (by repeat (first | (with_reducible first | exact HB.out | apply zc1 | apply zc2 | apply zc3 | refine zc4 ?_ (by assumption)) | exact HB.out))))); (replace HO374 := Za.mk (Kd.R_elder' (by (with_reducible repeat (first | apply Kd.R_alloc | apply Kd.R_drewN | apply Kd.R_drew)); exact HO374.out) (Kd.R_base ho0) hb)); (replace HO377 := Za.mk (Kd.R_elder' (by (with_reducible repeat (first | apply Kd.R_alloc | apply Kd.R_drewN | apply Kd.R_drew)); exact HO377.out) (Kd.R_base ho0) hb)); (replace BK370 := Za.mk (Zp (g := gb370) (by (with_reducible repeat (first | apply zb3 | apply zb2 | apply zb1)); exact BK370.out) hb)); (replace HB := Za.mk (Zr (by repeat (first | (with_reducible first | exact HB.out | apply zc1 | apply zc2 | apply zc3 | refine zc4 ?_ (by assumption)) | exact HB.out)) hb)); ((try clear hb)); ((try clear hb2)); ((try clear hk)); ((try clear hi)); ((try clear ho0)); (obtain ⟨Ao27, co27, eo27⟩ := Kd.R_slice HO380.out)
    (first | subst eo27 | (injection eo27 with f1_ f2_ f3_; have f4_ := f1_.symm; have f5_ := f3_.symm; clear f1_ f2_ f3_; subst f4_; subst f5_))
    refine hK.out _ _ ⟨(Zb BK370.out 0).trans rfl, (Zb BK370.out 1).trans rfl, (Zb BK370.out 2).trans rfl, (Zb BK370.out 3).trans rfl, (Zb BK370.out 4).trans rfl⟩ (fun hHeld => ?_)
    clear hK K
    refine norm_ (a' := ?_) ?_ ?_
    rotate_left
    ·show Act.put _ (some 24) _ = _
     simp only [Act.put, zp1, zp2, zp3, Zg, Zf]
     rfl
    refine one_ (i := 12) (N := some 25) #[true, true, true, true, true, true, true, true, true, true, true, true, true, false, false] rfl rfl (one_of HT_.out (by kernel_rfl)) (by decide) (fun K hK => ?_)
    refine goes_ Try.func12 (by kernel_rfl) rfl #[.agg #[.int .i64 a0_0, .int .i64 a0_1, .slice A0_2 l0_2.length c0_2, .int .i64 a0_3, .int .u32 a0_4], .slice Ao27 t378.length co27] (by rfl) rfl rfl (by (try simp only [List.map_toArray, List.map_cons, List.map_nil]); first | done | rfl | (simp only [List.length_drop, List.length_take]; rfl)) ?_
    with_reducible refine (Zq.calls k1 a0_0 a0_1 _ _ l0_2 a0_3 a0_4 _ _ t378 t381 _ ?side1 ?side2 ?side3 ?side4 A10.out).mono ?_
    (case side1 => repeat (first | exact (Kd.C_below HR0_2.out HB.out) | (with_reducible refine Kd.C_alloc ?_ _) | (with_reducible refine Kd.C_drewN ?_ _) | (with_reducible refine Kd.C_drew ?_)))
    (case side2 => exact HC0_2.out)
    (case side3 => repeat (first | exact (Kd.R_reads' HO380.out).2.2 | (with_reducible refine Kd.C_alloc ?_ _) | (with_reducible refine Kd.C_drewN ?_ _) | (with_reducible refine Kd.C_drew ?_)))
    (case side4 => exact (Kd.R_reads' HO380.out).2.1)
    rintro e w28 ⟨v382, rfl, ho0, hb⟩
    refine ⟨_, rfl, ?_⟩
    (have HO383 := Za.mk (Kd.R_lower (Kd.R_new' (Kd.R_new' (Kd.R_new' ho0 (Kd.R_lt (by (with_reducible repeat (first | apply Kd.R_alloc | apply Kd.R_drewN | apply Kd.R_drew)); exact HO374.out))) (Kd.R_lt (by (with_reducible repeat (first | apply Kd.R_alloc | apply Kd.R_drewN | apply Kd.R_drew)); exact HO377.out))) (Kd.R_lt (by (with_reducible repeat (first | apply Kd.R_alloc | apply Kd.R_drewN | apply Kd.R_drew)); exact HO380.out))) (Zl (by repeat (first | (with_reducible first | exact HB.out | apply zc1 | apply zc2 | apply zc3 | refine zc4 ?_ (by assumption)) | exact HB.out))))); (replace HO374 := Za.mk (Kd.R_elder' (by (with_reducible repeat (first | apply Kd.R_alloc | apply Kd.R_drewN | apply Kd.R_drew)); exact HO374.out) (Kd.R_base ho0) hb)); (replace HO377 := Za.mk (Kd.R_elder' (by (with_reducible repeat (first | apply Kd.R_alloc | apply Kd.R_drewN | apply Kd.R_drew)); exact HO377.out) (Kd.R_base ho0) hb)); (replace HO380 := Za.mk (Kd.R_elder' (by (with_reducible repeat (first | apply Kd.R_alloc | apply Kd.R_drewN | apply Kd.R_drew)); exact HO380.out) (Kd.R_base ho0) hb)); (replace BK370 := Za.mk (Zp (g := gb370) (by (with_reducible repeat (first | apply zb3 | apply zb2 | apply zb1)); exact BK370.out) hb)); (replace HB := Za.mk (Zr (by repeat (first | (with_reducible first | exact HB.out | apply zc1 | apply zc2 | apply zc3 | refine zc4 ?_ (by assumption)) | exact HB.out)) hb)); ((try clear hb)); ((try clear hb2)); ((try clear hk)); ((try clear hi)); ((try clear ho0)); (obtain ⟨Ao29, co29, eo29⟩ := Kd.R_slice HO377.out)
    (first | subst eo29 | (injection eo29 with f1_ f2_ f3_; have f4_ := f1_.symm; have f5_ := f3_.symm; clear f1_ f2_ f3_; subst f4_; subst f5_))
    obtain ⟨Ao30, co30, eo30⟩ := Kd.R_slice HO383.out
    (first | subst eo30 | (injection eo30 with f1_ f2_ f3_; have f4_ := f1_.symm; have f5_ := f3_.symm; clear f1_ f2_ f3_; subst f4_; subst f5_))
    refine hK.out _ _ ⟨(Zb BK370.out 0).trans rfl, (Zb BK370.out 1).trans rfl, (Zb BK370.out 2).trans rfl, (Zb BK370.out 3).trans rfl, (Zb BK370.out 4).trans rfl⟩ (fun hHeld => ?_)
    clear hK K
    refine norm_ (a' := ?_) ?_ ?_
    rotate_left
    ·show Act.put _ (some 25) _ = _
     simp only [Act.put, zp1, zp2, zp3, Zg, Zf]
     rfl
    refine one_ (i := 13) (N := some 26) #[true, true, true, true, true, true, true, true, true, true, true, true, true, true, false] rfl rfl (one_of HT_.out (by kernel_rfl)) (by decide) (fun K hK => ?_)
    refine goes_ Try.func11 (by kernel_rfl) rfl #[.slice Ao29 t375.length co29, .slice Ao30 t381.length co30] (by rfl) rfl rfl (by (try simp only [List.map_toArray, List.map_cons, List.map_nil]); first | done | rfl | (simp only [List.length_drop, List.length_take]; rfl)) ?_
    with_reducible refine (Zk1.calls k1 _ _ t375 _ _ t381 false _ ?side1 ?side2 ?side3 ?side4 A11.out).mono ?_
    (case side1 => repeat (first | exact (Kd.R_reads' HO377.out).2.2 | (with_reducible refine Kd.C_alloc ?_ _) | (with_reducible refine Kd.C_drewN ?_ _) | (with_reducible refine Kd.C_drew ?_)))
    (case side2 => exact (Kd.R_reads' HO377.out).2.1)
    (case side3 => repeat (first | exact (Kd.R_reads' HO383.out).2.2 | (with_reducible refine Kd.C_alloc ?_ _) | (with_reducible refine Kd.C_drewN ?_ _) | (with_reducible refine Kd.C_drew ?_)))
    (case side4 => exact (Kd.R_reads' HO383.out).2.1)
    rintro e w' ⟨rfl, ⟨nd, rfl⟩⟩
    refine ⟨_, rfl, ?_⟩
    refine hK.out _ _ ⟨(Zb BK370.out 0).trans rfl, (Zb BK370.out 1).trans rfl, (Zb BK370.out 2).trans rfl, (Zb BK370.out 3).trans rfl, (Zb BK370.out 4).trans rfl⟩ (fun hHeld => ?_)
    clear hK K
    refine norm_ (a' := ?_) ?_ ?_
    rotate_left
    ·show Act.put _ (some 26) _ = _
     simp only [Act.put, zp1, zp2, zp3, Zg, Zf]
     rfl
    refine pure_ (i := 14) (N := some 27) (v := ?_) (a' := ?_) #[true, true, true, true, true, true, true, true, true, true, true, true, true, true, true] rfl rfl (Zm HT_.out (by kernel_rfl)) (fun _ _ _ h => h) (Or.inl ⟨by rfl, ?_⟩) ?_ ?_
    rotate_left;·(intro w';go_simp;with_reducible rfl)
    rotate_left;·(simp only [Act.put, zp1, zp2, zp3, Zg, Zf];rfl)
    refine done_ (done_of HT_.out (by kernel_rfl)) ?_
    try go_wp2
    go_ret
    exact ⟨by first | rfl | (simp [Zw, Zx] <;> rfl) | (simp [*, Zw, Zx] <;> rfl), by repeat (first | (with_reducible first | exact HB.out | apply zc1 | apply zc2 | apply zc3 | refine zc4 ?_ (by assumption)) | exact HB.out)⟩
   (subst c12); (have H1 : (Zh1.l0 k1 l1 l1 (l1.length : Int) (wrap64 (x9_1 + 1)) a0_0 a0_1 l0_2 a0_3 a0_4) = some r := by rw [if_pos rfl] at H; exact H); (clear H); (have H := H1); (clear H1); (have H' := Za.mk H); (clear H); (have p371 : 0 ≤ (x9_1 : Int) := of_decide_eq_true (by assumption)); (have q371 : x9_1 < (l1.length : Int) := of_decide_eq_true (by assumption)); (obtain ⟨ad371, A371_0, c371_0, e371, hx371_0, hl371_0, hi371_0⟩ := at_L1 HR1.out x9_1 p371 q371); (cases e371); (replace hx371_0 := (HB.out.cell (World.block_lt_of_cell? w _ hx371_0)).trans hx371_0); (have HR371_0 := Za.mk hi371_0); (have HC371_0 := Za.mk hl371_0); (clear hi371_0 hl371_0); (replace p371 := eq_true p371); (replace q371 := eq_true q371)
   try go_wp2
   (replace BK370 := Za.mk (Zj BK370.out)); (replace HB := Za.mk (below_drew1 HB.out))
   refine start_ (n := 15) (S := fun w' => w'.cell? ⟨gb370, 0, none⟩ = some (.int .i64 a0_0) ∧ w'.cell? ⟨gb370, 1, none⟩ = some (.int .i64 a0_1) ∧ w'.cell? ⟨gb370, 2, none⟩ = some (.slice A0_2 l0_2.length c0_2) ∧ w'.cell? ⟨gb370, 3, none⟩ = some (.int .i64 a0_3) ∧ w'.cell? ⟨gb370, 4, none⟩ = some (.int .u32 a0_4)) (ds := []) #[false, false, false, false, false, false, false, false, false, false, false, false, false, false, false] (by kernel_rfl) rfl rfl ⟨(Zb BK370.out 0).trans rfl, (Zb BK370.out 1).trans rfl, (Zb BK370.out 2).trans rfl, (Zb BK370.out 3).trans rfl, (Zb BK370.out 4).trans rfl⟩ (fun hHeld => ?_); refine with_tabW Zh1.tab4 Zh1.bits4 (fun HT_ HW_ => ?_)
   generalize wr.drew = w13 at BK370 HB hHeld ⊢
   refine pure_ (i := 1) (N := some 14) (v := ?_) (a' := ?_) #[false, true, false, false, false, false, false, false, false, false, false, false, false, false, false] rfl rfl (Zm HT_.out (by kernel_rfl)) (fun _ _ _ h => h) (Or.inl ⟨by rfl, ?_⟩) ?_ ?_
   rotate_left;·(intro w';go_simp;with_reducible rfl)
   rotate_left;·(simp only [Act.put, zp1, zp2, zp3, Zg, Zf];rfl)
   refine pure_ (i := 2) (N := some 15) (v := ?_) (a' := ?_) #[false, true, true, false, false, false, false, false, false, false, false, false, false, false, false] rfl rfl (Zm HT_.out (by kernel_rfl)) (fun _ _ _ h => h) (Or.inl ⟨by rfl, ?_⟩) ?_ ?_
   rotate_left;·(intro w';go_simp;with_reducible rfl)
   rotate_left;·(simp only [Act.put, zp1, zp2, zp3, Zg, Zf];rfl)
   refine pure_ (i := 3) (N := some 16) (v := ?_) (a' := ?_) #[false, true, true, true, false, false, false, false, false, false, false, false, false, false, false] rfl rfl (Zm HT_.out (by kernel_rfl)) (fun _ _ _ h => h) (Or.inl ⟨by rfl, ?_⟩) ?_ ?_
   rotate_left;·(intro w';go_simp;with_reducible rfl)
   rotate_left;·(simp only [Act.put, zp1, zp2, zp3, Zg, Zf];rfl)
   refine pure_ (i := 7) (N := some 20) (v := ?_) (a' := ?_) #[false, true, true, true, false, false, false, true, false, false, false, false, false, false, false] rfl rfl (Zm HT_.out (by kernel_rfl)) (fun _ _ _ h => h) (Or.inl ⟨by rfl, ?_⟩) ?_ ?_
   rotate_left;·(intro w';go_simp;with_reducible rfl)
   rotate_left;·(simp only [Act.put, zp1, zp2, zp3, Zg, Zf];rfl)
   refine pure_ (i := 8) (N := some 21) (v := ?_) (a' := ?_) #[false, true, true, true, false, false, false, true, true, false, false, false, false, false, false] rfl rfl (Zm HT_.out (by kernel_rfl)) (fun _ _ _ h => h) (Or.inl ⟨by rfl, ?_⟩) ?_ ?_
   rotate_left;·(intro w';go_simp;with_reducible rfl)
   rotate_left;·(simp only [Act.put, zp1, zp2, zp3, Zg, Zf];rfl)
   refine pure_ (i := 9) (N := some 22) (v := ?_) (a' := ?_) #[false, true, true, true, false, false, false, true, true, true, false, false, false, false, false] rfl rfl (Zm HT_.out (by kernel_rfl)) (fun _ _ _ h => h) (Or.inl ⟨by rfl, ?_⟩) ?_ ?_
   rotate_left;·(intro w';go_simp;with_reducible rfl)
   rotate_left;·(simp only [Act.put, zp1, zp2, zp3, Zg, Zf];rfl)
   refine pure_ (i := 10) (N := some 23) (v := ?_) (a' := ?_) #[false, true, true, true, false, false, false, true, true, true, true, false, false, false, false] rfl rfl (Zm HT_.out (by kernel_rfl)) (fun _ _ _ h => h) (Or.inl ⟨by rfl, ?_⟩) ?_ ?_
   rotate_left;·(intro w';go_simp;with_reducible rfl)
   rotate_left;·(simp only [Act.put, zp1, zp2, zp3, Zg, Zf];rfl)
   refine take_ (i := 0) (N := some 13) (v := ?_) (a' := ?_) #[true, true, true, true, false, false, false, true, true, true, true, false, false, false, false] rfl rfl (Zi1 HT_.out HW_.out (by kernel_rfl)) (fun _ _ _ h => h) (Or.inl ⟨by rfl, ?_⟩) hHeld ?_ ?_
   rotate_left
   ·rintro w' ⟨s0, s1, s2, s3, s4⟩
    go_simp
    with_reducible rfl
   rotate_left
   ·simp only [Act.put, zp1, zp2, zp3, Zg, Zf]
    rfl
   refine take_ (i := 6) (N := some 19) (v := ?_) (a' := ?_) #[true, true, true, true, false, false, true, true, true, true, true, false, false, false, false] rfl rfl (Zi1 HT_.out HW_.out (by kernel_rfl)) (fun _ _ _ h => h) (Or.inl ⟨by rfl, ?_⟩) hHeld ?_ ?_
   rotate_left
   ·rintro w' ⟨s0, s1, s2, s3, s4⟩
    go_simp
    with_reducible rfl
   rotate_left
   ·simp only [Act.put, zp1, zp2, zp3, Zg, Zf]
    rfl
   refine one_ (i := 4) (N := some 17) #[true, true, true, true, true, false, true, true, true, true, true, false, false, false, false] rfl rfl (one_of HT_.out (by kernel_rfl)) (by decide) (fun K hK => ?_)
   refine goes_ Try.func25 (by kernel_rfl) rfl #[.slice A371_0 (Ze l1 x9_1).length c371_0, .int .i64 (l1.length : Int)] (by rfl) rfl rfl (by (try simp only [List.map_toArray, List.map_cons, List.map_nil]); first | done | rfl | (simp only [List.length_drop, List.length_take]; rfl)) ?_
   with_reducible refine (Zr1.calls k1 _ _ (Ze l1 x9_1) (l1.length : Int) t372 _ ?side1 ?side2 A7.out).mono ?_
   (case side1 => repeat (first | exact (Kd.C_below HR371_0.out HB.out) | (with_reducible refine Kd.C_alloc ?_ _) | (with_reducible refine Kd.C_drewN ?_ _) | (with_reducible refine Kd.C_drew ?_)))
   (case side2 => exact HC371_0.out)
   rintro e w14 ⟨v373, rfl, ho0, hb⟩
   refine ⟨_, rfl, ?_⟩
   (have HO374 := Za.mk (Kd.R_lower ho0 (Zl (by repeat (first | (with_reducible first | exact HB.out | apply zc1 | apply zc2 | apply zc3 | refine zc4 ?_ (by assumption)) | exact HB.out))))); (replace BK370 := Za.mk (Zp (g := gb370) (by (with_reducible repeat (first | apply zb3 | apply zb2 | apply zb1)); exact BK370.out) hb)); (replace HB := Za.mk (Zr (by repeat (first | (with_reducible first | exact HB.out | apply zc1 | apply zc2 | apply zc3 | refine zc4 ?_ (by assumption)) | exact HB.out)) hb)); ((try clear hb)); ((try clear hb2)); ((try clear hk)); ((try clear hi)); ((try clear ho0)); (obtain ⟨Ao15, co15, eo15⟩ := Kd.R_slice HO374.out)
   (first | subst eo15 | (injection eo15 with f1_ f2_ f3_; have f4_ := f1_.symm; have f5_ := f3_.symm; clear f1_ f2_ f3_; subst f4_; subst f5_))
   refine hK.out _ _ ⟨(Zb BK370.out 0).trans rfl, (Zb BK370.out 1).trans rfl, (Zb BK370.out 2).trans rfl, (Zb BK370.out 3).trans rfl, (Zb BK370.out 4).trans rfl⟩ (fun hHeld => ?_)
   clear hK K
   refine norm_ (a' := ?_) ?_ ?_
   rotate_left
   ·show Act.put _ (some 17) _ = _
    simp only [Act.put, zp1, zp2, zp3, Zg, Zf]
    rfl
   refine one_ (i := 5) (N := some 18) #[true, true, true, true, true, true, true, true, true, true, true, false, false, false, false] rfl rfl (one_of HT_.out (by kernel_rfl)) (by decide) (fun K hK => ?_)
   refine goes_ Try.func12 (by kernel_rfl) rfl #[.agg #[.int .i64 a0_0, .int .i64 a0_1, .slice A0_2 l0_2.length c0_2, .int .i64 a0_3, .int .u32 a0_4], .slice Ao15 t372.length co15] (by rfl) rfl rfl (by (try simp only [List.map_toArray, List.map_cons, List.map_nil]); first | done | rfl | (simp only [List.length_drop, List.length_take]; rfl)) ?_
   with_reducible refine (Zq.calls k1 a0_0 a0_1 _ _ l0_2 a0_3 a0_4 _ _ t372 t375 _ ?side1 ?side2 ?side3 ?side4 A8.out).mono ?_
   (case side1 => repeat (first | exact (Kd.C_below HR0_2.out HB.out) | (with_reducible refine Kd.C_alloc ?_ _) | (with_reducible refine Kd.C_drewN ?_ _) | (with_reducible refine Kd.C_drew ?_)))
   (case side2 => exact HC0_2.out)
   (case side3 => repeat (first | exact (Kd.R_reads' HO374.out).2.2 | (with_reducible refine Kd.C_alloc ?_ _) | (with_reducible refine Kd.C_drewN ?_ _) | (with_reducible refine Kd.C_drew ?_)))
   (case side4 => exact (Kd.R_reads' HO374.out).2.1)
   rintro e w16 ⟨v376, rfl, ho0, hb⟩
   refine ⟨_, rfl, ?_⟩
   (have HO377 := Za.mk (Kd.R_lower (Kd.R_new' ho0 (Kd.R_lt (by (with_reducible repeat (first | apply Kd.R_alloc | apply Kd.R_drewN | apply Kd.R_drew)); exact HO374.out))) (Zl (by repeat (first | (with_reducible first | exact HB.out | apply zc1 | apply zc2 | apply zc3 | refine zc4 ?_ (by assumption)) | exact HB.out))))); (replace HO374 := Za.mk (Kd.R_elder' (by (with_reducible repeat (first | apply Kd.R_alloc | apply Kd.R_drewN | apply Kd.R_drew)); exact HO374.out) (Kd.R_base ho0) hb)); (replace BK370 := Za.mk (Zp (g := gb370) (by (with_reducible repeat (first | apply zb3 | apply zb2 | apply zb1)); exact BK370.out) hb)); (replace HB := Za.mk (Zr (by repeat (first | (with_reducible first | exact HB.out | apply zc1 | apply zc2 | apply zc3 | refine zc4 ?_ (by assumption)) | exact HB.out)) hb)); ((try clear hb)); ((try clear hb2)); ((try clear hk)); ((try clear hi)); ((try clear ho0))
   refine hK.out _ _ ⟨(Zb BK370.out 0).trans rfl, (Zb BK370.out 1).trans rfl, (Zb BK370.out 2).trans rfl, (Zb BK370.out 3).trans rfl, (Zb BK370.out 4).trans rfl⟩ (fun hHeld => ?_)
   clear hK K
   refine norm_ (a' := ?_) ?_ ?_
   rotate_left
   ·show Act.put _ (some 18) _ = _
    simp only [Act.put, zp1, zp2, zp3, Zg, Zf]
    rfl
   refine one_ (i := 11) (N := some 24) #[true, true, true, true, true, true, true, true, true, true, true, true, false, false, false] rfl rfl (one_of HT_.out (by kernel_rfl)) (by decide) (fun K hK => ?_)
   refine goes_ Try.func25 (by kernel_rfl) rfl #[.slice A371_0 (Ze l1 x9_1).length c371_0, .int .i64 (wrap64 ((l1.length : Int) + 1))] (by rfl) rfl rfl (by (try simp only [List.map_toArray, List.map_cons, List.map_nil]); first | done | rfl | (simp only [List.length_drop, List.length_take]; rfl)) ?_
   with_reducible refine (Zr1.calls k1 _ _ (Ze l1 x9_1) (wrap64 ((l1.length : Int) + 1)) t378 _ ?side1 ?side2 A9.out).mono ?_
   (case side1 => repeat (first | exact (Kd.C_below HR371_0.out HB.out) | (with_reducible refine Kd.C_alloc ?_ _) | (with_reducible refine Kd.C_drewN ?_ _) | (with_reducible refine Kd.C_drew ?_)))
   (case side2 => exact HC371_0.out)
   rintro e w17 ⟨v379, rfl, ho0, hb⟩
   refine ⟨_, rfl, ?_⟩
   (have HO380 := Za.mk (Kd.R_lower (Kd.R_new' (Kd.R_new' ho0 (Kd.R_lt (by (with_reducible repeat (first | apply Kd.R_alloc | apply Kd.R_drewN | apply Kd.R_drew)); exact HO374.out))) (Kd.R_lt (by (with_reducible repeat (first | apply Kd.R_alloc | apply Kd.R_drewN | apply Kd.R_drew)); exact HO377.out))) (Zl (by repeat (first | (with_reducible first | exact HB.out | apply zc1 | apply zc2 | apply zc3 | refine zc4 ?_ (by assumption)) | exact HB.out))))); (replace HO374 := Za.mk (Kd.R_elder' (by (with_reducible repeat (first | apply Kd.R_alloc | apply Kd.R_drewN | apply Kd.R_drew)); exact HO374.out) (Kd.R_base ho0) hb)); (replace HO377 := Za.mk (Kd.R_elder' (by (with_reducible repeat (first | apply Kd.R_alloc | apply Kd.R_drewN | apply Kd.R_drew)); exact HO377.out) (Kd.R_base ho0) hb)); (replace BK370 := Za.mk (Zp (g := gb370) (by (with_reducible repeat (first | apply zb3 | apply zb2 | apply zb1)); exact BK370.out) hb)); (replace HB := Za.mk (Zr (by repeat (first | (with_reducible first | exact HB.out | apply zc1 | apply zc2 | apply zc3 | refine zc4 ?_ (by assumption)) | exact HB.out)) hb)); ((try clear hb)); ((try clear hb2)); ((try clear hk)); ((try clear hi)); ((try clear ho0)); (obtain ⟨Ao18, co18, eo18⟩ := Kd.R_slice HO380.out)
   (first | subst eo18 | (injection eo18 with f1_ f2_ f3_; have f4_ := f1_.symm; have f5_ := f3_.symm; clear f1_ f2_ f3_; subst f4_; subst f5_))
   refine hK.out _ _ ⟨(Zb BK370.out 0).trans rfl, (Zb BK370.out 1).trans rfl, (Zb BK370.out 2).trans rfl, (Zb BK370.out 3).trans rfl, (Zb BK370.out 4).trans rfl⟩ (fun hHeld => ?_)
   clear hK K
   refine norm_ (a' := ?_) ?_ ?_
   rotate_left
   ·show Act.put _ (some 24) _ = _
    simp only [Act.put, zp1, zp2, zp3, Zg, Zf]
    rfl
   refine one_ (i := 12) (N := some 25) #[true, true, true, true, true, true, true, true, true, true, true, true, true, false, false] rfl rfl (one_of HT_.out (by kernel_rfl)) (by decide) (fun K hK => ?_)
   refine goes_ Try.func12 (by kernel_rfl) rfl #[.agg #[.int .i64 a0_0, .int .i64 a0_1, .slice A0_2 l0_2.length c0_2, .int .i64 a0_3, .int .u32 a0_4], .slice Ao18 t378.length co18] (by rfl) rfl rfl (by (try simp only [List.map_toArray, List.map_cons, List.map_nil]); first | done | rfl | (simp only [List.length_drop, List.length_take]; rfl)) ?_
   with_reducible refine (Zq.calls k1 a0_0 a0_1 _ _ l0_2 a0_3 a0_4 _ _ t378 t381 _ ?side1 ?side2 ?side3 ?side4 A10.out).mono ?_
   (case side1 => repeat (first | exact (Kd.C_below HR0_2.out HB.out) | (with_reducible refine Kd.C_alloc ?_ _) | (with_reducible refine Kd.C_drewN ?_ _) | (with_reducible refine Kd.C_drew ?_)))
   (case side2 => exact HC0_2.out)
   (case side3 => repeat (first | exact (Kd.R_reads' HO380.out).2.2 | (with_reducible refine Kd.C_alloc ?_ _) | (with_reducible refine Kd.C_drewN ?_ _) | (with_reducible refine Kd.C_drew ?_)))
   (case side4 => exact (Kd.R_reads' HO380.out).2.1)
   rintro e w19 ⟨v382, rfl, ho0, hb⟩
   refine ⟨_, rfl, ?_⟩
   (have HO383 := Za.mk (Kd.R_lower (Kd.R_new' (Kd.R_new' (Kd.R_new' ho0 (Kd.R_lt (by (with_reducible repeat (first | apply Kd.R_alloc | apply Kd.R_drewN | apply Kd.R_drew)); exact HO374.out))) (Kd.R_lt (by (with_reducible repeat (first | apply Kd.R_alloc | apply Kd.R_drewN | apply Kd.R_drew)); exact HO377.out))) (Kd.R_lt (by (with_reducible repeat (first | apply Kd.R_alloc | apply Kd.R_drewN | apply Kd.R_drew)); exact HO380.out))) (Zl (by repeat (first | (with_reducible first | exact HB.out | apply zc1 | apply zc2 | apply zc3 | refine zc4 ?_ (by assumption)) | exact HB.out))))); (replace HO374 := Za.mk (Kd.R_elder' (by (with_reducible repeat (first | apply Kd.R_alloc | apply Kd.R_drewN | apply Kd.R_drew)); exact HO374.out) (Kd.R_base ho0) hb)); (replace HO377 := Za.mk (Kd.R_elder' (by (with_reducible repeat (first | apply Kd.R_alloc | apply Kd.R_drewN | apply Kd.R_drew)); exact HO377.out) (Kd.R_base ho0) hb)); (replace HO380 := Za.mk (Kd.R_elder' (by (with_reducible repeat (first | apply Kd.R_alloc | apply Kd.R_drewN | apply Kd.R_drew)); exact HO380.out) (Kd.R_base ho0) hb)); (replace BK370 := Za.mk (Zp (g := gb370) (by (with_reducible repeat (first | apply zb3 | apply zb2 | apply zb1)); exact BK370.out) hb)); (replace HB := Za.mk (Zr (by repeat (first | (with_reducible first | exact HB.out | apply zc1 | apply zc2 | apply zc3 | refine zc4 ?_ (by assumption)) | exact HB.out)) hb)); ((try clear hb)); ((try clear hb2)); ((try clear hk)); ((try clear hi)); ((try clear ho0)); (obtain ⟨Ao20, co20, eo20⟩ := Kd.R_slice HO377.out)
   (first | subst eo20 | (injection eo20 with f1_ f2_ f3_; have f4_ := f1_.symm; have f5_ := f3_.symm; clear f1_ f2_ f3_; subst f4_; subst f5_))
   obtain ⟨Ao21, co21, eo21⟩ := Kd.R_slice HO383.out
   (first | subst eo21 | (injection eo21 with f1_ f2_ f3_; have f4_ := f1_.symm; have f5_ := f3_.symm; clear f1_ f2_ f3_; subst f4_; subst f5_))
   refine hK.out _ _ ⟨(Zb BK370.out 0).trans rfl, (Zb BK370.out 1).trans rfl, (Zb BK370.out 2).trans rfl, (Zb BK370.out 3).trans rfl, (Zb BK370.out 4).trans rfl⟩ (fun hHeld => ?_)
   clear hK K
   refine norm_ (a' := ?_) ?_ ?_
   rotate_left
   ·show Act.put _ (some 25) _ = _
    simp only [Act.put, zp1, zp2, zp3, Zg, Zf]
    rfl
   refine one_ (i := 13) (N := some 26) #[true, true, true, true, true, true, true, true, true, true, true, true, true, true, false] rfl rfl (one_of HT_.out (by kernel_rfl)) (by decide) (fun K hK => ?_)
   refine goes_ Try.func11 (by kernel_rfl) rfl #[.slice Ao20 t375.length co20, .slice Ao21 t381.length co21] (by rfl) rfl rfl (by (try simp only [List.map_toArray, List.map_cons, List.map_nil]); first | done | rfl | (simp only [List.length_drop, List.length_take]; rfl)) ?_
   with_reducible refine (Zk1.calls k1 _ _ t375 _ _ t381 true _ ?side1 ?side2 ?side3 ?side4 A11.out).mono ?_
   (case side1 => repeat (first | exact (Kd.R_reads' HO377.out).2.2 | (with_reducible refine Kd.C_alloc ?_ _) | (with_reducible refine Kd.C_drewN ?_ _) | (with_reducible refine Kd.C_drew ?_)))
   (case side2 => exact (Kd.R_reads' HO377.out).2.1)
   (case side3 => repeat (first | exact (Kd.R_reads' HO383.out).2.2 | (with_reducible refine Kd.C_alloc ?_ _) | (with_reducible refine Kd.C_drewN ?_ _) | (with_reducible refine Kd.C_drew ?_)))
   (case side4 => exact (Kd.R_reads' HO383.out).2.1)
   rintro e w' ⟨rfl, ⟨nd, rfl⟩⟩
   refine ⟨_, rfl, ?_⟩
   refine hK.out _ _ ⟨(Zb BK370.out 0).trans rfl, (Zb BK370.out 1).trans rfl, (Zb BK370.out 2).trans rfl, (Zb BK370.out 3).trans rfl, (Zb BK370.out 4).trans rfl⟩ (fun hHeld => ?_)
   clear hK K
   refine norm_ (a' := ?_) ?_ ?_
   rotate_left
   ·show Act.put _ (some 26) _ = _
    simp only [Act.put, zp1, zp2, zp3, Zg, Zf]
    rfl
   refine pure_ (i := 14) (N := some 27) (v := ?_) (a' := ?_) #[true, true, true, true, true, true, true, true, true, true, true, true, true, true, true] rfl rfl (Zm HT_.out (by kernel_rfl)) (fun _ _ _ h => h) (Or.inl ⟨by rfl, ?_⟩) ?_ ?_
   rotate_left;·(intro w';go_simp;with_reducible rfl)
   rotate_left;·(simp only [Act.put, zp1, zp2, zp3, Zg, Zf];rfl)
   refine done_ (done_of HT_.out (by kernel_rfl)) ?_
   try go_wp2
   go_roundg k1
   case measure => have := HK1.out; omega
   case rel => exact ⟨(wrap64 (x9_1 + 1)), (by first | rfl | (simp; done) | (simp [*]; done)), H', ⟨by have := HK1.out; omega⟩, ⟨by (with_reducible repeat (first | apply zb3 | apply zb2 | apply zb1)); exact BK370.out⟩, ⟨by repeat (first | (with_reducible first | exact HB.out | apply zc1 | apply zc2 | apply zc3 | refine zc4 ?_ (by assumption)) | exact HB.out)⟩⟩
end Go.Proofs.Ytofdaiknpficfaa.PKindsStills
