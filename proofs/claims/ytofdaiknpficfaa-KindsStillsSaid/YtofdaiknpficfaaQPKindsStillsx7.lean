-- Printed by a turn of a template of the kit.
import Derived.Test.YtofdaiknpficfaaQPKindsStillsx0
import Derived.Test.YtofdaiknpficfaaQPKindsStillsx3
import Derived.Test.YtofdaiknpficfaaQPKindsStillsx6
namespace Go.Proofs.Ytofdaiknpficfaa.PKindsStills
open Go.RowKit Go.Proofs.YtofdaiknpficfaaW.PrintWords Go.Proofs.YtofdaiknpficfaaW.PrintLast Go.Proofs.YtofdaiknpficfaaW.PrintMore
attribute [local go_sem] max2_int min2_int max_two min_two max_three min_three max_four min_four
set_option linter.unusedVariables false
set_option linter.unusedSimpArgs false
mutual
def Zt.l0 : Nat → Int → List (List Int) → List (List Int) → Int → Int → Int → List (List Int) → Int → Int → Option ((List (List Int)))
  | 0, _, _, _, _, _, _, _, _, _ => none
  | k + 1, x1, x5, x6, x7, x176000, x176001, x176002, x176003, x176004 => if x7 < (x5.length : Int) then (Zt.j1 k x1 x5 x6 x7 (decide ((x5.length : Int) ≤ x1)) x176000 x176001 x176002 x176003 x176004) else (Zt.j1 k x1 x5 x6 x7 false x176000 x176001 x176002 x176003 x176004)
def Zt.j1 : Nat → Int → List (List Int) → List (List Int) → Int → Bool → Int → Int → List (List Int) → Int → Int → Option ((List (List Int)))
  | 0, _, _, _, _, _, _, _, _, _, _ => none
  | k + 1, x1, x5, x6, x7, x27, x176000, x176001, x176002, x176003, x176004 => if x27 = true then (Zt.l1 k x1 x5 x6 x7 0 x176000 x176001 x176002 x176003 x176004) else (some x5)
def Zt.l1 : Nat → Int → List (List Int) → List (List Int) → Int → Int → Int → Int → List (List Int) → Int → Int → Option ((List (List Int)))
  | 0, _, _, _, _, _, _, _, _, _, _ => none
  | k + 1, x1, x5, x6, x7, x8, x176000, x176001, x176002, x176003, x176004 => if x8 < x176001 then ((some (([] : List Int) : List Int)).bind fun y185 => (if 0 ≤ x7 then (if x7 < (x5.length : Int) then (if y185.length + (Ze x5 x7).length < 17592186044416 then ((some (y185 ++ (Ze x5 x7) : List Int)).bind fun y189 => (if y189.length < 17592186044416 then ((some (y189 ++ [x8] : List Int)).bind fun y192 => ((Zq.f k x176000 x176001 x176002 x176003 x176004 y192).bind fun t195 => (Zt.l2 k x1 x5 x6 x7 x8 y192 t195 true (x6.length : Int) 0 x176000 x176001 x176002 x176003 x176004))) else (none))) else (none)) else (none)) else (none))) else (Zt.l0 k x1 x5 x6 (wrap64 (x7 + 1)) x176000 x176001 x176002 x176003 x176004)
def Zt.l2 : Nat → Int → List (List Int) → List (List Int) → Int → Int → List Int → List Int → Bool → Int → Int → Int → Int → List (List Int) → Int → Int → Option ((List (List Int)))
  | 0, _, _, _, _, _, _, _, _, _, _, _, _, _, _, _ => none
  | k + 1, x1, x5, x6, x7, x8, x9, x10, x11, x49, x50, x176000, x176001, x176002, x176003, x176004 => if x50 < x49 then (if 0 ≤ x50 then (if x50 < (x6.length : Int) then (if x11 = true then ((Zk1.f k (Ze x6 x50) x10).bind fun t199 => (Zt.l2 k x1 x5 x6 x7 x8 x9 x10 (!t199) x49 (wrap64 (x50 + 1)) x176000 x176001 x176002 x176003 x176004)) else (Zt.l2 k x1 x5 x6 x7 x8 x9 x10 false x49 (wrap64 (x50 + 1)) x176000 x176001 x176002 x176003 x176004)) else (none)) else (none)) else (if x11 = true then (if x5.length < 5864062014805 then (if x6.length < 5864062014805 then (Zt.l1 k x1 (x5 ++ [x9]) (x6 ++ [x10]) x7 (wrap64 (x8 + 1)) x176000 x176001 x176002 x176003 x176004) else (none)) else (none)) else (Zt.l1 k x1 x5 x6 x7 (wrap64 (x8 + 1)) x176000 x176001 x176002 x176003 x176004))
end
def Zt.f (k : Nat) (a0_0 : Int) (a0_1 : Int) (l0_2 : List (List Int)) (a0_3 : Int) (a0_4 : Int) (a1 : Int) : Option ((List (List Int))) := (Zq.f k a0_0 a0_1 l0_2 a0_3 a0_4 ([] : List Int)).bind fun t179 => (Zt.l0 k a1 (([[]] : List (List Int))) (([t179] : List (List Int))) 0 a0_0 a0_1 l0_2 a0_3 a0_4)
theorem Zt.mono_l : ∀ k, (∀ y0 y1 y2 y3 y4 y5 y6 y7 y8, LeO (Zt.l0 k y0 y1 y2 y3 y4 y5 y6 y7 y8) (Zt.l0 (k + 1) y0 y1 y2 y3 y4 y5 y6 y7 y8)) ∧ (∀ y0 y1 y2 y3 y4 y5 y6 y7 y8 y9, LeO (Zt.j1 k y0 y1 y2 y3 y4 y5 y6 y7 y8 y9) (Zt.j1 (k + 1) y0 y1 y2 y3 y4 y5 y6 y7 y8 y9)) ∧ (∀ y0 y1 y2 y3 y4 y5 y6 y7 y8 y9, LeO (Zt.l1 k y0 y1 y2 y3 y4 y5 y6 y7 y8 y9) (Zt.l1 (k + 1) y0 y1 y2 y3 y4 y5 y6 y7 y8 y9)) ∧ (∀ y0 y1 y2 y3 y4 y5 y6 y7 y8 y9 y10 y11 y12 y13 y14, LeO (Zt.l2 k y0 y1 y2 y3 y4 y5 y6 y7 y8 y9 y10 y11 y12 y13 y14) (Zt.l2 (k + 1) y0 y1 y2 y3 y4 y5 y6 y7 y8 y9 y10 y11 y12 y13 y14))
  | 0 => ⟨fun _ _ _ _ _ _ _ _ _ r h => by simp [Zt.l0] at h, fun _ _ _ _ _ _ _ _ _ _ r h => by simp [Zt.j1] at h, fun _ _ _ _ _ _ _ _ _ _ r h => by simp [Zt.l1] at h, fun _ _ _ _ _ _ _ _ _ _ _ _ _ _ _ r h => by simp [Zt.l2] at h⟩
  | k + 1 => by
    obtain ⟨ih0, ih1, ih2, ih3⟩ := Zt.mono_l k
    refine ⟨?_, ?_, ?_, ?_⟩
    · intro y0 y1 y2 y3 y4 y5 y6 y7 y8
      unfold Zt.l0
      repeat' first | (with_reducible exact ih0 _ _ _ _ _ _ _ _ _) | (with_reducible exact ih1 _ _ _ _ _ _ _ _ _ _) | (with_reducible exact ih2 _ _ _ _ _ _ _ _ _ _) | (with_reducible exact ih3 _ _ _ _ _ _ _ _ _ _ _ _ _ _ _) | (with_reducible exact Zq.mono _ _ _ _ _ _ _) | (with_reducible exact Zk1.mono _ _ _) | (with_reducible exact LeO.refl _) | (with_reducible exact LeO.none _) | (with_reducible refine LeO.ite ?_ ?_) | (with_reducible refine LeO.bind ?_ (fun _ => ?_))
    · intro y0 y1 y2 y3 y4 y5 y6 y7 y8 y9
      unfold Zt.j1
      repeat' first | (with_reducible exact ih0 _ _ _ _ _ _ _ _ _) | (with_reducible exact ih1 _ _ _ _ _ _ _ _ _ _) | (with_reducible exact ih2 _ _ _ _ _ _ _ _ _ _) | (with_reducible exact ih3 _ _ _ _ _ _ _ _ _ _ _ _ _ _ _) | (with_reducible exact Zq.mono _ _ _ _ _ _ _) | (with_reducible exact Zk1.mono _ _ _) | (with_reducible exact LeO.refl _) | (with_reducible exact LeO.none _) | (with_reducible refine LeO.ite ?_ ?_) | (with_reducible refine LeO.bind ?_ (fun _ => ?_))
    · intro y0 y1 y2 y3 y4 y5 y6 y7 y8 y9
      unfold Zt.l1
      repeat' first | (with_reducible exact ih0 _ _ _ _ _ _ _ _ _) | (with_reducible exact ih1 _ _ _ _ _ _ _ _ _ _) | (with_reducible exact ih2 _ _ _ _ _ _ _ _ _ _) | (with_reducible exact ih3 _ _ _ _ _ _ _ _ _ _ _ _ _ _ _) | (with_reducible exact Zq.mono _ _ _ _ _ _ _) | (with_reducible exact Zk1.mono _ _ _) | (with_reducible exact LeO.refl _) | (with_reducible exact LeO.none _) | (with_reducible refine LeO.ite ?_ ?_) | (with_reducible refine LeO.bind ?_ (fun _ => ?_))
    · intro y0 y1 y2 y3 y4 y5 y6 y7 y8 y9 y10 y11 y12 y13 y14
      unfold Zt.l2
      repeat' first | (with_reducible exact ih0 _ _ _ _ _ _ _ _ _) | (with_reducible exact ih1 _ _ _ _ _ _ _ _ _ _) | (with_reducible exact ih2 _ _ _ _ _ _ _ _ _ _) | (with_reducible exact ih3 _ _ _ _ _ _ _ _ _ _ _ _ _ _ _) | (with_reducible exact Zq.mono _ _ _ _ _ _ _) | (with_reducible exact Zk1.mono _ _ _) | (with_reducible exact LeO.refl _) | (with_reducible exact LeO.none _) | (with_reducible refine LeO.ite ?_ ?_) | (with_reducible refine LeO.bind ?_ (fun _ => ?_))
theorem Zt.mono : ∀ a0 a1 a2 a3 a4 a5 k, LeO (Zt.f k a0 a1 a2 a3 a4 a5) (Zt.f (k + 1) a0 a1 a2 a3 a4 a5) := by
  intro a0 a1 a2 a3 a4 a5 k
  obtain ⟨ih0, ih1, ih2, ih3⟩ := Zt.mono_l k
  unfold Zt.f
  repeat' first | (with_reducible exact ih0 _ _ _ _ _ _ _ _ _) | (with_reducible exact ih1 _ _ _ _ _ _ _ _ _ _) | (with_reducible exact ih2 _ _ _ _ _ _ _ _ _ _) | (with_reducible exact ih3 _ _ _ _ _ _ _ _ _ _ _ _ _ _ _) | (with_reducible exact Zq.mono _ _ _ _ _ _ _) | (with_reducible exact Zk1.mono _ _ _) | (with_reducible exact LeO.refl _) | (with_reducible exact LeO.none _) | (with_reducible refine LeO.ite ?_ ?_) | (with_reducible refine LeO.bind ?_ (fun _ => ?_))
set_option maxHeartbeats 8000000 in
set_option maxRecDepth 100000 in
theorem Zt.calls (k : Nat) (a0_0 : Int) (a0_1 : Int) (A0_2 : Option Addr) (c0_2 : Nat) (l0_2 : List (List Int)) (a0_3 : Int) (a0_4 : Int) (a1 : Int) (r : List (List Int)) (w : World) (hr0_2 : Kd.C (Kd.slice 3 (Kd.int .i64)) w A0_2 l0_2.length l0_2) (hc0_2 : l0_2.length ≤ c0_2) (h : Zt.f k a0_0 a0_1 l0_2 a0_3 a0_4 a1 = some r) :
    Calls Try.prog 8 #[.agg #[.int .i64 a0_0, .int .i64 a0_1, .slice A0_2 l0_2.length c0_2, .int .i64 a0_3, .int .u32 a0_4], .int .i64 a1] w fun e w' => ∃ v0_ : Value, e = .returned (v0_) ∧ Kd.N (Kd.slice 3 (Kd.int .i64)) 32 w' w.heap.size (fun k_ => (w.heap.size ≤ k_)) v0_ r ∧ Below w.heap.size w w' := by
 (have hu25 := Try.underlying25); (have HR0_2 := Za.mk hr0_2); (have HC0_2 := Za.mk hc0_2); (clear hr0_2 hc0_2); (have HB := Za.mk (Below.refl w.heap.size w)); (have H : ((Zq.f k a0_0 a0_1 l0_2 a0_3 a0_4 ([] : List Int)).bind fun t179 => (Zt.l0 k a1 (([[]] : List (List Int))) (([t179] : List (List Int))) 0 a0_0 a0_1 l0_2 a0_3 a0_4)) = some r := h); (clear h); (obtain ⟨y176, hy176⟩ : ∃ y_ : List (List Int), y_ = (([[]] : List (List Int))) := ⟨_, rfl⟩); (replace H : ((Zq.f k a0_0 a0_1 l0_2 a0_3 a0_4 ([] : List Int)).bind fun t179 => (Zt.l0 k a1 y176 (([t179] : List (List Int))) 0 a0_0 a0_1 l0_2 a0_3 a0_4)) = some r := by first | (rw [hy176]; with_reducible exact H) | (have H2_ := (Option.bind_some _ _).symm.trans H; rw [hy176]; with_reducible exact H2_) | (have H2_ := (Option.bind_some _ _).symm.trans H; with_reducible exact H2_) | with_reducible exact H | (rw [hy176]; exact H) | exact H); (have Ny176 := Za.mk hy176); (clear hy176); (replace H := Option.bind_eq_some_iff.mp H); (obtain ⟨t179, A30, H⟩ := H); (replace H : (Zt.l0 k a1 y176 (([t179] : List (List Int))) 0 a0_0 a0_1 l0_2 a0_3 a0_4) = some r := H); (have A3 := Za.mk A30); (clear A30); (obtain ⟨y182, hy182⟩ : ∃ y_ : List (List Int), y_ = (([t179] : List (List Int))) := ⟨_, rfl⟩); (replace H : (Zt.l0 k a1 y176 y182 0 a0_0 a0_1 l0_2 a0_3 a0_4) = some r := by first | (rw [hy182]; with_reducible exact H) | (have H2_ := (Option.bind_some _ _).symm.trans H; rw [hy182]; with_reducible exact H2_) | (have H2_ := (Option.bind_some _ _).symm.trans H; with_reducible exact H2_) | with_reducible exact H | (rw [hy182]; exact H) | exact H)
 (have Ny182 := Za.mk hy182); (clear hy182); (have H' := Za.mk H); (clear H)
 go_enter Try.func8, Try.ntmps8
 go_wp2_with (first | ((with_reducible refine Zb1 (N := 2) rfl ?_); (try (refine gate_guard (by rfl) ?_; dsimp only)); refine Zl1 ?hg (N := 2) ?hd (cs := #[.int .i64 a0_0, .int .i64 a0_1, .slice A0_2 l0_2.length c0_2, .int .i64 a0_3, .int .u32 a0_4]) (t := 25) ?hr ?_; (case hd => rfl); (case hg => rfl); (case hr => first | (go_simp; done) | (go_simp; rfl)); intro gb175 hg w4 hbox hb; have BK175 := Za.mk (hbox); have GW175 := Za.mk ((by rw [hg]; exact (Zl (by repeat (first | (with_reducible first | exact HB.out | apply zc1 | apply zc2 | apply zc3) | exact HB.out))) : w.heap.size ≤ gb175)); have GE175 := Za.mk ((by rw [hg]; exact (Zl (by repeat (first | (with_reducible first | exact HB.out | apply zc1 | apply zc2 | apply zc3) | exact HB.out))) : w.heap.size ≤ gb175)); replace HB := Za.mk (Zr (by repeat (first | (with_reducible first | exact HB.out | apply zc1 | apply zc2 | apply zc3) | exact HB.out)) hb); clear hb hbox hg) | ((with_reducible refine Zb1 (N := 14) rfl ?_); (try (refine gate_guard (by rfl) ?_; dsimp only)); refine Kd.N_lit (Kd.slice 3 (Kd.int .i64)) _ 32 ?hg (N' := 14) ?hd (xs := ([[]] : List (List Int))) (inner := [.slice none 0 0]) (ok := (fun k_ => (w.heap.size ≤ k_) ∧ k_ ≠ gb175)) (okp := (fun k_ => (w.heap.size ≤ k_) ∧ k_ ≠ gb175)) ?hr ?hp (fun _ hk => hk) ((show ∀ k_, w4.heap.size ≤ k_ → (fun k_ => (w.heap.size ≤ k_) ∧ k_ ≠ gb175) k_ from fun k_ hk => ⟨(Nat.le_trans (Zl (by repeat (first | (with_reducible first | exact HB.out | apply zc1 | apply zc2 | apply zc3 | refine zc4 ?_ (by assumption)) | exact HB.out))) hk), Kd.freshB (g := gb175) (o := .cells #[.int .i64 a0_0, .int .i64 a0_1, .slice A0_2 l0_2.length c0_2, .int .i64 a0_3, .int .u32 a0_4] 25 (0, 0)) (by (with_reducible repeat (first | apply zb3 | apply zb2 | apply zb1)); exact BK175.out) k_ hk⟩) _ (Nat.le_refl _)) (Below.refl _ _) (Nat.le_refl _) (by simp) ?_; (case hd => rfl); (case hg => rfl); (case hr => first | (go_simp; done) | (go_simp; rfl)); (case hp => exact (Reps.one (show Kd.FK (Kd.slice 3 (Kd.int .i64)) _ _ [] [.slice none 0 0] from (Kd.FK_slice_mk (Nat.le_refl _) (Kd.F_nil _ _ _))) (Reps.none _ _))); intro v177 w5 ho6 hb hg_ hnew_; clear hg_ hnew_; (first | rw [← Ny176.out] at ho6 | (simp only [Int.reduceToNat] at ho6; rw [← Ny176.out] at ho6)); have HO178 := Za.mk (Kd.N_lower ho6 (Zl (by repeat (first | (with_reducible first | exact HB.out | apply zc1 | apply zc2 | apply zc3 | refine zc4 ?_ (by assumption)) | exact HB.out)))); replace BK175 := Za.mk (Zp (g := gb175) (by (with_reducible repeat (first | apply zb3 | apply zb2 | apply zb1)); exact BK175.out) hb); replace HB := Za.mk (Zr (by repeat (first | (with_reducible first | exact HB.out | apply zc1 | apply zc2 | apply zc3 | refine zc4 ?_ (by assumption)) | exact HB.out)) hb); clear hb ho6; have hcz7_0 : w5.cell? ⟨gb175, 0, none⟩ = some (.int .i64 a0_0) := (Zb BK175.out 0).trans rfl; have hcz7_1 : w5.cell? ⟨gb175, 1, none⟩ = some (.int .i64 a0_1) := (Zb BK175.out 1).trans rfl; have hcz7_2 : w5.cell? ⟨gb175, 2, none⟩ = some (.slice A0_2 l0_2.length c0_2) := (Zb BK175.out 2).trans rfl; have hcz7_3 : w5.cell? ⟨gb175, 3, none⟩ = some (.int .i64 a0_3) := (Zb BK175.out 3).trans rfl; have hcz7_4 : w5.cell? ⟨gb175, 4, none⟩ = some (.int .u32 a0_4) := (Zb BK175.out 4).trans rfl; have hfz7_0 := Zc BK175.out 0; have hfz7_1 := Zc BK175.out 1; have hfz7_2 := Zc BK175.out 2; have hfz7_3 := Zc BK175.out 3; have hfz7_4 := Zc BK175.out 4) | ((with_reducible refine gate_callee (f := 12) rfl ?_); refine goesL_ (some 16) rfl rfl Try.func12 (by kernel_rfl) rfl #[.agg #[.int .i64 a0_0, .int .i64 a0_1, .slice A0_2 l0_2.length c0_2, .int .i64 a0_3, .int .u32 a0_4], .slice none 0 0] rfl (by (try simp only [List.map_toArray, List.map_cons, List.map_nil]); first | done | rfl | (simp only [List.length_drop, List.length_take]; rfl)) ?_; (refine (Zq.calls k a0_0 a0_1 _ _ l0_2 a0_3 a0_4 _ _ ([] : List Int) t179 _ ?side1 ?side2 ?side3 ?side4 A3.out).mono ?_); (case side1 => repeat (first | exact (Kd.C_below HR0_2.out HB.out) | (with_reducible refine Kd.C_alloc ?_ _) | (with_reducible refine Kd.C_drewN ?_ _) | (with_reducible refine Kd.C_drew ?_))); (case side2 => exact HC0_2.out); (case side3 => exact Kd.C_nil _ _); (case side4 => exact Nat.le_refl _); rintro e w8 ⟨v180, rfl, ho0, hb⟩; refine ⟨_, rfl, ?_⟩; replace HO178 := Za.mk (Kd.N_elder' (by (with_reducible repeat (first | apply zn1 | apply zn2 | apply zn3)); exact HO178.out) (Kd.R_base ho0) hb); have HO181 := Za.mk (Kd.R_lower (Kd.R_newM (M := fun k_ => (w.heap.size ≤ k_)) ho0 (Zl (by repeat (first | (with_reducible first | exact HB.out | apply zc1 | apply zc2 | apply zc3 | refine zc4 ?_ (by assumption)) | exact HB.out))) (fun k_ h_ => h_)) (Zl (by repeat (first | (with_reducible first | exact HB.out | apply zc1 | apply zc2 | apply zc3 | refine zc4 ?_ (by assumption)) | exact HB.out)))); replace BK175 := Za.mk (Zp (g := gb175) (by (with_reducible repeat (first | apply zb3 | apply zb2 | apply zb1)); exact BK175.out) hb); replace HB := Za.mk (Zr (by repeat (first | (with_reducible first | exact HB.out | apply zc1 | apply zc2 | apply zc3 | refine zc4 ?_ (by assumption)) | exact HB.out)) hb); (try clear hb); (try clear hb2); (try clear hk); (try clear hi); (try clear ho0); obtain ⟨Ao9, co9, eo9⟩ := Kd.R_slice HO181.out; subst eo9) | ((with_reducible refine Zb1 (N := 17) rfl ?_); (try (refine gate_guard (by rfl) ?_; dsimp only)); refine Kd.N_lit (Kd.slice 3 (Kd.int .i64)) _ 32 ?hg (N' := 17) ?hd (xs := ([t179] : List (List Int))) (inner := [.slice Ao9 t179.length co9]) (ok := (fun k_ => (w.heap.size ≤ k_) ∧ some k_ ≠ (v177 : Value).ownBlock ∧ k_ ≠ gb175)) (okp := (fun k_ => (w.heap.size ≤ k_) ∧ some k_ ≠ (v177 : Value).ownBlock ∧ k_ ≠ gb175)) ?hr ?hp (fun _ hk => hk) ((show ∀ k_, w8.heap.size ≤ k_ → (fun k_ => (w.heap.size ≤ k_) ∧ some k_ ≠ (v177 : Value).ownBlock ∧ k_ ≠ gb175) k_ from fun k_ hk => ⟨(Nat.le_trans (Zl (by repeat (first | (with_reducible first | exact HB.out | apply zc1 | apply zc2 | apply zc3 | refine zc4 ?_ (by assumption)) | exact HB.out))) hk), Kd.fresh' (Kd.N_lt (by (with_reducible repeat (first | apply zn1 | apply zn2 | apply zn3)); exact HO178.out)) k_ hk, Kd.freshB (g := gb175) (o := .cells #[.int .i64 a0_0, .int .i64 a0_1, .slice A0_2 l0_2.length c0_2, .int .i64 a0_3, .int .u32 a0_4] 25 (0, 0)) (by (with_reducible repeat (first | apply zb3 | apply zb2 | apply zb1)); exact BK175.out) k_ hk⟩) _ (Nat.le_refl _)) (Below.refl _ _) (Nat.le_refl _) (by simp) ?_; (case hd => rfl); (case hg => rfl); (case hr => first | (go_simp; done) | (go_simp; rfl)); (case hp => exact (Reps.one (show Kd.FK (Kd.slice 3 (Kd.int .i64)) _ _ t179 [.slice Ao9 t179.length co9] from (Kd.FK_slice_mk (Kd.R_reads' (Kd.R_mono (ok' := (fun k_ => (w.heap.size ≤ k_) ∧ some k_ ≠ (v177 : Value).ownBlock ∧ k_ ≠ gb175)) (Kd.R_types (Kd.R_apart' (HO181.out) (Kd.N_typed HO178.out) (by decide)) BK175.out (by decide)) (fun k_ hk => ⟨hk.1.1.1, ⟨hk.1.2, hk.2⟩⟩))).2.1 (Kd.R_F (Kd.R_mono (ok' := (fun k_ => (w.heap.size ≤ k_) ∧ some k_ ≠ (v177 : Value).ownBlock ∧ k_ ≠ gb175)) (Kd.R_types (Kd.R_apart' (HO181.out) (Kd.N_typed HO178.out) (by decide)) BK175.out (by decide)) (fun k_ hk => ⟨hk.1.1.1, ⟨hk.1.2, hk.2⟩⟩))))) (Reps.none _ _))); intro v183 w10 ho11 hb hg_ hnew_; clear hg_ hnew_; (first | rw [← Ny182.out] at ho11 | (simp only [Int.reduceToNat] at ho11; rw [← Ny182.out] at ho11)); replace HO178 := Za.mk (Kd.N_elder' (by (with_reducible repeat (first | apply zn1 | apply zn2 | apply zn3)); exact HO178.out) (Kd.N_base ho11) hb); have HO184 := Za.mk (Kd.N_lower ho11 (Zl (by repeat (first | (with_reducible first | exact HB.out | apply zc1 | apply zc2 | apply zc3 | refine zc4 ?_ (by assumption)) | exact HB.out)))); replace BK175 := Za.mk (Zp (g := gb175) (by (with_reducible repeat (first | apply zb3 | apply zb2 | apply zb1)); exact BK175.out) hb); replace HB := Za.mk (Zr (by repeat (first | (with_reducible first | exact HB.out | apply zc1 | apply zc2 | apply zc3 | refine zc4 ?_ (by assumption)) | exact HB.out)) hb); clear HO181; clear hb ho11))
 go_loopg [5, 6, 7] k (fun kq v5 v6 v7 w' => ∃ (x5_1 : List (List Int)) (x6_1 : List (List Int)) (x7_1 : Int), v7 = .int .i64 x7_1 ∧ Za (Zt.l0 kq a1 x5_1 x6_1 x7_1 a0_0 a0_1 l0_2 a0_3 a0_4 = some r) ∧ Za (kq ≤ k) ∧ Za (Kd.N (Kd.slice 3 (Kd.int .i64)) 32 w' w.heap.size (fun k_ => (w.heap.size ≤ k_) ∧ some k_ ≠ (v6 : Value).ownBlock ∧ k_ ≠ gb175) v5 x5_1) ∧ Za (Kd.N (Kd.slice 3 (Kd.int .i64)) 32 w' w.heap.size (fun k_ => (w.heap.size ≤ k_) ∧ some k_ ≠ (v5 : Value).ownBlock ∧ k_ ≠ gb175) v6 x6_1) ∧ Za (w'.heap[gb175]? = some (.cells #[.int .i64 a0_0, .int .i64 a0_1, (.slice A0_2 l0_2.length c0_2), .int .i64 a0_3, .int .u32 a0_4] 25 (0, 0))) ∧ Za (Below w.heap.size w w'))
 case atStart => exact ⟨(y176), (y182), (0), (by first | rfl | (simp; done) | (simp [*]; done)), H', ⟨Nat.le_refl _⟩, ⟨by (with_reducible repeat (first | apply Kd.N_alloc | apply Kd.N_drewN | apply Kd.N_drew)); exact Kd.N_mono HO178.out (fun _ hk => ⟨hk.1.1.1, ⟨hk.2, hk.1.1.2⟩⟩)⟩, ⟨by (with_reducible repeat (first | apply Kd.N_alloc | apply Kd.N_drewN | apply Kd.N_drew)); exact HO184.out⟩, ⟨by (with_reducible repeat (first | apply zb3 | apply zb2 | apply zb1)); exact BK175.out⟩, ⟨by repeat (first | (with_reducible first | exact HB.out | apply zc1 | apply zc2 | apply zc3 | refine zc4 ?_ (by assumption)) | exact HB.out)⟩⟩
 case round =>
  (clear H'); (try clear c1); (try clear p2); (try clear c8); (try clear hcz7_0 hcz7_1 hcz7_2 hcz7_3 hcz7_4 hfz7_0 hfz7_1 hfz7_2 hfz7_3 hfz7_4); (obtain ⟨x5_1, x6_1, x7_1, rfl, HA, HK1, HO_5, HO_6, BK175, HB⟩ := hrel)
  cases gk with
  | zero => exact absurd HA.out (by simp [Zt.l0])
  | succ k1 =>
   (have H := HA.out); (clear HA); (simp only [Zt.l0] at H); (have HC12 := Za.mk H); (clear H)
   go_upto_region 4 with (fail)
   go_cut [27] (fun v27 wc => ∃ (kq : Nat) (x27_11 : Bool), v27 = .bool x27_11 ∧ Za (Zt.j1 kq a1 x5_1 x6_1 x7_1 x27_11 a0_0 a0_1 l0_2 a0_3 a0_4 = some r) ∧ Za (kq ≤ k1) ∧ Za (Kd.N (Kd.slice 3 (Kd.int .i64)) 32 wc w.heap.size (fun k_ => (w.heap.size ≤ k_) ∧ some k_ ≠ (u6 : Value).ownBlock ∧ k_ ≠ gb175) u5 x5_1) ∧ Za (Kd.N (Kd.slice 3 (Kd.int .i64)) 32 wc w.heap.size (fun k_ => (w.heap.size ≤ k_) ∧ some k_ ≠ (u5 : Value).ownBlock ∧ k_ ≠ gb175) u6 x6_1) ∧ Za (wc.heap[gb175]? = some (.cells #[.int .i64 a0_0, .int .i64 a0_1, (.slice A0_2 l0_2.length c0_2), .int .i64 a0_3, .int .u32 a0_4] 25 (0, 0))) ∧ Za (Below w.heap.size w wc))
   case first =>
    (have H := HC12.out); (clear HC12)
    by_cases c13 : x7_1 < (x5_1.length : Int)
    ·rw [if_pos c13] at H
     (have c13b0 : decide (x7_1 < (x5_1.length : Int)) = true := decide_eq_true c13); (clear c13)
     (first | rw [c13b0] | (simp only [Zg, Zf]; rw [c13b0]) | skip)
     (have H' := Za.mk H); (clear H); (obtain ⟨Ao14, co14, eo14⟩ := Kd.N_slice HO_5.out); (subst eo14)
     go_wp2
     go_meet
     case rel => exact ⟨_, (decide ((x5_1.length : Int) ≤ a1)), (by first | rfl | (simp; done) | (simp [*]; done)), H', ⟨by have := HK1.out; first | omega | exact Nat.le_refl _⟩, ⟨by (with_reducible repeat (first | apply Kd.N_alloc | apply Kd.N_drewN | apply Kd.N_drew)); exact HO_5.out⟩, ⟨by (with_reducible repeat (first | apply Kd.N_alloc | apply Kd.N_drewN | apply Kd.N_drew)); exact HO_6.out⟩, ⟨by (with_reducible repeat (first | apply zb3 | apply zb2 | apply zb1)); exact BK175.out⟩, ⟨by repeat (first | (with_reducible first | exact HB.out | apply zc1 | apply zc2 | apply zc3 | refine zc4 ?_ (by assumption)) | exact HB.out)⟩⟩
    (rw [if_neg c13] at H); (have c13b0 : decide (x7_1 < (x5_1.length : Int)) = false := decide_eq_false c13); (clear c13)
    (first | rw [c13b0] | (simp only [Zg, Zf]; rw [c13b0]) | skip)
    (have H' := Za.mk H); (clear H); (obtain ⟨Ao15, co15, eo15⟩ := Kd.N_slice HO_5.out); (subst eo15)
    go_wp2
    go_meet
    case rel => exact ⟨_, (false), (by first | rfl | (simp; done) | (simp [*]; done)), H', ⟨by have := HK1.out; first | omega | exact Nat.le_refl _⟩, ⟨by (with_reducible repeat (first | apply Kd.N_alloc | apply Kd.N_drewN | apply Kd.N_drew)); exact HO_5.out⟩, ⟨by (with_reducible repeat (first | apply Kd.N_alloc | apply Kd.N_drewN | apply Kd.N_drew)); exact HO_6.out⟩, ⟨by (with_reducible repeat (first | apply zb3 | apply zb2 | apply zb1)); exact BK175.out⟩, ⟨by repeat (first | (with_reducible first | exact HB.out | apply zc1 | apply zc2 | apply zc3 | refine zc4 ?_ (by assumption)) | exact HB.out)⟩⟩
   case rest =>
    (clear HC12); (try clear c1); (try clear p2); (try clear c8); (try clear c12); (try clear c13); (try clear c13b0); (try clear hcz7_0 hcz7_1 hcz7_2 hcz7_3 hcz7_4 hfz7_0 hfz7_1 hfz7_2 hfz7_3 hfz7_4); (try clear p2); (obtain ⟨kq, x27_11, rfl, HA, HJ11, HO_5, HO_6, BK175, HB⟩ := hcut)
    cases kq with
    | zero => exact absurd HA.out (by simp [Zt.j1])
    | succ kj11 =>
     (have H := HA.out); (clear HA); (simp only [Zt.j1] at H)
     by_cases c16 : x27_11 = true
     rotate_left
     ·replace c16 := Bool.eq_false_iff.mpr c16
      (subst c16); (have H1 : (some x5_1) = some r := by rw [if_neg (show ¬ (false = true) by decide)] at H; exact H); (clear H); (have H := H1); (clear H1); (obtain rfl := Option.some.inj H)
      go_wp2
      go_ret
      exact ⟨_, by first | rfl | (simp [Zw, Zx] <;> rfl) | (simp [*, Zw, Zx] <;> rfl), by (with_reducible repeat (first | apply Kd.N_alloc | apply Kd.N_drewN | apply Kd.N_drew)); exact Kd.N_mono HO_5.out (fun _ hk => hk.1), by repeat (first | (with_reducible first | exact HB.out | apply zc1 | apply zc2 | apply zc3 | refine zc4 ?_ (by assumption)) | exact HB.out)⟩
     (subst c16); (have H1 : (Zt.l1 kj11 a1 x5_1 x6_1 x7_1 0 a0_0 a0_1 l0_2 a0_3 a0_4) = some r := by rw [if_pos rfl] at H; exact H); (clear H); (have H := H1); (clear H1); (have H' := Za.mk H); (clear H)
     go_wp2
     go_loopg [5, 6, 8] kj11 (fun kq v5 v6 v8 w' => ∃ (x5_3 : List (List Int)) (x6_3 : List (List Int)) (x8_3 : Int), v8 = .int .i64 x8_3 ∧ Za (Zt.l1 kq a1 x5_3 x6_3 x7_1 x8_3 a0_0 a0_1 l0_2 a0_3 a0_4 = some r) ∧ Za (kq ≤ kj11) ∧ Za (Kd.N (Kd.slice 3 (Kd.int .i64)) 32 w' w.heap.size (fun k_ => (w.heap.size ≤ k_) ∧ some k_ ≠ (v6 : Value).ownBlock ∧ k_ ≠ gb175) v5 x5_3) ∧ Za (Kd.N (Kd.slice 3 (Kd.int .i64)) 32 w' w.heap.size (fun k_ => (w.heap.size ≤ k_) ∧ some k_ ≠ (v5 : Value).ownBlock ∧ k_ ≠ gb175) v6 x6_3) ∧ Za (w'.heap[gb175]? = some (.cells #[.int .i64 a0_0, .int .i64 a0_1, (.slice A0_2 l0_2.length c0_2), .int .i64 a0_3, .int .u32 a0_4] 25 (0, 0))) ∧ Za (Below w.heap.size w w'))
     case atStart => exact ⟨(x5_1), (x6_1), (0), (by first | rfl | (simp; done) | (simp [*]; done)), H', ⟨Nat.le_refl _⟩, ⟨by (with_reducible repeat (first | apply Kd.N_alloc | apply Kd.N_drewN | apply Kd.N_drew)); exact HO_5.out⟩, ⟨by (with_reducible repeat (first | apply Kd.N_alloc | apply Kd.N_drewN | apply Kd.N_drew)); exact HO_6.out⟩, ⟨by (with_reducible repeat (first | apply zb3 | apply zb2 | apply zb1)); exact BK175.out⟩, ⟨by repeat (first | (with_reducible first | exact HB.out | apply zc1 | apply zc2 | apply zc3 | refine zc4 ?_ (by assumption)) | exact HB.out)⟩⟩
     case round =>
      (clear H'); (try clear c1); (try clear p2); (try clear c8); (try clear c12); (try clear c13); (try clear c13b0); (try clear c16); (try clear hcz7_0 hcz7_1 hcz7_2 hcz7_3 hcz7_4 hfz7_0 hfz7_1 hfz7_2 hfz7_3 hfz7_4); (try clear p2); (obtain ⟨x5_3, x6_3, x8_3, rfl, HA, HK3, HO_5, HO_6, BK175, HB⟩ := hrel)
      cases gk with
      | zero => exact absurd HA.out (by simp [Zt.l1])
      | succ k3 =>
       (have H := HA.out); (clear HA); (simp only [Zt.l1] at H)
       by_cases c17 : x8_3 < a0_1
       rotate_left
       ·rw [if_neg c17] at H
        (have c17b0 : decide (x8_3 < a0_1) = false := decide_eq_false c17); (clear c17); (have H' := Za.mk H); (clear H); (have hcz45_0 : wr.cell? ⟨gb175, 0, none⟩ = some (.int .i64 a0_0) := (Zb BK175.out 0).trans rfl); (have hcz45_1 : wr.cell? ⟨gb175, 1, none⟩ = some (.int .i64 a0_1) := (Zb BK175.out 1).trans rfl); (have hcz45_2 : wr.cell? ⟨gb175, 2, none⟩ = some (.slice A0_2 l0_2.length c0_2) := (Zb BK175.out 2).trans rfl); (have hcz45_3 : wr.cell? ⟨gb175, 3, none⟩ = some (.int .i64 a0_3) := (Zb BK175.out 3).trans rfl); (have hcz45_4 : wr.cell? ⟨gb175, 4, none⟩ = some (.int .u32 a0_4) := (Zb BK175.out 4).trans rfl); (have hfz45_0 := Zc BK175.out 0); (have hfz45_1 := Zc BK175.out 1); (have hfz45_2 := Zc BK175.out 2); (have hfz45_3 := Zc BK175.out 3); (have hfz45_4 := Zc BK175.out 4)
        go_wp2
        go_roundg k3
        case measure => have := HK1.out; have := HJ11.out; have := HK3.out; omega
        case rel => exact ⟨(x5_3), (x6_3), (wrap64 (x7_1 + 1)), (by first | rfl | (simp; done) | (simp [*]; done)), H', ⟨by have := HK1.out; have := HJ11.out; have := HK3.out; omega⟩, ⟨by (with_reducible repeat (first | apply Kd.N_alloc | apply Kd.N_drewN | apply Kd.N_drew)); exact HO_5.out⟩, ⟨by (with_reducible repeat (first | apply Kd.N_alloc | apply Kd.N_drewN | apply Kd.N_drew)); exact HO_6.out⟩, ⟨by (with_reducible repeat (first | apply zb3 | apply zb2 | apply zb1)); exact BK175.out⟩, ⟨by repeat (first | (with_reducible first | exact HB.out | apply zc1 | apply zc2 | apply zc3 | refine zc4 ?_ (by assumption)) | exact HB.out)⟩⟩
       (rw [if_pos c17] at H); (have c17b0 : decide (x8_3 < a0_1) = true := decide_eq_true c17); (clear c17); (obtain ⟨y185, hy185⟩ : ∃ y_ : List Int, y_ = (([] : List Int)) := ⟨_, rfl⟩); (replace H : (if 0 ≤ x7_1 then (if x7_1 < (x5_3.length : Int) then (if y185.length + (Ze x5_3 x7_1).length < 17592186044416 then ((some (y185 ++ (Ze x5_3 x7_1) : List Int)).bind fun y189 => (if y189.length < 17592186044416 then ((some (y189 ++ [x8_3] : List Int)).bind fun y192 => ((Zq.f k3 a0_0 a0_1 l0_2 a0_3 a0_4 y192).bind fun t195 => (Zt.l2 k3 a1 x5_3 x6_3 x7_1 x8_3 y192 t195 true (x6_3.length : Int) 0 a0_0 a0_1 l0_2 a0_3 a0_4))) else (none))) else (none)) else (none)) else (none)) = some r := by first | (rw [hy185]; with_reducible exact H) | (have H2_ := (Option.bind_some _ _).symm.trans H; rw [hy185]; with_reducible exact H2_) | (have H2_ := (Option.bind_some _ _).symm.trans H; with_reducible exact H2_) | with_reducible exact H | (rw [hy185]; exact H) | exact H); (have Ny185 := Za.mk hy185); (clear hy185)
       by_cases c18 : 0 ≤ x7_1
       rotate_left
       ·rw [if_neg c18] at H
        exact absurd H (by simp)
       (rw [if_pos c18] at H); (have c18b0 : decide (0 ≤ x7_1) = true := decide_eq_true c18); (clear c18)
       by_cases c19 : x7_1 < (x5_3.length : Int)
       rotate_left
       ·rw [if_neg c19] at H
        exact absurd H (by simp)
       (rw [if_pos c19] at H); (have c19b0 : decide (x7_1 < (x5_3.length : Int)) = true := decide_eq_true c19); (clear c19)
       by_cases c20 : y185.length + (Ze x5_3 x7_1).length < 17592186044416
       rotate_left
       ·rw [if_neg c20] at H
        exact absurd H (by simp)
       (rw [if_pos c20] at H); (have LMc20 := Za.mk c20); (clear c20); (obtain ⟨y189, hy189⟩ : ∃ y_ : List Int, y_ = (y185 ++ (Ze x5_3 x7_1)) := ⟨_, rfl⟩); (replace H : (if y189.length < 17592186044416 then ((some (y189 ++ [x8_3] : List Int)).bind fun y192 => ((Zq.f k3 a0_0 a0_1 l0_2 a0_3 a0_4 y192).bind fun t195 => (Zt.l2 k3 a1 x5_3 x6_3 x7_1 x8_3 y192 t195 true (x6_3.length : Int) 0 a0_0 a0_1 l0_2 a0_3 a0_4))) else (none)) = some r := by first | (rw [hy189]; with_reducible exact H) | (have H2_ := (Option.bind_some _ _).symm.trans H; rw [hy189]; with_reducible exact H2_) | (have H2_ := (Option.bind_some _ _).symm.trans H; with_reducible exact H2_) | with_reducible exact H | (rw [hy189]; exact H) | exact H); (have Ny189 := Za.mk hy189); (clear hy189)
       by_cases c21 : y189.length < 17592186044416
       rotate_left
       ·rw [if_neg c21] at H
        exact absurd H (by simp)
       (rw [if_pos c21] at H); (have LMc21 := Za.mk c21); (clear c21); (obtain ⟨y192, hy192⟩ : ∃ y_ : List Int, y_ = (y189 ++ [x8_3]) := ⟨_, rfl⟩); (replace H : ((Zq.f k3 a0_0 a0_1 l0_2 a0_3 a0_4 y192).bind fun t195 => (Zt.l2 k3 a1 x5_3 x6_3 x7_1 x8_3 y192 t195 true (x6_3.length : Int) 0 a0_0 a0_1 l0_2 a0_3 a0_4)) = some r := by first | (rw [hy192]; with_reducible exact H) | (have H2_ := (Option.bind_some _ _).symm.trans H; rw [hy192]; with_reducible exact H2_) | (have H2_ := (Option.bind_some _ _).symm.trans H; with_reducible exact H2_) | with_reducible exact H | (rw [hy192]; exact H) | exact H); (have Ny192 := Za.mk hy192); (clear hy192); (replace H := Option.bind_eq_some_iff.mp H); (obtain ⟨t195, A220, H⟩ := H); (replace H : (Zt.l2 k3 a1 x5_3 x6_3 x7_1 x8_3 y192 t195 true (x6_3.length : Int) 0 a0_0 a0_1 l0_2 a0_3 a0_4) = some r := H); (have A22 := Za.mk A220); (clear A220); (have H' := Za.mk H); (clear H); (have hcz23_0 : wr.cell? ⟨gb175, 0, none⟩ = some (.int .i64 a0_0) := (Zb BK175.out 0).trans rfl); (have hcz23_1 : wr.cell? ⟨gb175, 1, none⟩ = some (.int .i64 a0_1) := (Zb BK175.out 1).trans rfl); (have hcz23_2 : wr.cell? ⟨gb175, 2, none⟩ = some (.slice A0_2 l0_2.length c0_2) := (Zb BK175.out 2).trans rfl); (have hcz23_3 : wr.cell? ⟨gb175, 3, none⟩ = some (.int .i64 a0_3) := (Zb BK175.out 3).trans rfl); (have hcz23_4 : wr.cell? ⟨gb175, 4, none⟩ = some (.int .u32 a0_4) := (Zb BK175.out 4).trans rfl); (have hfz23_0 := Zc BK175.out 0); (have hfz23_1 := Zc BK175.out 1)
       (have hfz23_2 := Zc BK175.out 2); (have hfz23_3 := Zc BK175.out 3); (have hfz23_4 := Zc BK175.out 4)
       go_wp2_with (first | ((with_reducible refine Zb1 (N := 36) rfl ?_); (try (refine gate_guard (by rfl) ?_; dsimp only)); refine Kd.R_lit (Kd.int .i64) _ 3 ?hg (N := 36) ?hd (xs := ([] : List Int)) (inner := []) (ok := fun _ => True) (okp := fun _ => True) ?hr ?hp (fun _ hk => hk) trivial (Below.refl _ _) (Nat.le_refl _) (by simp) ?_; (case hd => rfl); (case hg => rfl); (case hr => first | (go_simp; done) | (go_simp; rfl)); (case hp => exact (Reps.none _ _)); intro v186 w24 ho25 hb hg_ hnew_; clear hg_ hnew_; (first | rw [← Ny185.out] at ho25 | (simp only [Int.reduceToNat] at ho25; rw [← Ny185.out] at ho25)); replace HO_5 := Za.mk (Kd.N_elder' (by (with_reducible repeat (first | apply zn1 | apply zn2 | apply zn3)); exact HO_5.out) (Kd.R_base ho25) hb); replace HO_6 := Za.mk (Kd.N_elder' (by (with_reducible repeat (first | apply zn1 | apply zn2 | apply zn3)); exact HO_6.out) (Kd.R_base ho25) hb); have HO187 := Za.mk (Kd.R_lower (Kd.R_newM (M := fun k_ => (w.heap.size ≤ k_)) ho25 (Zl (by repeat (first | (with_reducible first | exact HB.out | apply zc1 | apply zc2 | apply zc3 | refine zc4 ?_ (by assumption)) | exact HB.out))) (fun k_ h_ => h_)) (Zl (by repeat (first | (with_reducible first | exact HB.out | apply zc1 | apply zc2 | apply zc3 | refine zc4 ?_ (by assumption)) | exact HB.out)))); replace BK175 := Za.mk (Zp (g := gb175) (by (with_reducible repeat (first | apply zb3 | apply zb2 | apply zb1)); exact BK175.out) hb); replace HB := Za.mk (Zr (by repeat (first | (with_reducible first | exact HB.out | apply zc1 | apply zc2 | apply zc3 | refine zc4 ?_ (by assumption)) | exact HB.out)) hb); clear hb ho25; obtain ⟨Ao26, co26, eo26⟩ := Kd.N_slice HO_5.out; subst eo26; have p188 : 0 ≤ (x7_1 : Int) := of_decide_eq_true (by assumption); have q188 : x7_1 < (x5_3.length : Int) := of_decide_eq_true (by assumption); obtain ⟨ad188, A188_0, c188_0, e188, hx188_0, hl188_0, hi188_0⟩ := at_L1 (Kd.N_reads' HO_5.out).2.2 x7_1 p188 q188; cases e188; obtain ⟨ce188, hce188, hMe188, hcc188⟩ := Kd.N_get HO_5.out [] x7_1 p188 (by first | exact q188 | exact of_decide_eq_true (by assumption) | (have e_ := (Kd.N_reads' HO_5.out).1; omega)); obtain ⟨ua188_0, uc188_0, rfl, ul188_0, ge188_0⟩ := Kd.FK_slice_open hMe188; have hv188_0 := hcc188 0 _ rfl; rw [Nat.add_zero, show ((Kd.slice 3 (Kd.int .i64))).sz = 1 from rfl, Nat.mul_one] at hv188_0; replace hv188_0 := Option.some.inj (hv188_0.symm.trans hx188_0); injection hv188_0 with hva_ hvn_ hvc_; rw [hva_] at ge188_0; rw [hvc_] at ul188_0; have HL188_0 := Za.mk (show Kd.V (Kd.int .i64) 3 _ w.heap.size _ _ (Ze x5_3 x7_1) from Kd.V_mk ul188_0 ge188_0); clear hva_ hvn_ hvc_ ge188_0 ul188_0; clear hcc188 hce188; have HR188_0 := Za.mk hi188_0; have HC188_0 := Za.mk hl188_0; clear hi188_0 hl188_0; replace p188 := eq_true p188; replace q188 := eq_true q188) | ((with_reducible refine gate_builtin (b := .append) (xs := #[.tmp 36, .tmp 40]) rfl ?_); (try (refine gate_guard (by rfl) ?_; dsimp only)); at_builtin; refine Kd.R_append_rows (Kd.int .i64) (w0 := w) w.heap.size rfl (.tmp 36) (.tmp 40) 32 3 (.int .i64 0) 8 rfl Try.underlying32 info3 rfl (by decide) (by omega) v186 y185 (Ze x5_3 x7_1) _ _ _ (fun k_ => (w.heap.size ≤ k_)) (fun _ => False) rfl rfl ?aO ?aR (fun _ _ h => h) (fun _ h => h.elim) ?aF ?aB ?aS ?aL ?_; (case aR => repeat (first | exact (by repeat (first | (with_reducible exact HR188_0.out) | (with_reducible refine Kd.C_alloc ?_ _) | (with_reducible refine Kd.C_drewN ?_ _) | (with_reducible refine Kd.C_drew ?_) | exact HR188_0.out)) | (with_reducible refine Kd.C_alloc ?_ _) | (with_reducible refine Kd.C_drewN ?_ _) | (with_reducible refine Kd.C_drew ?_))); (case aB => exact (by repeat (first | (with_reducible first | exact HB.out | apply zc1 | apply zc2 | apply zc3 | refine zc4 ?_ (by assumption)) | exact HB.out))); (case aF => exact (fun k_ hk => (Nat.le_trans (Zl (by repeat (first | (with_reducible first | exact HB.out | apply zc1 | apply zc2 | apply zc3 | refine zc4 ?_ (by assumption)) | exact HB.out))) hk))); (case aO => exact (by (with_reducible repeat (first | apply Kd.R_alloc | apply Kd.R_drewN | apply Kd.R_drew)); exact Kd.R_mono HO187.out (fun _ hk => hk.1))); (case aS => exact (Zl (by repeat (first | (with_reducible first | exact HB.out | apply zc1 | apply zc2 | apply zc3 | refine zc4 ?_ (by assumption)) | exact HB.out)))); (case aL => have := LMc20.out; omega); intro v190 w27 ho hb hg hat; rw [← Ny189.out] at ho; replace HO_5 := Za.mk (Kd.N_afterv (ok := (fun k_ => (w.heap.size ≤ k_) ∧ some k_ ≠ (u6 : Value).ownBlock ∧ k_ ≠ gb175)) (by (with_reducible repeat (first | apply zn1 | apply zn2 | apply zn3)); exact HO_5.out) hg hat); replace HO_6 := Za.mk (Kd.N_afterv (ok := (fun k_ => (w.heap.size ≤ k_) ∧ some k_ ≠ (.slice (some ad188) x5_3.length co26 : Value).ownBlock ∧ k_ ≠ gb175)) (by (with_reducible repeat (first | apply zn1 | apply zn2 | apply zn3)); exact HO_6.out) hg hat); replace BK175 := Za.mk (Zc1 (g := gb175) (by (with_reducible repeat (first | apply zb3 | apply zb2 | apply zb1)); exact BK175.out) hg (Kd.R_ne HO187.out BK175.out (by decide))); replace HL188_0 := Za.mk (Kd.V_afterv (ok := (fun k_ => (w.heap.size ≤ k_) ∧ some k_ ≠ (.slice (some ad188) x5_3.length co26 : Value).ownBlock ∧ some k_ ≠ (u6 : Value).ownBlock ∧ k_ ≠ gb175)) (by (with_reducible repeat (first | apply Kd.V_alloc | apply Kd.V_drewN | apply Kd.V_drew)); exact Kd.V_mono HL188_0.out (fun _ hk => ⟨⟨hk.1.1.1, ⟨hk.2, ⟨hk.1.1.2.1, hk.1.1.2.2⟩⟩⟩, hk.1.2⟩)) hg hat); replace HB := Za.mk (hb); have HO191 := Za.mk (ho); clear HO187; clear ho hb hg hat) | ((with_reducible refine gate_builtin (b := .append) (xs := #[.tmp 41, .tmp 43]) rfl ?_); (try (refine gate_guard (by rfl) ?_; dsimp only)); at_builtin; refine Kd.R_append (Kd.int .i64) (w0 := w) w.heap.size rfl (.tmp 41) (.tmp 43) 32 3 (.int .i64 0) 8 rfl Try.underlying32 info3 rfl (by decide) (by omega) v190 y189 x8_3 [.int .i64 x8_3] (fun k_ => (w.heap.size ≤ k_)) (fun _ => False) rfl rfl ?aP (fun _ hk => hk.elim) ?aF ?aO ?aB ?aS ?aL ?_; (case aP => exact rfl); (case aB => exact (by repeat (first | (with_reducible first | exact HB.out | apply zc1 | apply zc2 | apply zc3 | refine zc4 ?_ (by assumption)) | exact HB.out))); (case aF => exact (fun k_ hk => (Nat.le_trans (Zl (by repeat (first | (with_reducible first | exact HB.out | apply zc1 | apply zc2 | apply zc3 | refine zc4 ?_ (by assumption)) | exact HB.out))) hk))); (case aO => exact (by (with_reducible repeat (first | apply Kd.R_alloc | apply Kd.R_drewN | apply Kd.R_drew)); exact HO191.out)); (case aS => exact (Zl (by repeat (first | (with_reducible first | exact HB.out | apply zc1 | apply zc2 | apply zc3 | refine zc4 ?_ (by assumption)) | exact HB.out)))); (case aL => have := LMc21.out; omega); intro v193 w28 ho hb hg hat; rw [← Ny192.out] at ho; replace HO_5 := Za.mk (Kd.N_afterv (ok := (fun k_ => (w.heap.size ≤ k_) ∧ some k_ ≠ (u6 : Value).ownBlock ∧ k_ ≠ gb175)) (by (with_reducible repeat (first | apply zn1 | apply zn2 | apply zn3)); exact HO_5.out) hg hat); replace HO_6 := Za.mk (Kd.N_afterv (ok := (fun k_ => (w.heap.size ≤ k_) ∧ some k_ ≠ (.slice (some ad188) x5_3.length co26 : Value).ownBlock ∧ k_ ≠ gb175)) (by (with_reducible repeat (first | apply zn1 | apply zn2 | apply zn3)); exact HO_6.out) hg hat); replace BK175 := Za.mk (Zc1 (g := gb175) (by (with_reducible repeat (first | apply zb3 | apply zb2 | apply zb1)); exact BK175.out) hg (Kd.R_ne HO191.out BK175.out (by decide))); replace HL188_0 := Za.mk (Kd.V_afterv (ok := (fun k_ => (w.heap.size ≤ k_) ∧ some k_ ≠ (.slice (some ad188) x5_3.length co26 : Value).ownBlock ∧ some k_ ≠ (u6 : Value).ownBlock ∧ k_ ≠ gb175)) (by (with_reducible repeat (first | apply Kd.V_alloc | apply Kd.V_drewN | apply Kd.V_drew)); exact HL188_0.out) hg hat); replace HB := Za.mk (hb); have HO194 := Za.mk (ho); clear HO191; clear ho hb hg hat; have hcz29_0 : w28.cell? ⟨gb175, 0, none⟩ = some (.int .i64 a0_0) := (Zb BK175.out 0).trans rfl; have hcz29_1 : w28.cell? ⟨gb175, 1, none⟩ = some (.int .i64 a0_1) := (Zb BK175.out 1).trans rfl; have hcz29_2 : w28.cell? ⟨gb175, 2, none⟩ = some (.slice A0_2 l0_2.length c0_2) := (Zb BK175.out 2).trans rfl; have hcz29_3 : w28.cell? ⟨gb175, 3, none⟩ = some (.int .i64 a0_3) := (Zb BK175.out 3).trans rfl; have hcz29_4 : w28.cell? ⟨gb175, 4, none⟩ = some (.int .u32 a0_4) := (Zb BK175.out 4).trans rfl; have hfz29_0 := Zc BK175.out 0; have hfz29_1 := Zc BK175.out 1; have hfz29_2 := Zc BK175.out 2; have hfz29_3 := Zc BK175.out 3; have hfz29_4 := Zc BK175.out 4; obtain ⟨Ao30, co30, eo30⟩ := Kd.R_slice HO194.out; subst eo30) | ((with_reducible refine gate_callee (f := 12) rfl ?_); refine goesL_ (some 47) rfl rfl Try.func12 (by kernel_rfl) rfl #[.agg #[.int .i64 a0_0, .int .i64 a0_1, .slice A0_2 l0_2.length c0_2, .int .i64 a0_3, .int .u32 a0_4], .slice Ao30 y192.length co30] rfl (by (try simp only [List.map_toArray, List.map_cons, List.map_nil]); first | done | rfl | (simp only [List.length_drop, List.length_take]; rfl)) ?_; (with_reducible refine (Zq.calls k3 a0_0 a0_1 _ _ l0_2 a0_3 a0_4 _ _ y192 t195 _ ?side1 ?side2 ?side3 ?side4 A22.out).mono ?_); (case side1 => repeat (first | exact (Kd.C_below HR0_2.out HB.out) | (with_reducible refine Kd.C_alloc ?_ _) | (with_reducible refine Kd.C_drewN ?_ _) | (with_reducible refine Kd.C_drew ?_))); (case side2 => exact HC0_2.out); (case side3 => repeat (first | exact (Kd.R_reads' HO194.out).2.2 | (with_reducible refine Kd.C_alloc ?_ _) | (with_reducible refine Kd.C_drewN ?_ _) | (with_reducible refine Kd.C_drew ?_))); (case side4 => exact (Kd.R_reads' HO194.out).2.1); rintro e w31 ⟨v196, rfl, ho0, hb⟩; refine ⟨_, rfl, ?_⟩; replace HO_5 := Za.mk (Kd.N_elder' (by (with_reducible repeat (first | apply zn1 | apply zn2 | apply zn3)); exact HO_5.out) (Kd.R_base ho0) hb); replace HO_6 := Za.mk (Kd.N_elder' (by (with_reducible repeat (first | apply zn1 | apply zn2 | apply zn3)); exact HO_6.out) (Kd.R_base ho0) hb); replace HL188_0 := Za.mk (Kd.V_elder' (by (with_reducible repeat (first | apply Kd.V_alloc | apply Kd.V_drewN | apply Kd.V_drew)); exact HL188_0.out) (Kd.R_base ho0) hb); have HO197 := Za.mk (Kd.R_lower (Kd.R_new' (Kd.R_newM (M := fun k_ => (w.heap.size ≤ k_)) ho0 (Zl (by repeat (first | (with_reducible first | exact HB.out | apply zc1 | apply zc2 | apply zc3 | refine zc4 ?_ (by assumption)) | exact HB.out))) (fun k_ h_ => h_)) (Kd.R_lt (by (with_reducible repeat (first | apply Kd.R_alloc | apply Kd.R_drewN | apply Kd.R_drew)); exact HO194.out))) (Zl (by repeat (first | (with_reducible first | exact HB.out | apply zc1 | apply zc2 | apply zc3 | refine zc4 ?_ (by assumption)) | exact HB.out)))); replace HO194 := Za.mk (Kd.R_elder' (by (with_reducible repeat (first | apply Kd.R_alloc | apply Kd.R_drewN | apply Kd.R_drew)); exact HO194.out) (Kd.R_base ho0) hb); replace BK175 := Za.mk (Zp (g := gb175) (by (with_reducible repeat (first | apply zb3 | apply zb2 | apply zb1)); exact BK175.out) hb); replace HB := Za.mk (Zr (by repeat (first | (with_reducible first | exact HB.out | apply zc1 | apply zc2 | apply zc3 | refine zc4 ?_ (by assumption)) | exact HB.out)) hb); (try clear hb); (try clear hb2); (try clear hk); (try clear hi); (try clear ho0); obtain ⟨Ao32, co32, eo32⟩ := Kd.N_slice HO_6.out; subst eo32))
       go_loopg [11, 50] k3 (fun kq v11 v50 w' => ∃ (x11_4 : Bool) (x50_4 : Int), v11 = .bool x11_4 ∧ v50 = .int .i64 x50_4 ∧ Za (Zt.l2 kq a1 x5_3 x6_3 x7_1 x8_3 y192 t195 x11_4 (x6_3.length : Int) x50_4 a0_0 a0_1 l0_2 a0_3 a0_4 = some r) ∧ Za (kq ≤ k3) ∧ Za (Kd.N (Kd.slice 3 (Kd.int .i64)) 32 w' w.heap.size (fun k_ => (w.heap.size ≤ k_) ∧ some k_ ≠ ((.slice Ao32 x6_3.length co32) : Value).ownBlock ∧ some k_ ≠ ((.slice Ao30 y192.length co30) : Value).ownBlock ∧ some k_ ≠ (v196 : Value).ownBlock ∧ k_ ≠ gb175) (.slice (some ad188) x5_3.length co26) x5_3) ∧ Za (Kd.N (Kd.slice 3 (Kd.int .i64)) 32 w' w.heap.size (fun k_ => (w.heap.size ≤ k_) ∧ some k_ ≠ ((.slice (some ad188) x5_3.length co26) : Value).ownBlock ∧ some k_ ≠ ((.slice Ao30 y192.length co30) : Value).ownBlock ∧ some k_ ≠ (v196 : Value).ownBlock ∧ k_ ≠ gb175) (.slice Ao32 x6_3.length co32) x6_3) ∧ Za (Kd.R (Kd.int .i64) 3 w' w.heap.size (fun k_ => (w.heap.size ≤ k_) ∧ some k_ ≠ (v196 : Value).ownBlock) (.slice Ao30 y192.length co30) y192) ∧ Za (Kd.R (Kd.int .i64) 3 w' w.heap.size (fun k_ => (w.heap.size ≤ k_) ∧ some k_ ≠ ((.slice Ao30 y192.length co30) : Value).ownBlock) v196 t195) ∧ Za (w'.heap[gb175]? = some (.cells #[.int .i64 a0_0, .int .i64 a0_1, (.slice A0_2 l0_2.length c0_2), .int .i64 a0_3, .int .u32 a0_4] 25 (0, 0))) ∧ Za (Below w.heap.size w w'))
       case atStart => exact ⟨(true), (0), (by first | rfl | (simp; done) | (simp [*]; done)), (by first | rfl | (simp; done) | (simp [*]; done)), H', ⟨Nat.le_refl _⟩, ⟨by (with_reducible repeat (first | apply Kd.N_alloc | apply Kd.N_drewN | apply Kd.N_drew)); exact Kd.N_mono HO_5.out (fun _ hk => ⟨hk.1.1.1, ⟨hk.1.1.2.1, ⟨hk.1.2, ⟨hk.2, hk.1.1.2.2⟩⟩⟩⟩)⟩, ⟨by (with_reducible repeat (first | apply Kd.N_alloc | apply Kd.N_drewN | apply Kd.N_drew)); exact Kd.N_mono HO_6.out (fun _ hk => ⟨hk.1.1.1, ⟨hk.1.1.2.1, ⟨hk.1.2, ⟨hk.2, hk.1.1.2.2⟩⟩⟩⟩)⟩, ⟨by (with_reducible repeat (first | apply Kd.R_alloc | apply Kd.R_drewN | apply Kd.R_drew)); exact HO194.out⟩, ⟨by (with_reducible repeat (first | apply Kd.R_alloc | apply Kd.R_drewN | apply Kd.R_drew)); exact Kd.R_mono HO197.out (fun _ hk => ⟨hk.1.1, hk.2⟩)⟩, ⟨by (with_reducible repeat (first | apply zb3 | apply zb2 | apply zb1)); exact BK175.out⟩, ⟨by repeat (first | (with_reducible first | exact HB.out | apply zc1 | apply zc2 | apply zc3 | refine zc4 ?_ (by assumption)) | exact HB.out)⟩⟩
       case round =>
        (clear H'); (try clear c1); (try clear p1); (try clear q1); (try clear hx1); (try clear c2); (try clear p2); (try clear c8); (try clear c12); (try clear c13); (try clear c13b0); (try clear c16); (try clear c17); (try clear c17b0); (try clear c18); (try clear c18b0); (try clear p18); (try clear q18); (try clear hx18); (try clear c19); (try clear c19b0); (try clear c20); (try clear c21); (try clear hcz23_0 hcz23_1 hcz23_2 hcz23_3 hcz23_4 hcz29_0 hcz29_1 hcz29_2 hcz29_3 hcz29_4 hcz7_0 hcz7_1 hcz7_2 hcz7_3 hcz7_4 hfz23_0 hfz23_1 hfz23_2 hfz23_3 hfz23_4 hfz29_0 hfz29_1 hfz29_2 hfz29_3 hfz29_4 hfz7_0 hfz7_1 hfz7_2 hfz7_3 hfz7_4); (try clear hx188_0); (try clear p188); (try clear p2); (try clear q188); (obtain ⟨x11_4, x50_4, rfl, rfl, HA, HK4, HO_5, HO_6, HO_9, HO_10, BK175, HB⟩ := hrel)
        cases gk with
        | zero => exact absurd HA.out (by simp [Zt.l2])
        | succ k4 =>
         (have H := HA.out); (clear HA); (simp only [Zt.l2] at H)
         by_cases c33 : x50_4 < (x6_3.length : Int)
         rotate_left
         ·rw [if_neg c33] at H
          (have c33b0 : decide (x50_4 < (x6_3.length : Int)) = false := decide_eq_false c33); (clear c33)
          by_cases c39 : x11_4 = true
          rotate_left
          ·replace c39 := Bool.eq_false_iff.mpr c39
           (subst c39); (have H1 : (Zt.l1 k4 a1 x5_3 x6_3 x7_1 (wrap64 (x8_3 + 1)) a0_0 a0_1 l0_2 a0_3 a0_4) = some r := by rw [if_neg (show ¬ (false = true) by decide)] at H; exact H); (clear H); (have H := H1); (clear H1); (have H' := Za.mk H); (clear H)
           go_wp2
           go_roundg k4
           case measure => have := HK1.out; have := HJ11.out; have := HK3.out; have := HK4.out; omega
           case rel => exact ⟨(x5_3), (x6_3), (wrap64 (x8_3 + 1)), (by first | rfl | (simp; done) | (simp [*]; done)), H', ⟨by have := HK1.out; have := HJ11.out; have := HK3.out; have := HK4.out; omega⟩, ⟨by (with_reducible repeat (first | apply Kd.N_alloc | apply Kd.N_drewN | apply Kd.N_drew)); exact Kd.N_mono HO_5.out (fun _ hk => ⟨hk.1, ⟨hk.2.1, hk.2.2.2.2⟩⟩)⟩, ⟨by (with_reducible repeat (first | apply Kd.N_alloc | apply Kd.N_drewN | apply Kd.N_drew)); exact Kd.N_mono HO_6.out (fun _ hk => ⟨hk.1, ⟨hk.2.1, hk.2.2.2.2⟩⟩)⟩, ⟨by (with_reducible repeat (first | apply zb3 | apply zb2 | apply zb1)); exact BK175.out⟩, ⟨by repeat (first | (with_reducible first | exact HB.out | apply zc1 | apply zc2 | apply zc3 | refine zc4 ?_ (by assumption)) | exact HB.out)⟩⟩
          (subst c39); (have H1 : (if x5_3.length < 5864062014805 then (if x6_3.length < 5864062014805 then (Zt.l1 k4 a1 (x5_3 ++ [y192]) (x6_3 ++ [t195]) x7_1 (wrap64 (x8_3 + 1)) a0_0 a0_1 l0_2 a0_3 a0_4) else (none)) else (none)) = some r := by rw [if_pos rfl] at H; exact H); (clear H); (have H := H1); (clear H1)
          by_cases c40 : x5_3.length < 5864062014805
          rotate_left
          ·rw [if_neg c40] at H
           exact absurd H (by simp)
          (rw [if_pos c40] at H); (have LMc40 := Za.mk c40); (clear c40); (obtain ⟨y200, hy200⟩ : ∃ y_ : List (List Int), y_ = (x5_3 ++ [y192]) := ⟨_, rfl⟩); (replace H : (if x6_3.length < 5864062014805 then (Zt.l1 k4 a1 y200 (x6_3 ++ [t195]) x7_1 (wrap64 (x8_3 + 1)) a0_0 a0_1 l0_2 a0_3 a0_4) else (none)) = some r := by first | (rw [hy200]; with_reducible exact H) | (have H2_ := (Option.bind_some _ _).symm.trans H; rw [hy200]; with_reducible exact H2_) | (have H2_ := (Option.bind_some _ _).symm.trans H; with_reducible exact H2_) | with_reducible exact H | (rw [hy200]; exact H) | exact H); (have Ny200 := Za.mk hy200); (clear hy200)
          by_cases c41 : x6_3.length < 5864062014805
          rotate_left
          ·rw [if_neg c41] at H
           exact absurd H (by simp)
          (rw [if_pos c41] at H); (have LMc41 := Za.mk c41); (clear c41); (obtain ⟨y203, hy203⟩ : ∃ y_ : List (List Int), y_ = (x6_3 ++ [t195]) := ⟨_, rfl⟩); (replace H : (Zt.l1 k4 a1 y200 y203 x7_1 (wrap64 (x8_3 + 1)) a0_0 a0_1 l0_2 a0_3 a0_4) = some r := by first | (rw [hy203]; with_reducible exact H) | (have H2_ := (Option.bind_some _ _).symm.trans H; rw [hy203]; with_reducible exact H2_) | (have H2_ := (Option.bind_some _ _).symm.trans H; with_reducible exact H2_) | with_reducible exact H | (rw [hy203]; exact H) | exact H); (have Ny203 := Za.mk hy203); (clear hy203); (have H' := Za.mk H); (clear H)
          go_wp2_with (first | ((with_reducible refine gate_builtin (b := .append) (xs := #[.tmp 63, .tmp 65]) rfl ?_); (try (refine gate_guard (by rfl) ?_; dsimp only)); at_builtin; refine Kd.N_append (Kd.slice 3 (Kd.int .i64)) (w0 := w) w.heap.size rfl (.tmp 63) (.tmp 65) 22 32 (.slice none 0 0) 24 rfl Try.underlying22 info32 rfl (by decide) (by omega) (.slice (some ad188) x5_3.length co26) x5_3 y192 [.slice Ao30 y192.length co30] (fun k_ => (w.heap.size ≤ k_) ∧ some k_ ≠ (.slice Ao32 x6_3.length co32 : Value).ownBlock ∧ some k_ ≠ (v196 : Value).ownBlock ∧ k_ ≠ gb175) (fun k_ => ((fun k_ => (w.heap.size ≤ k_) ∧ some k_ ≠ (.slice Ao32 x6_3.length co32 : Value).ownBlock ∧ some k_ ≠ (v196 : Value).ownBlock ∧ k_ ≠ gb175)) k_ ∧ some k_ ≠ (.slice (some ad188) x5_3.length co26 : Value).ownBlock) rfl rfl ?aP (fun _ hk => hk) ?aF ?aO ?aB ?aS ?aL ?_; (case aP => exact (Kd.FK_slice_mk (Kd.R_reads' (Kd.R_mono (ok' := (fun k_ => ((fun k_ => (w.heap.size ≤ k_) ∧ some k_ ≠ (.slice Ao32 x6_3.length co32 : Value).ownBlock ∧ some k_ ≠ (v196 : Value).ownBlock ∧ k_ ≠ gb175)) k_ ∧ some k_ ≠ (.slice (some ad188) x5_3.length co26 : Value).ownBlock)) (Kd.R_types (Kd.R_apart' (Kd.R_apart' (HO_9.out) (Kd.N_typed HO_6.out) (by decide)) (Kd.N_typed HO_5.out) (by decide)) BK175.out (by decide)) (fun k_ hk => ⟨⟨hk.1.1.1.1, ⟨hk.1.1.2, ⟨hk.1.1.1.2, hk.2⟩⟩⟩, hk.1.2⟩))).2.1 (Kd.R_F (Kd.R_mono (ok' := (fun k_ => ((fun k_ => (w.heap.size ≤ k_) ∧ some k_ ≠ (.slice Ao32 x6_3.length co32 : Value).ownBlock ∧ some k_ ≠ (v196 : Value).ownBlock ∧ k_ ≠ gb175)) k_ ∧ some k_ ≠ (.slice (some ad188) x5_3.length co26 : Value).ownBlock)) (Kd.R_types (Kd.R_apart' (Kd.R_apart' (HO_9.out) (Kd.N_typed HO_6.out) (by decide)) (Kd.N_typed HO_5.out) (by decide)) BK175.out (by decide)) (fun k_ hk => ⟨⟨hk.1.1.1.1, ⟨hk.1.1.2, ⟨hk.1.1.1.2, hk.2⟩⟩⟩, hk.1.2⟩))))); (case aB => exact (by repeat (first | (with_reducible first | exact HB.out | apply zc1 | apply zc2 | apply zc3 | refine zc4 ?_ (by assumption)) | exact HB.out))); (case aF => exact (fun k_ hk => ⟨(Nat.le_trans (Zl (by repeat (first | (with_reducible first | exact HB.out | apply zc1 | apply zc2 | apply zc3 | refine zc4 ?_ (by assumption)) | exact HB.out))) hk), Kd.fresh' (Kd.N_lt (by (with_reducible repeat (first | apply zn1 | apply zn2 | apply zn3)); exact HO_6.out)) k_ hk, Kd.fresh' (Kd.R_lt (by (with_reducible repeat (first | apply Kd.R_alloc | apply Kd.R_drewN | apply Kd.R_drew)); exact HO_10.out)) k_ hk, Kd.freshB (g := gb175) (o := .cells #[.int .i64 a0_0, .int .i64 a0_1, .slice A0_2 l0_2.length c0_2, .int .i64 a0_3, .int .u32 a0_4] 25 (0, 0)) (by (with_reducible repeat (first | apply zb3 | apply zb2 | apply zb1)); exact BK175.out) k_ hk⟩)); (case aO => exact (by (with_reducible repeat (first | apply Kd.N_alloc | apply Kd.N_drewN | apply Kd.N_drew)); exact Kd.N_mono HO_5.out (fun _ hk => ⟨hk.1, ⟨hk.2.1, ⟨hk.2.2.2.1, hk.2.2.2.2⟩⟩⟩))); (case aS => exact (Zl (by repeat (first | (with_reducible first | exact HB.out | apply zc1 | apply zc2 | apply zc3 | refine zc4 ?_ (by assumption)) | exact HB.out)))); (case aL => have := LMc40.out; omega); intro v201 w42 ho hb hg hat; rw [← Ny200.out] at ho; replace HO_6 := Za.mk (Kd.N_afterv (ok := (fun k_ => (w.heap.size ≤ k_) ∧ some k_ ≠ (.slice Ao30 y192.length co30 : Value).ownBlock ∧ some k_ ≠ (v196 : Value).ownBlock ∧ k_ ≠ gb175)) (by (with_reducible repeat (first | apply Kd.N_alloc | apply Kd.N_drewN | apply Kd.N_drew)); exact Kd.N_mono HO_6.out (fun _ hk => ⟨⟨hk.1, ⟨hk.2.2.1, ⟨hk.2.2.2.1, hk.2.2.2.2⟩⟩⟩, hk.2.1⟩)) hg hat); replace HO_10 := Za.mk (Kd.R_over' (by (with_reducible repeat (first | apply Kd.R_alloc | apply Kd.R_drewN | apply Kd.R_drew)); exact HO_10.out) (Kd.N_typed (by (with_reducible repeat (first | apply zn1 | apply zn2 | apply zn3)); exact HO_5.out)) (by decide) hg); replace BK175 := Za.mk (Zc1 (g := gb175) (by (with_reducible repeat (first | apply zb3 | apply zb2 | apply zb1)); exact BK175.out) hg (Kd.N_ne HO_5.out BK175.out (by decide))); replace HB := Za.mk (hb); have HO202 := Za.mk (ho); clear HO_5 HO_9; clear ho hb hg hat; obtain ⟨Ao44, co44, eo44⟩ := Kd.R_slice HO_10.out; subst eo44) | ((with_reducible refine gate_builtin (b := .append) (xs := #[.tmp 67, .tmp 69]) rfl ?_); (try (refine gate_guard (by rfl) ?_; dsimp only)); at_builtin; refine Kd.N_append (Kd.slice 3 (Kd.int .i64)) (w0 := w) w.heap.size rfl (.tmp 67) (.tmp 69) 22 32 (.slice none 0 0) 24 rfl Try.underlying22 info32 rfl (by decide) (by omega) (.slice Ao32 x6_3.length co32) x6_3 t195 [.slice Ao44 t195.length co44] (fun k_ => (w.heap.size ≤ k_) ∧ some k_ ≠ (v201 : Value).ownBlock ∧ k_ ≠ gb175) (fun k_ => ((fun k_ => (w.heap.size ≤ k_) ∧ some k_ ≠ (v201 : Value).ownBlock ∧ k_ ≠ gb175)) k_ ∧ some k_ ≠ (.slice Ao32 x6_3.length co32 : Value).ownBlock) rfl rfl ?aP (fun _ hk => hk) ?aF ?aO ?aB ?aS ?aL ?_; (case aP => exact (Kd.FK_slice_mk (Kd.R_reads' (Kd.R_mono (ok' := (fun k_ => ((fun k_ => (w.heap.size ≤ k_) ∧ some k_ ≠ (v201 : Value).ownBlock ∧ k_ ≠ gb175)) k_ ∧ some k_ ≠ (.slice Ao32 x6_3.length co32 : Value).ownBlock)) (Kd.R_types (Kd.R_apart' (Kd.R_apart' (HO_10.out) (Kd.N_typed HO202.out) (by decide)) (Kd.N_typed HO_6.out) (by decide)) BK175.out (by decide)) (fun k_ hk => ⟨⟨hk.1.1.1.1, ⟨hk.1.1.2, hk.2⟩⟩, hk.1.2⟩))).2.1 (Kd.R_F (Kd.R_mono (ok' := (fun k_ => ((fun k_ => (w.heap.size ≤ k_) ∧ some k_ ≠ (v201 : Value).ownBlock ∧ k_ ≠ gb175)) k_ ∧ some k_ ≠ (.slice Ao32 x6_3.length co32 : Value).ownBlock)) (Kd.R_types (Kd.R_apart' (Kd.R_apart' (HO_10.out) (Kd.N_typed HO202.out) (by decide)) (Kd.N_typed HO_6.out) (by decide)) BK175.out (by decide)) (fun k_ hk => ⟨⟨hk.1.1.1.1, ⟨hk.1.1.2, hk.2⟩⟩, hk.1.2⟩))))); (case aB => exact (by repeat (first | (with_reducible first | exact HB.out | apply zc1 | apply zc2 | apply zc3 | refine zc4 ?_ (by assumption)) | exact HB.out))); (case aF => exact (fun k_ hk => ⟨(Nat.le_trans (Zl (by repeat (first | (with_reducible first | exact HB.out | apply zc1 | apply zc2 | apply zc3 | refine zc4 ?_ (by assumption)) | exact HB.out))) hk), Kd.fresh' (Kd.N_lt (by (with_reducible repeat (first | apply zn1 | apply zn2 | apply zn3)); exact HO202.out)) k_ hk, Kd.freshB (g := gb175) (o := .cells #[.int .i64 a0_0, .int .i64 a0_1, .slice A0_2 l0_2.length c0_2, .int .i64 a0_3, .int .u32 a0_4] 25 (0, 0)) (by (with_reducible repeat (first | apply zb3 | apply zb2 | apply zb1)); exact BK175.out) k_ hk⟩)); (case aO => exact (by (with_reducible repeat (first | apply Kd.N_alloc | apply Kd.N_drewN | apply Kd.N_drew)); exact Kd.N_mono HO_6.out (fun _ hk => ⟨hk.1.1, ⟨hk.2, hk.1.2.2.2⟩⟩))); (case aS => exact (Zl (by repeat (first | (with_reducible first | exact HB.out | apply zc1 | apply zc2 | apply zc3 | refine zc4 ?_ (by assumption)) | exact HB.out)))); (case aL => have := LMc41.out; omega); intro v204 w43 ho hb hg hat; rw [← Ny203.out] at ho; replace BK175 := Za.mk (Zc1 (g := gb175) (by (with_reducible repeat (first | apply zb3 | apply zb2 | apply zb1)); exact BK175.out) hg (Kd.N_ne HO_6.out BK175.out (by decide))); replace HO202 := Za.mk (Kd.N_afterv (ok := (fun k_ => (w.heap.size ≤ k_) ∧ some k_ ≠ (.slice Ao44 t195.length co44 : Value).ownBlock ∧ k_ ≠ gb175)) (by (with_reducible repeat (first | apply Kd.N_alloc | apply Kd.N_drewN | apply Kd.N_drew)); exact Kd.N_mono HO202.out (fun _ hk => ⟨⟨hk.1, ⟨hk.2.2.1, hk.2.2.2⟩⟩, hk.2.1⟩)) hg hat); replace HB := Za.mk (hb); have HO205 := Za.mk (ho); clear HO_6 HO_10; clear ho hb hg hat))
          go_roundg k4
          case measure => have := HK1.out; have := HJ11.out; have := HK3.out; have := HK4.out; omega
          case rel => exact ⟨(y200), (y203), (wrap64 (x8_3 + 1)), (by first | rfl | (simp; done) | (simp [*]; done)), H', ⟨by have := HK1.out; have := HJ11.out; have := HK3.out; have := HK4.out; omega⟩, ⟨by (with_reducible repeat (first | apply Kd.N_alloc | apply Kd.N_drewN | apply Kd.N_drew)); exact Kd.N_mono HO202.out (fun _ hk => ⟨hk.1.1, ⟨hk.2, hk.1.2.2⟩⟩)⟩, ⟨by (with_reducible repeat (first | apply Kd.N_alloc | apply Kd.N_drewN | apply Kd.N_drew)); exact HO205.out⟩, ⟨by (with_reducible repeat (first | apply zb3 | apply zb2 | apply zb1)); exact BK175.out⟩, ⟨by repeat (first | (with_reducible first | exact HB.out | apply zc1 | apply zc2 | apply zc3 | refine zc4 ?_ (by assumption)) | exact HB.out)⟩⟩
         (rw [if_pos c33] at H); (have c33b0 : decide (x50_4 < (x6_3.length : Int)) = true := decide_eq_true c33); (clear c33)
         by_cases c34 : 0 ≤ x50_4
         rotate_left
         ·rw [if_neg c34] at H
          exact absurd H (by simp)
         (rw [if_pos c34] at H); (have c34b0 : decide (0 ≤ x50_4) = true := decide_eq_true c34); (clear c34)
         by_cases c35 : x50_4 < (x6_3.length : Int)
         rotate_left
         ·rw [if_neg c35] at H
          exact absurd H (by simp)
         (rw [if_pos c35] at H); (have c35b0 : decide (x50_4 < (x6_3.length : Int)) = true := decide_eq_true c35); (clear c35)
         by_cases c36 : x11_4 = true
         rotate_left
         ·replace c36 := Bool.eq_false_iff.mpr c36
          (subst c36); (have H1 : (Zt.l2 k4 a1 x5_3 x6_3 x7_1 x8_3 y192 t195 false (x6_3.length : Int) (wrap64 (x50_4 + 1)) a0_0 a0_1 l0_2 a0_3 a0_4) = some r := by rw [if_neg (show ¬ (false = true) by decide)] at H; exact H); (clear H); (have H := H1); (clear H1); (have H' := Za.mk H); (clear H); (have p198 : 0 ≤ (x50_4 : Int) := of_decide_eq_true (by assumption)); (have q198 : x50_4 < (x6_3.length : Int) := of_decide_eq_true (by assumption)); (obtain ⟨ad198, A198_0, c198_0, e198, hx198_0, hl198_0, hi198_0⟩ := at_L1 (Kd.N_reads' HO_6.out).2.2 x50_4 p198 q198); (cases e198); (obtain ⟨ce198, hce198, hMe198, hcc198⟩ := Kd.N_get HO_6.out [] x50_4 p198 (by first | exact q198 | exact of_decide_eq_true (by assumption) | (have e_ := (Kd.N_reads' HO_6.out).1; omega))); (obtain ⟨ua198_0, uc198_0, rfl, ul198_0, ge198_0⟩ := Kd.FK_slice_open hMe198); (have hv198_0 := hcc198 0 _ rfl); (rw [Nat.add_zero, show ((Kd.slice 3 (Kd.int .i64))).sz = 1 from rfl, Nat.mul_one] at hv198_0); (replace hv198_0 := Option.some.inj (hv198_0.symm.trans hx198_0)); (injection hv198_0 with hva_ hvn_ hvc_); (rw [hva_] at ge198_0); (rw [hvc_] at ul198_0); (have HL198_0 := Za.mk (show Kd.V (Kd.int .i64) 3 _ w.heap.size _ _ (Ze x6_3 x50_4) from Kd.V_mk ul198_0 ge198_0)); (clear hva_ hvn_ hvc_ ge198_0 ul198_0); (clear hcc198 hce198); (have HR198_0 := Za.mk hi198_0); (have HC198_0 := Za.mk hl198_0); (clear hi198_0 hl198_0); (replace p198 := eq_true p198); (replace q198 := eq_true q198)
          go_wp2
          go_roundg k4
          case measure => have := HK1.out; have := HJ11.out; have := HK3.out; have := HK4.out; omega
          case rel => exact ⟨(false), (wrap64 (x50_4 + 1)), (by first | rfl | (simp; done) | (simp [*]; done)), (by first | rfl | (simp; done) | (simp [*]; done)), H', ⟨by have := HK1.out; have := HJ11.out; have := HK3.out; have := HK4.out; omega⟩, ⟨by (with_reducible repeat (first | apply Kd.N_alloc | apply Kd.N_drewN | apply Kd.N_drew)); exact HO_5.out⟩, ⟨by (with_reducible repeat (first | apply Kd.N_alloc | apply Kd.N_drewN | apply Kd.N_drew)); exact HO_6.out⟩, ⟨by (with_reducible repeat (first | apply Kd.R_alloc | apply Kd.R_drewN | apply Kd.R_drew)); exact HO_9.out⟩, ⟨by (with_reducible repeat (first | apply Kd.R_alloc | apply Kd.R_drewN | apply Kd.R_drew)); exact HO_10.out⟩, ⟨by (with_reducible repeat (first | apply zb3 | apply zb2 | apply zb1)); exact BK175.out⟩, ⟨by repeat (first | (with_reducible first | exact HB.out | apply zc1 | apply zc2 | apply zc3 | refine zc4 ?_ (by assumption)) | exact HB.out)⟩⟩
         (subst c36); (have H1 : ((Zk1.f k4 (Ze x6_3 x50_4) t195).bind fun t199 => (Zt.l2 k4 a1 x5_3 x6_3 x7_1 x8_3 y192 t195 (!t199) (x6_3.length : Int) (wrap64 (x50_4 + 1)) a0_0 a0_1 l0_2 a0_3 a0_4)) = some r := by rw [if_pos rfl] at H; exact H); (clear H); (have H := H1); (clear H1); (replace H := Option.bind_eq_some_iff.mp H); (obtain ⟨t199, A370, H⟩ := H); (replace H : (Zt.l2 k4 a1 x5_3 x6_3 x7_1 x8_3 y192 t195 (!t199) (x6_3.length : Int) (wrap64 (x50_4 + 1)) a0_0 a0_1 l0_2 a0_3 a0_4) = some r := H); (have A37 := Za.mk A370); (clear A370); (have H' := Za.mk H); (clear H); (have p198 : 0 ≤ (x50_4 : Int) := of_decide_eq_true (by assumption)); (have q198 : x50_4 < (x6_3.length : Int) := of_decide_eq_true (by assumption)); (obtain ⟨ad198, A198_0, c198_0, e198, hx198_0, hl198_0, hi198_0⟩ := at_L1 (Kd.N_reads' HO_6.out).2.2 x50_4 p198 q198); (cases e198); (obtain ⟨ce198, hce198, hMe198, hcc198⟩ := Kd.N_get HO_6.out [] x50_4 p198 (by first | exact q198 | exact of_decide_eq_true (by assumption) | (have e_ := (Kd.N_reads' HO_6.out).1; omega))); (obtain ⟨ua198_0, uc198_0, rfl, ul198_0, ge198_0⟩ := Kd.FK_slice_open hMe198); (have hv198_0 := hcc198 0 _ rfl); (rw [Nat.add_zero, show ((Kd.slice 3 (Kd.int .i64))).sz = 1 from rfl, Nat.mul_one] at hv198_0); (replace hv198_0 := Option.some.inj (hv198_0.symm.trans hx198_0)); (injection hv198_0 with hva_ hvn_ hvc_); (rw [hva_] at ge198_0); (rw [hvc_] at ul198_0); (have HL198_0 := Za.mk (show Kd.V (Kd.int .i64) 3 _ w.heap.size _ _ (Ze x6_3 x50_4) from Kd.V_mk ul198_0 ge198_0)); (clear hva_ hvn_ hvc_ ge198_0 ul198_0)
         (clear hcc198 hce198); (have HR198_0 := Za.mk hi198_0); (have HC198_0 := Za.mk hl198_0); (clear hi198_0 hl198_0); (replace p198 := eq_true p198); (replace q198 := eq_true q198); (obtain ⟨Ao38, co38, eo38⟩ := Kd.R_slice HO_10.out); (subst eo38)
         go_wp2_with (first | (go_at_call 11; (with_reducible refine (Zk1.calls k4 _ _ (Ze x6_3 x50_4) _ _ t195 t199 _ ?side1 ?side2 ?side3 ?side4 A37.out).mono ?_); (case side1 => repeat (first | exact (by repeat (first | (with_reducible exact HR198_0.out) | (with_reducible refine Kd.C_alloc ?_ _) | (with_reducible refine Kd.C_drewN ?_ _) | (with_reducible refine Kd.C_drew ?_) | exact HR198_0.out)) | (with_reducible refine Kd.C_alloc ?_ _) | (with_reducible refine Kd.C_drewN ?_ _) | (with_reducible refine Kd.C_drew ?_))); (case side2 => exact HC198_0.out); (case side3 => repeat (first | exact (Kd.R_reads' HO_10.out).2.2 | (with_reducible refine Kd.C_alloc ?_ _) | (with_reducible refine Kd.C_drewN ?_ _) | (with_reducible refine Kd.C_drew ?_))); (case side4 => exact (Kd.R_reads' HO_10.out).2.1); rintro e w' ⟨rfl, ⟨nd, rfl⟩⟩))
         go_roundg k4
         case measure => have := HK1.out; have := HJ11.out; have := HK3.out; have := HK4.out; omega
         case rel => exact ⟨(!t199), (wrap64 (x50_4 + 1)), (by first | rfl | (simp; done) | (simp [*]; done)), (by first | rfl | (simp; done) | (simp [*]; done)), H', ⟨by have := HK1.out; have := HJ11.out; have := HK3.out; have := HK4.out; omega⟩, ⟨by (with_reducible repeat (first | apply Kd.N_alloc | apply Kd.N_drewN | apply Kd.N_drew)); exact HO_5.out⟩, ⟨by (with_reducible repeat (first | apply Kd.N_alloc | apply Kd.N_drewN | apply Kd.N_drew)); exact HO_6.out⟩, ⟨by (with_reducible repeat (first | apply Kd.R_alloc | apply Kd.R_drewN | apply Kd.R_drew)); exact HO_9.out⟩, ⟨by (with_reducible repeat (first | apply Kd.R_alloc | apply Kd.R_drewN | apply Kd.R_drew)); exact HO_10.out⟩, ⟨by (with_reducible repeat (first | apply zb3 | apply zb2 | apply zb1)); exact BK175.out⟩, ⟨by repeat (first | (with_reducible first | exact HB.out | apply zc1 | apply zc2 | apply zc3 | refine zc4 ?_ (by assumption)) | exact HB.out)⟩⟩
set_option maxHeartbeats 8000000 in
set_option maxRecDepth 100000 in
theorem slices_IndexFunc_SSint_Sint.any (p : (List Int) → Bool) (g : Nat) (lb : Array Value) (eg : ∀ args w, (callFunc g args).run Try.prog w = .ok (.enter g args) w) (A : Option Addr) (c : Nat) (l : List (List Int)) (w : World) (q_ : Int) (hq_ : Lib.idxBy (fun _ y => p y) l default = q_) (hr : Kd.C (Kd.slice 3 (Kd.int .i64)) w A l.length l)
    (hp : ∀ (W : World) (x : (List Int)) (v : Value), x ∈ l → Below w.heap.size w W → ((Kd.slice 3 (Kd.int .i64))).K W x [v] → Calls Try.prog g (#[v] ++ lb) W fun e w' => e = .returned (.bool (p x)) ∧ Below w.heap.size w w') :
    Calls Try.prog 36 #[.slice A l.length c, .func (.func g) #[] lb] w fun e w' => e = .returned (.int .i64 q_) ∧ Below w.heap.size w w' := by
  have HQ := Za.mk hq_
  clear hq_
  have HR := Za.mk hr
  have HP := Za.mk hp
  have hbig := hr.2.1
  clear hr hp
  go_enter Try.func36, Try.ntmps36
  go_wp2
  go_loopg [5, 8] l.length (fun gg _ s8 wr => ∃ kk : Nat, kk ≤ l.length ∧ l.length - kk ≤ gg ∧ s8 = .int .i64 kk ∧ Za (Below w.heap.size w wr) ∧ Za (∀ j, j < kk → p l[j]! = false))
  case atStart => exact ⟨0, Nat.zero_le _, by omega, rfl, ⟨Below.refl _ w⟩, ⟨fun j hj => absurd hj (Nat.not_lt_zero _)⟩⟩
  case round =>
    obtain ⟨kk, hkk, hg, rfl, BW, A0⟩ := hrel
    by_cases hlt : kk < l.length
    · have hltz : (kk : Int) < (l.length : Int) := by omega
      obtain ⟨ad, rfl, hcs⟩ := HR.out.2.2 (by omega)
      obtain ⟨cs, hcl, hK, hcell⟩ := hcs kk _ (List.getElem?_eq_getElem hlt)
      obtain ⟨v, rfl⟩ : ∃ v, cs = [v] := List.length_eq_one_iff.1 hcl
      have l2 : wr.cell? (ad.add kk) = some v := by
        have := hcell 0 v rfl
        simp only [Nat.add_zero, show ((Kd.slice 3 (Kd.int .i64))).sz = 1 from rfl, Nat.mul_one] at this
        exact pw_cell_below BW.out this
      have hcall := HP.out wr l[kk] v (List.getElem_mem _) BW.out (((Kd.slice 3 (Kd.int .i64))).K_below BW.out hK)
      have hpk : Za (l[kk]! = l[kk]) := ⟨by simp [hlt]⟩
      clear hcs hcl hK hcell
      generalize hy : l[kk] = y at hcall hpk
      clear hy
      cases hq : p y with
      | true =>
        rw [hq] at hcall
        go_wp2_with (go_at_fn g; refine hcall.mono ?_; rintro e w' ⟨rfl, hb'⟩)
        go_ret
        refine ⟨?_, hb'⟩
        have := Lib.idxBy_hit (fun _ y => p y) l l.length kk default hlt (Nat.le_refl _) (by show p l[kk]! = true; rw [hpk.out]; exact hq) A0.out
        rw [List.take_length, HQ.out] at this
        rw [this]
        rfl
      | false =>
        rw [hq] at hcall
        go_wp2_with (go_at_fn g; refine hcall.mono ?_; rintro e w' ⟨rfl, hb'⟩)
        go_roundg (l.length - (kk + 1))
        case measure => omega
        case rel =>
          refine ⟨kk + 1, by omega, by omega, by go_num, ⟨hb'⟩, ⟨fun j hj => ?_⟩⟩
          by_cases e : j = kk
          · subst e
            rw [hpk.out]; exact hq
          · exact A0.out j (by omega)
    · have hltz : ¬ (kk : Int) < (l.length : Int) := by omega
      have : kk = l.length := by omega
      subst this
      go_wp2
      go_ret
      refine ⟨?_, BW.out⟩
      have := Lib.idxBy_miss (fun _ y => p y) l l.length default A0.out
      rw [List.take_length, HQ.out] at this
      rw [this]
      rfl
set_option maxHeartbeats 8000000 in
set_option maxRecDepth 100000 in
theorem slices_IndexFunc_SSint_Sint.anyO (p : (List Int) → Option Bool) (g : Nat) (lb : Array Value) (eg : ∀ args w, (callFunc g args).run Try.prog w = .ok (.enter g args) w) (A : Option Addr) (c : Nat) (l : List (List Int)) (w : World) (q_ : Int) (hq_ : idxO p l 0 = some q_) (hr : Kd.C (Kd.slice 3 (Kd.int .i64)) w A l.length l)
    (hp : ∀ (W : World) (x : (List Int)) (cs : List Value) (b : Bool), x ∈ l → Below w.heap.size w W → ((Kd.slice 3 (Kd.int .i64))).K W x cs → p x = some b → Calls Try.prog g (#[cs.getD 0 undef] ++ lb) W fun e w' => e = .returned (.bool b) ∧ Below w.heap.size w w') :
    Calls Try.prog 36 #[.slice A l.length c, .func (.func g) #[] lb] w fun e w' => e = .returned (.int .i64 q_) ∧ Below w.heap.size w w' := by
  have HQ := Za.mk hq_
  clear hq_
  have HR := Za.mk hr
  have HP := Za.mk hp
  have hbig := hr.2.1
  clear hr hp
  go_enter Try.func36, Try.ntmps36
  go_wp2
  go_loopg [5, 8] l.length (fun gg _ s8 wr => ∃ kk : Nat, kk ≤ l.length ∧ l.length - kk ≤ gg ∧ s8 = .int .i64 kk ∧ Za (Below w.heap.size w wr) ∧ Za (idxO p (l.drop kk) kk = some q_))
  case atStart => exact ⟨0, Nat.zero_le _, by omega, rfl, ⟨Below.refl _ w⟩, ⟨HQ.out⟩⟩
  case round =>
    obtain ⟨kk, hkk, hg, rfl, BW, A0⟩ := hrel
    by_cases hlt : kk < l.length
    · have hltz : (kk : Int) < (l.length : Int) := by omega
      have HD := A0.out
      rw [List.drop_eq_getElem_cons hlt] at HD
      unfold idxO at HD
      cases hq : p l[kk] with
      | none => rw [hq] at HD; cases HD
      | some b =>
      rw [hq] at HD
      simp only [Option.bind_some] at HD
      have HE := Za.mk HD
      clear HD A0
      obtain ⟨ad, rfl, hcs⟩ := HR.out.2.2 (by omega)
      obtain ⟨cs, hcl, hK, hcell⟩ := hcs kk _ (List.getElem?_eq_getElem hlt)
      obtain ⟨v, rfl⟩ : ∃ v, cs = [v] := List.length_eq_one_iff.1 hcl
      have l2 : wr.cell? (ad.add kk) = some v := by
        have := hcell 0 v rfl
        simp only [Nat.add_zero, show ((Kd.slice 3 (Kd.int .i64))).sz = 1 from rfl, Nat.mul_one] at this
        exact pw_cell_below BW.out this
      have hcall := HP.out wr l[kk] _ b (List.getElem_mem _) BW.out (((Kd.slice 3 (Kd.int .i64))).K_below BW.out hK) hq
      clear hcs hcl hK hcell hq
      generalize hy : l[kk] = y at hcall
      clear hy
      cases b with
      | true =>
        go_wp2_with (go_at_fn g; refine hcall.mono ?_; rintro e w' ⟨rfl, hb'⟩)
        go_ret
        refine ⟨?_, hb'⟩
        have := Option.some.inj (show some (kk : Int) = some q_ from HE.out)
        rw [this]
        rfl
      | false =>
        go_wp2_with (go_at_fn g; refine hcall.mono ?_; rintro e w' ⟨rfl, hb'⟩)
        go_roundg (l.length - (kk + 1))
        case measure => omega
        case rel => exact ⟨kk + 1, by omega, by omega, by go_num, ⟨hb'⟩, ⟨HE.out⟩⟩
    · have hltz : ¬ (kk : Int) < (l.length : Int) := by omega
      have : kk = l.length := by omega
      subst this
      have HD := A0.out
      rw [List.drop_length] at HD
      have := Option.some.inj (show some (-1 : Int) = some q_ from HD)
      subst this
      clear HD A0 HQ
      go_wp2
      go_ret
      exact ⟨rfl, BW.out⟩
set_option maxHeartbeats 8000000 in
set_option maxRecDepth 100000 in
theorem slices_ContainsFunc_SSint_Sint.any (p : (List Int) → Bool) (g : Nat) (lb : Array Value) (eg : ∀ args w, (callFunc g args).run Try.prog w = .ok (.enter g args) w) (A : Option Addr) (c : Nat) (l : List (List Int)) (w : World) (hr : Kd.C (Kd.slice 3 (Kd.int .i64)) w A l.length l)
    (hp : ∀ (W : World) (x : (List Int)) (v : Value), x ∈ l → Below w.heap.size w W → ((Kd.slice 3 (Kd.int .i64))).K W x [v] → Calls Try.prog g (#[v] ++ lb) W fun e w' => e = .returned (.bool (p x)) ∧ Below w.heap.size w w') :
    Calls Try.prog 27 #[.slice A l.length c, .func (.func g) #[] lb] w fun e w' => e = .returned (.bool (l.any p)) ∧ Below w.heap.size w w' := by
  rw [show l.any p = decide (0 ≤ Lib.idxBy (fun _ y => p y) l default) from (Lib.idxBy_nonneg_iff (fun _ y => p y) l default).symm]
  obtain ⟨q_, hq_⟩ : ∃ q_, Lib.idxBy (fun _ y => p y) l default = q_ := ⟨_, rfl⟩
  have hix := slices_IndexFunc_SSint_Sint.any p g lb eg A c l w q_ hq_ hr hp
  rw [hq_]
  clear hr hp
  have e6 : ∀ args w, (callFunc 36 args).run Try.prog w = .ok (.enter 36 args) w := enters_of Try.func36 (by kernel_rfl) rfl
  go_enter Try.func27, Try.ntmps27
  go_wp2_with (go_at_fn 36; refine hix.mono ?_; rintro e w' ⟨rfl, hb'⟩)
  go_ret
  exact ⟨rfl, hb'⟩
set_option maxHeartbeats 8000000 in
set_option maxRecDepth 100000 in
theorem slices_ContainsFunc_SSint_Sint.anyO (p : (List Int) → Option Bool) (g : Nat) (lb : Array Value) (eg : ∀ args w, (callFunc g args).run Try.prog w = .ok (.enter g args) w) (A : Option Addr) (c : Nat) (l : List (List Int)) (w : World) (q_ : Bool) (hq_ : anyO p l = some q_) (hr : Kd.C (Kd.slice 3 (Kd.int .i64)) w A l.length l)
    (hp : ∀ (W : World) (x : (List Int)) (cs : List Value) (b : Bool), x ∈ l → Below w.heap.size w W → ((Kd.slice 3 (Kd.int .i64))).K W x cs → p x = some b → Calls Try.prog g (#[cs.getD 0 undef] ++ lb) W fun e w' => e = .returned (.bool b) ∧ Below w.heap.size w w') :
    Calls Try.prog 27 #[.slice A l.length c, .func (.func g) #[] lb] w fun e w' => e = .returned (.bool q_) ∧ Below w.heap.size w w' := by
  obtain ⟨q, hq, rfl⟩ := idx_anyO p l 0 q_ (Int.le_refl _) hq_
  have hix := slices_IndexFunc_SSint_Sint.anyO p g lb eg A c l w q hq hr hp
  clear hr hp hq hq_
  have e6 : ∀ args w, (callFunc 36 args).run Try.prog w = .ok (.enter 36 args) w := enters_of Try.func36 (by kernel_rfl) rfl
  go_enter Try.func27, Try.ntmps27
  go_wp2_with (go_at_fn 36; refine hix.mono ?_; rintro e w' ⟨rfl, hb'⟩)
  go_ret
  exact ⟨rfl, hb'⟩
def machine_Check_1.f (l0 : List Int) (a1_0 : Int) (a1_1 : Int) (l1_2 : List (List Int)) (a1_3 : Int) (a1_4 : Int) : Option (Bool) := some ((l0.length : Int) != a1_1)
set_option maxHeartbeats 8000000 in
set_option maxRecDepth 100000 in
theorem machine_Check_1.calls (A0 : Option Addr) (c0 : Nat) (l0 : List Int) (a1_0 : Int) (a1_1 : Int) (A1_2 : Option Addr) (c1_2 : Nat) (l1_2 : List (List Int)) (a1_3 : Int) (a1_4 : Int) (g1 : Nat) (r : Bool) (w : World) (hr0 : Kd.C (Kd.int .i64) w A0 l0.length l0) (hc0 : l0.length ≤ c0) (hr1_2 : Kd.C (Kd.slice 3 (Kd.int .i64)) w A1_2 l1_2.length l1_2) (hc1_2 : l1_2.length ≤ c1_2) (hbk1 : w.heap[g1]? = some (.cells #[.int .i64 a1_0, .int .i64 a1_1, .slice A1_2 l1_2.length c1_2, .int .i64 a1_3, .int .u32 a1_4] 25 (0, 0))) (h : machine_Check_1.f l0 a1_0 a1_1 l1_2 a1_3 a1_4 = some r) :
    Calls Try.prog 28 #[.slice A0 l0.length c0, .pointer (some ⟨g1, 0, none⟩)] w fun e w' => e = .returned (.bool r) ∧ Drawn0 w w' := by
 (have HR0 := Za.mk hr0); (have HC0 := Za.mk hc0); (clear hr0 hc0); (have HR1_2 := Za.mk hr1_2); (have HC1_2 := Za.mk hc1_2); (clear hr1_2 hc1_2); (have BK1 := Za.mk hbk1); (clear hbk1); (have H : (some ((l0.length : Int) != a1_1)) = some r := h); (clear h); (obtain rfl := Option.some.inj H); (have hcz3_0 : w.cell? ⟨g1, 0, none⟩ = some (.int .i64 a1_0) := (Zb BK1.out 0).trans rfl); (have hcz3_1 : w.cell? ⟨g1, 1, none⟩ = some (.int .i64 a1_1) := (Zb BK1.out 1).trans rfl); (have hcz3_2 : w.cell? ⟨g1, 2, none⟩ = some (.slice A1_2 l1_2.length c1_2) := (Zb BK1.out 2).trans rfl); (have hcz3_3 : w.cell? ⟨g1, 3, none⟩ = some (.int .i64 a1_3) := (Zb BK1.out 3).trans rfl); (have hcz3_4 : w.cell? ⟨g1, 4, none⟩ = some (.int .u32 a1_4) := (Zb BK1.out 4).trans rfl); (have hfz3_0 := Zc BK1.out 0); (have hfz3_1 := Zc BK1.out 1); (have hfz3_2 := Zc BK1.out 2); (have hfz3_3 := Zc BK1.out 3); (have hfz3_4 := Zc BK1.out 4)
 go_enter Try.func28, Try.ntmps28
 go_wp2
 go_ret
 exact ⟨by first | rfl | (simp; done) | (simp [*]; done), by repeat (first | exact Drawn0.refl _ | apply Drawn0.step)⟩
def slices_Grow_Sint_int.f (l0 : List Int) (a1 : Int) : Option (List Int) := if 0 ≤ a1 then (if a1 < 17592186044416 then some [] else none) else none
theorem slices_Grow_Sint_int.toR {w : World} {base : Nat} {ok : Nat → Prop} {v : Value} (h : Kd.R (Kd.int .i64) 3 w base ok v []) : Kd.R (Kd.int .i64) 3 w base ok v [] := h
set_option maxHeartbeats 8000000 in
set_option maxRecDepth 100000 in
theorem slices_Grow_Sint_int.nil (a1 : Int) (r : List Int) (w : World) (h : slices_Grow_Sint_int.f [] a1 = some r) :
    Calls Try.prog 37 #[.slice none 0 0, .int .i64 a1] w fun e w' => ∃ v0_ : Value, e = .returned (v0_) ∧ Kd.R (Kd.int .i64) 3 w' w.heap.size (fun _ => True) v0_ r ∧ Below w.heap.size w w' := by
  unfold slices_Grow_Sint_int.f at h
  by_cases c1 : 0 ≤ a1
  case neg => rw [if_neg c1] at h; exact absurd h (by simp)
  rw [if_pos c1] at h
  by_cases c2 : a1 < 17592186044416
  case neg => rw [if_neg c2] at h; exact absurd h (by simp)
  rw [if_pos c2] at h
  obtain rfl := Option.some.inj h
  clear h
  have c1b : decide (a1 < 0) = false := decide_eq_false (by omega)
  have WR : Za (wrap64 a1 = a1) := ⟨by unfold wrap64; omega⟩
  have LM : Za (0 ≤ a1 ∧ a1 < 17592186044416) := ⟨⟨c1, c2⟩⟩
  by_cases c3 : a1 > 0
  · have c3b : decide (0 < wrap64 a1) = true := decide_eq_true (by rw [WR.out]; exact c3)
    clear c1 c2 c3
    have hl : (([] : List Int).length + (wrap64 a1).toNat) * 8 ≤ 140737488355328 := by have := LM.out; rw [WR.out]; simp only [List.length_nil]; omega
    have HL := Za.mk hl
    clear hl
    go_enter Try.func37, Try.ntmps37
    go_wp2_with (at_builtin; refine Kd.R_append_zeros (Kd.int .i64) (w0 := w) w.heap.size rfl (.tmp 20) (.tmp 21) 32 3 3 (.int .i64 0) 8 rfl Try.underlying32 Try.underlying3 info3 rfl (by decide) (by omega) (.slice none 0 0) ([] : List Int) 0 (wrap64 a1) (fun _ => True) rfl rfl rfl ?aF ?aO (by rw [WR.out]; exact LM.out.1) ?aB ?aS ?aL ?_; (case aF => exact (fun _ _ => trivial)); (case aO => exact Kd.R_nil _ _ _ _ _); (case aB => exact Below.refl _ _); (case aS => exact Nat.le_refl _); (case aL => exact HL.out); intro v1 w1 ho hb hg hat; obtain ⟨A1, k1, rfl⟩ := Kd.R_slice ho; have HO := Za.mk ho; have HB := Za.mk hb; clear ho hb hg hat)
    go_ret
    exact ⟨_, rfl, slices_Grow_Sint_int.toR (Kd.R_take (m := 0) HO.out (Nat.zero_le _)), HB.out⟩
  · have c3b : decide (0 < wrap64 a1) = false := decide_eq_false (by rw [WR.out]; exact c3)
    clear c1 c2 c3
    go_enter Try.func37, Try.ntmps37
    go_wp2
    go_ret
    exact ⟨_, rfl, slices_Grow_Sint_int.toR (Kd.R_nil _ _ _ _ _), Below.refl _ _⟩
end Go.Proofs.Ytofdaiknpficfaa.PKindsStills
