-- Printed by a turn of a template of the kit.
import Derived.Test.YtofdaiknpficfaaQPKindsStillsx0
import Derived.Test.YtofdaiknpficfaaQPKindsStillsx10
import Derived.Test.YtofdaiknpficfaaQPKindsStillsx13
namespace Go.Proofs.Ytofdaiknpficfaa.PKindsStills
open Go.RowKit Go.Proofs.YtofdaiknpficfaaW.PrintWords Go.Proofs.YtofdaiknpficfaaW.PrintLast Go.Proofs.YtofdaiknpficfaaW.PrintMore
attribute [local go_sem] max2_int min2_int max_two min_two max_three min_three max_four min_four
set_option linter.unusedVariables false
set_option linter.unusedSimpArgs false
def Zf1.l0 : Nat → List Int → Int → Int → Int → Int → List (List Int) → Int → Int → Int → Int → List (List Int) → Int → Int → Option (Int × Int × (List (List Int)) × Int × Int)
  | 0, _, _, _, _, _, _, _, _, _, _, _, _, _ => none
  | k + 1, x4, x15, x16, x282000, x282001, x282002, x282003, x282004, x297000, x297001, x297002, x297003, x297004 => if x16 < x15 then (if 0 ≤ x16 then (if x16 < (x4.length : Int) then (if 0 ≤ (rd x4 x16) then (Zf1.l0 k x4 x15 (wrap64 (x16 + 1)) x282000 x282001 x282002 x282003 x282004 x297000 x297001 x297002 x297003 (Go.bits .or .u32 x297004 (shl .u32 (Go.bits .and .u32 (shr .u32 x282004 (rd x4 x16)) 1) x16))) else (none)) else (none)) else (none)) else (some (x297000, x297001, x297002, x297003, x297004))
def Zf1.f (k : Nat) (a0_0 : Int) (a0_1 : Int) (l0_2 : List (List Int)) (a0_3 : Int) (a0_4 : Int) : Option (Int × Int × (List (List Int)) × Int × Int) := (Zs1.f k a0_0 a0_1 l0_2 a0_3 a0_4).bind fun t283 => ((Ze1.f k a0_0 a0_1 l0_2 a0_3 a0_4 t283).bind fun bt286 => (Zf1.l0 k bt286.2.2.2.2.2 (bt286.2.2.2.2.2.length : Int) 0 a0_0 a0_1 l0_2 a0_3 a0_4 bt286.1 bt286.2.1 bt286.2.2.1 bt286.2.2.2.1 bt286.2.2.2.2.1))
theorem Zf1.mono_l : ∀ k, (∀ y0 y1 y2 y3 y4 y5 y6 y7 y8 y9 y10 y11 y12, LeO (Zf1.l0 k y0 y1 y2 y3 y4 y5 y6 y7 y8 y9 y10 y11 y12) (Zf1.l0 (k + 1) y0 y1 y2 y3 y4 y5 y6 y7 y8 y9 y10 y11 y12))
  | 0 => fun _ _ _ _ _ _ _ _ _ _ _ _ _ r h => by simp [Zf1.l0] at h
  | k + 1 => by
    have ih0 := Zf1.mono_l k
    · intro y0 y1 y2 y3 y4 y5 y6 y7 y8 y9 y10 y11 y12
      unfold Zf1.l0
      repeat' first | (with_reducible exact ih0 _ _ _ _ _ _ _ _ _ _ _ _ _) | (with_reducible exact Zs1.mono _ _ _ _ _ _) | (with_reducible exact Ze1.mono _ _ _ _ _ _ _) | (with_reducible exact LeO.refl _) | (with_reducible exact LeO.none _) | (with_reducible refine LeO.ite ?_ ?_) | (with_reducible refine LeO.bind ?_ (fun _ => ?_))
theorem Zf1.mono : ∀ a0 a1 a2 a3 a4 k, LeO (Zf1.f k a0 a1 a2 a3 a4) (Zf1.f (k + 1) a0 a1 a2 a3 a4) := by
  intro a0 a1 a2 a3 a4 k
  have ih0 := Zf1.mono_l k
  unfold Zf1.f
  repeat' first | (with_reducible exact ih0 _ _ _ _ _ _ _ _ _ _ _ _ _) | (with_reducible exact Zs1.mono _ _ _ _ _ _) | (with_reducible exact Ze1.mono _ _ _ _ _ _ _) | (with_reducible exact LeO.refl _) | (with_reducible exact LeO.none _) | (with_reducible refine LeO.ite ?_ ?_) | (with_reducible refine LeO.bind ?_ (fun _ => ?_))
def Zf1.T1 : Bool × List (List Nat × List Nat) := (true, [([], []), ([], []), ([1], [1]), ([0, 2, 2], [0, 2]), ([3], [3]), ([4], [4]), ([4], [4]), ([], []), ([7, 5, 3, 0, 1, 2, 3, 4, 5, 7], [5, 7]), ([6, 8, 0, 1, 2, 3, 4, 5, 6, 7, 8], [6])])
def Zf1.B1 : List Nat := [0, 0, 2, 7, 15, 31, 31, 0, 191, 511]
theorem Zf1.tab1 : rtab .any (opsOf Try.f18 1) = Zf1.T1 := by kernel_rfl
theorem Zf1.bits1 : waitsOk Zf1.T1.2 Zf1.B1 = true := by kernel_rfl
def Zf1.T5 : Bool × List (List Nat × List Nat) := (true, [([], []), ([0], [0]), ([], []), ([2], [2]), ([], []), ([3, 4], [3, 4]), ([5], [5]), ([], []), ([6, 7], [6, 7]), ([1, 8], [1, 8]), ([0, 1, 2, 3, 4, 5, 6, 7, 8, 9], []), ([10, 9, 0, 1, 2, 3, 4, 5, 6, 7, 8, 9], [9, 10])])
def Zf1.B5 : List Nat := [0, 1, 0, 4, 0, 28, 60, 0, 252, 511, 1023, 2047]
theorem Zf1.tab5 : rtab .any (opsOf Try.f18 5) = Zf1.T5 := by kernel_rfl
theorem Zf1.bits5 : waitsOk Zf1.T5.2 Zf1.B5 = true := by kernel_rfl
set_option maxHeartbeats 8000000 in
set_option maxRecDepth 100000 in
theorem Zf1.calls (k : Nat) (a0_0 : Int) (a0_1 : Int) (A0_2 : Option Addr) (c0_2 : Nat) (l0_2 : List (List Int)) (a0_3 : Int) (a0_4 : Int) (r1 : Int) (r2 : Int) (r3 : List (List Int)) (r4 : Int) (r5 : Int) (w : World) (hr0_2 : Kd.C (Kd.slice 3 (Kd.int .i64)) w A0_2 l0_2.length l0_2) (hc0_2 : l0_2.length ≤ c0_2) (h : Zf1.f k a0_0 a0_1 l0_2 a0_3 a0_4 = some (r1, r2, r3, r4, r5)) :
    Calls Try.prog 18 #[.agg #[.int .i64 a0_0, .int .i64 a0_1, .slice A0_2 l0_2.length c0_2, .int .i64 a0_3, .int .u32 a0_4]] w fun e w' => ∃ v2_ : Value, e = .returned (.agg #[.int .i64 r1, .int .i64 r2, v2_, .int .i64 r4, .int .u32 r5]) ∧ Kd.S (Kd.slice 3 (Kd.int .i64)) 32 w' w.heap.size (fun _ => True) v2_ r3 ∧ Below w.heap.size w w' := by
 (have hu25 := Try.underlying25); (have HR0_2 := Za.mk hr0_2); (have HC0_2 := Za.mk hc0_2); (clear hr0_2 hc0_2); (have HB := Za.mk (Below.refl w.heap.size w)); (have H : ((Zs1.f k a0_0 a0_1 l0_2 a0_3 a0_4).bind fun t283 => ((Ze1.f k a0_0 a0_1 l0_2 a0_3 a0_4 t283).bind fun bt286 => (Zf1.l0 k bt286.2.2.2.2.2 (bt286.2.2.2.2.2.length : Int) 0 a0_0 a0_1 l0_2 a0_3 a0_4 bt286.1 bt286.2.1 bt286.2.2.1 bt286.2.2.2.1 bt286.2.2.2.2.1))) = some (r1, r2, r3, r4, r5) := h); (clear h); (replace H := Option.bind_eq_some_iff.mp H); (obtain ⟨t283, A20, H⟩ := H); (replace H : ((Ze1.f k a0_0 a0_1 l0_2 a0_3 a0_4 t283).bind fun bt286 => (Zf1.l0 k bt286.2.2.2.2.2 (bt286.2.2.2.2.2.length : Int) 0 a0_0 a0_1 l0_2 a0_3 a0_4 bt286.1 bt286.2.1 bt286.2.2.1 bt286.2.2.2.1 bt286.2.2.2.2.1)) = some (r1, r2, r3, r4, r5) := H); (have A2 := Za.mk A20); (clear A20); (replace H := Option.bind_eq_some_iff.mp H); (obtain ⟨⟨t286, t287, t288, t291, t292, t293⟩, A30, H⟩ := H); (replace H : (Zf1.l0 k t293 (t293.length : Int) 0 a0_0 a0_1 l0_2 a0_3 a0_4 t286 t287 t288 t291 t292) = some (r1, r2, r3, r4, r5) := H); (have A3 := Za.mk A30); (clear A30); (have H' := Za.mk H); (clear H)
 go_enter Try.func18, Try.ntmps18
 try go_wp2_with (first | ((with_reducible refine Zb1 (N := 1) rfl ?_); refine Zl1 ?hg (N := 1) ?hd (cs := #[.int .i64 a0_0, .int .i64 a0_1, .slice A0_2 l0_2.length c0_2, .int .i64 a0_3, .int .u32 a0_4]) (t := 25) ?hr ?_; (case hd => rfl); (case hg => rfl); (case hr => first | (go_simp; done) | (go_simp; rfl)); intro gb281 hg w4 hbox hb; have BK281 := Za.mk (hbox); have GW281 := Za.mk ((by rw [hg]; exact (Zl (by repeat (first | (with_reducible first | exact HB.out | apply zc1 | apply zc2 | apply zc3) | exact HB.out))) : w.heap.size ≤ gb281)); have GE281 := Za.mk ((by rw [hg]; exact (Zl (by repeat (first | (with_reducible first | exact HB.out | apply zc1 | apply zc2 | apply zc3) | exact HB.out))) : w.heap.size ≤ gb281)); replace HB := Za.mk (Zr (by repeat (first | (with_reducible first | exact HB.out | apply zc1 | apply zc2 | apply zc3) | exact HB.out)) hb); clear hb hbox hg) | ((with_reducible refine Zb1 (N := 2) rfl ?_); refine Zl1 ?hg (N := 2) ?hd (cs := #[.int .i64 0, .int .i64 0, .slice none 0 0, .int .i64 0, .int .u32 0]) (t := 25) ?hr ?_; (case hd => rfl); (case hg => rfl); (case hr => first | (go_simp; done) | (go_simp; rfl)); intro gb282 hg w5 hbox hb; have BK282 := Za.mk (hbox); have GW282 := Za.mk ((by rw [hg]; exact (Zl (by repeat (first | (with_reducible first | exact HB.out | apply zc1 | apply zc2 | apply zc3 | refine zc4 ?_ (by assumption)) | exact HB.out))) : w.heap.size ≤ gb282)); have GE282 := Za.mk ((by rw [hg]; exact (Zl (by repeat (first | (with_reducible first | exact HB.out | apply zc1 | apply zc2 | apply zc3 | refine zc4 ?_ (by assumption)) | exact HB.out))) : w.heap.size ≤ gb282)); replace HB := Za.mk (Zr (by repeat (first | (with_reducible first | exact HB.out | apply zc1 | apply zc2 | apply zc3 | refine zc4 ?_ (by assumption)) | exact HB.out)) hb); have NB281_282 := Za.mk ((by rw [hg]; exact Nat.ne_of_lt (blk_lt (g := gb281) (o := .cells #[.int .i64 a0_0, .int .i64 a0_1, .slice A0_2 l0_2.length c0_2, .int .i64 a0_3, .int .u32 a0_4] 25 (0, 0)) (by (with_reducible repeat (first | apply zb3 | apply zb2 | apply zb1)); exact BK281.out)) : gb281 ≠ gb282)); have NB282_281 := Za.mk ((by rw [hg]; exact Nat.ne_of_gt (blk_lt (g := gb281) (o := .cells #[.int .i64 a0_0, .int .i64 a0_1, .slice A0_2 l0_2.length c0_2, .int .i64 a0_3, .int .u32 a0_4] 25 (0, 0)) (by (with_reducible repeat (first | apply zb3 | apply zb2 | apply zb1)); exact BK281.out)) : gb282 ≠ gb281)); replace BK281 := Za.mk (Zp (g := gb281) (by (with_reducible repeat (first | apply zb3 | apply zb2 | apply zb1)); exact BK281.out) hb); clear hb hbox hg))
 (replace BK281 := Za.mk (Zj BK281.out)); (replace BK282 := Za.mk (Zj BK282.out)); (replace HB := Za.mk (below_drew1 HB.out))
 refine start_ (n := 10) (S := fun w' => w'.cell? ⟨gb281, 0, none⟩ = some (.int .i64 a0_0) ∧ w'.cell? ⟨gb281, 1, none⟩ = some (.int .i64 a0_1) ∧ w'.cell? ⟨gb281, 2, none⟩ = some (.slice A0_2 l0_2.length c0_2) ∧ w'.cell? ⟨gb281, 3, none⟩ = some (.int .i64 a0_3) ∧ w'.cell? ⟨gb281, 4, none⟩ = some (.int .u32 a0_4)) (ds := []) #[false, false, false, false, false, false, false, false, false, false] (by kernel_rfl) rfl rfl ⟨(Zb BK281.out 0).trans rfl, (Zb BK281.out 1).trans rfl, (Zb BK281.out 2).trans rfl, (Zb BK281.out 3).trans rfl, (Zb BK281.out 4).trans rfl⟩ (fun hHeld => ?_); refine with_tabW Zf1.tab1 Zf1.bits1 (fun HT_ HW_ => ?_)
 generalize w5.drew = w6 at BK281 BK282 HB hHeld ⊢
 refine take_ (i := 0) (N := some 8) (v := ?_) (a' := ?_) #[true, false, false, false, false, false, false, false, false, false] rfl rfl (Zi1 HT_.out HW_.out (by kernel_rfl)) (fun _ _ _ h => h) (Or.inl ⟨by rfl, ?_⟩) hHeld ?_ ?_
 rotate_left
 ·rintro w' ⟨s0, s1, s2, s3, s4⟩
  go_simp
  with_reducible rfl
 rotate_left
 ·simp only [Act.put, zp1, zp2, zp3, Zg, Zf]
  rfl
 refine take_ (i := 1) (N := some 9) (v := ?_) (a' := ?_) #[true, true, false, false, false, false, false, false, false, false] rfl rfl (Zi1 HT_.out HW_.out (by kernel_rfl)) (fun _ _ _ h => h) (Or.inl ⟨by rfl, ?_⟩) hHeld ?_ ?_
 rotate_left
 ·rintro w' ⟨s0, s1, s2, s3, s4⟩
  go_simp
  with_reducible rfl
 rotate_left
 ·simp only [Act.put, zp1, zp2, zp3, Zg, Zf]
  rfl
 refine join_ (σ := Value × Value × Value × Nat) 2 #[true, true, true, true, true, true, true, true, false, false] (fun s_ => [(10, s_.1), (11, .tuple #[.agg #[.int .i64 t286, .int .i64 t287, s_.2.1, .int .i64 t291, .int .u32 t292], s_.2.2.1]), (3, .pointer (some ⟨s_.2.2.2, 0, none⟩)), (7, .tuple #[.agg #[.int .i64 t286, .int .i64 t287, s_.2.1, .int .i64 t291, .int .u32 t292], s_.2.2.1]), (12, .agg #[.int .i64 t286, .int .i64 t287, s_.2.1, .int .i64 t291, .int .u32 t292]), (13, s_.2.2.1)]) (fun s_ w' => (w'.cell? ⟨gb281, 0, none⟩ = some (.int .i64 a0_0) ∧ w'.cell? ⟨gb281, 1, none⟩ = some (.int .i64 a0_1) ∧ w'.cell? ⟨gb281, 2, none⟩ = some (.slice A0_2 l0_2.length c0_2) ∧ w'.cell? ⟨gb281, 3, none⟩ = some (.int .i64 a0_3) ∧ w'.cell? ⟨gb281, 4, none⟩ = some (.int .u32 a0_4)) ∧ (Kd.R (Kd.int .i64) 3 w' w.heap.size (fun k_ => some k_ ≠ (s_.2.2.1 : Value).ownBlock) s_.1 t283) ∧ (Kd.S (Kd.slice 3 (Kd.int .i64)) 32 w' w.heap.size (fun k_ => some k_ ≠ (s_.1 : Value).ownBlock ∧ some k_ ≠ (s_.2.2.1 : Value).ownBlock) s_.2.1 t288) ∧ (Kd.R (Kd.int .i64) 3 w' w.heap.size (fun k_ => some k_ ≠ (s_.1 : Value).ownBlock) s_.2.2.1 t293) ∧ (w'.heap[gb281]? = some (.cells #[.int .i64 a0_0, .int .i64 a0_1, .slice A0_2 l0_2.length c0_2, .int .i64 a0_3, .int .u32 a0_4] 25 (0, 0))) ∧ (w'.heap[gb282]? = some (.cells #[.int .i64 0, .int .i64 0, .slice none 0 0, .int .i64 0, .int .u32 0] 25 (0, 0))) ∧ (w'.heap[s_.2.2.2]? = some (.cells #[.int .i64 0, .int .i64 0, .slice none 0 0, .int .i64 0, .int .u32 0] 25 (0, 0))) ∧ (w.heap.size ≤ s_.2.2.2) ∧ (w.heap.size ≤ s_.2.2.2) ∧ (gb281 ≠ s_.2.2.2) ∧ (s_.2.2.2 ≠ gb281) ∧ (gb282 ≠ s_.2.2.2) ∧ (s_.2.2.2 ≠ gb282) ∧ (Below w.heap.size w w')) ?_ ?_
 rotate_left
 ·intro hCont
  refine two_ (i := 2) (j := 7) (Ni := some 10) (Nj := some 3) #[true, true, true, false, false, false, false, false, false, false] #[true, true, false, false, false, false, false, true, false, false] rfl rfl rfl rfl (two_of HT_.out (by kernel_rfl)) (by decide) (by decide) (fun K hK => ?_) (fun K hK => ?_)
  rotate_left
  ·skip
   refine box_step ?hg (N := 3) ?hd (cs := #[.int .i64 0, .int .i64 0, .slice none 0 0, .int .i64 0, .int .u32 0]) (t := 25) ?hr ?_; (case hd => rfl); (case hg => rfl); (case hr => first | (go_simp; done) | (go_simp; rfl))
   intro gb296 hg w7 hbox hb
   (have BK296 := Za.mk (hbox)); (have GW296 := Za.mk ((by rw [hg]; exact (Zl (by repeat (first | (with_reducible first | exact HB.out | apply zc1 | apply zc2 | apply zc3 | refine zc4 ?_ (by assumption)) | exact HB.out))) : w.heap.size ≤ gb296))); (have GE296 := Za.mk ((by rw [hg]; exact (Zl (by repeat (first | (with_reducible first | exact HB.out | apply zc1 | apply zc2 | apply zc3 | refine zc4 ?_ (by assumption)) | exact HB.out))) : w.heap.size ≤ gb296))); (replace HB := Za.mk (Zr (by repeat (first | (with_reducible first | exact HB.out | apply zc1 | apply zc2 | apply zc3 | refine zc4 ?_ (by assumption)) | exact HB.out)) hb)); (have NB281_296 := Za.mk ((by rw [hg]; exact Nat.ne_of_lt (blk_lt (g := gb281) (o := .cells #[.int .i64 a0_0, .int .i64 a0_1, .slice A0_2 l0_2.length c0_2, .int .i64 a0_3, .int .u32 a0_4] 25 (0, 0)) (by (with_reducible repeat (first | apply zb3 | apply zb2 | apply zb1)); exact BK281.out)) : gb281 ≠ gb296))); (have NB296_281 := Za.mk ((by rw [hg]; exact Nat.ne_of_gt (blk_lt (g := gb281) (o := .cells #[.int .i64 a0_0, .int .i64 a0_1, .slice A0_2 l0_2.length c0_2, .int .i64 a0_3, .int .u32 a0_4] 25 (0, 0)) (by (with_reducible repeat (first | apply zb3 | apply zb2 | apply zb1)); exact BK281.out)) : gb296 ≠ gb281))); (replace BK281 := Za.mk (Zp (g := gb281) (by (with_reducible repeat (first | apply zb3 | apply zb2 | apply zb1)); exact BK281.out) hb)); (have NB282_296 := Za.mk ((by rw [hg]; exact Nat.ne_of_lt (blk_lt (g := gb282) (o := .cells #[.int .i64 0, .int .i64 0, .slice none 0 0, .int .i64 0, .int .u32 0] 25 (0, 0)) (by (with_reducible repeat (first | apply zb3 | apply zb2 | apply zb1)); exact BK282.out)) : gb282 ≠ gb296)))
   (have NB296_282 := Za.mk ((by rw [hg]; exact Nat.ne_of_gt (blk_lt (g := gb282) (o := .cells #[.int .i64 0, .int .i64 0, .slice none 0 0, .int .i64 0, .int .u32 0] 25 (0, 0)) (by (with_reducible repeat (first | apply zb3 | apply zb2 | apply zb1)); exact BK282.out)) : gb296 ≠ gb282))); (replace BK282 := Za.mk (Zp (g := gb282) (by (with_reducible repeat (first | apply zb3 | apply zb2 | apply zb1)); exact BK282.out) hb)); (clear hb hbox hg)
   refine hK.out _ _ ⟨(Zb BK281.out 0).trans rfl, (Zb BK281.out 1).trans rfl, (Zb BK281.out 2).trans rfl, (Zb BK281.out 3).trans rfl, (Zb BK281.out 4).trans rfl⟩ (fun hHeld => ?_)
   clear hK K
   refine norm_ (a' := ?_) ?_ ?_
   rotate_left
   ·show Act.put _ (some 3) _ = _
    simp only [Act.put, zp1, zp2, zp3, Zg, Zf]
    rfl
   refine one_ (i := 2) (N := some 10) #[true, true, true, false, false, false, false, true, false, false] rfl rfl (one_of HT_.out (by kernel_rfl)) (by decide) (fun K hK => ?_)
   refine goes_ Try.func33 (by kernel_rfl) rfl #[.agg #[.int .i64 a0_0, .int .i64 a0_1, .slice A0_2 l0_2.length c0_2, .int .i64 a0_3, .int .u32 a0_4]] (by rfl) rfl rfl (by (try simp only [List.map_toArray, List.map_cons, List.map_nil]); first | done | rfl | (simp only [List.length_drop, List.length_take]; rfl)) ?_
   with_reducible refine (Zs1.calls k a0_0 a0_1 _ _ l0_2 a0_3 a0_4 t283 _ ?side1 ?side2 A2.out).mono ?_
   (case side1 => repeat (first | exact (Kd.C_below HR0_2.out HB.out) | (with_reducible refine Kd.C_alloc ?_ _) | (with_reducible refine Kd.C_drewN ?_ _) | (with_reducible refine Kd.C_drew ?_)))
   (case side2 => exact HC0_2.out)
   rintro e w8 ⟨v284, rfl, ho0, hb⟩
   refine ⟨_, rfl, ?_⟩
   (have HO285 := Za.mk (Kd.R_lower ho0 (Zl (by repeat (first | (with_reducible first | exact HB.out | apply zc1 | apply zc2 | apply zc3 | refine zc4 ?_ (by assumption)) | exact HB.out))))); (replace BK281 := Za.mk (Zp (g := gb281) (by (with_reducible repeat (first | apply zb3 | apply zb2 | apply zb1)); exact BK281.out) hb)); (replace BK282 := Za.mk (Zp (g := gb282) (by (with_reducible repeat (first | apply zb3 | apply zb2 | apply zb1)); exact BK282.out) hb)); (replace BK296 := Za.mk (Zp (g := gb296) (by (with_reducible repeat (first | apply zb3 | apply zb2 | apply zb1)); exact BK296.out) hb)); (replace HB := Za.mk (Zr (by repeat (first | (with_reducible first | exact HB.out | apply zc1 | apply zc2 | apply zc3 | refine zc4 ?_ (by assumption)) | exact HB.out)) hb)); ((try clear hb)); ((try clear hb2)); ((try clear hk)); ((try clear hi)); ((try clear ho0)); (obtain ⟨Ao9, co9, eo9⟩ := Kd.R_slice HO285.out)
   (first | subst eo9 | (injection eo9 with f1_ f2_ f3_; have f4_ := f1_.symm; have f5_ := f3_.symm; clear f1_ f2_ f3_; subst f4_; subst f5_))
   refine hK.out _ _ ⟨(Zb BK281.out 0).trans rfl, (Zb BK281.out 1).trans rfl, (Zb BK281.out 2).trans rfl, (Zb BK281.out 3).trans rfl, (Zb BK281.out 4).trans rfl⟩ (fun hHeld => ?_)
   clear hK K
   refine norm_ (a' := ?_) ?_ ?_
   rotate_left
   ·show Act.put _ (some 10) _ = _
    simp only [Act.put, zp1, zp2, zp3, Zg, Zf]
    rfl
   refine one_ (i := 3) (N := some 11) #[true, true, true, true, false, false, false, true, false, false] rfl rfl (one_of HT_.out (by kernel_rfl)) (by decide) (fun K hK => ?_)
   refine goes_ Try.func32 (by kernel_rfl) rfl #[.agg #[.int .i64 a0_0, .int .i64 a0_1, .slice A0_2 l0_2.length c0_2, .int .i64 a0_3, .int .u32 a0_4], .slice Ao9 t283.length co9] (by rfl) rfl rfl (by (try simp only [List.map_toArray, List.map_cons, List.map_nil]); first | done | rfl | (simp only [List.length_drop, List.length_take]; rfl)) ?_
   with_reducible refine (Ze1.calls k a0_0 a0_1 _ _ l0_2 a0_3 a0_4 _ _ t283 t286 t287 t288 t291 t292 t293 _ ?side1 ?side2 ?side3 ?side4 A3.out).mono ?_
   (case side1 => repeat (first | exact (Kd.C_below HR0_2.out HB.out) | (with_reducible refine Kd.C_alloc ?_ _) | (with_reducible refine Kd.C_drewN ?_ _) | (with_reducible refine Kd.C_drew ?_)))
   (case side2 => exact HC0_2.out)
   (case side3 => repeat (first | exact (Kd.R_reads' HO285.out).2.2 | (with_reducible refine Kd.C_alloc ?_ _) | (with_reducible refine Kd.C_drewN ?_ _) | (with_reducible refine Kd.C_drew ?_)))
   (case side4 => exact (Kd.R_reads' HO285.out).2.1)
   rintro e w10 ⟨v289, v294, rfl, ho0, ho1, hb⟩
   refine ⟨_, rfl, ?_⟩
   (have HO290 := Za.mk (Kd.S_lower (Kd.S_new' ho0 (Kd.R_lt (by (with_reducible repeat (first | apply Kd.R_alloc | apply Kd.R_drewN | apply Kd.R_drew)); exact HO285.out))) (Zl (by repeat (first | (with_reducible first | exact HB.out | apply zc1 | apply zc2 | apply zc3 | refine zc4 ?_ (by assumption)) | exact HB.out))))); (have HO295 := Za.mk (Kd.R_lower (Kd.R_new' ho1 (Kd.R_lt (by (with_reducible repeat (first | apply Kd.R_alloc | apply Kd.R_drewN | apply Kd.R_drew)); exact HO285.out))) (Zl (by repeat (first | (with_reducible first | exact HB.out | apply zc1 | apply zc2 | apply zc3 | refine zc4 ?_ (by assumption)) | exact HB.out))))); (replace HO285 := Za.mk (Kd.R_elder' (by (with_reducible repeat (first | apply Kd.R_alloc | apply Kd.R_drewN | apply Kd.R_drew)); exact HO285.out) (Kd.R_base ho1) hb)); (replace BK281 := Za.mk (Zp (g := gb281) (by (with_reducible repeat (first | apply zb3 | apply zb2 | apply zb1)); exact BK281.out) hb)); (replace BK282 := Za.mk (Zp (g := gb282) (by (with_reducible repeat (first | apply zb3 | apply zb2 | apply zb1)); exact BK282.out) hb)); (replace BK296 := Za.mk (Zp (g := gb296) (by (with_reducible repeat (first | apply zb3 | apply zb2 | apply zb1)); exact BK296.out) hb)); (replace HB := Za.mk (Zr (by repeat (first | (with_reducible first | exact HB.out | apply zc1 | apply zc2 | apply zc3 | refine zc4 ?_ (by assumption)) | exact HB.out)) hb)); ((try clear hb)); ((try clear hb2)); ((try clear hk)); ((try clear hi)); ((try clear ho0))
   (try clear ho1)
   refine hK.out _ _ ⟨(Zb BK281.out 0).trans rfl, (Zb BK281.out 1).trans rfl, (Zb BK281.out 2).trans rfl, (Zb BK281.out 3).trans rfl, (Zb BK281.out 4).trans rfl⟩ (fun hHeld => ?_)
   clear hK K
   refine norm_ (a' := ?_) ?_ ?_
   rotate_left
   ·show Act.put _ (some 11) _ = _
    simp only [Act.put, zp1, zp2, zp3, Zg, Zf]
    rfl
   refine pure_ (i := 4) (N := some 7) (v := ?_) (a' := ?_) #[true, true, true, true, true, false, false, true, false, false] rfl rfl (Zm HT_.out (by kernel_rfl)) (fun _ _ _ h => h) (Or.inl ⟨by rfl, ?_⟩) ?_ ?_
   rotate_left;·(intro w';go_simp;with_reducible rfl)
   rotate_left;·(simp only [Act.put, zp1, zp2, zp3, Zg, Zf];rfl)
   refine pure_ (i := 5) (N := some 12) (v := ?_) (a' := ?_) #[true, true, true, true, true, true, false, true, false, false] rfl rfl (Zm HT_.out (by kernel_rfl)) (fun _ _ _ h => h) (Or.inl ⟨by rfl, ?_⟩) ?_ ?_
   rotate_left;·(intro w';go_simp;with_reducible rfl)
   rotate_left;·(simp only [Act.put, zp1, zp2, zp3, Zg, Zf];rfl)
   refine pure_ (i := 6) (N := some 13) (v := ?_) (a' := ?_) #[true, true, true, true, true, true, true, true, false, false] rfl rfl (Zm HT_.out (by kernel_rfl)) (fun _ _ _ h => h) (Or.inl ⟨by rfl, ?_⟩) ?_ ?_
   rotate_left;·(intro w';go_simp;with_reducible rfl)
   rotate_left;·(simp only [Act.put, zp1, zp2, zp3, Zg, Zf];rfl)
   exact norm_ (by simp only [putAll, Act.put, zp1, zp2, zp3]) (hCont (.slice Ao9 t283.length co9, v289, v294, gb296) _ ⟨hHeld, (by (with_reducible repeat (first | apply Kd.R_alloc | apply Kd.R_drewN | apply Kd.R_drew)); exact Kd.R_mono HO285.out (fun _ hk => hk.2)), (by (with_reducible repeat (first | apply Kd.S_alloc | apply Kd.S_drewN | apply Kd.S_drew)); exact Kd.S_mono HO290.out (fun _ hk => ⟨hk.2, hk.1⟩)), (by (with_reducible repeat (first | apply Kd.R_alloc | apply Kd.R_drewN | apply Kd.R_drew)); exact Kd.R_mono HO295.out (fun _ hk => hk.2)), (by (with_reducible repeat (first | apply zb3 | apply zb2 | apply zb1)); exact BK281.out), (by (with_reducible repeat (first | apply zb3 | apply zb2 | apply zb1)); exact BK282.out), (by (with_reducible repeat (first | apply zb3 | apply zb2 | apply zb1)); exact BK296.out), GW296.out, GE296.out, NB281_296.out, NB296_281.out, NB282_296.out, NB296_282.out, (by repeat (first | (with_reducible first | exact HB.out | apply zc1 | apply zc2 | apply zc3 | refine zc4 ?_ (by assumption)) | exact HB.out))⟩)
  skip
  refine goes_ Try.func33 (by kernel_rfl) rfl #[.agg #[.int .i64 a0_0, .int .i64 a0_1, .slice A0_2 l0_2.length c0_2, .int .i64 a0_3, .int .u32 a0_4]] (by rfl) rfl rfl (by (try simp only [List.map_toArray, List.map_cons, List.map_nil]); first | done | rfl | (simp only [List.length_drop, List.length_take]; rfl)) ?_
  with_reducible refine (Zs1.calls k a0_0 a0_1 _ _ l0_2 a0_3 a0_4 t283 _ ?side1 ?side2 A2.out).mono ?_
  (case side1 => repeat (first | exact (Kd.C_below HR0_2.out HB.out) | (with_reducible refine Kd.C_alloc ?_ _) | (with_reducible refine Kd.C_drewN ?_ _) | (with_reducible refine Kd.C_drew ?_)))
  (case side2 => exact HC0_2.out)
  rintro e w7 ⟨v284, rfl, ho0, hb⟩
  refine ⟨_, rfl, ?_⟩
  (have HO285 := Za.mk (Kd.R_lower ho0 (Zl (by repeat (first | (with_reducible first | exact HB.out | apply zc1 | apply zc2 | apply zc3 | refine zc4 ?_ (by assumption)) | exact HB.out))))); (replace BK281 := Za.mk (Zp (g := gb281) (by (with_reducible repeat (first | apply zb3 | apply zb2 | apply zb1)); exact BK281.out) hb)); (replace BK282 := Za.mk (Zp (g := gb282) (by (with_reducible repeat (first | apply zb3 | apply zb2 | apply zb1)); exact BK282.out) hb)); (replace HB := Za.mk (Zr (by repeat (first | (with_reducible first | exact HB.out | apply zc1 | apply zc2 | apply zc3 | refine zc4 ?_ (by assumption)) | exact HB.out)) hb)); ((try clear hb)); ((try clear hb2)); ((try clear hk)); ((try clear hi)); ((try clear ho0)); (obtain ⟨Ao8, co8, eo8⟩ := Kd.R_slice HO285.out)
  (first | subst eo8 | (injection eo8 with f1_ f2_ f3_; have f4_ := f1_.symm; have f5_ := f3_.symm; clear f1_ f2_ f3_; subst f4_; subst f5_))
  refine hK.out _ _ ⟨(Zb BK281.out 0).trans rfl, (Zb BK281.out 1).trans rfl, (Zb BK281.out 2).trans rfl, (Zb BK281.out 3).trans rfl, (Zb BK281.out 4).trans rfl⟩ (fun hHeld => ?_)
  clear hK K
  refine norm_ (a' := ?_) ?_ ?_
  rotate_left
  ·show Act.put _ (some 10) _ = _
   simp only [Act.put, zp1, zp2, zp3, Zg, Zf]
   rfl
  refine two_ (i := 3) (j := 7) (Ni := some 11) (Nj := some 3) #[true, true, true, true, false, false, false, false, false, false] #[true, true, true, false, false, false, false, true, false, false] rfl rfl rfl rfl (two_of HT_.out (by kernel_rfl)) (by decide) (by decide) (fun K hK => ?_) (fun K hK => ?_)
  ·skip
   refine goes_ Try.func32 (by kernel_rfl) rfl #[.agg #[.int .i64 a0_0, .int .i64 a0_1, .slice A0_2 l0_2.length c0_2, .int .i64 a0_3, .int .u32 a0_4], .slice Ao8 t283.length co8] (by rfl) rfl rfl (by (try simp only [List.map_toArray, List.map_cons, List.map_nil]); first | done | rfl | (simp only [List.length_drop, List.length_take]; rfl)) ?_
   with_reducible refine (Ze1.calls k a0_0 a0_1 _ _ l0_2 a0_3 a0_4 _ _ t283 t286 t287 t288 t291 t292 t293 _ ?side1 ?side2 ?side3 ?side4 A3.out).mono ?_
   (case side1 => repeat (first | exact (Kd.C_below HR0_2.out HB.out) | (with_reducible refine Kd.C_alloc ?_ _) | (with_reducible refine Kd.C_drewN ?_ _) | (with_reducible refine Kd.C_drew ?_)))
   (case side2 => exact HC0_2.out)
   (case side3 => repeat (first | exact (Kd.R_reads' HO285.out).2.2 | (with_reducible refine Kd.C_alloc ?_ _) | (with_reducible refine Kd.C_drewN ?_ _) | (with_reducible refine Kd.C_drew ?_)))
   (case side4 => exact (Kd.R_reads' HO285.out).2.1)
   rintro e w9 ⟨v289, v294, rfl, ho0, ho1, hb⟩
   refine ⟨_, rfl, ?_⟩
   (have HO290 := Za.mk (Kd.S_lower (Kd.S_new' ho0 (Kd.R_lt (by (with_reducible repeat (first | apply Kd.R_alloc | apply Kd.R_drewN | apply Kd.R_drew)); exact HO285.out))) (Zl (by repeat (first | (with_reducible first | exact HB.out | apply zc1 | apply zc2 | apply zc3 | refine zc4 ?_ (by assumption)) | exact HB.out))))); (have HO295 := Za.mk (Kd.R_lower (Kd.R_new' ho1 (Kd.R_lt (by (with_reducible repeat (first | apply Kd.R_alloc | apply Kd.R_drewN | apply Kd.R_drew)); exact HO285.out))) (Zl (by repeat (first | (with_reducible first | exact HB.out | apply zc1 | apply zc2 | apply zc3 | refine zc4 ?_ (by assumption)) | exact HB.out))))); (replace HO285 := Za.mk (Kd.R_elder' (by (with_reducible repeat (first | apply Kd.R_alloc | apply Kd.R_drewN | apply Kd.R_drew)); exact HO285.out) (Kd.R_base ho1) hb)); (replace BK281 := Za.mk (Zp (g := gb281) (by (with_reducible repeat (first | apply zb3 | apply zb2 | apply zb1)); exact BK281.out) hb)); (replace BK282 := Za.mk (Zp (g := gb282) (by (with_reducible repeat (first | apply zb3 | apply zb2 | apply zb1)); exact BK282.out) hb)); (replace HB := Za.mk (Zr (by repeat (first | (with_reducible first | exact HB.out | apply zc1 | apply zc2 | apply zc3 | refine zc4 ?_ (by assumption)) | exact HB.out)) hb)); ((try clear hb)); ((try clear hb2)); ((try clear hk)); ((try clear hi)); ((try clear ho0)); ((try clear ho1))
   refine hK.out _ _ ⟨(Zb BK281.out 0).trans rfl, (Zb BK281.out 1).trans rfl, (Zb BK281.out 2).trans rfl, (Zb BK281.out 3).trans rfl, (Zb BK281.out 4).trans rfl⟩ (fun hHeld => ?_)
   clear hK K
   refine norm_ (a' := ?_) ?_ ?_
   rotate_left
   ·show Act.put _ (some 11) _ = _
    simp only [Act.put, zp1, zp2, zp3, Zg, Zf]
    rfl
   refine pure_ (i := 4) (N := some 7) (v := ?_) (a' := ?_) #[true, true, true, true, true, false, false, false, false, false] rfl rfl (Zm HT_.out (by kernel_rfl)) (fun _ _ _ h => h) (Or.inl ⟨by rfl, ?_⟩) ?_ ?_
   rotate_left;·(intro w';go_simp;with_reducible rfl)
   rotate_left;·(simp only [Act.put, zp1, zp2, zp3, Zg, Zf];rfl)
   refine pure_ (i := 5) (N := some 12) (v := ?_) (a' := ?_) #[true, true, true, true, true, true, false, false, false, false] rfl rfl (Zm HT_.out (by kernel_rfl)) (fun _ _ _ h => h) (Or.inl ⟨by rfl, ?_⟩) ?_ ?_
   rotate_left;·(intro w';go_simp;with_reducible rfl)
   rotate_left;·(simp only [Act.put, zp1, zp2, zp3, Zg, Zf];rfl)
   refine pure_ (i := 6) (N := some 13) (v := ?_) (a' := ?_) #[true, true, true, true, true, true, true, false, false, false] rfl rfl (Zm HT_.out (by kernel_rfl)) (fun _ _ _ h => h) (Or.inl ⟨by rfl, ?_⟩) ?_ ?_
   rotate_left;·(intro w';go_simp;with_reducible rfl)
   rotate_left;·(simp only [Act.put, zp1, zp2, zp3, Zg, Zf];rfl)
   refine one_ (i := 7) (N := some 3) #[true, true, true, true, true, true, true, true, false, false] rfl rfl (one_of HT_.out (by kernel_rfl)) (by decide) (fun K hK => ?_)
   refine box_step ?hg (N := 3) ?hd (cs := #[.int .i64 0, .int .i64 0, .slice none 0 0, .int .i64 0, .int .u32 0]) (t := 25) ?hr ?_; (case hd => rfl); (case hg => rfl); (case hr => first | (go_simp; done) | (go_simp; rfl))
   intro gb296 hg w10 hbox hb
   (replace HO285 := Za.mk (Kd.R_below (by (with_reducible repeat (first | apply Kd.R_alloc | apply Kd.R_drewN | apply Kd.R_drew)); exact HO285.out) hb)); (replace HO290 := Za.mk (Kd.S_below (by (with_reducible repeat (first | apply Kd.S_alloc | apply Kd.S_drewN | apply Kd.S_drew)); exact HO290.out) hb)); (replace HO295 := Za.mk (Kd.R_below (by (with_reducible repeat (first | apply Kd.R_alloc | apply Kd.R_drewN | apply Kd.R_drew)); exact HO295.out) hb)); (have BK296 := Za.mk (hbox)); (have GW296 := Za.mk ((by rw [hg]; exact (Zl (by repeat (first | (with_reducible first | exact HB.out | apply zc1 | apply zc2 | apply zc3 | refine zc4 ?_ (by assumption)) | exact HB.out))) : w.heap.size ≤ gb296))); (have GE296 := Za.mk ((by rw [hg]; exact (Zl (by repeat (first | (with_reducible first | exact HB.out | apply zc1 | apply zc2 | apply zc3 | refine zc4 ?_ (by assumption)) | exact HB.out))) : w.heap.size ≤ gb296))); (replace HB := Za.mk (Zr (by repeat (first | (with_reducible first | exact HB.out | apply zc1 | apply zc2 | apply zc3 | refine zc4 ?_ (by assumption)) | exact HB.out)) hb)); (have NB281_296 := Za.mk ((by rw [hg]; exact Nat.ne_of_lt (blk_lt (g := gb281) (o := .cells #[.int .i64 a0_0, .int .i64 a0_1, .slice A0_2 l0_2.length c0_2, .int .i64 a0_3, .int .u32 a0_4] 25 (0, 0)) (by (with_reducible repeat (first | apply zb3 | apply zb2 | apply zb1)); exact BK281.out)) : gb281 ≠ gb296))); (have NB296_281 := Za.mk ((by rw [hg]; exact Nat.ne_of_gt (blk_lt (g := gb281) (o := .cells #[.int .i64 a0_0, .int .i64 a0_1, .slice A0_2 l0_2.length c0_2, .int .i64 a0_3, .int .u32 a0_4] 25 (0, 0)) (by (with_reducible repeat (first | apply zb3 | apply zb2 | apply zb1)); exact BK281.out)) : gb296 ≠ gb281)))
   (replace BK281 := Za.mk (Zp (g := gb281) (by (with_reducible repeat (first | apply zb3 | apply zb2 | apply zb1)); exact BK281.out) hb)); (have NB282_296 := Za.mk ((by rw [hg]; exact Nat.ne_of_lt (blk_lt (g := gb282) (o := .cells #[.int .i64 0, .int .i64 0, .slice none 0 0, .int .i64 0, .int .u32 0] 25 (0, 0)) (by (with_reducible repeat (first | apply zb3 | apply zb2 | apply zb1)); exact BK282.out)) : gb282 ≠ gb296))); (have NB296_282 := Za.mk ((by rw [hg]; exact Nat.ne_of_gt (blk_lt (g := gb282) (o := .cells #[.int .i64 0, .int .i64 0, .slice none 0 0, .int .i64 0, .int .u32 0] 25 (0, 0)) (by (with_reducible repeat (first | apply zb3 | apply zb2 | apply zb1)); exact BK282.out)) : gb296 ≠ gb282))); (replace BK282 := Za.mk (Zp (g := gb282) (by (with_reducible repeat (first | apply zb3 | apply zb2 | apply zb1)); exact BK282.out) hb)); (clear hb hbox hg)
   refine hK.out _ _ ⟨(Zb BK281.out 0).trans rfl, (Zb BK281.out 1).trans rfl, (Zb BK281.out 2).trans rfl, (Zb BK281.out 3).trans rfl, (Zb BK281.out 4).trans rfl⟩ (fun hHeld => ?_)
   clear hK K
   refine norm_ (a' := ?_) ?_ ?_
   rotate_left
   ·show Act.put _ (some 3) _ = _
    simp only [Act.put, zp1, zp2, zp3, Zg, Zf]
    rfl
   exact norm_ (by simp only [putAll, Act.put, zp1, zp2, zp3]) (hCont (.slice Ao8 t283.length co8, v289, v294, gb296) _ ⟨hHeld, (by (with_reducible repeat (first | apply Kd.R_alloc | apply Kd.R_drewN | apply Kd.R_drew)); exact Kd.R_mono HO285.out (fun _ hk => hk.2)), (by (with_reducible repeat (first | apply Kd.S_alloc | apply Kd.S_drewN | apply Kd.S_drew)); exact Kd.S_mono HO290.out (fun _ hk => ⟨hk.2, hk.1⟩)), (by (with_reducible repeat (first | apply Kd.R_alloc | apply Kd.R_drewN | apply Kd.R_drew)); exact Kd.R_mono HO295.out (fun _ hk => hk.2)), (by (with_reducible repeat (first | apply zb3 | apply zb2 | apply zb1)); exact BK281.out), (by (with_reducible repeat (first | apply zb3 | apply zb2 | apply zb1)); exact BK282.out), (by (with_reducible repeat (first | apply zb3 | apply zb2 | apply zb1)); exact BK296.out), GW296.out, GE296.out, NB281_296.out, NB296_281.out, NB282_296.out, NB296_282.out, (by repeat (first | (with_reducible first | exact HB.out | apply zc1 | apply zc2 | apply zc3 | refine zc4 ?_ (by assumption)) | exact HB.out))⟩)
  skip
  refine box_step ?hg (N := 3) ?hd (cs := #[.int .i64 0, .int .i64 0, .slice none 0 0, .int .i64 0, .int .u32 0]) (t := 25) ?hr ?_; (case hd => rfl); (case hg => rfl); (case hr => first | (go_simp; done) | (go_simp; rfl))
  intro gb296 hg w8 hbox hb
  (replace HO285 := Za.mk (Kd.R_below (by (with_reducible repeat (first | apply Kd.R_alloc | apply Kd.R_drewN | apply Kd.R_drew)); exact HO285.out) hb)); (have BK296 := Za.mk (hbox)); (have GW296 := Za.mk ((by rw [hg]; exact (Zl (by repeat (first | (with_reducible first | exact HB.out | apply zc1 | apply zc2 | apply zc3 | refine zc4 ?_ (by assumption)) | exact HB.out))) : w.heap.size ≤ gb296))); (have GE296 := Za.mk ((by rw [hg]; exact (Zl (by repeat (first | (with_reducible first | exact HB.out | apply zc1 | apply zc2 | apply zc3 | refine zc4 ?_ (by assumption)) | exact HB.out))) : w.heap.size ≤ gb296))); (replace HB := Za.mk (Zr (by repeat (first | (with_reducible first | exact HB.out | apply zc1 | apply zc2 | apply zc3 | refine zc4 ?_ (by assumption)) | exact HB.out)) hb)); (have NB281_296 := Za.mk ((by rw [hg]; exact Nat.ne_of_lt (blk_lt (g := gb281) (o := .cells #[.int .i64 a0_0, .int .i64 a0_1, .slice A0_2 l0_2.length c0_2, .int .i64 a0_3, .int .u32 a0_4] 25 (0, 0)) (by (with_reducible repeat (first | apply zb3 | apply zb2 | apply zb1)); exact BK281.out)) : gb281 ≠ gb296))); (have NB296_281 := Za.mk ((by rw [hg]; exact Nat.ne_of_gt (blk_lt (g := gb281) (o := .cells #[.int .i64 a0_0, .int .i64 a0_1, .slice A0_2 l0_2.length c0_2, .int .i64 a0_3, .int .u32 a0_4] 25 (0, 0)) (by (with_reducible repeat (first | apply zb3 | apply zb2 | apply zb1)); exact BK281.out)) : gb296 ≠ gb281))); (replace BK281 := Za.mk (Zp (g := gb281) (by (with_reducible repeat (first | apply zb3 | apply zb2 | apply zb1)); exact BK281.out) hb))
  (have NB282_296 := Za.mk ((by rw [hg]; exact Nat.ne_of_lt (blk_lt (g := gb282) (o := .cells #[.int .i64 0, .int .i64 0, .slice none 0 0, .int .i64 0, .int .u32 0] 25 (0, 0)) (by (with_reducible repeat (first | apply zb3 | apply zb2 | apply zb1)); exact BK282.out)) : gb282 ≠ gb296))); (have NB296_282 := Za.mk ((by rw [hg]; exact Nat.ne_of_gt (blk_lt (g := gb282) (o := .cells #[.int .i64 0, .int .i64 0, .slice none 0 0, .int .i64 0, .int .u32 0] 25 (0, 0)) (by (with_reducible repeat (first | apply zb3 | apply zb2 | apply zb1)); exact BK282.out)) : gb296 ≠ gb282))); (replace BK282 := Za.mk (Zp (g := gb282) (by (with_reducible repeat (first | apply zb3 | apply zb2 | apply zb1)); exact BK282.out) hb)); (clear hb hbox hg); (obtain ⟨Ao9, co9, eo9⟩ := Kd.R_slice HO285.out)
  (first | subst eo9 | (injection eo9 with f1_ f2_ f3_; have f4_ := f1_.symm; have f5_ := f3_.symm; clear f1_ f2_ f3_; subst f4_; subst f5_))
  refine hK.out _ _ ⟨(Zb BK281.out 0).trans rfl, (Zb BK281.out 1).trans rfl, (Zb BK281.out 2).trans rfl, (Zb BK281.out 3).trans rfl, (Zb BK281.out 4).trans rfl⟩ (fun hHeld => ?_)
  clear hK K
  refine norm_ (a' := ?_) ?_ ?_
  rotate_left
  ·show Act.put _ (some 3) _ = _
   simp only [Act.put, zp1, zp2, zp3, Zg, Zf]
   rfl
  refine one_ (i := 3) (N := some 11) #[true, true, true, true, false, false, false, true, false, false] rfl rfl (one_of HT_.out (by kernel_rfl)) (by decide) (fun K hK => ?_)
  refine goes_ Try.func32 (by kernel_rfl) rfl #[.agg #[.int .i64 a0_0, .int .i64 a0_1, .slice A0_2 l0_2.length c0_2, .int .i64 a0_3, .int .u32 a0_4], .slice Ao9 t283.length co9] (by rfl) rfl rfl (by (try simp only [List.map_toArray, List.map_cons, List.map_nil]); first | done | rfl | (simp only [List.length_drop, List.length_take]; rfl)) ?_
  with_reducible refine (Ze1.calls k a0_0 a0_1 _ _ l0_2 a0_3 a0_4 _ _ t283 t286 t287 t288 t291 t292 t293 _ ?side1 ?side2 ?side3 ?side4 A3.out).mono ?_
  (case side1 => repeat (first | exact (Kd.C_below HR0_2.out HB.out) | (with_reducible refine Kd.C_alloc ?_ _) | (with_reducible refine Kd.C_drewN ?_ _) | (with_reducible refine Kd.C_drew ?_)))
  (case side2 => exact HC0_2.out)
  (case side3 => repeat (first | exact (Kd.R_reads' HO285.out).2.2 | (with_reducible refine Kd.C_alloc ?_ _) | (with_reducible refine Kd.C_drewN ?_ _) | (with_reducible refine Kd.C_drew ?_)))
  (case side4 => exact (Kd.R_reads' HO285.out).2.1)
  rintro e w10 ⟨v289, v294, rfl, ho0, ho1, hb⟩
  refine ⟨_, rfl, ?_⟩
  (have HO290 := Za.mk (Kd.S_lower (Kd.S_new' ho0 (Kd.R_lt (by (with_reducible repeat (first | apply Kd.R_alloc | apply Kd.R_drewN | apply Kd.R_drew)); exact HO285.out))) (Zl (by repeat (first | (with_reducible first | exact HB.out | apply zc1 | apply zc2 | apply zc3 | refine zc4 ?_ (by assumption)) | exact HB.out))))); (have HO295 := Za.mk (Kd.R_lower (Kd.R_new' ho1 (Kd.R_lt (by (with_reducible repeat (first | apply Kd.R_alloc | apply Kd.R_drewN | apply Kd.R_drew)); exact HO285.out))) (Zl (by repeat (first | (with_reducible first | exact HB.out | apply zc1 | apply zc2 | apply zc3 | refine zc4 ?_ (by assumption)) | exact HB.out))))); (replace HO285 := Za.mk (Kd.R_elder' (by (with_reducible repeat (first | apply Kd.R_alloc | apply Kd.R_drewN | apply Kd.R_drew)); exact HO285.out) (Kd.R_base ho1) hb)); (replace BK281 := Za.mk (Zp (g := gb281) (by (with_reducible repeat (first | apply zb3 | apply zb2 | apply zb1)); exact BK281.out) hb)); (replace BK282 := Za.mk (Zp (g := gb282) (by (with_reducible repeat (first | apply zb3 | apply zb2 | apply zb1)); exact BK282.out) hb)); (replace BK296 := Za.mk (Zp (g := gb296) (by (with_reducible repeat (first | apply zb3 | apply zb2 | apply zb1)); exact BK296.out) hb)); (replace HB := Za.mk (Zr (by repeat (first | (with_reducible first | exact HB.out | apply zc1 | apply zc2 | apply zc3 | refine zc4 ?_ (by assumption)) | exact HB.out)) hb)); ((try clear hb)); ((try clear hb2)); ((try clear hk)); ((try clear hi)); ((try clear ho0))
  (try clear ho1)
  refine hK.out _ _ ⟨(Zb BK281.out 0).trans rfl, (Zb BK281.out 1).trans rfl, (Zb BK281.out 2).trans rfl, (Zb BK281.out 3).trans rfl, (Zb BK281.out 4).trans rfl⟩ (fun hHeld => ?_)
  clear hK K
  refine norm_ (a' := ?_) ?_ ?_
  rotate_left
  ·show Act.put _ (some 11) _ = _
   simp only [Act.put, zp1, zp2, zp3, Zg, Zf]
   rfl
  refine pure_ (i := 4) (N := some 7) (v := ?_) (a' := ?_) #[true, true, true, true, true, false, false, true, false, false] rfl rfl (Zm HT_.out (by kernel_rfl)) (fun _ _ _ h => h) (Or.inl ⟨by rfl, ?_⟩) ?_ ?_
  rotate_left;·(intro w';go_simp;with_reducible rfl)
  rotate_left;·(simp only [Act.put, zp1, zp2, zp3, Zg, Zf];rfl)
  refine pure_ (i := 5) (N := some 12) (v := ?_) (a' := ?_) #[true, true, true, true, true, true, false, true, false, false] rfl rfl (Zm HT_.out (by kernel_rfl)) (fun _ _ _ h => h) (Or.inl ⟨by rfl, ?_⟩) ?_ ?_
  rotate_left;·(intro w';go_simp;with_reducible rfl)
  rotate_left;·(simp only [Act.put, zp1, zp2, zp3, Zg, Zf];rfl)
  refine pure_ (i := 6) (N := some 13) (v := ?_) (a' := ?_) #[true, true, true, true, true, true, true, true, false, false] rfl rfl (Zm HT_.out (by kernel_rfl)) (fun _ _ _ h => h) (Or.inl ⟨by rfl, ?_⟩) ?_ ?_
  rotate_left;·(intro w';go_simp;with_reducible rfl)
  rotate_left;·(simp only [Act.put, zp1, zp2, zp3, Zg, Zf];rfl)
  exact norm_ (by simp only [putAll, Act.put, zp1, zp2, zp3]) (hCont (.slice Ao9 t283.length co9, v289, v294, gb296) _ ⟨hHeld, (by (with_reducible repeat (first | apply Kd.R_alloc | apply Kd.R_drewN | apply Kd.R_drew)); exact Kd.R_mono HO285.out (fun _ hk => hk.2)), (by (with_reducible repeat (first | apply Kd.S_alloc | apply Kd.S_drewN | apply Kd.S_drew)); exact Kd.S_mono HO290.out (fun _ hk => ⟨hk.2, hk.1⟩)), (by (with_reducible repeat (first | apply Kd.R_alloc | apply Kd.R_drewN | apply Kd.R_drew)); exact Kd.R_mono HO295.out (fun _ hk => hk.2)), (by (with_reducible repeat (first | apply zb3 | apply zb2 | apply zb1)); exact BK281.out), (by (with_reducible repeat (first | apply zb3 | apply zb2 | apply zb1)); exact BK282.out), (by (with_reducible repeat (first | apply zb3 | apply zb2 | apply zb1)); exact BK296.out), GW296.out, GE296.out, NB281_296.out, NB296_281.out, NB282_296.out, NB296_282.out, (by repeat (first | (with_reducible first | exact HB.out | apply zc1 | apply zc2 | apply zc3 | refine zc4 ?_ (by assumption)) | exact HB.out))⟩)
 rintro ⟨v284, v289, v294, gb296⟩ w11 ⟨hS_, h0_, h1_, h2_, h3_, h4_, h5_, h6_, h7_, h8_, h9_, h10_, h11_, h12_⟩
 (have n0_ : Za (Kd.R (Kd.int .i64) 3 w11 w.heap.size (fun k_ => some k_ ≠ (v294 : Value).ownBlock) v284 t283) := ⟨h0_⟩); (have n1_ : Za (Kd.S (Kd.slice 3 (Kd.int .i64)) 32 w11 w.heap.size (fun k_ => some k_ ≠ (v284 : Value).ownBlock ∧ some k_ ≠ (v294 : Value).ownBlock) v289 t288) := ⟨h1_⟩); (have n2_ : Za (Kd.R (Kd.int .i64) 3 w11 w.heap.size (fun k_ => some k_ ≠ (v284 : Value).ownBlock) v294 t293) := ⟨h2_⟩); (have n3_ : Za (w11.heap[gb281]? = some (.cells #[.int .i64 a0_0, .int .i64 a0_1, .slice A0_2 l0_2.length c0_2, .int .i64 a0_3, .int .u32 a0_4] 25 (0, 0))) := ⟨h3_⟩); (have n4_ : Za (w11.heap[gb282]? = some (.cells #[.int .i64 0, .int .i64 0, .slice none 0 0, .int .i64 0, .int .u32 0] 25 (0, 0))) := ⟨h4_⟩); (have n5_ : Za (w11.heap[gb296]? = some (.cells #[.int .i64 0, .int .i64 0, .slice none 0 0, .int .i64 0, .int .u32 0] 25 (0, 0))) := ⟨h5_⟩); (have n6_ : Za (w.heap.size ≤ gb296) := ⟨h6_⟩); (have n7_ : Za (w.heap.size ≤ gb296) := ⟨h7_⟩); (have n8_ : Za (gb281 ≠ gb296) := ⟨h8_⟩); (have n9_ : Za (gb296 ≠ gb281) := ⟨h9_⟩); (have n10_ : Za (gb282 ≠ gb296) := ⟨h10_⟩); (have n11_ : Za (gb296 ≠ gb282) := ⟨h11_⟩); (have n12_ : Za (Below w.heap.size w w11) := ⟨h12_⟩); (clear BK281); (clear BK282); (clear HB); (clear h0_ h1_ h2_ h3_ h4_ h5_ h6_ h7_ h8_ h9_ h10_ h11_ h12_); (have HO285 := n0_); (have HO290 := n1_); (have HO295 := n2_); (have BK281 := n3_); (have BK282 := n4_); (have BK296 := n5_); (have GW296 := n6_); (have GE296 := n7_); (have NB281_296 := n8_); (have NB296_281 := n9_); (have NB282_296 := n10_); (have NB296_282 := n11_); (have HB := n12_)
 (clear n0_ n1_ n2_ n3_ n4_ n5_ n6_ n7_ n8_ n9_ n10_ n11_ n12_); (have hHeld : w11.cell? ⟨gb281, 0, none⟩ = some (.int .i64 a0_0) ∧ w11.cell? ⟨gb281, 1, none⟩ = some (.int .i64 a0_1) ∧ w11.cell? ⟨gb281, 2, none⟩ = some (.slice A0_2 l0_2.length c0_2) ∧ w11.cell? ⟨gb281, 3, none⟩ = some (.int .i64 a0_3) ∧ w11.cell? ⟨gb281, 4, none⟩ = some (.int .u32 a0_4) := hS_); (obtain ⟨Ao14, co14, eo14⟩ := Kd.S_slice HO290.out)
 (first | subst eo14 | (injection eo14 with f1_ f2_ f3_; have f4_ := f1_.symm; have f5_ := f3_.symm; clear f1_ f2_ f3_; subst f4_; subst f5_))
 refine norm_ (a' := ?_) ?_ ?_
 rotate_left
 ·simp only [putAll, Act.put, zp1, zp2, zp3]
  rfl
 refine one_ (i := 8) (N := none) #[true, true, true, true, true, true, true, true, true, false] rfl rfl (one_of HT_.out (by kernel_rfl)) (by decide) (fun K hK => ?_)
 (have hs12 : w11.cell? ⟨gb296, 0, none⟩ = some (.int .i64 0) := (Zb BK296.out 0).trans rfl); (have hfs12 := Zc BK296.out 0); (have hns12_0 := NB281_296.out); (have hns12_1 := NB282_296.out); (have hms12_0 := NB296_281.out); (have hms12_1 := NB296_282.out); (have hs13 : w11.cell? ⟨gb296, 1, none⟩ = some (.int .i64 0) := (Zb BK296.out 1).trans rfl); (have hfs13 := Zc BK296.out 1); (have hns13_0 := NB281_296.out); (have hns13_1 := NB282_296.out); (have hms13_0 := NB296_281.out); (have hms13_1 := NB296_282.out); (have hs15 : w11.cell? ⟨gb296, 2, none⟩ = some (.slice none 0 0) := (Zb BK296.out 2).trans rfl); (have hfs15 := Zc BK296.out 2); (have hns15_0 := NB281_296.out); (have hns15_1 := NB282_296.out); (have hms15_0 := NB296_281.out); (have hms15_1 := NB296_282.out); (have hs16 : w11.cell? ⟨gb296, 3, none⟩ = some (.int .i64 0) := (Zb BK296.out 3).trans rfl); (have hfs16 := Zc BK296.out 3); (have hns16_0 := NB281_296.out); (have hns16_1 := NB282_296.out); (have hms16_0 := NB296_281.out); (have hms16_1 := NB296_282.out); (have hs17 : w11.cell? ⟨gb296, 4, none⟩ = some (.int .u32 0) := (Zb BK296.out 4).trans rfl); (have hfs17 := Zc BK296.out 4); (have hns17_0 := NB281_296.out); (have hns17_1 := NB282_296.out); (have hms17_0 := NB296_281.out); (have hms17_1 := NB296_282.out)
 refine skip_ (w1 := ?_) (by rfl) rfl ?_ ?_
 rotate_left
 ·go_simp
  rfl
 refine hK.out _ _ ⟨(zs5 (g := gb296) NB281_296.out (hHeld.1)), (zs5 (g := gb296) NB281_296.out (hHeld.2.1)), (zs5 (g := gb296) NB281_296.out (hHeld.2.2.1)), (zs5 (g := gb296) NB281_296.out (hHeld.2.2.2.1)), (zs5 (g := gb296) NB281_296.out (hHeld.2.2.2.2))⟩ (fun hHeld => ?_)
 clear hK K
 refine pure_ (i := 9) (N := some 4) (v := ?_) (a' := ?_) #[true, true, true, true, true, true, true, true, true, true] rfl rfl (Zm HT_.out (by kernel_rfl)) (fun _ _ _ h => h) (Or.inl ⟨by rfl, ?_⟩) ?_ ?_
 rotate_left;·(intro w';go_simp;with_reducible rfl)
 rotate_left;·(simp only [Act.put, zp1, zp2, zp3, Zg, Zf];rfl)
 refine done_ (done_of HT_.out (by kernel_rfl)) ?_
 (obtain ⟨Ao18, co18, eo18⟩ := Kd.R_slice HO295.out); (subst eo18)
 try go_wp2
 go_loopg [16] k (fun kq v16 w' => ∃ (x16_1 : Int) (x297004_1 : Int), v16 = .int .i64 x16_1 ∧ Za (Zf1.l0 kq t293 (t293.length : Int) x16_1 a0_0 a0_1 l0_2 a0_3 a0_4 t286 t287 t288 t291 x297004_1 = some (r1, r2, r3, r4, r5)) ∧ Za (kq ≤ k) ∧ Za (Kd.R (Kd.int .i64) 3 w' w.heap.size (fun _ => True) (.slice Ao18 t293.length co18) t293) ∧ Za (Kd.S (Kd.slice 3 (Kd.int .i64)) 32 w' w.heap.size (fun k_ => some k_ ≠ ((.slice Ao18 t293.length co18) : Value).ownBlock) (.slice Ao14 t288.length co14) t288) ∧ Za (w'.heap[gb281]? = some (.cells #[.int .i64 a0_0, .int .i64 a0_1, (.slice A0_2 l0_2.length c0_2), .int .i64 a0_3, .int .u32 a0_4] 25 (0, 0))) ∧ Za (w'.heap[gb282]? = some (.cells #[.int .i64 0, .int .i64 0, (.slice none 0 0), .int .i64 0, .int .u32 0] 25 (0, 0))) ∧ Za (w'.heap[gb296]? = some (.cells #[.int .i64 t286, .int .i64 t287, (.slice Ao14 t288.length co14), .int .i64 t291, .int .u32 x297004_1] 25 (0, 0))) ∧ Za (Below w.heap.size w w'))
 case atStart => exact ⟨(0), (t292), (by first | rfl | (simp; done) | (simp [*]; done)), H', ⟨Nat.le_refl _⟩, ⟨by (with_reducible repeat (first | apply Kd.R_alloc | apply Kd.R_drewN | apply Kd.R_drew)); exact Kd.R_mono (Kd.R_far (p := ⟨gb296, 4, none⟩) (Kd.R_far (p := ⟨gb296, 3, none⟩) (Kd.R_far (p := ⟨gb296, 2, none⟩) (Kd.R_far (p := ⟨gb296, 1, none⟩) (Kd.R_far (p := ⟨gb296, 0, none⟩) (Kd.R_types HO295.out BK296.out (by decide)) (fun _ hk => hk.2) (.int .i64 t286)) (fun _ hk => hk.2) (.int .i64 t287)) (fun _ hk => hk.2) (.slice Ao14 t288.length co14)) (fun _ hk => hk.2) (.int .i64 t291)) (fun _ hk => hk.2) (.int .u32 t292)) (fun _ hk => trivial)⟩, ⟨by (with_reducible repeat (first | apply Kd.S_alloc | apply Kd.S_drewN | apply Kd.S_drew)); exact Kd.S_mono (Kd.S_far (p := ⟨gb296, 4, none⟩) (Kd.S_far (p := ⟨gb296, 3, none⟩) (Kd.S_far (p := ⟨gb296, 2, none⟩) (Kd.S_far (p := ⟨gb296, 1, none⟩) (Kd.S_far (p := ⟨gb296, 0, none⟩) (Kd.S_types HO290.out BK296.out (by decide)) (fun _ hk => hk.2) (.int .i64 t286)) (fun _ hk => hk.2) (.int .i64 t287)) (fun _ hk => hk.2) (.slice Ao14 t288.length co14)) (fun _ hk => hk.2) (.int .i64 t291)) (fun _ hk => hk.2) (.int .u32 t292)) (fun _ hk => hk.1.2)⟩, ⟨by (with_reducible repeat (first | refine Zo ?_ _ | refine Zj ?_ | refine Zn ?_ _)); refine Zu ?_ NB281_296.out _; (with_reducible repeat (first | refine Zo ?_ _ | refine Zj ?_ | refine Zn ?_ _)); refine Zu ?_ NB281_296.out _; (with_reducible repeat (first | refine Zo ?_ _ | refine Zj ?_ | refine Zn ?_ _)); refine Zu ?_ NB281_296.out _; (with_reducible repeat (first | refine Zo ?_ _ | refine Zj ?_ | refine Zn ?_ _)); refine Zu ?_ NB281_296.out _; (with_reducible repeat (first | refine Zo ?_ _ | refine Zj ?_ | refine Zn ?_ _)); refine Zu ?_ NB281_296.out _; (with_reducible repeat (first | apply zb3 | apply zb2 | apply zb1)); exact BK281.out⟩, ⟨by (with_reducible repeat (first | refine Zo ?_ _ | refine Zj ?_ | refine Zn ?_ _)); refine Zu ?_ NB282_296.out _; (with_reducible repeat (first | refine Zo ?_ _ | refine Zj ?_ | refine Zn ?_ _)); refine Zu ?_ NB282_296.out _; (with_reducible repeat (first | refine Zo ?_ _ | refine Zj ?_ | refine Zn ?_ _)); refine Zu ?_ NB282_296.out _; (with_reducible repeat (first | refine Zo ?_ _ | refine Zj ?_ | refine Zn ?_ _)); refine Zu ?_ NB282_296.out _; (with_reducible repeat (first | refine Zo ?_ _ | refine Zj ?_ | refine Zn ?_ _)); refine Zu ?_ NB282_296.out _; (with_reducible repeat (first | apply zb3 | apply zb2 | apply zb1)); exact BK282.out⟩, ⟨by (with_reducible repeat (first | refine Zo ?_ _ | refine Zj ?_ | refine Zn ?_ _)); refine Za1 (cs := #[.int .i64 t286, .int .i64 t287, .slice Ao14 t288.length co14, .int .i64 t291, .int .u32 0]) ?_ 4 _ rfl; (with_reducible repeat (first | refine Zo ?_ _ | refine Zj ?_ | refine Zn ?_ _)); refine Za1 (cs := #[.int .i64 t286, .int .i64 t287, .slice Ao14 t288.length co14, .int .i64 0, .int .u32 0]) ?_ 3 _ rfl; (with_reducible repeat (first | refine Zo ?_ _ | refine Zj ?_ | refine Zn ?_ _)); refine Za1 (cs := #[.int .i64 t286, .int .i64 t287, .slice none 0 0, .int .i64 0, .int .u32 0]) ?_ 2 _ rfl; (with_reducible repeat (first | refine Zo ?_ _ | refine Zj ?_ | refine Zn ?_ _)); refine Za1 (cs := #[.int .i64 t286, .int .i64 0, .slice none 0 0, .int .i64 0, .int .u32 0]) ?_ 1 _ rfl; (with_reducible repeat (first | refine Zo ?_ _ | refine Zj ?_ | refine Zn ?_ _)); refine Za1 (cs := #[.int .i64 0, .int .i64 0, .slice none 0 0, .int .i64 0, .int .u32 0]) ?_ 0 _ rfl; (with_reducible repeat (first | apply zb3 | apply zb2 | apply zb1)); exact BK296.out⟩, ⟨by repeat (first | (with_reducible first | exact HB.out | apply zc1 | apply zc2 | apply zc3 | refine zc4 ?_ (by assumption)) | exact HB.out)⟩⟩
 case round =>
  (clear H'); (try clear c1); (try clear p2); (try clear c3); (try clear c18); (obtain ⟨x16_1, x297004_1, rfl, HA, HK1, HO_4, HO_297002, BK281, BK282, BK296, HB⟩ := hrel)
  cases gk with
  | zero => exact absurd HA.out (by simp [Zf1.l0])
  | succ k1 =>
   (have H := HA.out); (clear HA); (simp only [Zf1.l0] at H)
   by_cases c19 : x16_1 < (t293.length : Int)
   rotate_left
   ·rw [if_neg c19] at H
    (have c19b0 : decide (x16_1 < (t293.length : Int)) = false := decide_eq_false c19); (clear c19); (simp only [Option.some.injEq, Prod.mk.injEq] at H); (obtain ⟨rfl, rfl, rfl, rfl, rfl⟩ := H); (have hnb28 := NB296_281.out); (have hnc28 := NB281_296.out); (have hnb29 := NB296_282.out); (have hnc29 := NB282_296.out); (have hcz30_0 : wr.cell? ⟨gb296, 0, none⟩ = some (.int .i64 t286) := (Zb BK296.out 0).trans rfl); (have hcz30_1 : wr.cell? ⟨gb296, 1, none⟩ = some (.int .i64 t287) := (Zb BK296.out 1).trans rfl); (have hcz30_2 : wr.cell? ⟨gb296, 2, none⟩ = some (.slice Ao14 t288.length co14) := (Zb BK296.out 2).trans rfl); (have hcz30_3 : wr.cell? ⟨gb296, 3, none⟩ = some (.int .i64 t291) := (Zb BK296.out 3).trans rfl); (have hcz30_4 : wr.cell? ⟨gb296, 4, none⟩ = some (.int .u32 x297004_1) := (Zb BK296.out 4).trans rfl); (have hfz30_0 := Zc BK296.out 0); (have hfz30_1 := Zc BK296.out 1); (have hfz30_2 := Zc BK296.out 2); (have hfz30_3 := Zc BK296.out 3); (have hfz30_4 := Zc BK296.out 4); (have hnb31 := NB282_281.out); (have hnc31 := NB281_282.out); (have hcz32_0 : wr.cell? ⟨gb282, 0, none⟩ = some (.int .i64 0) := (Zb BK282.out 0).trans rfl); (have hcz32_1 : wr.cell? ⟨gb282, 1, none⟩ = some (.int .i64 0) := (Zb BK282.out 1).trans rfl); (have hcz32_2 : wr.cell? ⟨gb282, 2, none⟩ = some (.slice none 0 0) := (Zb BK282.out 2).trans rfl); (have hcz32_3 : wr.cell? ⟨gb282, 3, none⟩ = some (.int .i64 0) := (Zb BK282.out 3).trans rfl); (have hcz32_4 : wr.cell? ⟨gb282, 4, none⟩ = some (.int .u32 0) := (Zb BK282.out 4).trans rfl)
    (have hfz32_0 := Zc BK282.out 0); (have hfz32_1 := Zc BK282.out 1); (have hfz32_2 := Zc BK282.out 2); (have hfz32_3 := Zc BK282.out 3); (have hfz32_4 := Zc BK282.out 4)
    go_wp2
    refine bodyPost_ret (results_cell_row rfl _ _ gb282 25 #[.int .i64 t286, .int .i64 t287, .slice Ao14 t288.length co14, .int .i64 t291, .int .u32 x297004_1] (0, 0) _ rfl (by (with_reducible repeat (first | refine Zo ?_ _ | refine Zj ?_ | refine Zn ?_ _)); refine Za1 (cs := #[.int .i64 t286, .int .i64 t287, .slice Ao14 t288.length co14, .int .i64 t291, .int .u32 0]) ?_ 4 _ rfl; (with_reducible repeat (first | refine Zo ?_ _ | refine Zj ?_ | refine Zn ?_ _)); refine Za1 (cs := #[.int .i64 t286, .int .i64 t287, .slice Ao14 t288.length co14, .int .i64 0, .int .u32 0]) ?_ 3 _ rfl; (with_reducible repeat (first | refine Zo ?_ _ | refine Zj ?_ | refine Zn ?_ _)); refine Za1 (cs := #[.int .i64 t286, .int .i64 t287, .slice none 0 0, .int .i64 0, .int .u32 0]) ?_ 2 _ rfl; (with_reducible repeat (first | refine Zo ?_ _ | refine Zj ?_ | refine Zn ?_ _)); refine Za1 (cs := #[.int .i64 t286, .int .i64 0, .slice none 0 0, .int .i64 0, .int .u32 0]) ?_ 1 _ rfl; (with_reducible repeat (first | refine Zo ?_ _ | refine Zj ?_ | refine Zn ?_ _)); refine Za1 (cs := #[.int .i64 0, .int .i64 0, .slice none 0 0, .int .i64 0, .int .u32 0]) ?_ 0 _ rfl; (with_reducible repeat (first | apply zb3 | apply zb2 | apply zb1)); exact BK282.out) Try.underlying25 rfl (by kernel_rfl)) rfl ?_
    exact ⟨_, by first | rfl | (simp [Zw, Zx] <;> rfl) | (simp [*, Zw, Zx] <;> rfl), by (with_reducible repeat (first | apply Kd.S_alloc | apply Kd.S_drewN | apply Kd.S_drew)); exact Kd.S_mono (Kd.S_far (p := ⟨gb282, 4, none⟩) (Kd.S_far (p := ⟨gb282, 3, none⟩) (Kd.S_far (p := ⟨gb282, 2, none⟩) (Kd.S_far (p := ⟨gb282, 1, none⟩) (Kd.S_far (p := ⟨gb282, 0, none⟩) (Kd.S_types HO_297002.out BK282.out (by decide)) (fun _ hk => hk.2) (.int .i64 t286)) (fun _ hk => hk.2) (.int .i64 t287)) (fun _ hk => hk.2) (.slice Ao14 t288.length co14)) (fun _ hk => hk.2) (.int .i64 t291)) (fun _ hk => hk.2) (.int .u32 x297004_1)) (fun _ hk => trivial), by repeat (first | (with_reducible first | exact HB.out | apply zc1 | apply zc2 | apply zc3 | refine zc4 ?_ (by assumption)) | exact HB.out)⟩
   (rw [if_pos c19] at H); (have c19b0 : decide (x16_1 < (t293.length : Int)) = true := decide_eq_true c19); (clear c19)
   by_cases c20 : 0 ≤ x16_1
   rotate_left
   ·rw [if_neg c20] at H
    exact absurd H (by simp)
   (rw [if_pos c20] at H); (have c20b0 : decide (0 ≤ x16_1) = true := decide_eq_true c20); (clear c20)
   by_cases c21 : x16_1 < (t293.length : Int)
   rotate_left
   ·rw [if_neg c21] at H
    exact absurd H (by simp)
   (rw [if_pos c21] at H); (have c21b0 : decide (x16_1 < (t293.length : Int)) = true := decide_eq_true c21); (clear c21)
   by_cases c22 : 0 ≤ (rd t293 x16_1)
   rotate_left
   ·rw [if_neg c22] at H
    exact absurd H (by simp)
   (rw [if_pos c22] at H); (have c22b0 := eq_true c22); (have c22b1 : decide (0 ≤ (rd t293 x16_1)) = true := decide_eq_true c22); (clear c22); (obtain ⟨ji23, hji23⟩ : ∃ j_ : Int, (shr .u32 a0_4 (rd t293 x16_1)) = j_ := ⟨_, rfl⟩); (replace H : (Zf1.l0 k1 t293 (t293.length : Int) (wrap64 (x16_1 + 1)) a0_0 a0_1 l0_2 a0_3 a0_4 t286 t287 t288 t291 (Go.bits .or .u32 x297004_1 (shl .u32 (Go.bits .and .u32 (ji23) 1) x16_1))) = some (r1, r2, r3, r4, r5) := by first | (rw [hji23] at H; exact H) | (simp only [hji23] at H ⊢; exact H)); (have hji23_ : (a0_4 / 2 ^ min (rd t293 x16_1).toNat 32) = ji23 := hji23); (have hji23z : (rd t293 x16_1) ≤ 32 → (a0_4 / 2 ^ (rd t293 x16_1).toNat) = ji23 := shr_small hji23); (have c24b0 := eq_true (of_decide_eq_true (by assumption) : 0 ≤ x16_1)); (obtain ⟨ji25, hji25⟩ : ∃ j_ : Int, (shl .u32 (Go.bits .and .u32 (ji23) 1) x16_1) = j_ := ⟨_, rfl⟩); (replace H : (Zf1.l0 k1 t293 (t293.length : Int) (wrap64 (x16_1 + 1)) a0_0 a0_1 l0_2 a0_3 a0_4 t286 t287 t288 t291 (Go.bits .or .u32 x297004_1 (ji25))) = some (r1, r2, r3, r4, r5) := by first | (rw [hji25] at H; exact H) | (simp only [hji25] at H ⊢; exact H)); (have hji25_ : (IntKind.u32.wrap ((Go.bits .and .u32 (ji23) 1) * 2 ^ min x16_1.toNat 32)) = ji25 := hji25); (have hji25z : x16_1 ≤ 32 → (IntKind.u32.wrap ((Go.bits .and .u32 (ji23) 1) * 2 ^ x16_1.toNat)) = ji25 := shl_small hji25); (have H' := Za.mk H); (clear H); (have p297 : 0 ≤ (x16_1 : Int) := of_decide_eq_true (by assumption)); (have q297 : x16_1 < (t293.length : Int) := of_decide_eq_true (by assumption))
   (obtain ⟨ad297, e297, hx297_0⟩ := Kd.at_int (Kd.R_reads' HO_4.out).2.2 x16_1 p297 q297); (cases e297); (replace p297 := eq_true p297); (replace q297 := eq_true q297)
   try go_wp2
   (replace HO_4 := Za.mk (Kd.R_drew HO_4.out)); (replace HO_297002 := Za.mk (Kd.S_drew HO_297002.out)); (replace BK281 := Za.mk (Zj BK281.out)); (replace BK282 := Za.mk (Zj BK282.out)); (replace BK296 := Za.mk (Zj BK296.out)); (replace HB := Za.mk (below_drew1 HB.out))
   refine start_ (n := 12) (S := fun w' => w'.cell? ⟨gb296, 0, none⟩ = some (.int .i64 t286) ∧ w'.cell? ⟨gb296, 1, none⟩ = some (.int .i64 t287) ∧ w'.cell? ⟨gb296, 2, none⟩ = some (.slice Ao14 t288.length co14) ∧ w'.cell? ⟨gb296, 3, none⟩ = some (.int .i64 t291) ∧ w'.cell? ⟨gb296, 4, none⟩ = some (.int .u32 x297004_1) ∧ w'.cell? ⟨gb281, 0, none⟩ = some (.int .i64 a0_0) ∧ w'.cell? ⟨gb281, 1, none⟩ = some (.int .i64 a0_1) ∧ w'.cell? ⟨gb281, 2, none⟩ = some (.slice A0_2 l0_2.length c0_2) ∧ w'.cell? ⟨gb281, 3, none⟩ = some (.int .i64 a0_3) ∧ w'.cell? ⟨gb281, 4, none⟩ = some (.int .u32 a0_4)) (ds := [11]) #[false, false, false, false, false, false, false, false, false, false, false, false] (by kernel_rfl) rfl rfl ⟨(Zb BK296.out 0).trans rfl, (Zb BK296.out 1).trans rfl, (Zb BK296.out 2).trans rfl, (Zb BK296.out 3).trans rfl, (Zb BK296.out 4).trans rfl, (Zb BK281.out 0).trans rfl, (Zb BK281.out 1).trans rfl, (Zb BK281.out 2).trans rfl, (Zb BK281.out 3).trans rfl, (Zb BK281.out 4).trans rfl⟩ (fun hHeld => ?_); refine with_tabW Zf1.tab5 Zf1.bits5 (fun HT_ HW_ => ?_)
   generalize wr.drew = w26 at HO_4 HO_297002 BK281 BK282 BK296 HB hHeld ⊢
   refine pure_ (i := 0) (N := some 21) (v := ?_) (a' := ?_) #[true, false, false, false, false, false, false, false, false, false, false, false] rfl rfl (Zm HT_.out (by kernel_rfl)) (fun _ _ _ h => h) (Or.inl ⟨by rfl, ?_⟩) ?_ ?_
   rotate_left;·(intro w';go_simp;with_reducible rfl)
   rotate_left;·(simp only [Act.put, zp1, zp2, zp3, Zg, Zf];rfl)
   refine pure_ (i := 2) (N := some 23) (v := ?_) (a' := ?_) #[true, false, true, false, false, false, false, false, false, false, false, false] rfl rfl (Zm HT_.out (by kernel_rfl)) (fun _ _ _ h => h) (Or.inl ⟨by rfl, ?_⟩) ?_ ?_
   rotate_left;·(intro w';go_simp;with_reducible rfl)
   rotate_left;·(simp only [Act.put, zp1, zp2, zp3, Zg, Zf];rfl)
   refine pure_ (i := 4) (N := some 25) (v := ?_) (a' := ?_) #[true, false, true, false, true, false, false, false, false, false, false, false] rfl rfl (Zm HT_.out (by kernel_rfl)) (fun _ _ _ h => h) (Or.inl ⟨by rfl, ?_⟩) ?_ ?_
   rotate_left;·(intro w';go_simp;with_reducible rfl)
   rotate_left;·(simp only [Act.put, zp1, zp2, zp3, Zg, Zf];rfl)
   refine pure_ (i := 7) (N := some 28) (v := ?_) (a' := ?_) #[true, false, true, false, true, false, false, true, false, false, false, false] rfl rfl (Zm HT_.out (by kernel_rfl)) (fun _ _ _ h => h) (Or.inl ⟨by rfl, ?_⟩) ?_ ?_
   rotate_left;·(intro w';go_simp;with_reducible rfl)
   rotate_left;·(simp only [Act.put, zp1, zp2, zp3, Zg, Zf];rfl)
   refine take_ (i := 1) (N := some 22) (v := ?_) (a' := ?_) #[true, true, true, false, true, false, false, true, false, false, false, false] rfl rfl (Zi1 HT_.out HW_.out (by kernel_rfl)) (fun _ _ _ h => h) (Or.inl ⟨by rfl, ?_⟩) hHeld ?_ ?_
   rotate_left
   ·rintro w' ⟨s0, s1, s2, s3, s4, s5, s6, s7, s8, s9⟩
    go_simp
    with_reducible rfl
   rotate_left
   ·simp only [Act.put, zp1, zp2, zp3, Zg, Zf]
    rfl
   refine take_ (i := 3) (N := some 24) (v := ?_) (a' := ?_) #[true, true, true, true, true, false, false, true, false, false, false, false] rfl rfl (Zi1 HT_.out HW_.out (by kernel_rfl)) (fun _ _ _ h => h) (Or.inl ⟨by rfl, ?_⟩) hHeld ?_ ?_
   rotate_left
   ·rintro w' ⟨s0, s1, s2, s3, s4, s5, s6, s7, s8, s9⟩
    go_simp
    with_reducible rfl
   rotate_left
   ·simp only [Act.put, zp1, zp2, zp3, Zg, Zf]
    rfl
   refine pure_ (i := 5) (N := some 26) (v := ?_) (a' := ?_) #[true, true, true, true, true, true, false, true, false, false, false, false] rfl rfl (Zm HT_.out (by kernel_rfl)) (fun _ _ _ h => h) (Or.inl ⟨by rfl, ?_⟩) ?_ ?_
   rotate_left;·(intro w';go_simp;with_reducible rfl)
   rotate_left;·(simp only [Act.put, zp1, zp2, zp3, Zg, Zf];rfl)
   refine pure_ (i := 6) (N := some 27) (v := ?_) (a' := ?_) #[true, true, true, true, true, true, true, true, false, false, false, false] rfl rfl (Zm HT_.out (by kernel_rfl)) (fun _ _ _ h => h) (Or.inl ⟨by rfl, ?_⟩) ?_ ?_
   rotate_left;·(intro w';go_simp;with_reducible rfl)
   rotate_left;·(simp only [Act.put, zp1, zp2, zp3, Zg, Zf];rfl)
   refine pure_ (i := 8) (N := some 29) (v := ?_) (a' := ?_) #[true, true, true, true, true, true, true, true, true, false, false, false] rfl rfl (Zm HT_.out (by kernel_rfl)) (fun _ _ _ h => h) (Or.inl ⟨by rfl, ?_⟩) ?_ ?_
   rotate_left;·(intro w';go_simp;with_reducible rfl)
   rotate_left;·(simp only [Act.put, zp1, zp2, zp3, Zg, Zf];rfl)
   refine pure_ (i := 9) (N := some 30) (v := ?_) (a' := ?_) #[true, true, true, true, true, true, true, true, true, true, false, false] rfl rfl (Zm HT_.out (by kernel_rfl)) (fun _ _ _ h => h) (Or.inl ⟨by rfl, ?_⟩) ?_ ?_
   rotate_left;·(intro w';go_simp;with_reducible rfl)
   rotate_left;·(simp only [Act.put, zp1, zp2, zp3, Zg, Zf];rfl)
   refine pure_ (i := 10) (N := some 31) (v := ?_) (a' := ?_) #[true, true, true, true, true, true, true, true, true, true, true, false] rfl rfl (Zm HT_.out (by kernel_rfl)) (fun _ _ _ h => h) (Or.inl ⟨by rfl, ?_⟩) ?_ ?_
   rotate_left;·(intro w';go_simp;with_reducible rfl)
   rotate_left;·(simp only [Act.put, zp1, zp2, zp3, Zg, Zf];rfl)
   refine last_ (i := 11) (N := none) #[true, true, true, true, true, true, true, true, true, true, true, true] rfl rfl (one_of HT_.out (by kernel_rfl)) (by decide) (fun K hK => ?_)
   (have hs27 : w26.cell? ⟨gb296, 4, none⟩ = some (.int .u32 x297004_1) := (Zb BK296.out 4).trans rfl); (have hfs27 := Zc BK296.out 4); (have hns27_0 := NB281_296.out); (have hns27_1 := NB282_296.out); (have hms27_0 := NB296_281.out); (have hms27_1 := NB296_282.out)
   refine skip_ (w1 := ?_) (by rfl) rfl ?_ ?_
   rotate_left
   ·go_simp
    rfl
   refine hK.out _ _ ?_
   clear hK K
   refine done_ (done_of HT_.out (by kernel_rfl)) ?_
   try go_wp2
   (first | go_roundg k1 | (simp only [← hji25]; go_roundg k1) | (simp only [← hji23, ← hji25]; go_roundg k1))
   case measure => have := HK1.out; omega
   case rel => first | exact ⟨(wrap64 (x16_1 + 1)), (Go.bits .or .u32 x297004_1 (ji25)), (by first | rfl | (simp; done) | (simp [*]; done)), H', ⟨by have := HK1.out; omega⟩, ⟨by (with_reducible repeat (first | apply Kd.R_alloc | apply Kd.R_drewN | apply Kd.R_drew)); exact Kd.R_mono (Kd.R_far (p := ⟨gb296, 4, none⟩) (Kd.R_types HO_4.out BK296.out (by decide)) (fun _ hk => hk.2) (.int .u32 (Go.bits .or .u32 x297004_1 (ji25)))) (fun _ hk => trivial)⟩, ⟨by (with_reducible repeat (first | apply Kd.S_alloc | apply Kd.S_drewN | apply Kd.S_drew)); exact Kd.S_mono (Kd.S_far (p := ⟨gb296, 4, none⟩) (Kd.S_types HO_297002.out BK296.out (by decide)) (fun _ hk => hk.2) (.int .u32 (Go.bits .or .u32 x297004_1 (ji25)))) (fun _ hk => hk.1)⟩, ⟨by (with_reducible repeat (first | refine Zo ?_ _ | refine Zj ?_ | refine Zn ?_ _)); refine Zu ?_ NB281_296.out _; (with_reducible repeat (first | apply zb3 | apply zb2 | apply zb1)); exact BK281.out⟩, ⟨by (with_reducible repeat (first | refine Zo ?_ _ | refine Zj ?_ | refine Zn ?_ _)); refine Zu ?_ NB282_296.out _; (with_reducible repeat (first | apply zb3 | apply zb2 | apply zb1)); exact BK282.out⟩, ⟨by (with_reducible repeat (first | refine Zo ?_ _ | refine Zj ?_ | refine Zn ?_ _)); refine Za1 (cs := #[.int .i64 t286, .int .i64 t287, .slice Ao14 t288.length co14, .int .i64 t291, .int .u32 x297004_1]) ?_ 4 _ rfl; (with_reducible repeat (first | apply zb3 | apply zb2 | apply zb1)); exact BK296.out⟩, ⟨by repeat (first | (with_reducible first | exact HB.out | apply zc1 | apply zc2 | apply zc3 | refine zc4 ?_ (by assumption)) | exact HB.out)⟩⟩ | (subst hji25; subst hji23; exact ⟨(wrap64 (x16_1 + 1)), (Go.bits .or .u32 x297004_1 (shl .u32 (Go.bits .and .u32 (shr .u32 a0_4 (rd t293 x16_1)) 1) x16_1)), (by first | rfl | (simp; done) | (simp [*]; done)), H', ⟨by have := HK1.out; omega⟩, ⟨by (with_reducible repeat (first | apply Kd.R_alloc | apply Kd.R_drewN | apply Kd.R_drew)); exact Kd.R_mono (Kd.R_far (p := ⟨gb296, 4, none⟩) (Kd.R_types HO_4.out BK296.out (by decide)) (fun _ hk => hk.2) (.int .u32 (Go.bits .or .u32 x297004_1 (shl .u32 (Go.bits .and .u32 (shr .u32 a0_4 (rd t293 x16_1)) 1) x16_1)))) (fun _ hk => trivial)⟩, ⟨by (with_reducible repeat (first | apply Kd.S_alloc | apply Kd.S_drewN | apply Kd.S_drew)); exact Kd.S_mono (Kd.S_far (p := ⟨gb296, 4, none⟩) (Kd.S_types HO_297002.out BK296.out (by decide)) (fun _ hk => hk.2) (.int .u32 (Go.bits .or .u32 x297004_1 (shl .u32 (Go.bits .and .u32 (shr .u32 a0_4 (rd t293 x16_1)) 1) x16_1)))) (fun _ hk => hk.1)⟩, ⟨by (with_reducible repeat (first | refine Zo ?_ _ | refine Zj ?_ | refine Zn ?_ _)); refine Zu ?_ NB281_296.out _; (with_reducible repeat (first | apply zb3 | apply zb2 | apply zb1)); exact BK281.out⟩, ⟨by (with_reducible repeat (first | refine Zo ?_ _ | refine Zj ?_ | refine Zn ?_ _)); refine Zu ?_ NB282_296.out _; (with_reducible repeat (first | apply zb3 | apply zb2 | apply zb1)); exact BK282.out⟩, ⟨by (with_reducible repeat (first | refine Zo ?_ _ | refine Zj ?_ | refine Zn ?_ _)); refine Za1 (cs := #[.int .i64 t286, .int .i64 t287, .slice Ao14 t288.length co14, .int .i64 t291, .int .u32 x297004_1]) ?_ 4 _ rfl; (with_reducible repeat (first | apply zb3 | apply zb2 | apply zb1)); exact BK296.out⟩, ⟨by repeat (first | (with_reducible first | exact HB.out | apply zc1 | apply zc2 | apply zc3 | refine zc4 ?_ (by assumption)) | exact HB.out)⟩⟩)
def ints (l : List Int) : Array Value := (l.map (Value.int .i64)).toArray
theorem ints_size (l : List Int) : (ints l).size = l.length := by simp [ints]
section
variable {w : World} {g t : Nat} {l : List Int}
theorem arr_cell (h : w.heap[g]? = some (.cells (ints l) t (0, 0))) {i : Nat} (hi : i < l.length) : w.cell? ⟨g, i, none⟩ = some (.int .i64 (rd l (i : Int))) ∧ w.frozen? ⟨g, i, none⟩ = false := by
  refine ⟨?_, frozen_of_row w g i _ t h⟩
  rw [cell_of_row w g i _ t _ h]
  unfold ints rd
  rw [Int.toNat_natCast, List.getElem?_toArray, List.getElem?_map, List.getD_eq_getElem?_getD, List.getElem?_eq_getElem hi]; rfl
theorem arr_set (h : w.heap[g]? = some (.cells (ints l) t (0, 0))) (i : Nat) (x : Int) : (w.setCell ⟨g, i, none⟩ (.int .i64 x)).heap[g]? = some (.cells (ints (l.set i x)) t (0, 0)) ∧ w.grownBy (w.setCell ⟨g, i, none⟩ (.int .i64 x)) (some g) := by
  refine ⟨?_, rfl, rfl, rfl, by simp [World.setCell], fun k _ hk => heap_setCell_other w _ k _ (fun e => hk (by rw [e]))⟩
  rw [heap_setCell_same w g i _ t _ h]
  unfold ints
  rw [List.map_set, List.setIfInBounds_toArray]
theorem arr_put {l' : List Int} (h : w.heap[g]? = some (.cells (ints l) t (0, 0))) : (w.setRow g (ints l')).heap[g]? = some (.cells (ints l') t (0, 0)) ∧ w.grownBy (w.setRow g (ints l')) (some g) := by
  refine ⟨?_, rfl, rfl, rfl, by simp [World.setRow], fun k _ hk => ?_⟩
  · exact setRow_heap w g _ _ t _ h
  · simp only [World.setRow, Array.getElem?_modify]
    rw [if_neg (fun e => hk (by rw [e]))]
end
theorem arr_store {P : Program} {ops : Array Oper} {rest : List Oper} {o : Oper} {a : Act} {Q : Exit → Act → World → Prop} {w : World} {g t : Nat} {l l' : List Int} (hgd : o.guard = none) (ty : TypeId) (x v : Operand) (ho : o.op = .store ty x v) (hN : o.dst = none)
    (hx : a.eval x = .pointer (some ⟨g, 0, none⟩)) (hv : a.eval v = .agg (ints l')) (h : w.heap[g]? = some (.cells (ints l) t (0, 0))) (hi : (P.info? ty).map (·.size) = some (ints l').size) (hl : l.length = l'.length)
    (hK : ∀ w1, w1.heap[g]? = some (.cells (ints l') t (0, 0)) → w.grownBy w1 (some g) → wpList P ops Q rest a w1) : wpList P ops Q (o :: rest) a w := by
  refine wpList_plain hgd fun K hK' => ?_
  have hs := run_storeVar_row (P := P) w g t ty (ints l) (ints l') h hi (by rw [ints_size, ints_size, hl]) (by simp [ints, Value.oneCell'])
  unfold Oper.wp execOp
  simp [ho, hx, hv, Instr.storeAt, Instr.sureAddr, hs, Result.andThen]
  show K (a.put o.dst undef) _
  rw [hN]
  exact hK' _ _ (hK _ (arr_put h).1 (arr_put h).2)
def kinds_still.f : Option (Int × Int × Int × Int × Int × Int × Int) := some (0, 1, 2, 3, 4, 5, 6)
def stillL (j : Nat) : List Int := (List.range 7).map fun i => if i < j then (i : Int) else 0
theorem stillL_succ : ∀ j, j < 7 → (stillL j).set j (j : Int) = stillL (j + 1) := by decide
set_option maxHeartbeats 8000000 in
set_option maxRecDepth 100000 in
theorem kinds_still.calls (r1 r2 r3 r4 r5 r6 r7 : Int) (w : World) (h : kinds_still.f = some (r1, r2, r3, r4, r5, r6, r7)) :
    Calls Try.prog 19 #[] w fun e w' => e = .returned (.agg #[.int .i64 r1, .int .i64 r2, .int .i64 r3, .int .i64 r4, .int .i64 r5, .int .i64 r6, .int .i64 r7]) ∧ Below w.heap.size w w' := by
 (have HB := Za.mk (Below.refl w.heap.size w)); (unfold kinds_still.f at h); (simp only [Option.some.injEq, Prod.mk.injEq] at h); (obtain ⟨rfl, rfl, rfl, rfl, rfl, rfl, rfl⟩ := h)
 go_enter Try.func19, Try.ntmps19
 go_wp2_with (first | ((with_reducible refine Zb1 (N := 0) rfl ?_); refine Zl1 ?hg (N := 0) ?hd (cs := #[.int .i64 0, .int .i64 0, .int .i64 0, .int .i64 0, .int .i64 0, .int .i64 0, .int .i64 0]) (t := 48) ?hr ?_; (case hd => rfl); (case hg => rfl); (case hr => first | (go_simp; done) | (go_simp; rfl)); intro g0 hg w1 hbox hb; have Gg0 := Za.mk ((by rw [hg]; exact (Zl HB.out)) : w.heap.size ≤ g0); have n0_ := Za.mk (Zr HB.out hb); clear HB; have HB := n0_; have Bg0 : Za (w1.heap[g0]? = some (.cells (ints (stillL 0)) 48 (0, 0))) := ⟨hbox⟩; clear n0_  hb hbox hg) | ((with_reducible refine Zb1 (N := 1) rfl ?_); refine Zl1 ?hg (N := 1) ?hd (cs := #[.int .i64 0, .int .i64 0, .int .i64 0, .int .i64 0, .int .i64 0, .int .i64 0, .int .i64 0]) (t := 48) ?hr ?_; (case hd => rfl); (case hg => rfl); (case hr => first | (go_simp; done) | (go_simp; rfl)); intro gt hg w2 hbox hb; have Ggt := Za.mk ((by rw [hg]; exact (Zl HB.out)) : w.heap.size ≤ gt); have NBg0 := Za.mk ((by rw [hg]; exact Nat.ne_of_lt (blk_lt Bg0.out)) : g0 ≠ gt); have n0_ := Za.mk (Zr HB.out hb); have m0_ := Za.mk (Zp Bg0.out hb); clear HB Bg0; have HB := n0_; have Bg0 := m0_; have Bgt : Za (w2.heap[gt]? = some (.cells (ints (stillL 0)) 48 (0, 0))) := ⟨hbox⟩; clear n0_ m0_ hb hbox hg))
 go_loopg [3] 8 (fun kq v3 w' => ∃ j : Nat, v3 = .int .i64 (j : Int) ∧ Za (j ≤ 7 ∧ 7 < kq + j) ∧ Za (w'.heap[gt]? = some (.cells (ints (stillL j)) 48 (0, 0))) ∧ Za (w'.heap[g0]? = some (.cells (ints (stillL 0)) 48 (0, 0))) ∧ Za (Below w.heap.size w w'))
 case atStart => exact ⟨0, rfl, ⟨by omega⟩, Bgt, Bg0, HB⟩
 case round =>
  (clear HB Bgt Bg0); (obtain ⟨j, rfl, HJ, Bgt, Bg0, HB⟩ := hrel)
  by_cases c3 : j < 7
  rotate_left
  ·have hj : j = 7 := by have := HJ.out; omega
   (subst hj); (clear c3)
   go_wp2_with (first
    | (refine wpList_load_row rfl 48 _ rfl gt rfl 48 (ints (stillL 7)) (0, 0) _ Bgt.out Try.underlying48 rfl (by kernel_rfl) ?_)
    | (refine arr_store (t := 48) (l := stillL 0) (l' := stillL 7) rfl 48 _ _ rfl rfl rfl rfl Bg0.out (by kernel_rfl) rfl ?_; intro w8 q1 q2; have n0_ := Za.mk (HB.out.grown q2 HB.out.size (fun k hk => by cases hk; exact Gg0.out)); clear HB; have HB := n0_; clear n0_ q2; have B8 := Za.mk q1; clear q1))
   (try simp only [Exit.inBlock, Exit.then])
   refine bodyPost_ret (results_cell_row rfl _ _ g0 48 (ints (stillL 7)) (0, 0) _ rfl B8.out Try.underlying48 rfl (by kernel_rfl)) rfl ?_
   exact ⟨rfl, HB.out⟩
  (have c3b : decide ((j : Int) < 7) = true := decide_eq_true (by omega)); (have c3c := eq_true (show (j : Int) < 7 by omega)); (have c3d := eq_true (show (0 : Int) ≤ (j : Int) by omega)); (obtain ⟨hc, hf⟩ := arr_cell Bgt.out (show j < (stillL j).length by simp [stillL]; omega)); (have C3 := Za.mk c3); (clear c3)
  cases gk with
  | zero => exact absurd HJ.out (by have := C3.out; omega)
  | succ k1 =>
   go_wp2
   (have hs := arr_set Bgt.out j (j : Int)); (have e1 : wrap64 ((j : Int) + 1) = ((j + 1 : Nat) : Int) := by have := C3.out; unfold wrap64; omega); (have e2 : (stillL j).set j (j : Int) = stillL (j + 1) := stillL_succ j C3.out); (rw [e2] at hs)
   try rw [e1]
   go_roundg k1
   case measure => omega
   case rel => exact ⟨j + 1, by first | rfl | (rw [e1]; done) | rw [e1], ⟨by have := HJ.out; have := C3.out; omega⟩, ⟨hs.1⟩, ⟨Zc1 Bg0.out hs.2 (fun e => NBg0.out (Option.some.inj e))⟩, ⟨HB.out.grown hs.2 HB.out.size (fun k hk => by cases hk; exact Ggt.out)⟩⟩
end Go.Proofs.Ytofdaiknpficfaa.PKindsStills
