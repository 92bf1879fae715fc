-- Printed by a turn of a template of the kit, and shortened: remarks and what nothing here uses are left out.
import Derived.Test.YtcfodnildhhocaaQPLeastSamesx0
import Derived.Test.YtcfodnildhhocaaQPLeastSamesx3
namespace Go.Proofs.Ytcfodnildhhocaa.PLeastSames
open Go.RowKit Go.Proofs.YtcfodnildhhocaaW.PrintWords Go.Proofs.YtcfodnildhhocaaW.PrintLast Go.Proofs.YtcfodnildhhocaaW.PrintMore
attribute [local go_sem] max2_int min2_int max_two min_two max_three min_three max_four min_four
set_option linter.unusedVariables false
set_option linter.unusedSimpArgs false
def Zz.l0 : Nat → List Int → Int → Int → Int → Int → List (List Int) → Int → Int → Int → Int → List (List Int) → Int → Int → Option (Int × Int × (List (List Int)) × Int × Int)
  | 0, _, _, _, _, _, _, _, _, _, _, _, _, _ => none
  | k + 1, x4, x15, x16, x157000, x157001, x157002, x157003, x157004, x172000, x172001, x172002, x172003, x172004 => if x16 < x15 then (if 0 ≤ x16 then (if x16 < (x4.length : Int) then (if 0 ≤ (rd x4 x16) then (Zz.l0 k x4 x15 (wrap64 (x16 + 1)) x157000 x157001 x157002 x157003 x157004 x172000 x172001 x172002 x172003 (Go.bits .or .u32 x172004 (shl .u32 (Go.bits .and .u32 (shr .u32 x157004 (rd x4 x16)) 1) x16))) else (none)) else (none)) else (none)) else (some (x172000, x172001, x172002, x172003, x172004))
def Zz.f (k : Nat) (a0_0 : Int) (a0_1 : Int) (l0_2 : List (List Int)) (a0_3 : Int) (a0_4 : Int) : Option (Int × Int × (List (List Int)) × Int × Int) := (Zk1.f k a0_0 a0_1 l0_2 a0_3 a0_4).bind fun t158 => ((Zd1.f k a0_0 a0_1 l0_2 a0_3 a0_4 t158).bind fun bt161 => (Zz.l0 k bt161.2.2.2.2.2 (bt161.2.2.2.2.2.length : Int) 0 a0_0 a0_1 l0_2 a0_3 a0_4 bt161.1 bt161.2.1 bt161.2.2.1 bt161.2.2.2.1 bt161.2.2.2.2.1))
theorem Zz.mono_l : ∀ k, (∀ y0 y1 y2 y3 y4 y5 y6 y7 y8 y9 y10 y11 y12, LeO (Zz.l0 k y0 y1 y2 y3 y4 y5 y6 y7 y8 y9 y10 y11 y12) (Zz.l0 (k + 1) y0 y1 y2 y3 y4 y5 y6 y7 y8 y9 y10 y11 y12))
  | 0 => fun _ _ _ _ _ _ _ _ _ _ _ _ _ r h => by simp [Zz.l0] at h
  | k + 1 => by
    have ih0 := Zz.mono_l k
    · intro y0 y1 y2 y3 y4 y5 y6 y7 y8 y9 y10 y11 y12
      unfold Zz.l0
      repeat' first
      | (with_reducible exact ih0 _ _ _ _ _ _ _ _ _ _ _ _ _)
      | (with_reducible exact Zk1.mono _ _ _ _ _ _)
      | (with_reducible exact Zd1.mono _ _ _ _ _ _ _)
      | (with_reducible exact LeO.refl _)
      | (with_reducible exact LeO.none _)
      | (with_reducible refine LeO.ite ?_ ?_)
      | (with_reducible refine LeO.bind ?_ (fun _ => ?_))
      | exact ih0 _ _ _ _ _ _ _ _ _ _ _ _ _
      | exact Zk1.mono _ _ _ _ _ _
      | exact Zd1.mono _ _ _ _ _ _ _
      | exact LeO.none _
      | refine LeO.ite ?_ ?_
      | refine LeO.bind ?_ (fun _ => ?_)
theorem Zz.mono : ∀ a0 a1 a2 a3 a4 k, LeO (Zz.f k a0 a1 a2 a3 a4) (Zz.f (k + 1) a0 a1 a2 a3 a4) := by
  intro a0 a1 a2 a3 a4 k
  have ih0 := Zz.mono_l k
  unfold Zz.f
  repeat' first
      | (with_reducible exact ih0 _ _ _ _ _ _ _ _ _ _ _ _ _)
      | (with_reducible exact Zk1.mono _ _ _ _ _ _)
      | (with_reducible exact Zd1.mono _ _ _ _ _ _ _)
      | (with_reducible exact LeO.refl _)
      | (with_reducible exact LeO.none _)
      | (with_reducible refine LeO.ite ?_ ?_)
      | (with_reducible refine LeO.bind ?_ (fun _ => ?_))
      | exact ih0 _ _ _ _ _ _ _ _ _ _ _ _ _
      | exact Zk1.mono _ _ _ _ _ _
      | exact Zd1.mono _ _ _ _ _ _ _
      | exact LeO.none _
      | refine LeO.ite ?_ ?_
      | refine LeO.bind ?_ (fun _ => ?_)
def Zz.T1 : Bool × List (List Nat × List Nat) := (true, [([], []), ([], []), ([1], [1]), ([0, 2, 2], [0, 2]), ([3], [3]), ([4], [4]), ([4], [4]), ([], []), ([7, 5, 3, 0, 1, 2, 3, 4, 5, 7], [5, 7]), ([6, 8, 0, 1, 2, 3, 4, 5, 6, 7, 8], [6])])
def Zz.B1 : List Nat := [0, 0, 2, 7, 15, 31, 31, 0, 191, 511]
theorem Zz.tab1 : rtab .any (opsOf Try.f29 1) = Zz.T1 := by kernel_rfl
theorem Zz.bits1 : waitsOk Zz.T1.2 Zz.B1 = true := by kernel_rfl
def Zz.T5 : Bool × List (List Nat × List Nat) := (true, [([], []), ([0], [0]), ([], []), ([2], [2]), ([], []), ([3, 4], [3, 4]), ([5], [5]), ([], []), ([6, 7], [6, 7]), ([1, 8], [1, 8]), ([0, 1, 2, 3, 4, 5, 6, 7, 8, 9], []), ([10, 9, 0, 1, 2, 3, 4, 5, 6, 7, 8, 9], [9, 10])])
def Zz.B5 : List Nat := [0, 1, 0, 4, 0, 28, 60, 0, 252, 511, 1023, 2047]
theorem Zz.tab5 : rtab .any (opsOf Try.f29 5) = Zz.T5 := by kernel_rfl
theorem Zz.bits5 : waitsOk Zz.T5.2 Zz.B5 = true := by kernel_rfl
set_option maxHeartbeats 8000000 in
set_option maxRecDepth 100000 in
theorem Zz.calls (k : Nat) (a0_0 : Int) (a0_1 : Int) (A0_2 : Option Addr) (c0_2 : Nat) (l0_2 : List (List Int)) (a0_3 : Int) (a0_4 : Int) (r1 : Int) (r2 : Int) (r3 : List (List Int)) (r4 : Int) (r5 : Int) (w : World) (hr0_2 : Kd.C (Kd.slice 3 (Kd.int .i64)) w A0_2 l0_2.length l0_2) (hc0_2 : l0_2.length ≤ c0_2) (h : Zz.f k a0_0 a0_1 l0_2 a0_3 a0_4 = some (r1, r2, r3, r4, r5)) :
    Calls Try.prog 29 #[.agg #[.int .i64 a0_0, .int .i64 a0_1, .slice A0_2 l0_2.length c0_2, .int .i64 a0_3, .int .u32 a0_4]] w fun e w' => ∃ v2_ : Value, e = .returned (.agg #[.int .i64 r1, .int .i64 r2, v2_, .int .i64 r4, .int .u32 r5]) ∧ Kd.S (Kd.slice 3 (Kd.int .i64)) 36 w' w.heap.size (fun _ => True) v2_ r3 ∧ Below w.heap.size w w' := by
 (have hu35 := Try.underlying35); (have HR0_2 := Za.mk hr0_2); (have HC0_2 := Za.mk hc0_2); (clear hr0_2 hc0_2); (have HB := Za.mk (Below.refl w.heap.size w)); (have H : ((Zk1.f k a0_0 a0_1 l0_2 a0_3 a0_4).bind fun t158 => ((Zd1.f k a0_0 a0_1 l0_2 a0_3 a0_4 t158).bind fun bt161 => (Zz.l0 k bt161.2.2.2.2.2 (bt161.2.2.2.2.2.length : Int) 0 a0_0 a0_1 l0_2 a0_3 a0_4 bt161.1 bt161.2.1 bt161.2.2.1 bt161.2.2.2.1 bt161.2.2.2.2.1))) = some (r1, r2, r3, r4, r5) := h); (clear h); (replace H := Option.bind_eq_some_iff.mp H); (obtain ⟨t158, A20, H⟩ := H); (replace H : ((Zd1.f k a0_0 a0_1 l0_2 a0_3 a0_4 t158).bind fun bt161 => (Zz.l0 k bt161.2.2.2.2.2 (bt161.2.2.2.2.2.length : Int) 0 a0_0 a0_1 l0_2 a0_3 a0_4 bt161.1 bt161.2.1 bt161.2.2.1 bt161.2.2.2.1 bt161.2.2.2.2.1)) = some (r1, r2, r3, r4, r5) := H); (have A2 := Za.mk A20); (clear A20); (replace H := Option.bind_eq_some_iff.mp H); (obtain ⟨⟨t161, t162, t163, t166, t167, t168⟩, A30, H⟩ := H); (replace H : (Zz.l0 k t168 (t168.length : Int) 0 a0_0 a0_1 l0_2 a0_3 a0_4 t161 t162 t163 t166 t167) = some (r1, r2, r3, r4, r5) := H); (have A3 := Za.mk A30); (clear A30); (have H' := Za.mk H); (clear H)
 go_enter Try.func29, Try.ntmps29
 try go_wp2_with (first | ((with_reducible refine Za1 (N := 1) rfl ?_); refine Zf1 ?hg (N := 1) ?hd (cs := #[.int .i64 a0_0, .int .i64 a0_1, .slice A0_2 l0_2.length c0_2, .int .i64 a0_3, .int .u32 a0_4]) (t := 35) ?hr ?_; (case hd => rfl); (case hg => rfl); (case hr => first | (go_simp; done) | (go_simp; rfl)); intro gb156 hg w4 hbox hb; have BK156 := Za.mk (hbox); have GW156 := Za.mk ((by rw [hg]; exact (Zi (by repeat (first | (with_reducible first | exact HB.out | apply zc1 | apply zc2 | apply zc3) | exact HB.out))) : w.heap.size ≤ gb156)); have GE156 := Za.mk ((by rw [hg]; exact (Zi (by repeat (first | (with_reducible first | exact HB.out | apply zc1 | apply zc2 | apply zc3) | exact HB.out))) : w.heap.size ≤ gb156)); replace HB := Za.mk (Zn (by repeat (first | (with_reducible first | exact HB.out | apply zc1 | apply zc2 | apply zc3) | exact HB.out)) hb); clear hb hbox hg) | ((with_reducible refine Za1 (N := 2) rfl ?_); refine Zf1 ?hg (N := 2) ?hd (cs := #[.int .i64 0, .int .i64 0, .slice none 0 0, .int .i64 0, .int .u32 0]) (t := 35) ?hr ?_; (case hd => rfl); (case hg => rfl); (case hr => first | (go_simp; done) | (go_simp; rfl)); intro gb157 hg w5 hbox hb; have BK157 := Za.mk (hbox); have GW157 := Za.mk ((by rw [hg]; exact (Zi (by repeat (first | (with_reducible first | exact HB.out | apply zc1 | apply zc2 | apply zc3 | refine zc4 ?_ (by assumption)) | exact HB.out))) : w.heap.size ≤ gb157)); have GE157 := Za.mk ((by rw [hg]; exact (Zi (by repeat (first | (with_reducible first | exact HB.out | apply zc1 | apply zc2 | apply zc3 | refine zc4 ?_ (by assumption)) | exact HB.out))) : w.heap.size ≤ gb157)); replace HB := Za.mk (Zn (by repeat (first | (with_reducible first | exact HB.out | apply zc1 | apply zc2 | apply zc3 | refine zc4 ?_ (by assumption)) | exact HB.out)) hb); have NB156_157 := Za.mk ((by rw [hg]; exact Nat.ne_of_lt (Zm (g := gb156) (o := .cells #[.int .i64 a0_0, .int .i64 a0_1, .slice A0_2 l0_2.length c0_2, .int .i64 a0_3, .int .u32 a0_4] 35 (0, 0)) (by (with_reducible repeat (first | apply zb3 | apply zb2 | apply zb1)); exact BK156.out)) : gb156 ≠ gb157)); have NB157_156 := Za.mk ((by rw [hg]; exact Nat.ne_of_gt (Zm (g := gb156) (o := .cells #[.int .i64 a0_0, .int .i64 a0_1, .slice A0_2 l0_2.length c0_2, .int .i64 a0_3, .int .u32 a0_4] 35 (0, 0)) (by (with_reducible repeat (first | apply zb3 | apply zb2 | apply zb1)); exact BK156.out)) : gb157 ≠ gb156)); replace BK156 := Za.mk (Zh (g := gb156) (by (with_reducible repeat (first | apply zb3 | apply zb2 | apply zb1)); exact BK156.out) hb); clear hb hbox hg))
 (replace BK156 := Za.mk (Zg BK156.out)); (replace BK157 := Za.mk (Zg BK157.out)); (replace HB := Za.mk (below_drew1 HB.out))
 refine start_ (n := 10) (S := fun w' => w'.cell? ⟨gb156, 0, none⟩ = some (.int .i64 a0_0) ∧ w'.cell? ⟨gb156, 1, none⟩ = some (.int .i64 a0_1) ∧ w'.cell? ⟨gb156, 2, none⟩ = some (.slice A0_2 l0_2.length c0_2) ∧ w'.cell? ⟨gb156, 3, none⟩ = some (.int .i64 a0_3) ∧ w'.cell? ⟨gb156, 4, none⟩ = some (.int .u32 a0_4)) (ds := []) #[false, false, false, false, false, false, false, false, false, false] (by kernel_rfl) rfl rfl ⟨(Zb BK156.out 0).trans rfl, (Zb BK156.out 1).trans rfl, (Zb BK156.out 2).trans rfl, (Zb BK156.out 3).trans rfl, (Zb BK156.out 4).trans rfl⟩ (fun hHeld => ?_); refine with_tabW Zz.tab1 Zz.bits1 (fun HT_ HW_ => ?_)
 generalize w5.drew = w6 at BK156 BK157 HB hHeld ⊢
 refine take_ (i := 0) (N := some 8) (v := ?_) (a' := ?_) #[true, false, false, false, false, false, false, false, false, false] rfl rfl (Zh1 HT_.out HW_.out (by kernel_rfl)) (fun _ _ _ h => h) (Or.inl ⟨by rfl, ?_⟩) hHeld ?_ ?_
 rotate_left
 ·rintro w' ⟨s0, s1, s2, s3, s4⟩
  go_simp
  with_reducible rfl
 rotate_left
 ·simp only [Act.put, List.setIfInBounds_toArray, List.set_cons_zero, List.set_cons_succ, Zf, Ze]
  rfl
 refine take_ (i := 1) (N := some 9) (v := ?_) (a' := ?_) #[true, true, false, false, false, false, false, false, false, false] rfl rfl (Zh1 HT_.out HW_.out (by kernel_rfl)) (fun _ _ _ h => h) (Or.inl ⟨by rfl, ?_⟩) hHeld ?_ ?_
 rotate_left
 ·rintro w' ⟨s0, s1, s2, s3, s4⟩
  go_simp
  with_reducible rfl
 rotate_left
 ·simp only [Act.put, List.setIfInBounds_toArray, List.set_cons_zero, List.set_cons_succ, Zf, Ze]
  rfl
 refine join_ (σ := Value × Value × Value × Nat) 2 #[true, true, true, true, true, true, true, true, false, false] (fun s_ => [(10, s_.1), (11, .tuple #[.agg #[.int .i64 t161, .int .i64 t162, s_.2.1, .int .i64 t166, .int .u32 t167], s_.2.2.1]), (3, .pointer (some ⟨s_.2.2.2, 0, none⟩)), (7, .tuple #[.agg #[.int .i64 t161, .int .i64 t162, s_.2.1, .int .i64 t166, .int .u32 t167], s_.2.2.1]), (12, .agg #[.int .i64 t161, .int .i64 t162, s_.2.1, .int .i64 t166, .int .u32 t167]), (13, s_.2.2.1)]) (fun s_ w' => (w'.cell? ⟨gb156, 0, none⟩ = some (.int .i64 a0_0) ∧ w'.cell? ⟨gb156, 1, none⟩ = some (.int .i64 a0_1) ∧ w'.cell? ⟨gb156, 2, none⟩ = some (.slice A0_2 l0_2.length c0_2) ∧ w'.cell? ⟨gb156, 3, none⟩ = some (.int .i64 a0_3) ∧ w'.cell? ⟨gb156, 4, none⟩ = some (.int .u32 a0_4)) ∧ (Kd.R (Kd.int .i64) 3 w' w.heap.size (fun k_ => some k_ ≠ (s_.2.2.1 : Value).ownBlock) s_.1 t158) ∧ (Kd.S (Kd.slice 3 (Kd.int .i64)) 36 w' w.heap.size (fun k_ => some k_ ≠ (s_.1 : Value).ownBlock ∧ some k_ ≠ (s_.2.2.1 : Value).ownBlock) s_.2.1 t163) ∧ (Kd.R (Kd.int .i64) 3 w' w.heap.size (fun k_ => some k_ ≠ (s_.1 : Value).ownBlock) s_.2.2.1 t168) ∧ (w'.heap[gb156]? = some (.cells #[.int .i64 a0_0, .int .i64 a0_1, .slice A0_2 l0_2.length c0_2, .int .i64 a0_3, .int .u32 a0_4] 35 (0, 0))) ∧ (w'.heap[gb157]? = some (.cells #[.int .i64 0, .int .i64 0, .slice none 0 0, .int .i64 0, .int .u32 0] 35 (0, 0))) ∧ (w'.heap[s_.2.2.2]? = some (.cells #[.int .i64 0, .int .i64 0, .slice none 0 0, .int .i64 0, .int .u32 0] 35 (0, 0))) ∧ (w.heap.size ≤ s_.2.2.2) ∧ (w.heap.size ≤ s_.2.2.2) ∧ (gb156 ≠ s_.2.2.2) ∧ (s_.2.2.2 ≠ gb156) ∧ (gb157 ≠ s_.2.2.2) ∧ (s_.2.2.2 ≠ gb157) ∧ (Below w.heap.size w w')) ?_ ?_
 rotate_left
 ·intro hCont
  refine two_ (i := 2) (j := 7) (Ni := some 10) (Nj := some 3) #[true, true, true, false, false, false, false, false, false, false] #[true, true, false, false, false, false, false, true, false, false] rfl rfl rfl rfl (two_of HT_.out (by kernel_rfl)) (by decide) (by decide) (fun K hK => ?_) (fun K hK => ?_)
  rotate_left
  ·skip
   refine box_step ?hg (N := 3) ?hd (cs := #[.int .i64 0, .int .i64 0, .slice none 0 0, .int .i64 0, .int .u32 0]) (t := 35) ?hr ?_; (case hd => rfl); (case hg => rfl); (case hr => first | (go_simp; done) | (go_simp; rfl))
   intro gb171 hg w7 hbox hb
   (have BK171 := Za.mk (hbox)); (have GW171 := Za.mk ((by rw [hg]; exact (Zi (by repeat (first | (with_reducible first | exact HB.out | apply zc1 | apply zc2 | apply zc3 | refine zc4 ?_ (by assumption)) | exact HB.out))) : w.heap.size ≤ gb171))); (have GE171 := Za.mk ((by rw [hg]; exact (Zi (by repeat (first | (with_reducible first | exact HB.out | apply zc1 | apply zc2 | apply zc3 | refine zc4 ?_ (by assumption)) | exact HB.out))) : w.heap.size ≤ gb171))); (replace HB := Za.mk (Zn (by repeat (first | (with_reducible first | exact HB.out | apply zc1 | apply zc2 | apply zc3 | refine zc4 ?_ (by assumption)) | exact HB.out)) hb)); (have NB156_171 := Za.mk ((by rw [hg]; exact Nat.ne_of_lt (Zm (g := gb156) (o := .cells #[.int .i64 a0_0, .int .i64 a0_1, .slice A0_2 l0_2.length c0_2, .int .i64 a0_3, .int .u32 a0_4] 35 (0, 0)) (by (with_reducible repeat (first | apply zb3 | apply zb2 | apply zb1)); exact BK156.out)) : gb156 ≠ gb171))); (have NB171_156 := Za.mk ((by rw [hg]; exact Nat.ne_of_gt (Zm (g := gb156) (o := .cells #[.int .i64 a0_0, .int .i64 a0_1, .slice A0_2 l0_2.length c0_2, .int .i64 a0_3, .int .u32 a0_4] 35 (0, 0)) (by (with_reducible repeat (first | apply zb3 | apply zb2 | apply zb1)); exact BK156.out)) : gb171 ≠ gb156))); (replace BK156 := Za.mk (Zh (g := gb156) (by (with_reducible repeat (first | apply zb3 | apply zb2 | apply zb1)); exact BK156.out) hb)); (have NB157_171 := Za.mk ((by rw [hg]; exact Nat.ne_of_lt (Zm (g := gb157) (o := .cells #[.int .i64 0, .int .i64 0, .slice none 0 0, .int .i64 0, .int .u32 0] 35 (0, 0)) (by (with_reducible repeat (first | apply zb3 | apply zb2 | apply zb1)); exact BK157.out)) : gb157 ≠ gb171)))
   (have NB171_157 := Za.mk ((by rw [hg]; exact Nat.ne_of_gt (Zm (g := gb157) (o := .cells #[.int .i64 0, .int .i64 0, .slice none 0 0, .int .i64 0, .int .u32 0] 35 (0, 0)) (by (with_reducible repeat (first | apply zb3 | apply zb2 | apply zb1)); exact BK157.out)) : gb171 ≠ gb157))); (replace BK157 := Za.mk (Zh (g := gb157) (by (with_reducible repeat (first | apply zb3 | apply zb2 | apply zb1)); exact BK157.out) hb)); (clear hb hbox hg)
   refine hK.out _ _ ⟨(Zb BK156.out 0).trans rfl, (Zb BK156.out 1).trans rfl, (Zb BK156.out 2).trans rfl, (Zb BK156.out 3).trans rfl, (Zb BK156.out 4).trans rfl⟩ (fun hHeld => ?_)
   clear hK K
   refine norm_ (a' := ?_) ?_ ?_
   rotate_left
   ·show Act.put _ (some 3) _ = _
    simp only [Act.put, List.setIfInBounds_toArray, List.set_cons_zero, List.set_cons_succ, Zf, Ze]
    rfl
   refine one_ (i := 2) (N := some 10) #[true, true, true, false, false, false, false, true, false, false] rfl rfl (one_of HT_.out (by kernel_rfl)) (by decide) (fun K hK => ?_)
   refine goes_ Try.func27 (by kernel_rfl) rfl #[.agg #[.int .i64 a0_0, .int .i64 a0_1, .slice A0_2 l0_2.length c0_2, .int .i64 a0_3, .int .u32 a0_4]] (by rfl) rfl rfl (by (try simp only [List.map_toArray, List.map_cons, List.map_nil]); first | done | rfl | (simp only [List.length_drop, List.length_take]; rfl)) ?_
   with_reducible refine (Zk1.calls k a0_0 a0_1 _ _ l0_2 a0_3 a0_4 t158 _ ?side1 ?side2 A2.out).mono ?_
   (case side1 => repeat (first | exact (Kd.C_below HR0_2.out HB.out) | (with_reducible refine Kd.C_alloc ?_ _) | (with_reducible refine Kd.C_drewN ?_ _) | (with_reducible refine Kd.C_drew ?_)))
   (case side2 => exact HC0_2.out)
   rintro e w8 ⟨v159, rfl, ho0, hb⟩
   refine ⟨_, rfl, ?_⟩
   (have HO160 := Za.mk (Kd.R_lower ho0 (Zi (by repeat (first | (with_reducible first | exact HB.out | apply zc1 | apply zc2 | apply zc3 | refine zc4 ?_ (by assumption)) | exact HB.out))))); (replace BK156 := Za.mk (Zh (g := gb156) (by (with_reducible repeat (first | apply zb3 | apply zb2 | apply zb1)); exact BK156.out) hb)); (replace BK157 := Za.mk (Zh (g := gb157) (by (with_reducible repeat (first | apply zb3 | apply zb2 | apply zb1)); exact BK157.out) hb)); (replace BK171 := Za.mk (Zh (g := gb171) (by (with_reducible repeat (first | apply zb3 | apply zb2 | apply zb1)); exact BK171.out) hb)); (replace HB := Za.mk (Zn (by repeat (first | (with_reducible first | exact HB.out | apply zc1 | apply zc2 | apply zc3 | refine zc4 ?_ (by assumption)) | exact HB.out)) hb)); ((try clear hb)); ((try clear hb2)); ((try clear hk)); ((try clear hi)); ((try clear ho0)); (obtain ⟨Ao9, co9, eo9⟩ := Kd.R_slice HO160.out)
   (first | subst eo9 | (injection eo9 with f1_ f2_ f3_; have f4_ := f1_.symm; have f5_ := f3_.symm; clear f1_ f2_ f3_; subst f4_; subst f5_))
   refine hK.out _ _ ⟨(Zb BK156.out 0).trans rfl, (Zb BK156.out 1).trans rfl, (Zb BK156.out 2).trans rfl, (Zb BK156.out 3).trans rfl, (Zb BK156.out 4).trans rfl⟩ (fun hHeld => ?_)
   clear hK K
   refine norm_ (a' := ?_) ?_ ?_
   rotate_left
   ·show Act.put _ (some 10) _ = _
    simp only [Act.put, List.setIfInBounds_toArray, List.set_cons_zero, List.set_cons_succ, Zf, Ze]
    rfl
   refine one_ (i := 3) (N := some 11) #[true, true, true, true, false, false, false, true, false, false] rfl rfl (one_of HT_.out (by kernel_rfl)) (by decide) (fun K hK => ?_)
   refine goes_ Try.func41 (by kernel_rfl) rfl #[.agg #[.int .i64 a0_0, .int .i64 a0_1, .slice A0_2 l0_2.length c0_2, .int .i64 a0_3, .int .u32 a0_4], .slice Ao9 t158.length co9] (by rfl) rfl rfl (by (try simp only [List.map_toArray, List.map_cons, List.map_nil]); first | done | rfl | (simp only [List.length_drop, List.length_take]; rfl)) ?_
   with_reducible refine (Zd1.calls k a0_0 a0_1 _ _ l0_2 a0_3 a0_4 _ _ t158 t161 t162 t163 t166 t167 t168 _ ?side1 ?side2 ?side3 ?side4 A3.out).mono ?_
   (case side1 => repeat (first | exact (Kd.C_below HR0_2.out HB.out) | (with_reducible refine Kd.C_alloc ?_ _) | (with_reducible refine Kd.C_drewN ?_ _) | (with_reducible refine Kd.C_drew ?_)))
   (case side2 => exact HC0_2.out)
   (case side3 => repeat (first | exact (Kd.R_reads' HO160.out).2.2 | (with_reducible refine Kd.C_alloc ?_ _) | (with_reducible refine Kd.C_drewN ?_ _) | (with_reducible refine Kd.C_drew ?_)))
   (case side4 => exact (Kd.R_reads' HO160.out).2.1)
   rintro e w10 ⟨v164, v169, rfl, ho0, ho1, hb⟩
   refine ⟨_, rfl, ?_⟩
   (have HO165 := Za.mk (Kd.S_lower (Kd.S_new' ho0 (Kd.R_lt (by (with_reducible repeat (first | apply Kd.R_alloc | apply Kd.R_drewN | apply Kd.R_drew)); exact HO160.out))) (Zi (by repeat (first | (with_reducible first | exact HB.out | apply zc1 | apply zc2 | apply zc3 | refine zc4 ?_ (by assumption)) | exact HB.out))))); (have HO170 := Za.mk (Kd.R_lower (Kd.R_new' ho1 (Kd.R_lt (by (with_reducible repeat (first | apply Kd.R_alloc | apply Kd.R_drewN | apply Kd.R_drew)); exact HO160.out))) (Zi (by repeat (first | (with_reducible first | exact HB.out | apply zc1 | apply zc2 | apply zc3 | refine zc4 ?_ (by assumption)) | exact HB.out))))); (replace HO160 := Za.mk (Kd.R_elder' (by (with_reducible repeat (first | apply Kd.R_alloc | apply Kd.R_drewN | apply Kd.R_drew)); exact HO160.out) (Kd.R_base ho1) hb)); (replace BK156 := Za.mk (Zh (g := gb156) (by (with_reducible repeat (first | apply zb3 | apply zb2 | apply zb1)); exact BK156.out) hb)); (replace BK157 := Za.mk (Zh (g := gb157) (by (with_reducible repeat (first | apply zb3 | apply zb2 | apply zb1)); exact BK157.out) hb)); (replace BK171 := Za.mk (Zh (g := gb171) (by (with_reducible repeat (first | apply zb3 | apply zb2 | apply zb1)); exact BK171.out) hb)); (replace HB := Za.mk (Zn (by repeat (first | (with_reducible first | exact HB.out | apply zc1 | apply zc2 | apply zc3 | refine zc4 ?_ (by assumption)) | exact HB.out)) hb)); ((try clear hb)); ((try clear hb2)); ((try clear hk)); ((try clear hi)); ((try clear ho0))
   (try clear ho1)
   refine hK.out _ _ ⟨(Zb BK156.out 0).trans rfl, (Zb BK156.out 1).trans rfl, (Zb BK156.out 2).trans rfl, (Zb BK156.out 3).trans rfl, (Zb BK156.out 4).trans rfl⟩ (fun hHeld => ?_)
   clear hK K
   refine norm_ (a' := ?_) ?_ ?_
   rotate_left
   ·show Act.put _ (some 11) _ = _
    simp only [Act.put, List.setIfInBounds_toArray, List.set_cons_zero, List.set_cons_succ, Zf, Ze]
    rfl
   refine pure_ (i := 4) (N := some 7) (v := ?_) (a' := ?_) #[true, true, true, true, true, false, false, true, false, false] rfl rfl (Zp HT_.out (by kernel_rfl)) (fun _ _ _ h => h) (Or.inl ⟨by rfl, ?_⟩) ?_ ?_
   rotate_left
   ·intro w'
    go_simp
    with_reducible rfl
   rotate_left
   ·simp only [Act.put, List.setIfInBounds_toArray, List.set_cons_zero, List.set_cons_succ, Zf, Ze]
    rfl
   refine pure_ (i := 5) (N := some 12) (v := ?_) (a' := ?_) #[true, true, true, true, true, true, false, true, false, false] rfl rfl (Zp HT_.out (by kernel_rfl)) (fun _ _ _ h => h) (Or.inl ⟨by rfl, ?_⟩) ?_ ?_
   rotate_left
   ·intro w'
    go_simp
    with_reducible rfl
   rotate_left
   ·simp only [Act.put, List.setIfInBounds_toArray, List.set_cons_zero, List.set_cons_succ, Zf, Ze]
    rfl
   refine pure_ (i := 6) (N := some 13) (v := ?_) (a' := ?_) #[true, true, true, true, true, true, true, true, false, false] rfl rfl (Zp HT_.out (by kernel_rfl)) (fun _ _ _ h => h) (Or.inl ⟨by rfl, ?_⟩) ?_ ?_
   rotate_left
   ·intro w'
    go_simp
    with_reducible rfl
   rotate_left
   ·simp only [Act.put, List.setIfInBounds_toArray, List.set_cons_zero, List.set_cons_succ, Zf, Ze]
    rfl
   exact norm_ (by simp only [putAll, Act.put, List.setIfInBounds_toArray, List.set_cons_zero, List.set_cons_succ]) (hCont (.slice Ao9 t158.length co9, v164, v169, gb171) _ ⟨hHeld, (by (with_reducible repeat (first | apply Kd.R_alloc | apply Kd.R_drewN | apply Kd.R_drew)); exact Kd.R_mono HO160.out (fun _ hk => hk.2)), (by (with_reducible repeat (first | apply Kd.S_alloc | apply Kd.S_drewN | apply Kd.S_drew)); exact Kd.S_mono HO165.out (fun _ hk => ⟨hk.2, hk.1⟩)), (by (with_reducible repeat (first | apply Kd.R_alloc | apply Kd.R_drewN | apply Kd.R_drew)); exact Kd.R_mono HO170.out (fun _ hk => hk.2)), (by (with_reducible repeat (first | apply zb3 | apply zb2 | apply zb1)); exact BK156.out), (by (with_reducible repeat (first | apply zb3 | apply zb2 | apply zb1)); exact BK157.out), (by (with_reducible repeat (first | apply zb3 | apply zb2 | apply zb1)); exact BK171.out), GW171.out, GE171.out, NB156_171.out, NB171_156.out, NB157_171.out, NB171_157.out, (by repeat (first | (with_reducible first | exact HB.out | apply zc1 | apply zc2 | apply zc3 | refine zc4 ?_ (by assumption)) | exact HB.out))⟩)
  skip
  refine goes_ Try.func27 (by kernel_rfl) rfl #[.agg #[.int .i64 a0_0, .int .i64 a0_1, .slice A0_2 l0_2.length c0_2, .int .i64 a0_3, .int .u32 a0_4]] (by rfl) rfl rfl (by (try simp only [List.map_toArray, List.map_cons, List.map_nil]); first | done | rfl | (simp only [List.length_drop, List.length_take]; rfl)) ?_
  with_reducible refine (Zk1.calls k a0_0 a0_1 _ _ l0_2 a0_3 a0_4 t158 _ ?side1 ?side2 A2.out).mono ?_
  (case side1 => repeat (first | exact (Kd.C_below HR0_2.out HB.out) | (with_reducible refine Kd.C_alloc ?_ _) | (with_reducible refine Kd.C_drewN ?_ _) | (with_reducible refine Kd.C_drew ?_)))
  (case side2 => exact HC0_2.out)
  rintro e w7 ⟨v159, rfl, ho0, hb⟩
  refine ⟨_, rfl, ?_⟩
  (have HO160 := Za.mk (Kd.R_lower ho0 (Zi (by repeat (first | (with_reducible first | exact HB.out | apply zc1 | apply zc2 | apply zc3 | refine zc4 ?_ (by assumption)) | exact HB.out))))); (replace BK156 := Za.mk (Zh (g := gb156) (by (with_reducible repeat (first | apply zb3 | apply zb2 | apply zb1)); exact BK156.out) hb)); (replace BK157 := Za.mk (Zh (g := gb157) (by (with_reducible repeat (first | apply zb3 | apply zb2 | apply zb1)); exact BK157.out) hb)); (replace HB := Za.mk (Zn (by repeat (first | (with_reducible first | exact HB.out | apply zc1 | apply zc2 | apply zc3 | refine zc4 ?_ (by assumption)) | exact HB.out)) hb)); ((try clear hb)); ((try clear hb2)); ((try clear hk)); ((try clear hi)); ((try clear ho0)); (obtain ⟨Ao8, co8, eo8⟩ := Kd.R_slice HO160.out)
  (first | subst eo8 | (injection eo8 with f1_ f2_ f3_; have f4_ := f1_.symm; have f5_ := f3_.symm; clear f1_ f2_ f3_; subst f4_; subst f5_))
  refine hK.out _ _ ⟨(Zb BK156.out 0).trans rfl, (Zb BK156.out 1).trans rfl, (Zb BK156.out 2).trans rfl, (Zb BK156.out 3).trans rfl, (Zb BK156.out 4).trans rfl⟩ (fun hHeld => ?_)
  clear hK K
  refine norm_ (a' := ?_) ?_ ?_
  rotate_left
  ·show Act.put _ (some 10) _ = _
   simp only [Act.put, List.setIfInBounds_toArray, List.set_cons_zero, List.set_cons_succ, Zf, Ze]
   rfl
  refine two_ (i := 3) (j := 7) (Ni := some 11) (Nj := some 3) #[true, true, true, true, false, false, false, false, false, false] #[true, true, true, false, false, false, false, true, false, false] rfl rfl rfl rfl (two_of HT_.out (by kernel_rfl)) (by decide) (by decide) (fun K hK => ?_) (fun K hK => ?_)
  ·skip
   refine goes_ Try.func41 (by kernel_rfl) rfl #[.agg #[.int .i64 a0_0, .int .i64 a0_1, .slice A0_2 l0_2.length c0_2, .int .i64 a0_3, .int .u32 a0_4], .slice Ao8 t158.length co8] (by rfl) rfl rfl (by (try simp only [List.map_toArray, List.map_cons, List.map_nil]); first | done | rfl | (simp only [List.length_drop, List.length_take]; rfl)) ?_
   with_reducible refine (Zd1.calls k a0_0 a0_1 _ _ l0_2 a0_3 a0_4 _ _ t158 t161 t162 t163 t166 t167 t168 _ ?side1 ?side2 ?side3 ?side4 A3.out).mono ?_
   (case side1 => repeat (first | exact (Kd.C_below HR0_2.out HB.out) | (with_reducible refine Kd.C_alloc ?_ _) | (with_reducible refine Kd.C_drewN ?_ _) | (with_reducible refine Kd.C_drew ?_)))
   (case side2 => exact HC0_2.out)
   (case side3 => repeat (first | exact (Kd.R_reads' HO160.out).2.2 | (with_reducible refine Kd.C_alloc ?_ _) | (with_reducible refine Kd.C_drewN ?_ _) | (with_reducible refine Kd.C_drew ?_)))
   (case side4 => exact (Kd.R_reads' HO160.out).2.1)
   rintro e w9 ⟨v164, v169, rfl, ho0, ho1, hb⟩
   refine ⟨_, rfl, ?_⟩
   (have HO165 := Za.mk (Kd.S_lower (Kd.S_new' ho0 (Kd.R_lt (by (with_reducible repeat (first | apply Kd.R_alloc | apply Kd.R_drewN | apply Kd.R_drew)); exact HO160.out))) (Zi (by repeat (first | (with_reducible first | exact HB.out | apply zc1 | apply zc2 | apply zc3 | refine zc4 ?_ (by assumption)) | exact HB.out))))); (have HO170 := Za.mk (Kd.R_lower (Kd.R_new' ho1 (Kd.R_lt (by (with_reducible repeat (first | apply Kd.R_alloc | apply Kd.R_drewN | apply Kd.R_drew)); exact HO160.out))) (Zi (by repeat (first | (with_reducible first | exact HB.out | apply zc1 | apply zc2 | apply zc3 | refine zc4 ?_ (by assumption)) | exact HB.out))))); (replace HO160 := Za.mk (Kd.R_elder' (by (with_reducible repeat (first | apply Kd.R_alloc | apply Kd.R_drewN | apply Kd.R_drew)); exact HO160.out) (Kd.R_base ho1) hb)); (replace BK156 := Za.mk (Zh (g := gb156) (by (with_reducible repeat (first | apply zb3 | apply zb2 | apply zb1)); exact BK156.out) hb)); (replace BK157 := Za.mk (Zh (g := gb157) (by (with_reducible repeat (first | apply zb3 | apply zb2 | apply zb1)); exact BK157.out) hb)); (replace HB := Za.mk (Zn (by repeat (first | (with_reducible first | exact HB.out | apply zc1 | apply zc2 | apply zc3 | refine zc4 ?_ (by assumption)) | exact HB.out)) hb)); ((try clear hb)); ((try clear hb2)); ((try clear hk)); ((try clear hi)); ((try clear ho0)); ((try clear ho1))
   refine hK.out _ _ ⟨(Zb BK156.out 0).trans rfl, (Zb BK156.out 1).trans rfl, (Zb BK156.out 2).trans rfl, (Zb BK156.out 3).trans rfl, (Zb BK156.out 4).trans rfl⟩ (fun hHeld => ?_)
   clear hK K
   refine norm_ (a' := ?_) ?_ ?_
   rotate_left
   ·show Act.put _ (some 11) _ = _
    simp only [Act.put, List.setIfInBounds_toArray, List.set_cons_zero, List.set_cons_succ, Zf, Ze]
    rfl
   refine pure_ (i := 4) (N := some 7) (v := ?_) (a' := ?_) #[true, true, true, true, true, false, false, false, false, false] rfl rfl (Zp HT_.out (by kernel_rfl)) (fun _ _ _ h => h) (Or.inl ⟨by rfl, ?_⟩) ?_ ?_
   rotate_left
   ·intro w'
    go_simp
    with_reducible rfl
   rotate_left
   ·simp only [Act.put, List.setIfInBounds_toArray, List.set_cons_zero, List.set_cons_succ, Zf, Ze]
    rfl
   refine pure_ (i := 5) (N := some 12) (v := ?_) (a' := ?_) #[true, true, true, true, true, true, false, false, false, false] rfl rfl (Zp HT_.out (by kernel_rfl)) (fun _ _ _ h => h) (Or.inl ⟨by rfl, ?_⟩) ?_ ?_
   rotate_left
   ·intro w'
    go_simp
    with_reducible rfl
   rotate_left
   ·simp only [Act.put, List.setIfInBounds_toArray, List.set_cons_zero, List.set_cons_succ, Zf, Ze]
    rfl
   refine pure_ (i := 6) (N := some 13) (v := ?_) (a' := ?_) #[true, true, true, true, true, true, true, false, false, false] rfl rfl (Zp HT_.out (by kernel_rfl)) (fun _ _ _ h => h) (Or.inl ⟨by rfl, ?_⟩) ?_ ?_
   rotate_left
   ·intro w'
    go_simp
    with_reducible rfl
   rotate_left
   ·simp only [Act.put, List.setIfInBounds_toArray, List.set_cons_zero, List.set_cons_succ, Zf, Ze]
    rfl
   refine one_ (i := 7) (N := some 3) #[true, true, true, true, true, true, true, true, false, false] rfl rfl (one_of HT_.out (by kernel_rfl)) (by decide) (fun K hK => ?_)
   refine box_step ?hg (N := 3) ?hd (cs := #[.int .i64 0, .int .i64 0, .slice none 0 0, .int .i64 0, .int .u32 0]) (t := 35) ?hr ?_; (case hd => rfl); (case hg => rfl); (case hr => first | (go_simp; done) | (go_simp; rfl))
   intro gb171 hg w10 hbox hb
   (replace HO160 := Za.mk (Kd.R_below (by (with_reducible repeat (first | apply Kd.R_alloc | apply Kd.R_drewN | apply Kd.R_drew)); exact HO160.out) hb)); (replace HO165 := Za.mk (Kd.S_below (by (with_reducible repeat (first | apply Kd.S_alloc | apply Kd.S_drewN | apply Kd.S_drew)); exact HO165.out) hb)); (replace HO170 := Za.mk (Kd.R_below (by (with_reducible repeat (first | apply Kd.R_alloc | apply Kd.R_drewN | apply Kd.R_drew)); exact HO170.out) hb)); (have BK171 := Za.mk (hbox)); (have GW171 := Za.mk ((by rw [hg]; exact (Zi (by repeat (first | (with_reducible first | exact HB.out | apply zc1 | apply zc2 | apply zc3 | refine zc4 ?_ (by assumption)) | exact HB.out))) : w.heap.size ≤ gb171))); (have GE171 := Za.mk ((by rw [hg]; exact (Zi (by repeat (first | (with_reducible first | exact HB.out | apply zc1 | apply zc2 | apply zc3 | refine zc4 ?_ (by assumption)) | exact HB.out))) : w.heap.size ≤ gb171))); (replace HB := Za.mk (Zn (by repeat (first | (with_reducible first | exact HB.out | apply zc1 | apply zc2 | apply zc3 | refine zc4 ?_ (by assumption)) | exact HB.out)) hb)); (have NB156_171 := Za.mk ((by rw [hg]; exact Nat.ne_of_lt (Zm (g := gb156) (o := .cells #[.int .i64 a0_0, .int .i64 a0_1, .slice A0_2 l0_2.length c0_2, .int .i64 a0_3, .int .u32 a0_4] 35 (0, 0)) (by (with_reducible repeat (first | apply zb3 | apply zb2 | apply zb1)); exact BK156.out)) : gb156 ≠ gb171))); (have NB171_156 := Za.mk ((by rw [hg]; exact Nat.ne_of_gt (Zm (g := gb156) (o := .cells #[.int .i64 a0_0, .int .i64 a0_1, .slice A0_2 l0_2.length c0_2, .int .i64 a0_3, .int .u32 a0_4] 35 (0, 0)) (by (with_reducible repeat (first | apply zb3 | apply zb2 | apply zb1)); exact BK156.out)) : gb171 ≠ gb156)))
   (replace BK156 := Za.mk (Zh (g := gb156) (by (with_reducible repeat (first | apply zb3 | apply zb2 | apply zb1)); exact BK156.out) hb)); (have NB157_171 := Za.mk ((by rw [hg]; exact Nat.ne_of_lt (Zm (g := gb157) (o := .cells #[.int .i64 0, .int .i64 0, .slice none 0 0, .int .i64 0, .int .u32 0] 35 (0, 0)) (by (with_reducible repeat (first | apply zb3 | apply zb2 | apply zb1)); exact BK157.out)) : gb157 ≠ gb171))); (have NB171_157 := Za.mk ((by rw [hg]; exact Nat.ne_of_gt (Zm (g := gb157) (o := .cells #[.int .i64 0, .int .i64 0, .slice none 0 0, .int .i64 0, .int .u32 0] 35 (0, 0)) (by (with_reducible repeat (first | apply zb3 | apply zb2 | apply zb1)); exact BK157.out)) : gb171 ≠ gb157))); (replace BK157 := Za.mk (Zh (g := gb157) (by (with_reducible repeat (first | apply zb3 | apply zb2 | apply zb1)); exact BK157.out) hb)); (clear hb hbox hg)
   refine hK.out _ _ ⟨(Zb BK156.out 0).trans rfl, (Zb BK156.out 1).trans rfl, (Zb BK156.out 2).trans rfl, (Zb BK156.out 3).trans rfl, (Zb BK156.out 4).trans rfl⟩ (fun hHeld => ?_)
   clear hK K
   refine norm_ (a' := ?_) ?_ ?_
   rotate_left
   ·show Act.put _ (some 3) _ = _
    simp only [Act.put, List.setIfInBounds_toArray, List.set_cons_zero, List.set_cons_succ, Zf, Ze]
    rfl
   exact norm_ (by simp only [putAll, Act.put, List.setIfInBounds_toArray, List.set_cons_zero, List.set_cons_succ]) (hCont (.slice Ao8 t158.length co8, v164, v169, gb171) _ ⟨hHeld, (by (with_reducible repeat (first | apply Kd.R_alloc | apply Kd.R_drewN | apply Kd.R_drew)); exact Kd.R_mono HO160.out (fun _ hk => hk.2)), (by (with_reducible repeat (first | apply Kd.S_alloc | apply Kd.S_drewN | apply Kd.S_drew)); exact Kd.S_mono HO165.out (fun _ hk => ⟨hk.2, hk.1⟩)), (by (with_reducible repeat (first | apply Kd.R_alloc | apply Kd.R_drewN | apply Kd.R_drew)); exact Kd.R_mono HO170.out (fun _ hk => hk.2)), (by (with_reducible repeat (first | apply zb3 | apply zb2 | apply zb1)); exact BK156.out), (by (with_reducible repeat (first | apply zb3 | apply zb2 | apply zb1)); exact BK157.out), (by (with_reducible repeat (first | apply zb3 | apply zb2 | apply zb1)); exact BK171.out), GW171.out, GE171.out, NB156_171.out, NB171_156.out, NB157_171.out, NB171_157.out, (by repeat (first | (with_reducible first | exact HB.out | apply zc1 | apply zc2 | apply zc3 | refine zc4 ?_ (by assumption)) | exact HB.out))⟩)
  skip
  refine box_step ?hg (N := 3) ?hd (cs := #[.int .i64 0, .int .i64 0, .slice none 0 0, .int .i64 0, .int .u32 0]) (t := 35) ?hr ?_; (case hd => rfl); (case hg => rfl); (case hr => first | (go_simp; done) | (go_simp; rfl))
  intro gb171 hg w8 hbox hb
  (replace HO160 := Za.mk (Kd.R_below (by (with_reducible repeat (first | apply Kd.R_alloc | apply Kd.R_drewN | apply Kd.R_drew)); exact HO160.out) hb)); (have BK171 := Za.mk (hbox)); (have GW171 := Za.mk ((by rw [hg]; exact (Zi (by repeat (first | (with_reducible first | exact HB.out | apply zc1 | apply zc2 | apply zc3 | refine zc4 ?_ (by assumption)) | exact HB.out))) : w.heap.size ≤ gb171))); (have GE171 := Za.mk ((by rw [hg]; exact (Zi (by repeat (first | (with_reducible first | exact HB.out | apply zc1 | apply zc2 | apply zc3 | refine zc4 ?_ (by assumption)) | exact HB.out))) : w.heap.size ≤ gb171))); (replace HB := Za.mk (Zn (by repeat (first | (with_reducible first | exact HB.out | apply zc1 | apply zc2 | apply zc3 | refine zc4 ?_ (by assumption)) | exact HB.out)) hb)); (have NB156_171 := Za.mk ((by rw [hg]; exact Nat.ne_of_lt (Zm (g := gb156) (o := .cells #[.int .i64 a0_0, .int .i64 a0_1, .slice A0_2 l0_2.length c0_2, .int .i64 a0_3, .int .u32 a0_4] 35 (0, 0)) (by (with_reducible repeat (first | apply zb3 | apply zb2 | apply zb1)); exact BK156.out)) : gb156 ≠ gb171))); (have NB171_156 := Za.mk ((by rw [hg]; exact Nat.ne_of_gt (Zm (g := gb156) (o := .cells #[.int .i64 a0_0, .int .i64 a0_1, .slice A0_2 l0_2.length c0_2, .int .i64 a0_3, .int .u32 a0_4] 35 (0, 0)) (by (with_reducible repeat (first | apply zb3 | apply zb2 | apply zb1)); exact BK156.out)) : gb171 ≠ gb156))); (replace BK156 := Za.mk (Zh (g := gb156) (by (with_reducible repeat (first | apply zb3 | apply zb2 | apply zb1)); exact BK156.out) hb))
  (have NB157_171 := Za.mk ((by rw [hg]; exact Nat.ne_of_lt (Zm (g := gb157) (o := .cells #[.int .i64 0, .int .i64 0, .slice none 0 0, .int .i64 0, .int .u32 0] 35 (0, 0)) (by (with_reducible repeat (first | apply zb3 | apply zb2 | apply zb1)); exact BK157.out)) : gb157 ≠ gb171))); (have NB171_157 := Za.mk ((by rw [hg]; exact Nat.ne_of_gt (Zm (g := gb157) (o := .cells #[.int .i64 0, .int .i64 0, .slice none 0 0, .int .i64 0, .int .u32 0] 35 (0, 0)) (by (with_reducible repeat (first | apply zb3 | apply zb2 | apply zb1)); exact BK157.out)) : gb171 ≠ gb157))); (replace BK157 := Za.mk (Zh (g := gb157) (by (with_reducible repeat (first | apply zb3 | apply zb2 | apply zb1)); exact BK157.out) hb)); (clear hb hbox hg); (obtain ⟨Ao9, co9, eo9⟩ := Kd.R_slice HO160.out)
  (first | subst eo9 | (injection eo9 with f1_ f2_ f3_; have f4_ := f1_.symm; have f5_ := f3_.symm; clear f1_ f2_ f3_; subst f4_; subst f5_))
  refine hK.out _ _ ⟨(Zb BK156.out 0).trans rfl, (Zb BK156.out 1).trans rfl, (Zb BK156.out 2).trans rfl, (Zb BK156.out 3).trans rfl, (Zb BK156.out 4).trans rfl⟩ (fun hHeld => ?_)
  clear hK K
  refine norm_ (a' := ?_) ?_ ?_
  rotate_left
  ·show Act.put _ (some 3) _ = _
   simp only [Act.put, List.setIfInBounds_toArray, List.set_cons_zero, List.set_cons_succ, Zf, Ze]
   rfl
  refine one_ (i := 3) (N := some 11) #[true, true, true, true, false, false, false, true, false, false] rfl rfl (one_of HT_.out (by kernel_rfl)) (by decide) (fun K hK => ?_)
  refine goes_ Try.func41 (by kernel_rfl) rfl #[.agg #[.int .i64 a0_0, .int .i64 a0_1, .slice A0_2 l0_2.length c0_2, .int .i64 a0_3, .int .u32 a0_4], .slice Ao9 t158.length co9] (by rfl) rfl rfl (by (try simp only [List.map_toArray, List.map_cons, List.map_nil]); first | done | rfl | (simp only [List.length_drop, List.length_take]; rfl)) ?_
  with_reducible refine (Zd1.calls k a0_0 a0_1 _ _ l0_2 a0_3 a0_4 _ _ t158 t161 t162 t163 t166 t167 t168 _ ?side1 ?side2 ?side3 ?side4 A3.out).mono ?_
  (case side1 => repeat (first | exact (Kd.C_below HR0_2.out HB.out) | (with_reducible refine Kd.C_alloc ?_ _) | (with_reducible refine Kd.C_drewN ?_ _) | (with_reducible refine Kd.C_drew ?_)))
  (case side2 => exact HC0_2.out)
  (case side3 => repeat (first | exact (Kd.R_reads' HO160.out).2.2 | (with_reducible refine Kd.C_alloc ?_ _) | (with_reducible refine Kd.C_drewN ?_ _) | (with_reducible refine Kd.C_drew ?_)))
  (case side4 => exact (Kd.R_reads' HO160.out).2.1)
  rintro e w10 ⟨v164, v169, rfl, ho0, ho1, hb⟩
  refine ⟨_, rfl, ?_⟩
  (have HO165 := Za.mk (Kd.S_lower (Kd.S_new' ho0 (Kd.R_lt (by (with_reducible repeat (first | apply Kd.R_alloc | apply Kd.R_drewN | apply Kd.R_drew)); exact HO160.out))) (Zi (by repeat (first | (with_reducible first | exact HB.out | apply zc1 | apply zc2 | apply zc3 | refine zc4 ?_ (by assumption)) | exact HB.out))))); (have HO170 := Za.mk (Kd.R_lower (Kd.R_new' ho1 (Kd.R_lt (by (with_reducible repeat (first | apply Kd.R_alloc | apply Kd.R_drewN | apply Kd.R_drew)); exact HO160.out))) (Zi (by repeat (first | (with_reducible first | exact HB.out | apply zc1 | apply zc2 | apply zc3 | refine zc4 ?_ (by assumption)) | exact HB.out))))); (replace HO160 := Za.mk (Kd.R_elder' (by (with_reducible repeat (first | apply Kd.R_alloc | apply Kd.R_drewN | apply Kd.R_drew)); exact HO160.out) (Kd.R_base ho1) hb)); (replace BK156 := Za.mk (Zh (g := gb156) (by (with_reducible repeat (first | apply zb3 | apply zb2 | apply zb1)); exact BK156.out) hb)); (replace BK157 := Za.mk (Zh (g := gb157) (by (with_reducible repeat (first | apply zb3 | apply zb2 | apply zb1)); exact BK157.out) hb)); (replace BK171 := Za.mk (Zh (g := gb171) (by (with_reducible repeat (first | apply zb3 | apply zb2 | apply zb1)); exact BK171.out) hb)); (replace HB := Za.mk (Zn (by repeat (first | (with_reducible first | exact HB.out | apply zc1 | apply zc2 | apply zc3 | refine zc4 ?_ (by assumption)) | exact HB.out)) hb)); ((try clear hb)); ((try clear hb2)); ((try clear hk)); ((try clear hi)); ((try clear ho0))
  (try clear ho1)
  refine hK.out _ _ ⟨(Zb BK156.out 0).trans rfl, (Zb BK156.out 1).trans rfl, (Zb BK156.out 2).trans rfl, (Zb BK156.out 3).trans rfl, (Zb BK156.out 4).trans rfl⟩ (fun hHeld => ?_)
  clear hK K
  refine norm_ (a' := ?_) ?_ ?_
  rotate_left
  ·show Act.put _ (some 11) _ = _
   simp only [Act.put, List.setIfInBounds_toArray, List.set_cons_zero, List.set_cons_succ, Zf, Ze]
   rfl
  refine pure_ (i := 4) (N := some 7) (v := ?_) (a' := ?_) #[true, true, true, true, true, false, false, true, false, false] rfl rfl (Zp HT_.out (by kernel_rfl)) (fun _ _ _ h => h) (Or.inl ⟨by rfl, ?_⟩) ?_ ?_
  rotate_left
  ·intro w'
   go_simp
   with_reducible rfl
  rotate_left
  ·simp only [Act.put, List.setIfInBounds_toArray, List.set_cons_zero, List.set_cons_succ, Zf, Ze]
   rfl
  refine pure_ (i := 5) (N := some 12) (v := ?_) (a' := ?_) #[true, true, true, true, true, true, false, true, false, false] rfl rfl (Zp HT_.out (by kernel_rfl)) (fun _ _ _ h => h) (Or.inl ⟨by rfl, ?_⟩) ?_ ?_
  rotate_left
  ·intro w'
   go_simp
   with_reducible rfl
  rotate_left
  ·simp only [Act.put, List.setIfInBounds_toArray, List.set_cons_zero, List.set_cons_succ, Zf, Ze]
   rfl
  refine pure_ (i := 6) (N := some 13) (v := ?_) (a' := ?_) #[true, true, true, true, true, true, true, true, false, false] rfl rfl (Zp HT_.out (by kernel_rfl)) (fun _ _ _ h => h) (Or.inl ⟨by rfl, ?_⟩) ?_ ?_
  rotate_left
  ·intro w'
   go_simp
   with_reducible rfl
  rotate_left
  ·simp only [Act.put, List.setIfInBounds_toArray, List.set_cons_zero, List.set_cons_succ, Zf, Ze]
   rfl
  exact norm_ (by simp only [putAll, Act.put, List.setIfInBounds_toArray, List.set_cons_zero, List.set_cons_succ]) (hCont (.slice Ao9 t158.length co9, v164, v169, gb171) _ ⟨hHeld, (by (with_reducible repeat (first | apply Kd.R_alloc | apply Kd.R_drewN | apply Kd.R_drew)); exact Kd.R_mono HO160.out (fun _ hk => hk.2)), (by (with_reducible repeat (first | apply Kd.S_alloc | apply Kd.S_drewN | apply Kd.S_drew)); exact Kd.S_mono HO165.out (fun _ hk => ⟨hk.2, hk.1⟩)), (by (with_reducible repeat (first | apply Kd.R_alloc | apply Kd.R_drewN | apply Kd.R_drew)); exact Kd.R_mono HO170.out (fun _ hk => hk.2)), (by (with_reducible repeat (first | apply zb3 | apply zb2 | apply zb1)); exact BK156.out), (by (with_reducible repeat (first | apply zb3 | apply zb2 | apply zb1)); exact BK157.out), (by (with_reducible repeat (first | apply zb3 | apply zb2 | apply zb1)); exact BK171.out), GW171.out, GE171.out, NB156_171.out, NB171_156.out, NB157_171.out, NB171_157.out, (by repeat (first | (with_reducible first | exact HB.out | apply zc1 | apply zc2 | apply zc3 | refine zc4 ?_ (by assumption)) | exact HB.out))⟩)
 rintro ⟨v159, v164, v169, gb171⟩ w11 ⟨hS_, h0_, h1_, h2_, h3_, h4_, h5_, h6_, h7_, h8_, h9_, h10_, h11_, h12_⟩
 (have n0_ : Za (Kd.R (Kd.int .i64) 3 w11 w.heap.size (fun k_ => some k_ ≠ (v169 : Value).ownBlock) v159 t158) := ⟨h0_⟩); (have n1_ : Za (Kd.S (Kd.slice 3 (Kd.int .i64)) 36 w11 w.heap.size (fun k_ => some k_ ≠ (v159 : Value).ownBlock ∧ some k_ ≠ (v169 : Value).ownBlock) v164 t163) := ⟨h1_⟩); (have n2_ : Za (Kd.R (Kd.int .i64) 3 w11 w.heap.size (fun k_ => some k_ ≠ (v159 : Value).ownBlock) v169 t168) := ⟨h2_⟩); (have n3_ : Za (w11.heap[gb156]? = some (.cells #[.int .i64 a0_0, .int .i64 a0_1, .slice A0_2 l0_2.length c0_2, .int .i64 a0_3, .int .u32 a0_4] 35 (0, 0))) := ⟨h3_⟩); (have n4_ : Za (w11.heap[gb157]? = some (.cells #[.int .i64 0, .int .i64 0, .slice none 0 0, .int .i64 0, .int .u32 0] 35 (0, 0))) := ⟨h4_⟩); (have n5_ : Za (w11.heap[gb171]? = some (.cells #[.int .i64 0, .int .i64 0, .slice none 0 0, .int .i64 0, .int .u32 0] 35 (0, 0))) := ⟨h5_⟩); (have n6_ : Za (w.heap.size ≤ gb171) := ⟨h6_⟩); (have n7_ : Za (w.heap.size ≤ gb171) := ⟨h7_⟩); (have n8_ : Za (gb156 ≠ gb171) := ⟨h8_⟩); (have n9_ : Za (gb171 ≠ gb156) := ⟨h9_⟩); (have n10_ : Za (gb157 ≠ gb171) := ⟨h10_⟩); (have n11_ : Za (gb171 ≠ gb157) := ⟨h11_⟩); (have n12_ : Za (Below w.heap.size w w11) := ⟨h12_⟩); (clear BK156); (clear BK157); (clear HB); (clear h0_ h1_ h2_ h3_ h4_ h5_ h6_ h7_ h8_ h9_ h10_ h11_ h12_); (have HO160 := n0_); (have HO165 := n1_); (have HO170 := n2_); (have BK156 := n3_); (have BK157 := n4_); (have BK171 := n5_); (have GW171 := n6_); (have GE171 := n7_); (have NB156_171 := n8_); (have NB171_156 := n9_); (have NB157_171 := n10_); (have NB171_157 := n11_); (have HB := n12_)
 (clear n0_ n1_ n2_ n3_ n4_ n5_ n6_ n7_ n8_ n9_ n10_ n11_ n12_); (have hHeld : w11.cell? ⟨gb156, 0, none⟩ = some (.int .i64 a0_0) ∧ w11.cell? ⟨gb156, 1, none⟩ = some (.int .i64 a0_1) ∧ w11.cell? ⟨gb156, 2, none⟩ = some (.slice A0_2 l0_2.length c0_2) ∧ w11.cell? ⟨gb156, 3, none⟩ = some (.int .i64 a0_3) ∧ w11.cell? ⟨gb156, 4, none⟩ = some (.int .u32 a0_4) := hS_); (obtain ⟨Ao14, co14, eo14⟩ := Kd.S_slice HO165.out)
 (first | subst eo14 | (injection eo14 with f1_ f2_ f3_; have f4_ := f1_.symm; have f5_ := f3_.symm; clear f1_ f2_ f3_; subst f4_; subst f5_))
 refine norm_ (a' := ?_) ?_ ?_
 rotate_left
 ·simp only [putAll, Act.put, List.setIfInBounds_toArray, List.set_cons_zero, List.set_cons_succ]
  rfl
 refine one_ (i := 8) (N := none) #[true, true, true, true, true, true, true, true, true, false] rfl rfl (one_of HT_.out (by kernel_rfl)) (by decide) (fun K hK => ?_)
 (have hs12 : w11.cell? ⟨gb171, 0, none⟩ = some (.int .i64 0) := (Zb BK171.out 0).trans rfl); (have hfs12 := Zc BK171.out 0); (have hns12_0 := NB156_171.out); (have hns12_1 := NB157_171.out); (have hms12_0 := NB171_156.out); (have hms12_1 := NB171_157.out); (have hs13 : w11.cell? ⟨gb171, 1, none⟩ = some (.int .i64 0) := (Zb BK171.out 1).trans rfl); (have hfs13 := Zc BK171.out 1); (have hns13_0 := NB156_171.out); (have hns13_1 := NB157_171.out); (have hms13_0 := NB171_156.out); (have hms13_1 := NB171_157.out); (have hs15 : w11.cell? ⟨gb171, 2, none⟩ = some (.slice none 0 0) := (Zb BK171.out 2).trans rfl); (have hfs15 := Zc BK171.out 2); (have hns15_0 := NB156_171.out); (have hns15_1 := NB157_171.out); (have hms15_0 := NB171_156.out); (have hms15_1 := NB171_157.out); (have hs16 : w11.cell? ⟨gb171, 3, none⟩ = some (.int .i64 0) := (Zb BK171.out 3).trans rfl); (have hfs16 := Zc BK171.out 3); (have hns16_0 := NB156_171.out); (have hns16_1 := NB157_171.out); (have hms16_0 := NB171_156.out); (have hms16_1 := NB171_157.out); (have hs17 : w11.cell? ⟨gb171, 4, none⟩ = some (.int .u32 0) := (Zb BK171.out 4).trans rfl); (have hfs17 := Zc BK171.out 4); (have hns17_0 := NB156_171.out); (have hns17_1 := NB157_171.out); (have hms17_0 := NB171_156.out); (have hms17_1 := NB171_157.out)
 refine skip_ (w1 := ?_) (by rfl) rfl ?_ ?_
 rotate_left
 ·go_simp
  rfl
 refine hK.out _ _ ⟨((Zq (p := ⟨gb171, _, none⟩) NB156_171.out _).trans (((Zq (p := ⟨gb171, _, none⟩) NB156_171.out _).trans (((Zq (p := ⟨gb171, _, none⟩) NB156_171.out _).trans (((Zq (p := ⟨gb171, _, none⟩) NB156_171.out _).trans (((Zq (p := ⟨gb171, _, none⟩) NB156_171.out _).trans (hHeld.1)))))))))), ((Zq (p := ⟨gb171, _, none⟩) NB156_171.out _).trans (((Zq (p := ⟨gb171, _, none⟩) NB156_171.out _).trans (((Zq (p := ⟨gb171, _, none⟩) NB156_171.out _).trans (((Zq (p := ⟨gb171, _, none⟩) NB156_171.out _).trans (((Zq (p := ⟨gb171, _, none⟩) NB156_171.out _).trans (hHeld.2.1)))))))))), ((Zq (p := ⟨gb171, _, none⟩) NB156_171.out _).trans (((Zq (p := ⟨gb171, _, none⟩) NB156_171.out _).trans (((Zq (p := ⟨gb171, _, none⟩) NB156_171.out _).trans (((Zq (p := ⟨gb171, _, none⟩) NB156_171.out _).trans (((Zq (p := ⟨gb171, _, none⟩) NB156_171.out _).trans (hHeld.2.2.1)))))))))), ((Zq (p := ⟨gb171, _, none⟩) NB156_171.out _).trans (((Zq (p := ⟨gb171, _, none⟩) NB156_171.out _).trans (((Zq (p := ⟨gb171, _, none⟩) NB156_171.out _).trans (((Zq (p := ⟨gb171, _, none⟩) NB156_171.out _).trans (((Zq (p := ⟨gb171, _, none⟩) NB156_171.out _).trans (hHeld.2.2.2.1)))))))))), ((Zq (p := ⟨gb171, _, none⟩) NB156_171.out _).trans (((Zq (p := ⟨gb171, _, none⟩) NB156_171.out _).trans (((Zq (p := ⟨gb171, _, none⟩) NB156_171.out _).trans (((Zq (p := ⟨gb171, _, none⟩) NB156_171.out _).trans (((Zq (p := ⟨gb171, _, none⟩) NB156_171.out _).trans (hHeld.2.2.2.2))))))))))⟩ (fun hHeld => ?_)
 clear hK K
 refine pure_ (i := 9) (N := some 4) (v := ?_) (a' := ?_) #[true, true, true, true, true, true, true, true, true, true] rfl rfl (Zp HT_.out (by kernel_rfl)) (fun _ _ _ h => h) (Or.inl ⟨by rfl, ?_⟩) ?_ ?_
 rotate_left
 ·intro w'
  go_simp
  with_reducible rfl
 rotate_left
 ·simp only [Act.put, List.setIfInBounds_toArray, List.set_cons_zero, List.set_cons_succ, Zf, Ze]
  rfl
 refine done_ (done_of HT_.out (by kernel_rfl)) ?_
 (obtain ⟨Ao18, co18, eo18⟩ := Kd.R_slice HO170.out); (subst eo18)
 try go_wp2
 go_loopg [16] k (fun kq v16 w' => ∃ (x16_1 : Int) (x172004_1 : Int), v16 = .int .i64 x16_1 ∧ Za (Zz.l0 kq t168 (t168.length : Int) x16_1 a0_0 a0_1 l0_2 a0_3 a0_4 t161 t162 t163 t166 x172004_1 = some (r1, r2, r3, r4, r5)) ∧ Za (kq ≤ k) ∧ Za (Kd.R (Kd.int .i64) 3 w' w.heap.size (fun _ => True) (.slice Ao18 t168.length co18) t168) ∧ Za (Kd.S (Kd.slice 3 (Kd.int .i64)) 36 w' w.heap.size (fun k_ => some k_ ≠ ((.slice Ao18 t168.length co18) : Value).ownBlock) (.slice Ao14 t163.length co14) t163) ∧ Za (w'.heap[gb156]? = some (.cells #[.int .i64 a0_0, .int .i64 a0_1, (.slice A0_2 l0_2.length c0_2), .int .i64 a0_3, .int .u32 a0_4] 35 (0, 0))) ∧ Za (w'.heap[gb157]? = some (.cells #[.int .i64 0, .int .i64 0, (.slice none 0 0), .int .i64 0, .int .u32 0] 35 (0, 0))) ∧ Za (w'.heap[gb171]? = some (.cells #[.int .i64 t161, .int .i64 t162, (.slice Ao14 t163.length co14), .int .i64 t166, .int .u32 x172004_1] 35 (0, 0))) ∧ Za (Below w.heap.size w w'))
 case atStart => exact ⟨(0), (t167), (by first | rfl | (simp; done) | (simp [*]; done)), H', ⟨Nat.le_refl _⟩, ⟨by (with_reducible repeat (first | apply Kd.R_alloc | apply Kd.R_drewN | apply Kd.R_drew)); exact Kd.R_mono (Kd.R_far (p := ⟨gb171, 4, none⟩) (Kd.R_far (p := ⟨gb171, 3, none⟩) (Kd.R_far (p := ⟨gb171, 2, none⟩) (Kd.R_far (p := ⟨gb171, 1, none⟩) (Kd.R_far (p := ⟨gb171, 0, none⟩) (Kd.R_types HO170.out BK171.out (by decide)) (fun _ hk => hk.2) (.int .i64 t161)) (fun _ hk => hk.2) (.int .i64 t162)) (fun _ hk => hk.2) (.slice Ao14 t163.length co14)) (fun _ hk => hk.2) (.int .i64 t166)) (fun _ hk => hk.2) (.int .u32 t167)) (fun _ hk => trivial)⟩, ⟨by (with_reducible repeat (first | apply Kd.S_alloc | apply Kd.S_drewN | apply Kd.S_drew)); exact Kd.S_mono (Kd.S_far (p := ⟨gb171, 4, none⟩) (Kd.S_far (p := ⟨gb171, 3, none⟩) (Kd.S_far (p := ⟨gb171, 2, none⟩) (Kd.S_far (p := ⟨gb171, 1, none⟩) (Kd.S_far (p := ⟨gb171, 0, none⟩) (Kd.S_types HO165.out BK171.out (by decide)) (fun _ hk => hk.2) (.int .i64 t161)) (fun _ hk => hk.2) (.int .i64 t162)) (fun _ hk => hk.2) (.slice Ao14 t163.length co14)) (fun _ hk => hk.2) (.int .i64 t166)) (fun _ hk => hk.2) (.int .u32 t167)) (fun _ hk => hk.1.2)⟩, ⟨by (with_reducible repeat (first | refine Zl ?_ _ | refine Zg ?_ | refine Zj ?_ _)); refine Zo ?_ NB156_171.out _; (with_reducible repeat (first | refine Zl ?_ _ | refine Zg ?_ | refine Zj ?_ _)); refine Zo ?_ NB156_171.out _; (with_reducible repeat (first | refine Zl ?_ _ | refine Zg ?_ | refine Zj ?_ _)); refine Zo ?_ NB156_171.out _; (with_reducible repeat (first | refine Zl ?_ _ | refine Zg ?_ | refine Zj ?_ _)); refine Zo ?_ NB156_171.out _; (with_reducible repeat (first | refine Zl ?_ _ | refine Zg ?_ | refine Zj ?_ _)); refine Zo ?_ NB156_171.out _; (with_reducible repeat (first | apply zb3 | apply zb2 | apply zb1)); exact BK156.out⟩, ⟨by (with_reducible repeat (first | refine Zl ?_ _ | refine Zg ?_ | refine Zj ?_ _)); refine Zo ?_ NB157_171.out _; (with_reducible repeat (first | refine Zl ?_ _ | refine Zg ?_ | refine Zj ?_ _)); refine Zo ?_ NB157_171.out _; (with_reducible repeat (first | refine Zl ?_ _ | refine Zg ?_ | refine Zj ?_ _)); refine Zo ?_ NB157_171.out _; (with_reducible repeat (first | refine Zl ?_ _ | refine Zg ?_ | refine Zj ?_ _)); refine Zo ?_ NB157_171.out _; (with_reducible repeat (first | refine Zl ?_ _ | refine Zg ?_ | refine Zj ?_ _)); refine Zo ?_ NB157_171.out _; (with_reducible repeat (first | apply zb3 | apply zb2 | apply zb1)); exact BK157.out⟩, ⟨by (with_reducible repeat (first | refine Zl ?_ _ | refine Zg ?_ | refine Zj ?_ _)); refine Zc1 (cs := #[.int .i64 t161, .int .i64 t162, .slice Ao14 t163.length co14, .int .i64 t166, .int .u32 0]) ?_ 4 _ rfl; (with_reducible repeat (first | refine Zl ?_ _ | refine Zg ?_ | refine Zj ?_ _)); refine Zc1 (cs := #[.int .i64 t161, .int .i64 t162, .slice Ao14 t163.length co14, .int .i64 0, .int .u32 0]) ?_ 3 _ rfl; (with_reducible repeat (first | refine Zl ?_ _ | refine Zg ?_ | refine Zj ?_ _)); refine Zc1 (cs := #[.int .i64 t161, .int .i64 t162, .slice none 0 0, .int .i64 0, .int .u32 0]) ?_ 2 _ rfl; (with_reducible repeat (first | refine Zl ?_ _ | refine Zg ?_ | refine Zj ?_ _)); refine Zc1 (cs := #[.int .i64 t161, .int .i64 0, .slice none 0 0, .int .i64 0, .int .u32 0]) ?_ 1 _ rfl; (with_reducible repeat (first | refine Zl ?_ _ | refine Zg ?_ | refine Zj ?_ _)); refine Zc1 (cs := #[.int .i64 0, .int .i64 0, .slice none 0 0, .int .i64 0, .int .u32 0]) ?_ 0 _ rfl; (with_reducible repeat (first | apply zb3 | apply zb2 | apply zb1)); exact BK171.out⟩, ⟨by repeat (first | (with_reducible first | exact HB.out | apply zc1 | apply zc2 | apply zc3 | refine zc4 ?_ (by assumption)) | exact HB.out)⟩⟩
 case round =>
  (clear H'); (try clear c2); (try clear p2); (try clear c4); (obtain ⟨x16_1, x172004_1, rfl, HA, HK1, HO_4, HO_172002, BK156, BK157, BK171, HB⟩ := hrel)
  cases gk with
  | zero => exact absurd HA.out (by simp [Zz.l0])
  | succ k1 =>
   (have H := HA.out); (clear HA); (simp only [Zz.l0] at H)
   by_cases c19 : x16_1 < (t168.length : Int)
   rotate_left
   ·rw [if_neg c19] at H
    (have c19b0 : decide (x16_1 < (t168.length : Int)) = false := decide_eq_false c19); (clear c19); (simp only [Option.some.injEq, Prod.mk.injEq] at H); (obtain ⟨rfl, rfl, rfl, rfl, rfl⟩ := H); (have hnb28 := NB171_156.out); (have hnc28 := NB156_171.out); (have hnb29 := NB171_157.out); (have hnc29 := NB157_171.out); (have hcz30_0 : wr.cell? ⟨gb171, 0, none⟩ = some (.int .i64 t161) := (Zb BK171.out 0).trans rfl); (have hcz30_1 : wr.cell? ⟨gb171, 1, none⟩ = some (.int .i64 t162) := (Zb BK171.out 1).trans rfl); (have hcz30_2 : wr.cell? ⟨gb171, 2, none⟩ = some (.slice Ao14 t163.length co14) := (Zb BK171.out 2).trans rfl); (have hcz30_3 : wr.cell? ⟨gb171, 3, none⟩ = some (.int .i64 t166) := (Zb BK171.out 3).trans rfl); (have hcz30_4 : wr.cell? ⟨gb171, 4, none⟩ = some (.int .u32 x172004_1) := (Zb BK171.out 4).trans rfl); (have hfz30_0 := Zc BK171.out 0); (have hfz30_1 := Zc BK171.out 1); (have hfz30_2 := Zc BK171.out 2); (have hfz30_3 := Zc BK171.out 3); (have hfz30_4 := Zc BK171.out 4); (have hnb31 := NB157_156.out); (have hnc31 := NB156_157.out); (have hcz32_0 : wr.cell? ⟨gb157, 0, none⟩ = some (.int .i64 0) := (Zb BK157.out 0).trans rfl); (have hcz32_1 : wr.cell? ⟨gb157, 1, none⟩ = some (.int .i64 0) := (Zb BK157.out 1).trans rfl); (have hcz32_2 : wr.cell? ⟨gb157, 2, none⟩ = some (.slice none 0 0) := (Zb BK157.out 2).trans rfl); (have hcz32_3 : wr.cell? ⟨gb157, 3, none⟩ = some (.int .i64 0) := (Zb BK157.out 3).trans rfl); (have hcz32_4 : wr.cell? ⟨gb157, 4, none⟩ = some (.int .u32 0) := (Zb BK157.out 4).trans rfl)
    (have hfz32_0 := Zc BK157.out 0); (have hfz32_1 := Zc BK157.out 1); (have hfz32_2 := Zc BK157.out 2); (have hfz32_3 := Zc BK157.out 3); (have hfz32_4 := Zc BK157.out 4)
    go_wp2
    refine bodyPost_ret (results_cell_row rfl _ _ gb157 35 #[.int .i64 t161, .int .i64 t162, .slice Ao14 t163.length co14, .int .i64 t166, .int .u32 x172004_1] (0, 0) _ rfl (by (with_reducible repeat (first | refine Zl ?_ _ | refine Zg ?_ | refine Zj ?_ _)); refine Zc1 (cs := #[.int .i64 t161, .int .i64 t162, .slice Ao14 t163.length co14, .int .i64 t166, .int .u32 0]) ?_ 4 _ rfl; (with_reducible repeat (first | refine Zl ?_ _ | refine Zg ?_ | refine Zj ?_ _)); refine Zc1 (cs := #[.int .i64 t161, .int .i64 t162, .slice Ao14 t163.length co14, .int .i64 0, .int .u32 0]) ?_ 3 _ rfl; (with_reducible repeat (first | refine Zl ?_ _ | refine Zg ?_ | refine Zj ?_ _)); refine Zc1 (cs := #[.int .i64 t161, .int .i64 t162, .slice none 0 0, .int .i64 0, .int .u32 0]) ?_ 2 _ rfl; (with_reducible repeat (first | refine Zl ?_ _ | refine Zg ?_ | refine Zj ?_ _)); refine Zc1 (cs := #[.int .i64 t161, .int .i64 0, .slice none 0 0, .int .i64 0, .int .u32 0]) ?_ 1 _ rfl; (with_reducible repeat (first | refine Zl ?_ _ | refine Zg ?_ | refine Zj ?_ _)); refine Zc1 (cs := #[.int .i64 0, .int .i64 0, .slice none 0 0, .int .i64 0, .int .u32 0]) ?_ 0 _ rfl; (with_reducible repeat (first | apply zb3 | apply zb2 | apply zb1)); exact BK157.out) Try.underlying35 rfl (by kernel_rfl)) rfl ?_
    exact ⟨_, by first | rfl | (simp [Zu, Zw] <;> rfl) | (simp [*, Zu, Zw] <;> rfl), by (with_reducible repeat (first | apply Kd.S_alloc | apply Kd.S_drewN | apply Kd.S_drew)); exact Kd.S_mono (Kd.S_far (p := ⟨gb157, 4, none⟩) (Kd.S_far (p := ⟨gb157, 3, none⟩) (Kd.S_far (p := ⟨gb157, 2, none⟩) (Kd.S_far (p := ⟨gb157, 1, none⟩) (Kd.S_far (p := ⟨gb157, 0, none⟩) (Kd.S_types HO_172002.out BK157.out (by decide)) (fun _ hk => hk.2) (.int .i64 t161)) (fun _ hk => hk.2) (.int .i64 t162)) (fun _ hk => hk.2) (.slice Ao14 t163.length co14)) (fun _ hk => hk.2) (.int .i64 t166)) (fun _ hk => hk.2) (.int .u32 x172004_1)) (fun _ hk => trivial), by repeat (first | (with_reducible first | exact HB.out | apply zc1 | apply zc2 | apply zc3 | refine zc4 ?_ (by assumption)) | exact HB.out)⟩
   (rw [if_pos c19] at H); (have c19b0 : decide (x16_1 < (t168.length : Int)) = true := decide_eq_true c19); (clear c19)
   by_cases c20 : 0 ≤ x16_1
   rotate_left
   ·rw [if_neg c20] at H
    exact absurd H (by simp)
   (rw [if_pos c20] at H); (have c20b0 : decide (0 ≤ x16_1) = true := decide_eq_true c20); (clear c20)
   by_cases c21 : x16_1 < (t168.length : Int)
   rotate_left
   ·rw [if_neg c21] at H
    exact absurd H (by simp)
   (rw [if_pos c21] at H); (have c21b0 : decide (x16_1 < (t168.length : Int)) = true := decide_eq_true c21); (clear c21)
   by_cases c22 : 0 ≤ (rd t168 x16_1)
   rotate_left
   ·rw [if_neg c22] at H
    exact absurd H (by simp)
   (rw [if_pos c22] at H); (have c22b0 := eq_true c22); (have c22b1 : decide (0 ≤ (rd t168 x16_1)) = true := decide_eq_true c22); (clear c22); (obtain ⟨ji23, hji23⟩ : ∃ j_ : Int, (shr .u32 a0_4 (rd t168 x16_1)) = j_ := ⟨_, rfl⟩); (replace H : (Zz.l0 k1 t168 (t168.length : Int) (wrap64 (x16_1 + 1)) a0_0 a0_1 l0_2 a0_3 a0_4 t161 t162 t163 t166 (Go.bits .or .u32 x172004_1 (shl .u32 (Go.bits .and .u32 (ji23) 1) x16_1))) = some (r1, r2, r3, r4, r5) := by first | (rw [hji23] at H; exact H) | (simp only [hji23] at H ⊢; exact H)); (have hji23_ : (a0_4 / 2 ^ min (rd t168 x16_1).toNat 32) = ji23 := hji23); (have hji23z : (rd t168 x16_1) ≤ 32 → (a0_4 / 2 ^ (rd t168 x16_1).toNat) = ji23 := shr_small hji23); (have c24b0 := eq_true (of_decide_eq_true (by assumption) : 0 ≤ x16_1)); (obtain ⟨ji25, hji25⟩ : ∃ j_ : Int, (shl .u32 (Go.bits .and .u32 (ji23) 1) x16_1) = j_ := ⟨_, rfl⟩); (replace H : (Zz.l0 k1 t168 (t168.length : Int) (wrap64 (x16_1 + 1)) a0_0 a0_1 l0_2 a0_3 a0_4 t161 t162 t163 t166 (Go.bits .or .u32 x172004_1 (ji25))) = some (r1, r2, r3, r4, r5) := by first | (rw [hji25] at H; exact H) | (simp only [hji25] at H ⊢; exact H)); (have hji25_ : (IntKind.u32.wrap ((Go.bits .and .u32 (ji23) 1) * 2 ^ min x16_1.toNat 32)) = ji25 := hji25); (have hji25z : x16_1 ≤ 32 → (IntKind.u32.wrap ((Go.bits .and .u32 (ji23) 1) * 2 ^ x16_1.toNat)) = ji25 := shl_small hji25); (have H' := Za.mk H); (clear H); (have p172 : 0 ≤ (x16_1 : Int) := of_decide_eq_true (by assumption)); (have q172 : x16_1 < (t168.length : Int) := of_decide_eq_true (by assumption))
   (obtain ⟨ad172, e172, hx172_0⟩ := Kd.at_int (Kd.R_reads' HO_4.out).2.2 x16_1 p172 q172); (cases e172); (replace p172 := eq_true p172); (replace q172 := eq_true q172)
   try go_wp2
   (replace HO_4 := Za.mk (Kd.R_drew HO_4.out)); (replace HO_172002 := Za.mk (Kd.S_drew HO_172002.out)); (replace BK156 := Za.mk (Zg BK156.out)); (replace BK157 := Za.mk (Zg BK157.out)); (replace BK171 := Za.mk (Zg BK171.out)); (replace HB := Za.mk (below_drew1 HB.out))
   refine start_ (n := 12) (S := fun w' => w'.cell? ⟨gb171, 0, none⟩ = some (.int .i64 t161) ∧ w'.cell? ⟨gb171, 1, none⟩ = some (.int .i64 t162) ∧ w'.cell? ⟨gb171, 2, none⟩ = some (.slice Ao14 t163.length co14) ∧ w'.cell? ⟨gb171, 3, none⟩ = some (.int .i64 t166) ∧ w'.cell? ⟨gb171, 4, none⟩ = some (.int .u32 x172004_1) ∧ w'.cell? ⟨gb156, 0, none⟩ = some (.int .i64 a0_0) ∧ w'.cell? ⟨gb156, 1, none⟩ = some (.int .i64 a0_1) ∧ w'.cell? ⟨gb156, 2, none⟩ = some (.slice A0_2 l0_2.length c0_2) ∧ w'.cell? ⟨gb156, 3, none⟩ = some (.int .i64 a0_3) ∧ w'.cell? ⟨gb156, 4, none⟩ = some (.int .u32 a0_4)) (ds := [11]) #[false, false, false, false, false, false, false, false, false, false, false, false] (by kernel_rfl) rfl rfl ⟨(Zb BK171.out 0).trans rfl, (Zb BK171.out 1).trans rfl, (Zb BK171.out 2).trans rfl, (Zb BK171.out 3).trans rfl, (Zb BK171.out 4).trans rfl, (Zb BK156.out 0).trans rfl, (Zb BK156.out 1).trans rfl, (Zb BK156.out 2).trans rfl, (Zb BK156.out 3).trans rfl, (Zb BK156.out 4).trans rfl⟩ (fun hHeld => ?_); refine with_tabW Zz.tab5 Zz.bits5 (fun HT_ HW_ => ?_)
   generalize wr.drew = w26 at HO_4 HO_172002 BK156 BK157 BK171 HB hHeld ⊢
   refine pure_ (i := 0) (N := some 21) (v := ?_) (a' := ?_) #[true, false, false, false, false, false, false, false, false, false, false, false] rfl rfl (Zp HT_.out (by kernel_rfl)) (fun _ _ _ h => h) (Or.inl ⟨by rfl, ?_⟩) ?_ ?_
   rotate_left
   ·intro w'
    go_simp
    with_reducible rfl
   rotate_left
   ·simp only [Act.put, List.setIfInBounds_toArray, List.set_cons_zero, List.set_cons_succ, Zf, Ze]
    rfl
   refine pure_ (i := 2) (N := some 23) (v := ?_) (a' := ?_) #[true, false, true, false, false, false, false, false, false, false, false, false] rfl rfl (Zp HT_.out (by kernel_rfl)) (fun _ _ _ h => h) (Or.inl ⟨by rfl, ?_⟩) ?_ ?_
   rotate_left
   ·intro w'
    go_simp
    with_reducible rfl
   rotate_left
   ·simp only [Act.put, List.setIfInBounds_toArray, List.set_cons_zero, List.set_cons_succ, Zf, Ze]
    rfl
   refine pure_ (i := 4) (N := some 25) (v := ?_) (a' := ?_) #[true, false, true, false, true, false, false, false, false, false, false, false] rfl rfl (Zp HT_.out (by kernel_rfl)) (fun _ _ _ h => h) (Or.inl ⟨by rfl, ?_⟩) ?_ ?_
   rotate_left
   ·intro w'
    go_simp
    with_reducible rfl
   rotate_left
   ·simp only [Act.put, List.setIfInBounds_toArray, List.set_cons_zero, List.set_cons_succ, Zf, Ze]
    rfl
   refine pure_ (i := 7) (N := some 28) (v := ?_) (a' := ?_) #[true, false, true, false, true, false, false, true, false, false, false, false] rfl rfl (Zp HT_.out (by kernel_rfl)) (fun _ _ _ h => h) (Or.inl ⟨by rfl, ?_⟩) ?_ ?_
   rotate_left
   ·intro w'
    go_simp
    with_reducible rfl
   rotate_left
   ·simp only [Act.put, List.setIfInBounds_toArray, List.set_cons_zero, List.set_cons_succ, Zf, Ze]
    rfl
   refine take_ (i := 1) (N := some 22) (v := ?_) (a' := ?_) #[true, true, true, false, true, false, false, true, false, false, false, false] rfl rfl (Zh1 HT_.out HW_.out (by kernel_rfl)) (fun _ _ _ h => h) (Or.inl ⟨by rfl, ?_⟩) hHeld ?_ ?_
   rotate_left
   ·rintro w' ⟨s0, s1, s2, s3, s4, s5, s6, s7, s8, s9⟩
    go_simp
    with_reducible rfl
   rotate_left
   ·simp only [Act.put, List.setIfInBounds_toArray, List.set_cons_zero, List.set_cons_succ, Zf, Ze]
    rfl
   refine take_ (i := 3) (N := some 24) (v := ?_) (a' := ?_) #[true, true, true, true, true, false, false, true, false, false, false, false] rfl rfl (Zh1 HT_.out HW_.out (by kernel_rfl)) (fun _ _ _ h => h) (Or.inl ⟨by rfl, ?_⟩) hHeld ?_ ?_
   rotate_left
   ·rintro w' ⟨s0, s1, s2, s3, s4, s5, s6, s7, s8, s9⟩
    go_simp
    with_reducible rfl
   rotate_left
   ·simp only [Act.put, List.setIfInBounds_toArray, List.set_cons_zero, List.set_cons_succ, Zf, Ze]
    rfl
   refine pure_ (i := 5) (N := some 26) (v := ?_) (a' := ?_) #[true, true, true, true, true, true, false, true, false, false, false, false] rfl rfl (Zp HT_.out (by kernel_rfl)) (fun _ _ _ h => h) (Or.inl ⟨by rfl, ?_⟩) ?_ ?_
   rotate_left
   ·intro w'
    go_simp
    with_reducible rfl
   rotate_left
   ·simp only [Act.put, List.setIfInBounds_toArray, List.set_cons_zero, List.set_cons_succ, Zf, Ze]
    rfl
   refine pure_ (i := 6) (N := some 27) (v := ?_) (a' := ?_) #[true, true, true, true, true, true, true, true, false, false, false, false] rfl rfl (Zp HT_.out (by kernel_rfl)) (fun _ _ _ h => h) (Or.inl ⟨by rfl, ?_⟩) ?_ ?_
   rotate_left
   ·intro w'
    go_simp
    with_reducible rfl
   rotate_left
   ·simp only [Act.put, List.setIfInBounds_toArray, List.set_cons_zero, List.set_cons_succ, Zf, Ze]
    rfl
   refine pure_ (i := 8) (N := some 29) (v := ?_) (a' := ?_) #[true, true, true, true, true, true, true, true, true, false, false, false] rfl rfl (Zp HT_.out (by kernel_rfl)) (fun _ _ _ h => h) (Or.inl ⟨by rfl, ?_⟩) ?_ ?_
   rotate_left
   ·intro w'
    go_simp
    with_reducible rfl
   rotate_left
   ·simp only [Act.put, List.setIfInBounds_toArray, List.set_cons_zero, List.set_cons_succ, Zf, Ze]
    rfl
   refine pure_ (i := 9) (N := some 30) (v := ?_) (a' := ?_) #[true, true, true, true, true, true, true, true, true, true, false, false] rfl rfl (Zp HT_.out (by kernel_rfl)) (fun _ _ _ h => h) (Or.inl ⟨by rfl, ?_⟩) ?_ ?_
   rotate_left
   ·intro w'
    go_simp
    with_reducible rfl
   rotate_left
   ·simp only [Act.put, List.setIfInBounds_toArray, List.set_cons_zero, List.set_cons_succ, Zf, Ze]
    rfl
   refine pure_ (i := 10) (N := some 31) (v := ?_) (a' := ?_) #[true, true, true, true, true, true, true, true, true, true, true, false] rfl rfl (Zp HT_.out (by kernel_rfl)) (fun _ _ _ h => h) (Or.inl ⟨by rfl, ?_⟩) ?_ ?_
   rotate_left
   ·intro w'
    go_simp
    with_reducible rfl
   rotate_left
   ·simp only [Act.put, List.setIfInBounds_toArray, List.set_cons_zero, List.set_cons_succ, Zf, Ze]
    rfl
   refine last_ (i := 11) (N := none) #[true, true, true, true, true, true, true, true, true, true, true, true] rfl rfl (one_of HT_.out (by kernel_rfl)) (by decide) (fun K hK => ?_)
   (have hs27 : w26.cell? ⟨gb171, 4, none⟩ = some (.int .u32 x172004_1) := (Zb BK171.out 4).trans rfl); (have hfs27 := Zc BK171.out 4); (have hns27_0 := NB156_171.out); (have hns27_1 := NB157_171.out); (have hms27_0 := NB171_156.out); (have hms27_1 := NB171_157.out)
   refine skip_ (w1 := ?_) (by rfl) rfl ?_ ?_
   rotate_left
   ·go_simp
    rfl
   refine hK.out _ _ ?_
   clear hK K
   refine done_ (done_of HT_.out (by kernel_rfl)) ?_
   try go_wp2
   (first | go_roundg k1 | (simp only [← hji25]; go_roundg k1) | (simp only [← hji23, ← hji25]; go_roundg k1))
   case measure => have := HK1.out; omega
   case rel => first | exact ⟨(wrap64 (x16_1 + 1)), (Go.bits .or .u32 x172004_1 (ji25)), (by first | rfl | (simp; done) | (simp [*]; done)), H', ⟨by have := HK1.out; omega⟩, ⟨by (with_reducible repeat (first | apply Kd.R_alloc | apply Kd.R_drewN | apply Kd.R_drew)); exact Kd.R_mono (Kd.R_far (p := ⟨gb171, 4, none⟩) (Kd.R_types HO_4.out BK171.out (by decide)) (fun _ hk => hk.2) (.int .u32 (Go.bits .or .u32 x172004_1 (ji25)))) (fun _ hk => trivial)⟩, ⟨by (with_reducible repeat (first | apply Kd.S_alloc | apply Kd.S_drewN | apply Kd.S_drew)); exact Kd.S_mono (Kd.S_far (p := ⟨gb171, 4, none⟩) (Kd.S_types HO_172002.out BK171.out (by decide)) (fun _ hk => hk.2) (.int .u32 (Go.bits .or .u32 x172004_1 (ji25)))) (fun _ hk => hk.1)⟩, ⟨by (with_reducible repeat (first | refine Zl ?_ _ | refine Zg ?_ | refine Zj ?_ _)); refine Zo ?_ NB156_171.out _; (with_reducible repeat (first | apply zb3 | apply zb2 | apply zb1)); exact BK156.out⟩, ⟨by (with_reducible repeat (first | refine Zl ?_ _ | refine Zg ?_ | refine Zj ?_ _)); refine Zo ?_ NB157_171.out _; (with_reducible repeat (first | apply zb3 | apply zb2 | apply zb1)); exact BK157.out⟩, ⟨by (with_reducible repeat (first | refine Zl ?_ _ | refine Zg ?_ | refine Zj ?_ _)); refine Zc1 (cs := #[.int .i64 t161, .int .i64 t162, .slice Ao14 t163.length co14, .int .i64 t166, .int .u32 x172004_1]) ?_ 4 _ rfl; (with_reducible repeat (first | apply zb3 | apply zb2 | apply zb1)); exact BK171.out⟩, ⟨by repeat (first | (with_reducible first | exact HB.out | apply zc1 | apply zc2 | apply zc3 | refine zc4 ?_ (by assumption)) | exact HB.out)⟩⟩ | (subst hji25; subst hji23; exact ⟨(wrap64 (x16_1 + 1)), (Go.bits .or .u32 x172004_1 (shl .u32 (Go.bits .and .u32 (shr .u32 a0_4 (rd t168 x16_1)) 1) x16_1)), (by first | rfl | (simp; done) | (simp [*]; done)), H', ⟨by have := HK1.out; omega⟩, ⟨by (with_reducible repeat (first | apply Kd.R_alloc | apply Kd.R_drewN | apply Kd.R_drew)); exact Kd.R_mono (Kd.R_far (p := ⟨gb171, 4, none⟩) (Kd.R_types HO_4.out BK171.out (by decide)) (fun _ hk => hk.2) (.int .u32 (Go.bits .or .u32 x172004_1 (shl .u32 (Go.bits .and .u32 (shr .u32 a0_4 (rd t168 x16_1)) 1) x16_1)))) (fun _ hk => trivial)⟩, ⟨by (with_reducible repeat (first | apply Kd.S_alloc | apply Kd.S_drewN | apply Kd.S_drew)); exact Kd.S_mono (Kd.S_far (p := ⟨gb171, 4, none⟩) (Kd.S_types HO_172002.out BK171.out (by decide)) (fun _ hk => hk.2) (.int .u32 (Go.bits .or .u32 x172004_1 (shl .u32 (Go.bits .and .u32 (shr .u32 a0_4 (rd t168 x16_1)) 1) x16_1)))) (fun _ hk => hk.1)⟩, ⟨by (with_reducible repeat (first | refine Zl ?_ _ | refine Zg ?_ | refine Zj ?_ _)); refine Zo ?_ NB156_171.out _; (with_reducible repeat (first | apply zb3 | apply zb2 | apply zb1)); exact BK156.out⟩, ⟨by (with_reducible repeat (first | refine Zl ?_ _ | refine Zg ?_ | refine Zj ?_ _)); refine Zo ?_ NB157_171.out _; (with_reducible repeat (first | apply zb3 | apply zb2 | apply zb1)); exact BK157.out⟩, ⟨by (with_reducible repeat (first | refine Zl ?_ _ | refine Zg ?_ | refine Zj ?_ _)); refine Zc1 (cs := #[.int .i64 t161, .int .i64 t162, .slice Ao14 t163.length co14, .int .i64 t166, .int .u32 x172004_1]) ?_ 4 _ rfl; (with_reducible repeat (first | apply zb3 | apply zb2 | apply zb1)); exact BK171.out⟩, ⟨by repeat (first | (with_reducible first | exact HB.out | apply zc1 | apply zc2 | apply zc3 | refine zc4 ?_ (by assumption)) | exact HB.out)⟩⟩)
end Go.Proofs.Ytcfodnildhhocaa.PLeastSames
