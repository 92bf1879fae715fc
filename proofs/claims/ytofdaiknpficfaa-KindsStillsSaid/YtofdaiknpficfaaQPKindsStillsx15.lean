-- Printed by a turn of a template of the kit.
import Derived.Test.YtofdaiknpficfaaQPKindsStillsx0
import Derived.Test.YtofdaiknpficfaaQPKindsStillsx1
import Derived.Test.YtofdaiknpficfaaQPKindsStillsx14
namespace Go.Proofs.Ytofdaiknpficfaa.PKindsStills
open Go.RowKit Go.Proofs.YtofdaiknpficfaaW.PrintWords Go.Proofs.YtofdaiknpficfaaW.PrintLast Go.Proofs.YtofdaiknpficfaaW.PrintMore
attribute [local go_sem] max2_int min2_int max_two min_two max_three min_three max_four min_four
set_option linter.unusedVariables false
set_option linter.unusedSimpArgs false
attribute [local go_sem high] eqA48
def mixL (A B : List Int) (j : Nat) : List Int := (List.range 7).map fun i => if i < j then rd B (rd A (i : Int)) else rd A (i : Int)
theorem mixL_succ (A B : List Int) : ∀ j, j < 7 → (mixL A B j).set j (rd B (rd A (j : Int))) = mixL A B (j + 1)
  | 0, _ => rfl
  | 1, _ => rfl
  | 2, _ => rfl
  | 3, _ => rfl
  | 4, _ => rfl
  | 5, _ => rfl
  | 6, _ => rfl
  | n + 7, h => absurd h (by omega)
theorem arr_index {P : Program} {w : World} {t e n : Nat} {A : List Int} {j : Nat} (h : P.underlying t = some (.array n e)) (hA : A.length = n) (hj : j < n) (hsz : (sizeOf e).run P w = .ok 1 w) (hag : (isAgg e).run P w = .ok false w) : (Instr.index t (.agg (ints A)) (.int .i64 (j : Int))).run P w = .ok (.int .i64 (rd A (j : Int))) w := by
  have h1 : (0 ≤ (j : Int) ∧ (j : Int) < (n : Int)) := by omega
  have h2 : (ints A)[j]? = some (.int .i64 (rd A (j : Int))) := by
    unfold ints rd
    rw [Int.toNat_natCast, List.getElem?_toArray, List.getElem?_map, List.getD_eq_getElem?_getD, List.getElem?_eq_getElem (by omega)]; rfl
  simp [Instr.index, run_underlying h, asIntOf, h1, h2, go_sem, hsz, hag, hj, Result.andThen]
theorem rd_memA {l : List Int} {i : Nat} (h : i < l.length) : rd l (i : Int) ∈ l := by
  unfold rd
  rw [Int.toNat_natCast, List.getD_eq_getElem?_getD, List.getElem?_eq_getElem h]
  exact List.getElem_mem h
theorem mixL_zero {A B : List Int} (h : A.length = 7) : mixL A B 0 = A := by
  match A, h with
  | [_, _, _, _, _, _, _], _ => rfl
def Zw1.f (a0_0 a0_1 a0_2 a0_3 a0_4 a0_5 a0_6 a1_0 a1_1 a1_2 a1_3 a1_4 a1_5 a1_6 : Int) : Option (Int × Int × Int × Int × Int × Int × Int) := if ([a0_0, a0_1, a0_2, a0_3, a0_4, a0_5, a0_6].all fun x => decide (0 ≤ x ∧ x < 7)) = true then some (rd [a1_0, a1_1, a1_2, a1_3, a1_4, a1_5, a1_6] a0_0, rd [a1_0, a1_1, a1_2, a1_3, a1_4, a1_5, a1_6] a0_1, rd [a1_0, a1_1, a1_2, a1_3, a1_4, a1_5, a1_6] a0_2, rd [a1_0, a1_1, a1_2, a1_3, a1_4, a1_5, a1_6] a0_3, rd [a1_0, a1_1, a1_2, a1_3, a1_4, a1_5, a1_6] a0_4, rd [a1_0, a1_1, a1_2, a1_3, a1_4, a1_5, a1_6] a0_5, rd [a1_0, a1_1, a1_2, a1_3, a1_4, a1_5, a1_6] a0_6) else none
set_option maxHeartbeats 8000000 in
set_option maxRecDepth 100000 in
theorem Zw1.calls (a0_0 a0_1 a0_2 a0_3 a0_4 a0_5 a0_6 a1_0 a1_1 a1_2 a1_3 a1_4 a1_5 a1_6 : Int) (r1 r2 r3 r4 r5 r6 r7 : Int) (w : World) (h : Zw1.f a0_0 a0_1 a0_2 a0_3 a0_4 a0_5 a0_6 a1_0 a1_1 a1_2 a1_3 a1_4 a1_5 a1_6 = some (r1, r2, r3, r4, r5, r6, r7)) :
    Calls Try.prog 20 #[.agg #[.int .i64 a0_0, .int .i64 a0_1, .int .i64 a0_2, .int .i64 a0_3, .int .i64 a0_4, .int .i64 a0_5, .int .i64 a0_6], .agg #[.int .i64 a1_0, .int .i64 a1_1, .int .i64 a1_2, .int .i64 a1_3, .int .i64 a1_4, .int .i64 a1_5, .int .i64 a1_6]] w fun e w' => e = .returned (.agg #[.int .i64 r1, .int .i64 r2, .int .i64 r3, .int .i64 r4, .int .i64 r5, .int .i64 r6, .int .i64 r7]) ∧ Below w.heap.size w w' := by
 (have HB := Za.mk (Below.refl w.heap.size w)); (unfold Zw1.f at h)
 by_cases c1 : ([a0_0, a0_1, a0_2, a0_3, a0_4, a0_5, a0_6].all fun x => decide (0 ≤ x ∧ x < 7)) = true
 case neg => rw [if_neg c1] at h; cases h
 (rw [if_pos c1] at h); (simp only [Option.some.injEq, Prod.mk.injEq] at h); (obtain ⟨rfl, rfl, rfl, rfl, rfl, rfl, rfl⟩ := h); (obtain ⟨A, hA⟩ : ∃ A, A = [a0_0, a0_1, a0_2, a0_3, a0_4, a0_5, a0_6] := ⟨_, rfl⟩); (obtain ⟨B, hB⟩ : ∃ B, B = [a1_0, a1_1, a1_2, a1_3, a1_4, a1_5, a1_6] := ⟨_, rfl⟩); (have HA2 := Za.mk hA); (have HB2 := Za.mk hB); (have HLA := Za.mk (show A.length = 7 by rw [hA]; rfl)); (have HLB := Za.mk (show B.length = 7 by rw [hB]; rfl))
 have HIN := Za.mk (show ∀ j : Nat, j < 7 → 0 ≤ rd A (j : Int) ∧ rd A (j : Int) < 7 by
  intro j hj
  (rw [← hA] at c1); (have := List.all_eq_true.1 c1 _ (rd_memA (l := A) (i := j) (by rw [HLA.out]; exact hj)))
  exact of_decide_eq_true this)
 (have HRES := Za.mk (show #[.int .i64 (rd B a0_0), .int .i64 (rd B a0_1), .int .i64 (rd B a0_2), .int .i64 (rd B a0_3), .int .i64 (rd B a0_4), .int .i64 (rd B a0_5), .int .i64 (rd B a0_6)] = ints (mixL A B 7) by rw [hA]; rfl)); (rw [← hB]); (rw [HRES.out]); (clear c1 hA hB)
 go_enter Try.func20, Try.ntmps20
 go_wp2_with (first | ((with_reducible refine Zb1 (N := 2) rfl ?_); refine Zl1 ?hg (N := 2) ?hd (cs := #[.int .i64 a0_0, .int .i64 a0_1, .int .i64 a0_2, .int .i64 a0_3, .int .i64 a0_4, .int .i64 a0_5, .int .i64 a0_6]) (t := 48) ?hr ?_; (case hd => rfl); (case hg => rfl); (case hr => first | (go_simp; done) | (go_simp; rfl)); intro g2 hg w1 hbox hb; have G2 := Za.mk ((by rw [hg]; exact Zl HB.out) : w.heap.size ≤ g2); replace HB := Za.mk (Zr HB.out hb); have B2 : Za (w1.heap[g2]? = some (.cells (ints A) 48 (0, 0))) := ⟨by rw [HA2.out]; exact hbox⟩; clear hb hbox hg) | ((with_reducible refine Zb1 (N := 3) rfl ?_); refine Zl1 ?hg (N := 3) ?hd (cs := #[.int .i64 a1_0, .int .i64 a1_1, .int .i64 a1_2, .int .i64 a1_3, .int .i64 a1_4, .int .i64 a1_5, .int .i64 a1_6]) (t := 48) ?hr ?_; (case hd => rfl); (case hg => rfl); (case hr => first | (go_simp; done) | (go_simp; rfl)); intro g3 hg w2 hbox hb; have N3 := Za.mk ((by rw [hg]; exact Nat.ne_of_lt (blk_lt B2.out)) : g2 ≠ g3); have n0_ := Za.mk (Zr HB.out hb); have m0_ := Za.mk (Zp B2.out hb); clear HB B2; have HB := n0_; have B2 := m0_; clear n0_ m0_; have B3 : Za (w2.heap[g3]? = some (.cells (ints B) 48 (0, 0))) := ⟨by rw [HB2.out]; exact hbox⟩; clear hb hbox hg) | ((with_reducible refine Zb1 (N := 4) rfl ?_); refine Zl1 ?hg (N := 4) ?hd (cs := #[.int .i64 0, .int .i64 0, .int .i64 0, .int .i64 0, .int .i64 0, .int .i64 0, .int .i64 0]) (t := 48) ?hr ?_; (case hd => rfl); (case hg => rfl); (case hr => first | (go_simp; done) | (go_simp; rfl)); intro g4 hg w3 hbox hb; have G4 := Za.mk ((by rw [hg]; exact Zl HB.out) : w.heap.size ≤ g4); have N4 := Za.mk ((by rw [hg]; exact Nat.ne_of_lt (blk_lt B2.out)) : g2 ≠ g4); have n0_ := Za.mk (Zr HB.out hb); have m0_ := Za.mk (Zp B2.out hb); have m1_ := Za.mk (Zp B3.out hb); clear HB B2 B3; have HB := n0_; have B2 := m0_; have B3 := m1_; clear n0_ m0_ m1_; have B4 : Za (w3.heap[g4]? = some (.cells (ints (stillL 0)) 48 (0, 0))) := ⟨hbox⟩; clear hb hbox hg) | (refine wpList_load_row rfl 48 _ rfl g2 rfl 48 (ints A) (0, 0) _ B2.out Try.underlying48 rfl (by rw [ints_size, HLA.out]; kernel_rfl) ?_))
 clear HA2 HB2 HRES
 go_loopg [8] 8 (fun kq v8 w' => ∃ j : Nat, v8 = .int .i64 (j : Int) ∧ Za (j ≤ 7 ∧ 7 < kq + j) ∧ Za (w'.heap[g2]? = some (.cells (ints (mixL A B j)) 48 (0, 0))) ∧ Za (w'.heap[g3]? = some (.cells (ints B) 48 (0, 0))) ∧ Za (w'.heap[g4]? = some (.cells (ints (stillL 0)) 48 (0, 0))) ∧ Za (Below w.heap.size w w'))
 case atStart => exact ⟨0, rfl, ⟨by omega⟩, ⟨by rw [mixL_zero HLA.out]; exact B2.out⟩, B3, B4, HB⟩
 case round =>
  (clear HB B2 B3 B4); (obtain ⟨j, rfl, HJ, B2, B3, B4, HB⟩ := hrel)
  by_cases c3 : j < 7
  rotate_left
  ·have hj : j = 7 := by have := HJ.out; omega
   (subst hj); (clear c3)
   go_wp2_with (first
    | (refine wpList_load_row rfl 48 _ rfl g2 rfl 48 (ints (mixL A B 7)) (0, 0) _ B2.out Try.underlying48 rfl (by rw [ints_size]; kernel_rfl) ?_)
    | (refine arr_store (t := 48) (g := g4) (l := stillL 0) (l' := mixL A B 7) rfl 48 _ _ rfl rfl rfl rfl B4.out (by rw [ints_size]; kernel_rfl) rfl ?_; intro w8 q1 q2; have n0_ := Za.mk (HB.out.grown q2 HB.out.size (fun k hk => by cases hk; exact G4.out)); clear HB; have HB := n0_; clear n0_ q2; have B8 := Za.mk q1; clear q1))
   (try simp only [Exit.inBlock, Exit.then])
   refine bodyPost_ret (results_cell_row rfl _ _ g4 48 (ints (mixL A B 7)) (0, 0) _ rfl B8.out Try.underlying48 rfl (by rw [ints_size]; kernel_rfl)) rfl ?_
   exact ⟨rfl, HB.out⟩
  (have c3b : decide ((j : Int) < 7) = true := decide_eq_true (by omega)); (have c3c := eq_true (show (j : Int) < 7 by omega)); (have c3d := eq_true (show (0 : Int) ≤ (j : Int) by omega)); (obtain ⟨i0, i1⟩ := HIN.out j c3); (obtain ⟨hc, hf⟩ := arr_cell B2.out (show j < (mixL A B j).length by simp [mixL]; omega)); (obtain ⟨hc3, hf3⟩ := arr_cell B3.out (show (rd A (j : Int)).toNat < B.length by rw [HLB.out]; omega)); (rw [show (((rd A (j : Int)).toNat : Nat) : Int) = rd A (j : Int) by omega] at hc3); (have HX := Za.mk (fun W => arr_index (P := Try.prog) (w := W) (j := j) Try.underlying48 HLA.out c3 (Try.sizeOf3 W) (Try.isAgg3 W))); (have HS := Za.mk (arr_set B2.out j (rd B (rd A (j : Int))))); (have E2 := mixL_succ A B j c3); (have i0e := eq_true i0); (have i1e := eq_true i1); (have C3 := Za.mk c3); (clear c3 i0 i1)
  cases gk with
  | zero => exact absurd HJ.out (by have := C3.out; omega)
  | succ k1 =>
   (generalize rd A (j : Int) = x at *); (have hx := HX.out)
   go_wp2
   (have e1 : wrap64 ((j : Int) + 1) = ((j + 1 : Nat) : Int) := by have := C3.out; unfold wrap64; omega); (have hs := HS.out); (rw [E2] at hs)
   try rw [e1]
   go_roundg k1
   case measure => omega
   case rel => exact ⟨j + 1, by first | rfl | (rw [e1]; done) | rw [e1], ⟨by have := HJ.out; have := C3.out; omega⟩, ⟨hs.1⟩, ⟨Zc1 B3.out hs.2 (fun e => N3.out (Option.some.inj e).symm)⟩, ⟨Zc1 B4.out hs.2 (fun e => N4.out (Option.some.inj e).symm)⟩, ⟨HB.out.grown hs.2 HB.out.size (fun k hk => by cases hk; exact G2.out)⟩⟩
theorem ints7 {t : List Int} (h : t.length = 7) : ints t = #[.int .i64 (rd t 0), .int .i64 (rd t 1), .int .i64 (rd t 2), .int .i64 (rd t 3), .int .i64 (rd t 4), .int .i64 (rd t 5), .int .i64 (rd t 6)] := by
  match t, h with
  | [_, _, _, _, _, _, _], _ => rfl
def kinds_by.l0 : Nat → Int → List Int → Int → Int → List (List Int) → Int → Int → Int → Option (List Int)
  | 0, _, _, _, _, _, _, _, _ => none
  | k + 1, x10, t, a0_0, a0_1, l0_2, a0_3, a0_4, a1 => if x10 < a0_0 then (if 0 ≤ x10 then (if x10 < 7 then (if x10 < (l0_2.length : Int) then (if 0 ≤ a1 then (if a1 < ((Ze l0_2 x10).length : Int) then (kinds_by.l0 k (wrap64 (x10 + 1)) (t.set x10.toNat (rd (Ze l0_2 x10) a1)) a0_0 a0_1 l0_2 a0_3 a0_4 a1) else (none)) else (none)) else (none)) else (none)) else (none)) else (some t)
def kinds_by.f (k : Nat) (a0_0 : Int) (a0_1 : Int) (l0_2 : List (List Int)) (a0_3 : Int) (a0_4 : Int) (a1 : Int) : Option (Int × Int × Int × Int × Int × Int × Int) := (kinds_by.l0 k 0 [0, 1, 2, 3, 4, 5, 6] a0_0 a0_1 l0_2 a0_3 a0_4 a1).bind fun t => some (rd t 0, rd t 1, rd t 2, rd t 3, rd t 4, rd t 5, rd t 6)
theorem kinds_by.mono_l : ∀ k, (∀ y0 y1 y2 y3 y4 y5 y6 y7, LeO (kinds_by.l0 k y0 y1 y2 y3 y4 y5 y6 y7) (kinds_by.l0 (k + 1) y0 y1 y2 y3 y4 y5 y6 y7))
  | 0 => fun _ _ _ _ _ _ _ _ r h => by simp [kinds_by.l0] at h
  | k + 1 => by
    have ih0 := kinds_by.mono_l k
    intro y0 y1 y2 y3 y4 y5 y6 y7
    unfold kinds_by.l0
    repeat' first | (with_reducible exact ih0 _ _ _ _ _ _ _ _) | (with_reducible exact LeO.refl _) | (with_reducible exact LeO.none _) | (with_reducible refine LeO.ite ?_ ?_)
theorem kinds_by.mono : ∀ a0 a1 a2 a3 a4 a5 k, LeO (kinds_by.f k a0 a1 a2 a3 a4 a5) (kinds_by.f (k + 1) a0 a1 a2 a3 a4 a5) := by
  intro a0 a1 a2 a3 a4 a5 k
  unfold kinds_by.f
  exact LeO.bind (kinds_by.mono_l _ _ _ _ _ _ _ _ _) (fun _ => LeO.refl _)
set_option maxHeartbeats 8000000 in
set_option maxRecDepth 100000 in
theorem kinds_by.calls (k : Nat) (a0_0 : Int) (a0_1 : Int) (A0_2 : Option Addr) (c0_2 : Nat) (l0_2 : List (List Int)) (a0_3 : Int) (a0_4 : Int) (a1 : Int) (r1 r2 r3 r4 r5 r6 r7 : Int) (w : World) (hr0_2 : Kd.C (Kd.slice 3 (Kd.int .i64)) w A0_2 l0_2.length l0_2) (hc0_2 : l0_2.length ≤ c0_2) (h : kinds_by.f k a0_0 a0_1 l0_2 a0_3 a0_4 a1 = some (r1, r2, r3, r4, r5, r6, r7)) :
    Calls Try.prog 21 #[.agg #[.int .i64 a0_0, .int .i64 a0_1, .slice A0_2 l0_2.length c0_2, .int .i64 a0_3, .int .u32 a0_4], .int .i64 a1] w fun e w' => e = .returned (.agg #[.int .i64 r1, .int .i64 r2, .int .i64 r3, .int .i64 r4, .int .i64 r5, .int .i64 r6, .int .i64 r7]) ∧ Below w.heap.size w w' := by
 (have hu25 := Try.underlying25); (have HR0_2 := Za.mk hr0_2); (have HC0_2 := Za.mk hc0_2); (clear hr0_2 hc0_2); (have HB := Za.mk (Below.refl w.heap.size w)); (unfold kinds_by.f at h); (obtain ⟨T, hT, h2⟩ := Option.bind_eq_some_iff.mp h); (clear h); (simp only [Option.some.injEq, Prod.mk.injEq] at h2); (obtain ⟨rfl, rfl, rfl, rfl, rfl, rfl, rfl⟩ := h2); (have H' := Za.mk hT); (clear hT)
 go_enter Try.func21, Try.ntmps21
 go_wp2_with (first | ((with_reducible refine Zb1 (N := 2) rfl ?_); refine Zl1 ?hg (N := 2) ?hd (cs := #[.int .i64 a0_0, .int .i64 a0_1, .slice A0_2 l0_2.length c0_2, .int .i64 a0_3, .int .u32 a0_4]) (t := 25) ?hr ?_; (case hd => rfl); (case hg => rfl); (case hr => first | (go_simp; done) | (go_simp; rfl)); intro g2 hg w1 hbox hb; have G2 := Za.mk ((by rw [hg]; exact Zl HB.out) : w.heap.size ≤ g2); replace HB := Za.mk (Zr HB.out hb); have B2 : Za (w1.heap[g2]? = some (.cells #[.int .i64 a0_0, .int .i64 a0_1, .slice A0_2 l0_2.length c0_2, .int .i64 a0_3, .int .u32 a0_4] 25 (0, 0))) := ⟨hbox⟩; clear hb hbox hg) | ((with_reducible refine Zb1 (N := 4) rfl ?_); refine Zl1 ?hg (N := 4) ?hd (cs := #[.int .i64 0, .int .i64 0, .int .i64 0, .int .i64 0, .int .i64 0, .int .i64 0, .int .i64 0]) (t := 48) ?hr ?_; (case hd => rfl); (case hg => rfl); (case hr => first | (go_simp; done) | (go_simp; rfl)); intro g4 hg w2 hbox hb; have G4 := Za.mk ((by rw [hg]; exact Zl HB.out) : w.heap.size ≤ g4); have n0_ := Za.mk (Zr HB.out hb); have m0_ := Za.mk (Zp B2.out hb); clear HB B2; have HB := n0_; have B2 := m0_; clear n0_ m0_; have B4 : Za (w2.heap[g4]? = some (.cells (ints (stillL 0)) 48 (0, 0))) := ⟨hbox⟩; clear hb hbox hg) | (go_at_call 19; (with_reducible refine (kinds_still.calls 0 1 2 3 4 5 6 _ rfl).mono ?_); rintro e w3 ⟨rfl, hb⟩; have n0_ := Za.mk (Zr HB.out hb); have m0_ := Za.mk (Zp B2.out hb); have m1_ := Za.mk (Zp B4.out hb); clear HB B2 B4; have HB := n0_; have B2 := m0_; have B4 := m1_; clear n0_ m0_ m1_; clear hb) | ((with_reducible refine Zb1 (N := 5) rfl ?_); refine Zl1 ?hg (N := 5) ?hd (cs := #[.int .i64 0, .int .i64 0, .int .i64 0, .int .i64 0, .int .i64 0, .int .i64 0, .int .i64 0]) (t := 48) ?hr ?_; (case hd => rfl); (case hg => rfl); (case hr => first | (go_simp; done) | (go_simp; rfl)); intro gt hg w4 hbox hb; have Gt := Za.mk ((by rw [hg]; exact Zl HB.out) : w.heap.size ≤ gt); have N2 := Za.mk ((by rw [hg]; exact Nat.ne_of_lt (blk_lt B2.out)) : g2 ≠ gt); have N4 := Za.mk ((by rw [hg]; exact Nat.ne_of_lt (blk_lt B4.out)) : g4 ≠ gt); have n0_ := Za.mk (Zr HB.out hb); have m0_ := Za.mk (Zp B2.out hb); have m1_ := Za.mk (Zp B4.out hb); clear HB B2 B4; have HB := n0_; have B2 := m0_; have B4 := m1_; clear n0_ m0_ m1_; have Bt : Za (w4.heap[gt]? = some (.cells (ints (stillL 0)) 48 (0, 0))) := ⟨hbox⟩; clear hb hbox hg) | (refine arr_store (t := 48) (g := gt) (l := stillL 0) (l' := [0, 1, 2, 3, 4, 5, 6]) rfl 48 _ _ rfl rfl rfl rfl Bt.out (by kernel_rfl) rfl ?_; intro w5 q1 q2; have n0_ := Za.mk (HB.out.grown q2 HB.out.size (fun k hk => by cases hk; exact Gt.out)); have m0_ := Za.mk (Zc1 B2.out q2 (fun e => N2.out (Option.some.inj e))); have m1_ := Za.mk (Zc1 B4.out q2 (fun e => N4.out (Option.some.inj e))); clear HB B2 B4 Bt; have HB := n0_; have B2 := m0_; have B4 := m1_; have Bt := Za.mk q1; clear n0_ m0_ m1_ q1 q2; have hcz_0 : w5.cell? ⟨g2, 0, none⟩ = some (.int .i64 a0_0) := (Zb B2.out 0).trans rfl))
 go_loopg [10] k (fun kq v10 w' => ∃ (x10_1 : Int) (t : List Int), v10 = .int .i64 x10_1 ∧ Za (kinds_by.l0 kq x10_1 t a0_0 a0_1 l0_2 a0_3 a0_4 a1 = some T) ∧ Za (kq ≤ k) ∧ Za (t.length = 7) ∧ Za (w'.heap[gt]? = some (.cells (ints t) 48 (0, 0))) ∧ Za (w'.heap[g4]? = some (.cells (ints (stillL 0)) 48 (0, 0))) ∧ Za (w'.heap[g2]? = some (.cells #[.int .i64 a0_0, .int .i64 a0_1, .slice A0_2 l0_2.length c0_2, .int .i64 a0_3, .int .u32 a0_4] 25 (0, 0))) ∧ Za (Below w.heap.size w w'))
 case atStart => exact ⟨_, _, rfl, H', ⟨Nat.le_refl _⟩, ⟨rfl⟩, Bt, B4, B2, HB⟩
 case round =>
  (clear H' Bt B4 B2 HB); (obtain ⟨x10_1, t, rfl, HA, HK1, HL, Bt, B4, B2, HB⟩ := hrel)
  cases gk with
  | zero => exact absurd HA.out (by simp [kinds_by.l0])
  | succ k1 =>
   (have H := HA.out); (clear HA); (simp only [kinds_by.l0] at H)
   by_cases c13 : x10_1 < a0_0
   case neg =>
    (rw [if_neg c13] at H); (have c13b0 : decide (x10_1 < a0_0) = false := decide_eq_false c13); (clear c13); (obtain rfl := Option.some.inj H); (have hi7 := ints7 HL.out)
    go_wp2_with (first
     | (refine wpList_load_row rfl 48 _ rfl gt rfl 48 (ints t) (0, 0) _ Bt.out Try.underlying48 rfl (by rw [ints_size, HL.out]; kernel_rfl) ?_)
     | (refine arr_store (t := 48) (g := g4) (l := stillL 0) (l' := t) rfl 48 _ _ rfl rfl rfl rfl B4.out (by rw [ints_size, HL.out]; kernel_rfl) (by rw [HL.out]; rfl) ?_; intro w8 q1 q2; have n0_ := Za.mk (HB.out.grown q2 HB.out.size (fun k hk => by cases hk; exact G4.out)); clear HB; have HB := n0_; clear n0_ q2; have B8 := Za.mk q1; clear q1))
    (try simp only [Exit.inBlock, Exit.then])
    refine bodyPost_ret (results_cell_row rfl _ _ g4 48 (ints t) (0, 0) _ rfl B8.out Try.underlying48 rfl (by rw [ints_size, HL.out]; kernel_rfl)) rfl ?_
    exact ⟨by rw [hi7], HB.out⟩
   rw [if_pos c13] at H
   by_cases c14 : 0 ≤ x10_1
   case neg => rw [if_neg c14] at H; cases H
   rw [if_pos c14] at H
   by_cases c15 : x10_1 < 7
   case neg => rw [if_neg c15] at H; cases H
   rw [if_pos c15] at H
   by_cases c16 : x10_1 < (l0_2.length : Int)
   case neg => rw [if_neg c16] at H; cases H
   rw [if_pos c16] at H
   by_cases c17 : 0 ≤ a1
   case neg => rw [if_neg c17] at H; cases H
   rw [if_pos c17] at H
   by_cases c18 : a1 < ((Ze l0_2 x10_1).length : Int)
   case neg => rw [if_neg c18] at H; cases H
   (rw [if_pos c18] at H); (have H' := Za.mk H); (clear H); (obtain ⟨hc, hf⟩ := arr_cell Bt.out (show x10_1.toNat < t.length by rw [HL.out]; omega)); (have hs := arr_set Bt.out x10_1.toNat (rd (Ze l0_2 x10_1) a1)); (have HS := Za.mk hs); (clear hs); (have hcz_2 : wr.cell? ⟨g2, 2, none⟩ = some (.slice A0_2 l0_2.length c0_2) := (Zb B2.out 2).trans rfl); (obtain ⟨ad2, A2_0, c2_0, e2, hx2_0, hl2_0, hi2_0⟩ := at_L1 HR0_2.out x10_1 c14 c16); (cases e2); (replace hx2_0 := (HB.out.cell (World.block_lt_of_cell? w _ hx2_0)).trans hx2_0); (obtain ⟨ad3, e3, hx3_0⟩ := Kd.at_int hi2_0 a1 c17 c18); (cases e3); (replace hx3_0 := (HB.out.cell (World.block_lt_of_cell? w _ hx3_0)).trans hx3_0); (clear hi2_0 hl2_0); (have c13b0 : decide (x10_1 < a0_0) = true := decide_eq_true c13); (have d14 := eq_true c14); (have d15 := eq_true c15); (have d16 := eq_true c16); (have d17 := eq_true c17); (have d18 := eq_true c18); (clear c13 c14 c15 c16 c17 c18)
   go_wp2
   go_roundg k1
   case measure => have := HK1.out; omega
   case rel => exact ⟨_, _, rfl, H', ⟨by have := HK1.out; omega⟩, ⟨by rw [List.length_set]; exact HL.out⟩, ⟨HS.out.1⟩, ⟨Zc1 B4.out HS.out.2 (fun e => N4.out (Option.some.inj e))⟩, ⟨Zc1 B2.out HS.out.2 (fun e => N2.out (Option.some.inj e))⟩, ⟨HB.out.grown HS.out.2 HB.out.size (fun k hk => by cases hk; exact Gt.out)⟩⟩
def Zu1.l0 : Nat → List (S48) → Int → Int → Int → Int → Int → Int → Int → Int → Int → Option (Int)
  | 0, _, _, _, _, _, _, _, _, _, _ => none
  | k + 1, x0, x7, x8, x299000, x299001, x299002, x299003, x299004, x299005, x299006 => if x8 < x7 then (if 0 ≤ x8 then (if x8 < (x0.length : Int) then (if (x299000 == ((Zd x0 x8).f0) && (x299001 == ((Zd x0 x8).f1) && (x299002 == ((Zd x0 x8).f2) && (x299003 == ((Zd x0 x8).f3) && (x299004 == ((Zd x0 x8).f4) && (x299005 == ((Zd x0 x8).f5) && (x299006 == ((Zd x0 x8).f6)))))))) = true then (some x8) else (Zu1.l0 k x0 x7 (wrap64 (x8 + 1)) x299000 x299001 x299002 x299003 x299004 x299005 x299006)) else (none)) else (none)) else (some (-1))
def Zu1.f (k : Nat) (l0 : List (S48)) (a1_0 : Int) (a1_1 : Int) (a1_2 : Int) (a1_3 : Int) (a1_4 : Int) (a1_5 : Int) (a1_6 : Int) : Option (Int) := Zu1.l0 k l0 (l0.length : Int) 0 a1_0 a1_1 a1_2 a1_3 a1_4 a1_5 a1_6
theorem Zu1.mono_l : ∀ k, (∀ y0 y1 y2 y3 y4 y5 y6 y7 y8 y9, LeO (Zu1.l0 k y0 y1 y2 y3 y4 y5 y6 y7 y8 y9) (Zu1.l0 (k + 1) y0 y1 y2 y3 y4 y5 y6 y7 y8 y9))
  | 0 => fun _ _ _ _ _ _ _ _ _ _ r h => by simp [Zu1.l0] at h
  | k + 1 => by
    have ih0 := Zu1.mono_l k
    · intro y0 y1 y2 y3 y4 y5 y6 y7 y8 y9
      unfold Zu1.l0
      repeat' first | (with_reducible exact ih0 _ _ _ _ _ _ _ _ _ _) | (with_reducible exact LeO.refl _) | (with_reducible exact LeO.none _) | (with_reducible refine LeO.ite ?_ ?_) | (with_reducible refine LeO.bind ?_ (fun _ => ?_))
theorem Zu1.mono : ∀ a0 a1 a2 a3 a4 a5 a6 a7 k, LeO (Zu1.f k a0 a1 a2 a3 a4 a5 a6 a7) (Zu1.f (k + 1) a0 a1 a2 a3 a4 a5 a6 a7) := by
  intro a0 a1 a2 a3 a4 a5 a6 a7 k
  have ih0 := Zu1.mono_l k
  unfold Zu1.f
  repeat' first | (with_reducible exact ih0 _ _ _ _ _ _ _ _ _ _) | (with_reducible exact LeO.refl _) | (with_reducible exact LeO.none _) | (with_reducible refine LeO.ite ?_ ?_) | (with_reducible refine LeO.bind ?_ (fun _ => ?_))
set_option maxHeartbeats 8000000 in
set_option maxRecDepth 100000 in
theorem Zu1.calls (k : Nat) (A0 : Option Addr) (c0 : Nat) (l0 : List (S48)) (a1_0 : Int) (a1_1 : Int) (a1_2 : Int) (a1_3 : Int) (a1_4 : Int) (a1_5 : Int) (a1_6 : Int) (r : Int) (w : World) (hr0 : Kd.C k48 w A0 l0.length l0) (hc0 : l0.length ≤ c0) (h : Zu1.f k l0 a1_0 a1_1 a1_2 a1_3 a1_4 a1_5 a1_6 = some r) :
    Calls Try.prog 42 #[.slice A0 l0.length c0, .agg #[.int .i64 a1_0, .int .i64 a1_1, .int .i64 a1_2, .int .i64 a1_3, .int .i64 a1_4, .int .i64 a1_5, .int .i64 a1_6]] w fun e w' => e = .returned (.int .i64 r) ∧ Below w.heap.size w w' := by
 (have hu48 := Try.underlying48); (have HR0 := Za.mk hr0); (have HC0 := Za.mk hc0); (clear hr0 hc0); (have HB := Za.mk (Below.refl w.heap.size w)); (have H : (Zu1.l0 k l0 (l0.length : Int) 0 a1_0 a1_1 a1_2 a1_3 a1_4 a1_5 a1_6) = some r := h); (clear h); (have H' := Za.mk H); (clear H)
 go_enter Try.func42, Try.ntmps42
 go_wp2_with (first | ((with_reducible refine Zb1 (N := 3) rfl ?_); refine Zl1 ?hg (N := 3) ?hd (cs := #[.int .i64 a1_0, .int .i64 a1_1, .int .i64 a1_2, .int .i64 a1_3, .int .i64 a1_4, .int .i64 a1_5, .int .i64 a1_6]) (t := 48) ?hr ?_; (case hd => rfl); (case hg => rfl); (case hr => first | (go_simp; done) | (go_simp; rfl)); intro gb298 hg w3 hbox hb; have BK298 := Za.mk (hbox); have GW298 := Za.mk ((by rw [hg]; exact (Zl (by repeat (first | (with_reducible first | exact HB.out | apply zc1 | apply zc2 | apply zc3) | exact HB.out))) : w.heap.size ≤ gb298)); have GE298 := Za.mk ((by rw [hg]; exact (Zl (by repeat (first | (with_reducible first | exact HB.out | apply zc1 | apply zc2 | apply zc3) | exact HB.out))) : w.heap.size ≤ gb298)); replace HB := Za.mk (Zr (by repeat (first | (with_reducible first | exact HB.out | apply zc1 | apply zc2 | apply zc3) | exact HB.out)) hb); clear hb hbox hg))
 repeat (go_quiet (first | ((with_reducible refine Zb1 (N := 3) rfl ?_); refine Zl1 ?hg (N := 3) ?hd (cs := #[.int .i64 a1_0, .int .i64 a1_1, .int .i64 a1_2, .int .i64 a1_3, .int .i64 a1_4, .int .i64 a1_5, .int .i64 a1_6]) (t := 48) ?hr ?_; (case hd => rfl); (case hg => rfl); (case hr => first | (go_simp; done) | (go_simp; rfl)); intro gb298 hg w3 hbox hb; have BK298 := Za.mk (hbox); have GW298 := Za.mk ((by rw [hg]; exact (Zl (by repeat (first | (with_reducible first | exact HB.out | apply zc1 | apply zc2 | apply zc3) | exact HB.out))) : w.heap.size ≤ gb298)); have GE298 := Za.mk ((by rw [hg]; exact (Zl (by repeat (first | (with_reducible first | exact HB.out | apply zc1 | apply zc2 | apply zc3) | exact HB.out))) : w.heap.size ≤ gb298)); replace HB := Za.mk (Zr (by repeat (first | (with_reducible first | exact HB.out | apply zc1 | apply zc2 | apply zc3) | exact HB.out)) hb); clear hb hbox hg)); try go_wp2)
 go_loopg [8] k (fun kq v8 w' => ∃ (x8_1 : Int), v8 = .int .i64 x8_1 ∧ Za (Zu1.l0 kq l0 (l0.length : Int) x8_1 a1_0 a1_1 a1_2 a1_3 a1_4 a1_5 a1_6 = some r) ∧ Za (kq ≤ k) ∧ Za (w'.heap[gb298]? = some (.cells #[.int .i64 a1_0, .int .i64 a1_1, .int .i64 a1_2, .int .i64 a1_3, .int .i64 a1_4, .int .i64 a1_5, .int .i64 a1_6] 48 (0, 0))) ∧ Za (Below w.heap.size w w'))
 case atStart => exact ⟨(0), (by first | rfl | (simp; done) | (simp [*]; done)), H', ⟨Nat.le_refl _⟩, ⟨by (with_reducible repeat (first | apply zb3 | apply zb2 | apply zb1)); exact BK298.out⟩, ⟨by repeat (first | (with_reducible first | exact HB.out | apply zc1 | apply zc2 | apply zc3 | refine zc4 ?_ (by assumption)) | exact HB.out)⟩⟩
 case round =>
  (clear H'); (try clear p2); (obtain ⟨x8_1, rfl, HA, HK1, BK298, HB⟩ := hrel)
  cases gk with
  | zero => exact absurd HA.out (by simp [Zu1.l0])
  | succ k1 =>
   (have H := HA.out); (clear HA); (simp only [Zu1.l0] at H)
   by_cases c4 : x8_1 < (l0.length : Int)
   rotate_left
   ·rw [if_neg c4] at H
    (have c4b0 : decide (x8_1 < (l0.length : Int)) = false := decide_eq_false c4); (clear c4); (obtain rfl := Option.some.inj H)
    go_wp2
    repeat (go_quiet (fail); try go_wp2)
    go_ret
    exact ⟨by first | rfl | (simp [Zw, Zx] <;> rfl) | (simp [*, Zw, Zx] <;> rfl), by repeat (first | (with_reducible first | exact HB.out | apply zc1 | apply zc2 | apply zc3 | refine zc4 ?_ (by assumption)) | exact HB.out)⟩
   (rw [if_pos c4] at H); (have c4b0 : decide (x8_1 < (l0.length : Int)) = true := decide_eq_true c4); (clear c4)
   by_cases c5 : 0 ≤ x8_1
   rotate_left
   ·rw [if_neg c5] at H
    exact absurd H (by simp)
   (rw [if_pos c5] at H); (have c5b0 : decide (0 ≤ x8_1) = true := decide_eq_true c5); (clear c5)
   by_cases c6 : x8_1 < (l0.length : Int)
   rotate_left
   ·rw [if_neg c6] at H
    exact absurd H (by simp)
   (rw [if_pos c6] at H); (have c6b0 : decide (x8_1 < (l0.length : Int)) = true := decide_eq_true c6); (clear c6)
   by_cases c7 : (a1_0 == ((Zd l0 x8_1).f0) && (a1_1 == ((Zd l0 x8_1).f1) && (a1_2 == ((Zd l0 x8_1).f2) && (a1_3 == ((Zd l0 x8_1).f3) && (a1_4 == ((Zd l0 x8_1).f4) && (a1_5 == ((Zd l0 x8_1).f5) && (a1_6 == ((Zd l0 x8_1).f6)))))))) = true
   ·rw [if_pos c7] at H
    (have c7b0 : (a1_0 == ((Zd l0 x8_1).f0) && (a1_1 == ((Zd l0 x8_1).f1) && (a1_2 == ((Zd l0 x8_1).f2) && (a1_3 == ((Zd l0 x8_1).f3) && (a1_4 == ((Zd l0 x8_1).f4) && (a1_5 == ((Zd l0 x8_1).f5) && (a1_6 == ((Zd l0 x8_1).f6)))))))) = true := c7); ((try (have c7b1 : decide (a1_0 = ((Zd l0 x8_1).f0) && (a1_1 == ((Zd l0 x8_1).f1) && (a1_2 == ((Zd l0 x8_1).f2) && (a1_3 == ((Zd l0 x8_1).f3) && (a1_4 == ((Zd l0 x8_1).f4) && (a1_5 == ((Zd l0 x8_1).f5) && (a1_6 == ((Zd l0 x8_1).f6)))))))) = true := by simpa using c7))); ((try (have c7b2 : (a1_0 == ((Zd l0 x8_1).f0) && (a1_1 == ((Zd l0 x8_1).f1) && (a1_2 == ((Zd l0 x8_1).f2) && (a1_3 == ((Zd l0 x8_1).f3) && (a1_4 == ((Zd l0 x8_1).f4) && (a1_5 == ((Zd l0 x8_1).f5) && (a1_6 == ((Zd l0 x8_1).f6)))))))) = true := by simpa using c7))); (clear c7); (obtain rfl := Option.some.inj H); (have hcz8_0 : wr.cell? ⟨gb298, 0, none⟩ = some (.int .i64 a1_0) := (Zb BK298.out 0).trans rfl); (have hcz8_1 : wr.cell? ⟨gb298, 1, none⟩ = some (.int .i64 a1_1) := (Zb BK298.out 1).trans rfl); (have hcz8_2 : wr.cell? ⟨gb298, 2, none⟩ = some (.int .i64 a1_2) := (Zb BK298.out 2).trans rfl); (have hcz8_3 : wr.cell? ⟨gb298, 3, none⟩ = some (.int .i64 a1_3) := (Zb BK298.out 3).trans rfl); (have hcz8_4 : wr.cell? ⟨gb298, 4, none⟩ = some (.int .i64 a1_4) := (Zb BK298.out 4).trans rfl); (have hcz8_5 : wr.cell? ⟨gb298, 5, none⟩ = some (.int .i64 a1_5) := (Zb BK298.out 5).trans rfl); (have hcz8_6 : wr.cell? ⟨gb298, 6, none⟩ = some (.int .i64 a1_6) := (Zb BK298.out 6).trans rfl)
    (have hfz8_0 := Zc BK298.out 0); (have hfz8_1 := Zc BK298.out 1); (have hfz8_2 := Zc BK298.out 2); (have hfz8_3 := Zc BK298.out 3); (have hfz8_4 := Zc BK298.out 4); (have hfz8_5 := Zc BK298.out 5); (have hfz8_6 := Zc BK298.out 6); (have p299 : 0 ≤ (x8_1 : Int) := of_decide_eq_true (by assumption)); (have q299 : x8_1 < (l0.length : Int) := of_decide_eq_true (by assumption)); (obtain ⟨ad299, e299, hx299_0, hx299_1, hx299_2, hx299_3, hx299_4, hx299_5, hx299_6⟩ := at_T48 HR0.out x8_1 p299 q299); (cases e299); (replace hx299_0 := (HB.out.cell (World.block_lt_of_cell? w _ hx299_0)).trans hx299_0); (replace hx299_1 := (HB.out.cell (World.block_lt_of_cell? w _ hx299_1)).trans hx299_1); (replace hx299_2 := (HB.out.cell (World.block_lt_of_cell? w _ hx299_2)).trans hx299_2); (replace hx299_3 := (HB.out.cell (World.block_lt_of_cell? w _ hx299_3)).trans hx299_3); (replace hx299_4 := (HB.out.cell (World.block_lt_of_cell? w _ hx299_4)).trans hx299_4); (replace hx299_5 := (HB.out.cell (World.block_lt_of_cell? w _ hx299_5)).trans hx299_5); (replace hx299_6 := (HB.out.cell (World.block_lt_of_cell? w _ hx299_6)).trans hx299_6); (replace p299 := eq_true p299); (replace q299 := eq_true q299)
    go_wp2
    repeat (go_quiet (fail); try go_wp2)
    go_ret
    exact ⟨by first | rfl | (simp [Zw, Zx] <;> rfl) | (simp [*, Zw, Zx] <;> rfl), by repeat (first | (with_reducible first | exact HB.out | apply zc1 | apply zc2 | apply zc3 | refine zc4 ?_ (by assumption)) | exact HB.out)⟩
   (rw [if_neg c7] at H); (have c7b0 : (a1_0 == ((Zd l0 x8_1).f0) && (a1_1 == ((Zd l0 x8_1).f1) && (a1_2 == ((Zd l0 x8_1).f2) && (a1_3 == ((Zd l0 x8_1).f3) && (a1_4 == ((Zd l0 x8_1).f4) && (a1_5 == ((Zd l0 x8_1).f5) && (a1_6 == ((Zd l0 x8_1).f6)))))))) = false := by simpa using c7); ((try (have c7b1 : decide (a1_0 = ((Zd l0 x8_1).f0) && (a1_1 == ((Zd l0 x8_1).f1) && (a1_2 == ((Zd l0 x8_1).f2) && (a1_3 == ((Zd l0 x8_1).f3) && (a1_4 == ((Zd l0 x8_1).f4) && (a1_5 == ((Zd l0 x8_1).f5) && (a1_6 == ((Zd l0 x8_1).f6)))))))) = false := by simpa using c7))); ((try (have c7b2 : (a1_0 == ((Zd l0 x8_1).f0) && (a1_1 == ((Zd l0 x8_1).f1) && (a1_2 == ((Zd l0 x8_1).f2) && (a1_3 == ((Zd l0 x8_1).f3) && (a1_4 == ((Zd l0 x8_1).f4) && (a1_5 == ((Zd l0 x8_1).f5) && (a1_6 == ((Zd l0 x8_1).f6)))))))) = false := by simpa using c7))); ((try (have c7b3 : ¬ (a1_0 = ((Zd l0 x8_1).f0) && (a1_1 == ((Zd l0 x8_1).f1) && (a1_2 == ((Zd l0 x8_1).f2) && (a1_3 == ((Zd l0 x8_1).f3) && (a1_4 == ((Zd l0 x8_1).f4) && (a1_5 == ((Zd l0 x8_1).f5) && (a1_6 == ((Zd l0 x8_1).f6)))))))) := by simpa using c7))); (clear c7); (have H' := Za.mk H); (clear H); (have hcz9_0 : wr.cell? ⟨gb298, 0, none⟩ = some (.int .i64 a1_0) := (Zb BK298.out 0).trans rfl); (have hcz9_1 : wr.cell? ⟨gb298, 1, none⟩ = some (.int .i64 a1_1) := (Zb BK298.out 1).trans rfl); (have hcz9_2 : wr.cell? ⟨gb298, 2, none⟩ = some (.int .i64 a1_2) := (Zb BK298.out 2).trans rfl)
   (have hcz9_3 : wr.cell? ⟨gb298, 3, none⟩ = some (.int .i64 a1_3) := (Zb BK298.out 3).trans rfl); (have hcz9_4 : wr.cell? ⟨gb298, 4, none⟩ = some (.int .i64 a1_4) := (Zb BK298.out 4).trans rfl); (have hcz9_5 : wr.cell? ⟨gb298, 5, none⟩ = some (.int .i64 a1_5) := (Zb BK298.out 5).trans rfl); (have hcz9_6 : wr.cell? ⟨gb298, 6, none⟩ = some (.int .i64 a1_6) := (Zb BK298.out 6).trans rfl); (have hfz9_0 := Zc BK298.out 0); (have hfz9_1 := Zc BK298.out 1); (have hfz9_2 := Zc BK298.out 2); (have hfz9_3 := Zc BK298.out 3); (have hfz9_4 := Zc BK298.out 4); (have hfz9_5 := Zc BK298.out 5); (have hfz9_6 := Zc BK298.out 6); (have p299 : 0 ≤ (x8_1 : Int) := of_decide_eq_true (by assumption)); (have q299 : x8_1 < (l0.length : Int) := of_decide_eq_true (by assumption)); (obtain ⟨ad299, e299, hx299_0, hx299_1, hx299_2, hx299_3, hx299_4, hx299_5, hx299_6⟩ := at_T48 HR0.out x8_1 p299 q299); (cases e299); (replace hx299_0 := (HB.out.cell (World.block_lt_of_cell? w _ hx299_0)).trans hx299_0); (replace hx299_1 := (HB.out.cell (World.block_lt_of_cell? w _ hx299_1)).trans hx299_1); (replace hx299_2 := (HB.out.cell (World.block_lt_of_cell? w _ hx299_2)).trans hx299_2); (replace hx299_3 := (HB.out.cell (World.block_lt_of_cell? w _ hx299_3)).trans hx299_3); (replace hx299_4 := (HB.out.cell (World.block_lt_of_cell? w _ hx299_4)).trans hx299_4); (replace hx299_5 := (HB.out.cell (World.block_lt_of_cell? w _ hx299_5)).trans hx299_5); (replace hx299_6 := (HB.out.cell (World.block_lt_of_cell? w _ hx299_6)).trans hx299_6)
   (replace p299 := eq_true p299); (replace q299 := eq_true q299)
   go_wp2
   repeat (go_quiet (fail); try go_wp2)
   go_roundg k1
   case measure => have := HK1.out; omega
   case rel => exact ⟨(wrap64 (x8_1 + 1)), (by first | rfl | (simp; done) | (simp [*]; done)), H', ⟨by have := HK1.out; omega⟩, ⟨by (with_reducible repeat (first | apply zb3 | apply zb2 | apply zb1)); exact BK298.out⟩, ⟨by repeat (first | (with_reducible first | exact HB.out | apply zc1 | apply zc2 | apply zc3 | refine zc4 ?_ (by assumption)) | exact HB.out)⟩⟩
def Zv1.f (k : Nat) (l0 : List (S48)) (a1_0 : Int) (a1_1 : Int) (a1_2 : Int) (a1_3 : Int) (a1_4 : Int) (a1_5 : Int) (a1_6 : Int) : Option (Bool) := (Zu1.f k l0 a1_0 a1_1 a1_2 a1_3 a1_4 a1_5 a1_6).bind fun t301 => (some (decide (t301 ≥ 0)))
theorem Zv1.mono : ∀ a0 a1 a2 a3 a4 a5 a6 a7 k, LeO (Zv1.f k a0 a1 a2 a3 a4 a5 a6 a7) (Zv1.f (k + 1) a0 a1 a2 a3 a4 a5 a6 a7) := by
  intro a0 a1 a2 a3 a4 a5 a6 a7 k
  unfold Zv1.f
  repeat' first | (with_reducible exact Zu1.mono _ _ _ _ _ _ _ _ _) | (with_reducible exact LeO.refl _) | (with_reducible exact LeO.none _) | (with_reducible refine LeO.ite ?_ ?_) | (with_reducible refine LeO.bind ?_ (fun _ => ?_))
set_option maxHeartbeats 8000000 in
set_option maxRecDepth 100000 in
theorem Zv1.calls (k : Nat) (A0 : Option Addr) (c0 : Nat) (l0 : List (S48)) (a1_0 : Int) (a1_1 : Int) (a1_2 : Int) (a1_3 : Int) (a1_4 : Int) (a1_5 : Int) (a1_6 : Int) (r : Bool) (w : World) (hr0 : Kd.C k48 w A0 l0.length l0) (hc0 : l0.length ≤ c0) (h : Zv1.f k l0 a1_0 a1_1 a1_2 a1_3 a1_4 a1_5 a1_6 = some r) :
    Calls Try.prog 35 #[.slice A0 l0.length c0, .agg #[.int .i64 a1_0, .int .i64 a1_1, .int .i64 a1_2, .int .i64 a1_3, .int .i64 a1_4, .int .i64 a1_5, .int .i64 a1_6]] w fun e w' => e = .returned (.bool r) ∧ Below w.heap.size w w' := by
 (have hu48 := Try.underlying48); (have HR0 := Za.mk hr0); (have HC0 := Za.mk hc0); (clear hr0 hc0); (have HB := Za.mk (Below.refl w.heap.size w)); (have H : ((Zu1.f k l0 a1_0 a1_1 a1_2 a1_3 a1_4 a1_5 a1_6).bind fun t301 => (some (decide (t301 ≥ 0)))) = some r := h); (clear h); (replace H := Option.bind_eq_some_iff.mp H); (obtain ⟨t301, A30, H⟩ := H); (replace H : (some (decide (t301 ≥ 0))) = some r := H); (have A3 := Za.mk A30); (clear A30); (obtain rfl := Option.some.inj H)
 go_enter Try.func35, Try.ntmps35
 go_wp2_with (first | ((with_reducible refine Zb1 (N := 3) rfl ?_); refine Zl1 ?hg (N := 3) ?hd (cs := #[.int .i64 a1_0, .int .i64 a1_1, .int .i64 a1_2, .int .i64 a1_3, .int .i64 a1_4, .int .i64 a1_5, .int .i64 a1_6]) (t := 48) ?hr ?_; (case hd => rfl); (case hg => rfl); (case hr => first | (go_simp; done) | (go_simp; rfl)); intro gb300 hg w4 hbox hb; have BK300 := Za.mk (hbox); have GW300 := Za.mk ((by rw [hg]; exact (Zl (by repeat (first | (with_reducible first | exact HB.out | apply zc1 | apply zc2 | apply zc3) | exact HB.out))) : w.heap.size ≤ gb300)); have GE300 := Za.mk ((by rw [hg]; exact (Zl (by repeat (first | (with_reducible first | exact HB.out | apply zc1 | apply zc2 | apply zc3) | exact HB.out))) : w.heap.size ≤ gb300)); replace HB := Za.mk (Zr (by repeat (first | (with_reducible first | exact HB.out | apply zc1 | apply zc2 | apply zc3) | exact HB.out)) hb); clear hb hbox hg; have hcz5_0 : w4.cell? ⟨gb300, 0, none⟩ = some (.int .i64 a1_0) := (Zb BK300.out 0).trans rfl; have hcz5_1 : w4.cell? ⟨gb300, 1, none⟩ = some (.int .i64 a1_1) := (Zb BK300.out 1).trans rfl; have hcz5_2 : w4.cell? ⟨gb300, 2, none⟩ = some (.int .i64 a1_2) := (Zb BK300.out 2).trans rfl; have hcz5_3 : w4.cell? ⟨gb300, 3, none⟩ = some (.int .i64 a1_3) := (Zb BK300.out 3).trans rfl; have hcz5_4 : w4.cell? ⟨gb300, 4, none⟩ = some (.int .i64 a1_4) := (Zb BK300.out 4).trans rfl; have hcz5_5 : w4.cell? ⟨gb300, 5, none⟩ = some (.int .i64 a1_5) := (Zb BK300.out 5).trans rfl; have hcz5_6 : w4.cell? ⟨gb300, 6, none⟩ = some (.int .i64 a1_6) := (Zb BK300.out 6).trans rfl; have hfz5_0 := Zc BK300.out 0; have hfz5_1 := Zc BK300.out 1; have hfz5_2 := Zc BK300.out 2; have hfz5_3 := Zc BK300.out 3; have hfz5_4 := Zc BK300.out 4; have hfz5_5 := Zc BK300.out 5; have hfz5_6 := Zc BK300.out 6) | ((with_reducible refine gate_callee (f := 42) rfl ?_); refine goesL_ (some 7) rfl rfl Try.func42 (by kernel_rfl) rfl #[.slice A0 l0.length c0, .agg #[.int .i64 a1_0, .int .i64 a1_1, .int .i64 a1_2, .int .i64 a1_3, .int .i64 a1_4, .int .i64 a1_5, .int .i64 a1_6]] rfl (by (try simp only [List.map_toArray, List.map_cons, List.map_nil]); first | done | rfl | (simp only [List.length_drop, List.length_take]; rfl)) ?_; (with_reducible refine (Zu1.calls k _ _ l0 a1_0 a1_1 a1_2 a1_3 a1_4 a1_5 a1_6 t301 _ ?side1 ?side2 A3.out).mono ?_); (case side1 => repeat (first | exact (Kd.C_below HR0.out HB.out) | (with_reducible refine Kd.C_alloc ?_ _) | (with_reducible refine Kd.C_drewN ?_ _) | (with_reducible refine Kd.C_drew ?_))); (case side2 => exact HC0.out); rintro e w6 ⟨rfl, hb⟩; refine ⟨_, rfl, ?_⟩; replace BK300 := Za.mk (Zp (g := gb300) (by (with_reducible repeat (first | apply zb3 | apply zb2 | apply zb1)); exact BK300.out) hb); replace HB := Za.mk (Zr (by repeat (first | (with_reducible first | exact HB.out | apply zc1 | apply zc2 | apply zc3 | refine zc4 ?_ (by assumption)) | exact HB.out)) hb); (try clear hb); (try clear hb2); (try clear hk); (try clear hi)))
 go_ret
 exact ⟨by first | rfl | (simp [Zw, Zx] <;> rfl) | (simp [*, Zw, Zx] <;> rfl), by repeat (first | (with_reducible first | exact HB.out | apply zc1 | apply zc2 | apply zc3 | refine zc4 ?_ (by assumption)) | exact HB.out)⟩
end Go.Proofs.Ytofdaiknpficfaa.PKindsStills
