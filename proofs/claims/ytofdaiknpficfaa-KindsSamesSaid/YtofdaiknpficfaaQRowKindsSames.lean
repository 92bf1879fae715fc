/- The law KindsSames holds: its row over the pure statement. Conditions: none but the row's own. -/
import Derived.Test.YtofdaiknpficfaaRows
import Derived.Test.YtofdaiknpficfaaQPKindsSamesx16
import Derived.Test.YtofdaiknpficfaaQStatKindsSames
import Derived.Test.YtofdaiknpficfaaQPureKindsSames
import Derived.Test.YtofdaiknpficfaaQOpen
import Derived.WalkKit
import Derived.ProofKit
import Derived.OpenShut
import Derived.ShutString
import Derived.ChangeOld
import Derived.Below
import Derived.SizedLaws
import Derived.Carry
namespace Go.Proofs.Ytofdaiknpficfaa.kindsSames
open Go.ChangeShapes Go.WideShapes Go.ChangeAt Go.RowKit Go.Proofs.YtofdaiknpficfaaW.PrintWords Go.Proofs.Ytofdaiknpficfaa.PKindsSames Go.Proofs.Ytofdaiknpficfaa.Open
set_option linter.unusedVariables false
set_option linter.unusedSimpArgs false
theorem own : ownKnob Try.prog.godebug = none := by kernel_rfl
theorem laidOut : laidOutB Try.prog = true := by kernel_rfl
theorem sized {H : Type} {enc : TypeId × Value → H} {P : Program} {W : World} {t e : TypeId} {a : Option Addr} {len cap : Nat} {d : DataW H} {ps : List MemPlace} {ts : List TypeId} {ds : List (DataW H)} {j : Nat}
    (hsz : (DataW.weightsEach P ts ds).all (· ≤ reachBytes) = true) (ht : ts[j]? = some t) (hd : ds[j]? = some d) (hu : P.underlying t = some (.slice e)) {B : Nat} (hB : P.bytesOf e = B)
    (h : DataW.Trod enc P W 0 (fun _ => true) true t (.slice a len cap) d ps) : len * B ≤ 140737488351232 := by
  obtain ⟨fuel, hf⟩ := h
  rcases Deep.open_slice hu hf with ⟨hcs, _⟩ | ⟨x, l, c, m, n, D, Pl, hcs, _, hl, _, hm, hx, _⟩
  · simp [Value.cells] at hcs
    obtain ⟨rfl, rfl, rfl⟩ := hcs
    simp
  · simp [Value.cells] at hcs
    obtain ⟨rfl, rfl, rfl⟩ := hcs
    obtain ⟨hx, _⟩ := Prod.mk.inj hx
    subst hx
    have z := sized_slice hsz ht hd hu
    rw [hB] at z
    simp only [List.length_map, List.length_range] at z
    exact Nat.le_trans (Nat.mul_le_mul_right _ (Nat.le_add_right _ _)) z
set_option maxRecDepth 100000 in
theorem lifted (os : Os) (started : os.Started) (H : Type) (enc : TypeId × Value → H) :
    ReturnsInHanded {} Try.checked os 4 .any (Rows.kindsSamesSpec.pre6 enc Try.prog Try.f4 Rows.kindsSamesRow.domain false) (Rows.kindsSamesSpec.post enc Try.prog Try.f4 false true false false) := by
  refine returnsInHanded_of_change_sized (C := Try.checked) own started (by kernel_rfl) Try.func4
    (ChangeSpec.witness6 (enc := enc) (C := Try.checked) false ⟨#[], #[.agg #[.int .i64 0, .int .i64 0, .slice none 0 0, .int .i64 0, .int .u32 0], .slice none 0 0, .slice none 0 0], []⟩ 8 (by kernel_rfl) (by kernel_rfl) (by kernel_rfl) (by kernel_rfl)) ?_
  intro W base args ds gs before hval0 hW hcnd hsz0 _
  have hsz : (DataW.weightsEach Try.prog (Try.f4.params.toList ++ Rows.kindsSamesSpec.plain.varTypes Try.prog) (ds ++ gs)).all (· ≤ reachBytes) = true := hsz0
  have hval : ∀ (j : Nat) t v, Try.f4.params[j]? = some t → args[j]? = some v → Value.okWide Try.prog W .any base t v := hval0
  have hW' := hW
  obtain ⟨p, q, hA0, hV, rfl, hfz, hnd⟩ := hW
  have hA : DataW.TrodAll enc Try.prog W 0 (fun _ => true) true Try.f4.params.toList args.toList ds p := hA0
  rw [Try.params4] at hA hval hsz
  obtain ⟨v0, vs0, d0, ds0, p0, q0, hargs, rfl, rfl, h0, r0⟩ := trodAll_cons hA
  obtain ⟨v1, vs1, d1, ds1, p1, q1, rfl, rfl, rfl, h1, r1⟩ := trodAll_cons r0
  obtain ⟨v2, vs2, d2, ds2, p2, q2, rfl, rfl, rfl, h2, r2⟩ := trodAll_cons r1
  obtain ⟨rfl, rfl, rfl⟩ := trodAll_nil r2
  obtain rfl : args = #[v0, v1, v2] := by cases args; simp_all
  obtain ⟨rfl, rfl⟩ := trodVars_none hV
  obtain ⟨cs0, rfl, _⟩ := okWide_struct Try.underlying25 (hval 0 25 v0 rfl rfl)
  have k0 := h0
  have lt0 : ∀ x ∈ p0, x.block < W.heap.size := by obtain ⟨m, hm⟩ := k0; exact DataW.trod_lt m _ _ _ hm
  obtain ⟨fuel0, hf0⟩ := h0
  obtain ⟨x0, hK0, wf0⟩ := (opens_struct (tot := 5) Try.underlying25 rfl (by kernel_rfl) (opensF_cons (s := 1) rfl (by kernel_rfl) (opens_int Try.underlying3) (opensF_cons (s := 1) rfl (by kernel_rfl) (opens_int Try.underlying3) (opensF_cons (s := 1) rfl (by kernel_rfl) (opens_slice Try.underlying22 (by kernel_rfl) (opens_slice Try.underlying32 (by kernel_rfl) (opens_int Try.underlying3))) (opensF_cons (s := 1) rfl (by kernel_rfl) (opens_int Try.underlying3) (opensF_one rfl (by kernel_rfl) (opens_int Try.underlying23))))))) H enc W fuel0 _ _ hf0
  obtain ⟨_, _, he0_0, rfl, ⟨_, _, he0_1, rfl, ⟨_, _, he0_2, ⟨A0_2, c0_2, rfl, hc0_2, hr0_2⟩, ⟨_, _, he0_3, rfl, rfl⟩⟩⟩⟩ := hK0
  obtain rfl : cs0 = #[.int .i64 (x0.1), .int .i64 (x0.2.1), .slice A0_2 (x0.2.2.1).length c0_2, .int .i64 (x0.2.2.2.1), .int .u32 (x0.2.2.2.2)] := by apply Array.toList_inj.1; show (Value.agg cs0).cells.toList = _; rw [he0_0, he0_1, he0_2, he0_3]; rfl
  obtain ⟨aa1, len1, cap1, rfl⟩ := okWide_slice Try.underlying32 (hval 1 32 v1 rfl rfl)
  have k1 := h1
  have lt1 : ∀ x ∈ p1, x.block < W.heap.size := by obtain ⟨m, hm⟩ := k1; exact DataW.trod_lt m _ _ _ hm
  have sz1 : len1 * 8 ≤ 140737488351232 := sized hsz (j := 1) (t := 32) rfl rfl Try.underlying32 (by kernel_rfl) h1
  obtain ⟨fuel1, hf1⟩ := h1
  obtain ⟨l1, hK1, wf1⟩ := (opens_slice Try.underlying32 (by kernel_rfl) (opens_int Try.underlying3)) H enc W fuel1 _ _ hf1
  obtain ⟨A1, c1, hcs1, hc1, hr1⟩ := hK1
  simp [Value.cells] at hcs1
  obtain ⟨rfl, rfl, rfl⟩ := hcs1
  obtain ⟨aa2, len2, cap2, rfl⟩ := okWide_slice Try.underlying32 (hval 2 32 v2 rfl rfl)
  have k2 := h2
  have lt2 : ∀ x ∈ p2, x.block < W.heap.size := by obtain ⟨m, hm⟩ := k2; exact DataW.trod_lt m _ _ _ hm
  have sz2 : len2 * 8 ≤ 140737488351232 := sized hsz (j := 2) (t := 32) rfl rfl Try.underlying32 (by kernel_rfl) h2
  obtain ⟨fuel2, hf2⟩ := h2
  obtain ⟨l2, hK2, wf2⟩ := (opens_slice Try.underlying32 (by kernel_rfl) (opens_int Try.underlying3)) H enc W fuel2 _ _ hf2
  obtain ⟨A2, c2, hcs2, hc2, hr2⟩ := hK2
  simp [Value.cells] at hcs2
  obtain ⟨rfl, rfl, rfl⟩ := hcs2
  clear hA0 hval0 hsz0 hsz
  obtain ⟨k, hk⟩ := Pure.KindsSames (x0.1) (x0.2.1) (x0.2.2.1) (x0.2.2.2.1) (x0.2.2.2.2) l1 l2 wf0.1 wf0.2.1 wf0.2.2.1 wf0.2.2.2.1 wf0.2.2.2.2 wf1 wf2 sz1 sz2
  refine (Zd1.calls k (x0.1) (x0.2.1) _ _ (x0.2.2.1) (x0.2.2.2.1) (x0.2.2.2.2) _ _ l1 _ _ l2 true W hr0_2 hc0_2 hr1 hc1 hr2 hc2 hk).mono fun e W' he => ?_
  obtain ⟨rfl, bel0⟩ := he
  have bel : Below W.heap.size W W' := bel0
  exact ⟨_, rfl, _, _, _, [], _, [], hW', trodAll_mk1 (shut_bool Try.underlying4 _), (trodAll_cons_mk (Below.trod laidOut (by kernel_rfl) (of_decide_eq_true (by kernel_rfl)) k0 bel lt0) (trodAll_cons_mk (Below.trod laidOut (by kernel_rfl) (of_decide_eq_true (by kernel_rfl)) k1 bel lt1) (trodAll_cons_mk (Below.trod laidOut (by kernel_rfl) (of_decide_eq_true (by kernel_rfl)) k2 bel lt2) trodAll_mk0))), rfl, bel.frame _, fun h => by cases h⟩
theorem over : Rows.kindsSamesRow.holds Try.pinned (OpenSpec.ofChange Rows.kindsSamesSpec) :=
  OpenClaim.holds_of_wide 4 Try.f4 rfl rfl rfl rfl rfl rfl rfl ⟨rfl, rfl, rfl, rfl, rfl⟩ rfl rfl rfl rfl rfl (by kernel_rfl) Try.func4 (by kernel_rfl)
    (of_decide_eq_true (by kernel_rfl)) (by unfold Func.isWrapper; first | (rw [if_pos (by decide +kernel)]; kernel_rfl) | (rw [if_neg (by decide +kernel)]; exact ⟨rfl, rfl⟩))
    (fun os started H enc _ => lifted os started H enc)
end Go.Proofs.Ytofdaiknpficfaa.kindsSames
namespace Go.Proofs.Ytofdaiknpficfaa
theorem kindsSames_row : Rows.KindsSamesSaid := kindsSames.over
#print axioms kindsSames_row
end Go.Proofs.Ytofdaiknpficfaa
