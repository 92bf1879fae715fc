/- The law TallyWords holds: its row over the pure statement. Conditions: none but the row's own. -/
import Derived.Test.YtidjihmlkaeemaaRows
import Derived.Test.YtidjihmlkaeemaaPTallyWordsx10
import Derived.Test.YtidjihmlkaeemaaStatTallyWords
import Derived.Test.YtidjihmlkaeemaaPureTallyWords
import Derived.Test.YtidjihmlkaeemaaOpen
import Derived.WalkKit
import Derived.ProofKit
import Derived.OpenShut
import Derived.ShutString
import Derived.ChangeOld
import Derived.Below
import Derived.SizedLaws
import Derived.Carry
namespace Go.Proofs.Ytidjihmlkaeemaa.tallyWords
open Go.ChangeShapes Go.WideShapes Go.ChangeAt Go.RowKit Go.Proofs.YtidjihmlkaeemaaW.PrintWords Go.Proofs.Ytidjihmlkaeemaa.PTallyWords Go.Proofs.Ytidjihmlkaeemaa.Open
set_option linter.unusedVariables false
set_option linter.unusedSimpArgs false
theorem own : ownKnob Try.prog.godebug = none := by kernel_rfl
theorem laidOut : laidOutB Try.prog = true := by kernel_rfl
set_option maxRecDepth 100000 in
theorem lifted (os : Os) (started : os.Started) (H : Type) (enc : TypeId × Value → H) :
    ReturnsInHanded {} Try.checked os 11 .any (Rows.tallyWordsSpec.pre6 enc Try.prog Try.f11 Rows.tallyWordsRow.domain false) (Rows.tallyWordsSpec.post enc Try.prog Try.f11 false true false false) := by
  refine returnsInHanded_of_change_sized (C := Try.checked) own started (by kernel_rfl) Try.func11
    (ChangeSpec.witness6 (enc := enc) (C := Try.checked) false ⟨#[], #[.agg #[.int .i64 0, .int .i64 0, .slice none 0 0, .int .i64 0, .int .u32 0], .int .i64 0, .int .i64 0], []⟩ 8 (by kernel_rfl) (by kernel_rfl) (by kernel_rfl) (by kernel_rfl)) ?_
  intro W base args ds gs before hval0 hW hcnd hsz0 _
  have hsz : (DataW.weightsEach Try.prog (Try.f11.params.toList ++ Rows.tallyWordsSpec.plain.varTypes Try.prog) (ds ++ gs)).all (· ≤ reachBytes) = true := hsz0
  have hval : ∀ (j : Nat) t v, Try.f11.params[j]? = some t → args[j]? = some v → Value.okWide Try.prog W .any base t v := hval0
  have hW' := hW
  obtain ⟨p, q, hA0, hV, rfl, hfz, hnd⟩ := hW
  have hA : DataW.TrodAll enc Try.prog W 0 (fun _ => true) true Try.f11.params.toList args.toList ds p := hA0
  rw [Try.params11] at hA hval hsz
  obtain ⟨v0, vs0, d0, ds0, p0, q0, hargs, rfl, rfl, h0, r0⟩ := trodAll_cons hA
  obtain ⟨v1, vs1, d1, ds1, p1, q1, rfl, rfl, rfl, h1, r1⟩ := trodAll_cons r0
  obtain ⟨v2, vs2, d2, ds2, p2, q2, rfl, rfl, rfl, h2, r2⟩ := trodAll_cons r1
  obtain ⟨rfl, rfl, rfl⟩ := trodAll_nil r2
  obtain rfl : args = #[v0, v1, v2] := by cases args; simp_all
  obtain ⟨rfl, rfl⟩ := trodVars_none hV
  obtain ⟨cs0, rfl, _⟩ := okWide_struct Try.underlying41 (hval 0 41 v0 rfl rfl)
  have k0 := h0
  have lt0 : ∀ x ∈ p0, x.block < W.heap.size := by obtain ⟨m, hm⟩ := k0; exact DataW.trod_lt m _ _ _ hm
  obtain ⟨fuel0, hf0⟩ := h0
  obtain ⟨x0, hK0, wf0⟩ := (opens_struct (tot := 5) Try.underlying41 rfl (by kernel_rfl) (opensF_cons (s := 1) rfl (by kernel_rfl) (opens_int Try.underlying3) (opensF_cons (s := 1) rfl (by kernel_rfl) (opens_int Try.underlying3) (opensF_cons (s := 1) rfl (by kernel_rfl) (opens_slice Try.underlying39 (by kernel_rfl) (opens_slice Try.underlying33 (by kernel_rfl) (opens_int Try.underlying3))) (opensF_cons (s := 1) rfl (by kernel_rfl) (opens_int Try.underlying3) (opensF_one rfl (by kernel_rfl) (opens_int Try.underlying23))))))) H enc W fuel0 _ _ hf0
  obtain ⟨_, _, he0_0, rfl, ⟨_, _, he0_1, rfl, ⟨_, _, he0_2, ⟨A0_2, c0_2, rfl, hc0_2, hr0_2⟩, ⟨_, _, he0_3, rfl, rfl⟩⟩⟩⟩ := hK0
  obtain rfl : cs0 = #[.int .i64 (x0.1), .int .i64 (x0.2.1), .slice A0_2 (x0.2.2.1).length c0_2, .int .i64 (x0.2.2.2.1), .int .u32 (x0.2.2.2.2)] := by apply Array.toList_inj.1; show (Value.agg cs0).cells.toList = _; rw [he0_0, he0_1, he0_2, he0_3]; rfl
  obtain ⟨a1, rfl, rfl, rfl, w1⟩ := open_int Try.underlying3 (hval 1 3 v1 rfl rfl) h1
  obtain ⟨a2, rfl, rfl, rfl, w2⟩ := open_int Try.underlying2 (hval 2 2 v2 rfl rfl) h2
  clear hA0 hval0 hsz0 hsz
  obtain ⟨k, hk⟩ := Pure.TallyWords (x0.1) (x0.2.1) (x0.2.2.1) (x0.2.2.2.1) (x0.2.2.2.2) a1 a2 wf0.1 wf0.2.1 wf0.2.2.1 wf0.2.2.2.1 wf0.2.2.2.2 w1 w2 
  refine (coppicerlaw_TallyWords.calls k (x0.1) (x0.2.1) _ _ (x0.2.2.1) (x0.2.2.2.1) (x0.2.2.2.2) a1 a2 true W hr0_2 hc0_2 hk).mono fun e W' he => ?_
  obtain ⟨rfl, bel0⟩ := he
  have bel : Below W.heap.size W W' := bel0
  exact ⟨_, rfl, _, _, _, [], _, [], hW', trodAll_mk1 (shut_bool Try.underlying4 _), (trodAll_cons_mk (Below.trod laidOut (by kernel_rfl) (of_decide_eq_true (by kernel_rfl)) k0 bel lt0) (trodAll_cons_mk (shut_int Try.underlying3 w1) (trodAll_cons_mk (shut_int Try.underlying2 w2) trodAll_mk0))), rfl, bel.frame _, fun h => by cases h⟩
theorem over : Rows.tallyWordsRow.holds Try.pinned (OpenSpec.ofChange Rows.tallyWordsSpec) :=
  OpenClaim.holds_of_wide 11 Try.f11 rfl rfl rfl rfl rfl rfl rfl ⟨rfl, rfl, rfl, rfl, rfl⟩ rfl rfl rfl rfl rfl (by kernel_rfl) Try.func11 (by kernel_rfl)
    (of_decide_eq_true (by kernel_rfl)) (by unfold Func.isWrapper; first | (rw [if_pos (by decide +kernel)]; kernel_rfl) | (rw [if_neg (by decide +kernel)]; exact ⟨rfl, rfl⟩))
    (fun os started H enc _ => lifted os started H enc)
end Go.Proofs.Ytidjihmlkaeemaa.tallyWords
namespace Go.Proofs.Ytidjihmlkaeemaa
/-- The law, under a short name, for the claim. -/
theorem tallyWords_row : Rows.TallyWordsSaid := tallyWords.over
#print axioms tallyWords_row
end Go.Proofs.Ytidjihmlkaeemaa
