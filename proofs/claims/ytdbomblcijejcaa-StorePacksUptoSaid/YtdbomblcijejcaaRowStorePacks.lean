/- The law StorePacks holds where what it reads is of bulk at most 1048576: its row over the pure statement. Conditions: that one alone. -/
import Derived.Test.YtdbomblcijejcaaRows
import Derived.Test.YtdbomblcijejcaaPStorePacksx6
import Derived.Test.YtdbomblcijejcaaStatStorePacks
import Derived.Test.YtdbomblcijejcaaPureStorePacks
import Derived.Test.YtdbomblcijejcaaOpenU
import Derived.WalkKit
import Derived.JoinedCond
import Derived.ProofKit
import Derived.OpenShut
import Derived.ShutString
import Derived.ChangeOld
import Derived.Below
import Derived.SizedLaws
import Derived.Carry
namespace Go.Proofs.Ytdbomblcijejcaa.storePacks
open Go.ChangeShapes Go.WideShapes Go.ChangeAt Go.RowKit Go.Proofs.YtdbomblcijejcaaW.PrintWords Go.Proofs.Ytdbomblcijejcaa.PStorePacks Go.Proofs.Ytdbomblcijejcaa.OpenU
set_option linter.unusedVariables false
set_option linter.unusedSimpArgs false
theorem own : ownKnob Try.prog.godebug = none := by kernel_rfl
theorem laidOut : laidOutB Try.prog = true := by kernel_rfl
set_option maxRecDepth 100000 in
theorem lifted (os : Os) (started : os.Started) (H : Type) (enc : TypeId × Value → H) (F0 : Stop.Interp) :
    ReturnsInHanded {} Try.checked os 4 .any ((Rows.OpenSpec.upto Rows.storePacksSpec).pre6 enc Try.prog Try.f4 Rows.storePacksUptoRow.domain false) (((Rows.OpenSpec.upto Rows.storePacksSpec).at F0).post enc Try.prog Try.f4 false true false false) := by
  refine returnsInHanded_of_cond (C := Try.checked) (s := (Rows.OpenSpec.upto Rows.storePacksSpec)) (k := Rows.uptoSmall) rfl own started (by kernel_rfl) Try.func4
    (OpenSpec.witness (enc := enc) (C := Try.checked) (s := (Rows.OpenSpec.upto Rows.storePacksSpec)) (k := Rows.uptoSmall) rfl false ⟨#[], #[.agg #[.slice none 0 0, .int .i64 0]], []⟩ 8 (by kernel_rfl) (by kernel_rfl) (by kernel_rfl) (x := ([.agg [.nil, .lit (.int .i64 0)]], [], [])) (by kernel_rfl) (by kernel_rfl) (by kernel_rfl)) ?_
  intro W base args ds gs before hval0 hW hcnd hbulk _
  have hval : ∀ (j : Nat) t v, Try.f4.params[j]? = some t → args[j]? = some v → Value.okWide Try.prog W .any base t v := hval0
  have hW' := hW
  obtain ⟨p, q, hA0, hV, rfl, hfz, hnd⟩ := hW
  have hA : DataW.TrodAll enc Try.prog W 0 (fun _ => true) true Try.f4.params.toList args.toList ds p := hA0
  rw [Try.params4] at hA hval
  obtain ⟨v0, vs0, d0, ds0, p0, q0, hargs, rfl, rfl, h0, r0⟩ := trodAll_cons hA
  obtain ⟨rfl, rfl, rfl⟩ := trodAll_nil r0
  obtain rfl : args = #[v0] := by cases args; simp_all
  obtain ⟨rfl, rfl⟩ := trodVars_none hV
  obtain ⟨cs0, rfl, _⟩ := okWide_struct Try.underlying24 (hval 0 24 v0 rfl rfl)
  have k0 := h0
  have lt0 : ∀ x ∈ p0, x.block < W.heap.size := by obtain ⟨m, hm⟩ := k0; exact DataW.trod_lt m _ _ _ hm
  obtain ⟨fuel0, hf0⟩ := h0
  obtain ⟨x0, hK0, wf0, mb0⟩ := (openm_struct (tot := 2) Try.underlying24 rfl (by kernel_rfl) (openmF_cons (s := 1) rfl (by kernel_rfl) (openm_slice Try.underlying22 (by kernel_rfl) (openm_iso (f := fun x : S40 => (x.f0, x.f1, x.f2, x.f3)) (fun y => (⟨y.1, y.2.1, y.2.2.1, y.2.2.2⟩ : S40)) (fun _ => rfl) (openm_struct (tot := 4) Try.underlying40 rfl (by kernel_rfl) (openmF_cons (s := 1) rfl (by kernel_rfl) (openm_int Try.underlying3) (openmF_cons (s := 1) rfl (by kernel_rfl) (openm_int Try.underlying3) (openmF_cons (s := 1) rfl (by kernel_rfl) (openm_int Try.underlying3) (openmF_one rfl (by kernel_rfl) (openm_slice Try.underlying38 (by kernel_rfl) (openm_slice Try.underlying28 (by kernel_rfl) (openm_int Try.underlying3)))))))))) (openmF_one rfl (by kernel_rfl) (openm_int Try.underlying3)))) H enc W fuel0 _ _ hf0
  obtain ⟨_, _, he0_0, ⟨A0_0, c0_0, rfl, hc0_0, hr0_0⟩, rfl⟩ := hK0
  obtain rfl : cs0 = #[.slice A0_0 (x0.1).length c0_0, .int .i64 (x0.2)] := by apply Array.toList_inj.1; show (Value.agg cs0).cells.toList = _; rw [he0_0]; rfl
  clear hA0 hval0
  have hb1 := of_decide_eq_true hbulk
  have hb2 := Nat.le_trans mb0 (Nat.le_trans (Nat.le_add_right _ _) hb1)
  clear hbulk hb1
  obtain ⟨k, hk⟩ := Pure.StorePacks (x0.1) (x0.2) wf0.1 wf0.2 hb2
  refine (coppicerlaw_StorePacks.calls k _ _ (x0.1) (x0.2) true W hr0_0 hc0_0 hk).mono fun e W' he => ?_
  obtain ⟨rfl, bel0⟩ := he
  have bel : Below W.heap.size W W' := bel0
  exact ⟨_, rfl, _, _, _, [], _, [], hW', trodAll_mk1 (shut_bool Try.underlying4 _), (trodAll_cons_mk (Below.trod laidOut (by kernel_rfl) (of_decide_eq_true (by kernel_rfl)) k0 bel lt0) trodAll_mk0), rfl, bel.frame _, fun h => by cases h⟩
theorem over : Rows.storePacksUptoRow.holds Try.pinned (Rows.OpenSpec.upto Rows.storePacksSpec) :=
  OpenClaim.holds_of_cond 4 Try.f4 rfl rfl rfl rfl rfl rfl rfl ⟨rfl, rfl, rfl, rfl, rfl⟩ rfl rfl rfl rfl rfl (by kernel_rfl) Try.func4 (by kernel_rfl)
    (of_decide_eq_true (by kernel_rfl)) (by unfold Func.isWrapper; first | (rw [if_pos (by decide +kernel)]; kernel_rfl) | (rw [if_neg (by decide +kernel)]; exact ⟨rfl, rfl⟩))
    (fun os started H enc _ F => lifted os started H enc F)
end Go.Proofs.Ytdbomblcijejcaa.storePacks
namespace Go.Proofs.Ytdbomblcijejcaa
/-- The law, under a short name, for the claim. -/
theorem storePacks_row : Rows.StorePacksUptoSaid := storePacks.over
#print axioms storePacks_row
end Go.Proofs.Ytdbomblcijejcaa
