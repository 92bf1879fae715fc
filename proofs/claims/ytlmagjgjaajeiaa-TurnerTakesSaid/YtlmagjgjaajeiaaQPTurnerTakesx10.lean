-- Printed by a turn of a template of the kit, and shortened: remarks and what nothing here uses are left out.
import Derived.Test.YtlmagjgjaajeiaaQPTurnerTakesx0
import Derived.Test.YtlmagjgjaajeiaaQPTurnerTakesx1
import Derived.Test.YtlmagjgjaajeiaaQPTurnerTakesx6
import Derived.Test.YtlmagjgjaajeiaaQPTurnerTakesx7
import Derived.Test.YtlmagjgjaajeiaaQPTurnerTakesx8
import Derived.Test.YtlmagjgjaajeiaaQPTurnerTakesx9
namespace Go.Proofs.Ytlmagjgjaajeiaa.PTurnerTakes
open Go.RowKit Go.Proofs.YtlmagjgjaajeiaaW.PrintWords Go.Proofs.YtlmagjgjaajeiaaW.PrintLast Go.Proofs.YtlmagjgjaajeiaaW.PrintMore
attribute [local go_sem] max2_int min2_int max_two min_two max_three min_three max_four min_four
set_option linter.unusedVariables false
set_option linter.unusedSimpArgs false
mutual
def coppicerlaw_TurnerTakes.j0 : Nat → Int → Int → Int → Int → Int → List (List Int) → List (List (List Int)) → Int → Int → Int → List (List Int) → Int → Int → Int → Int → List (List Int) → Int → Int → Option (Bool)
  | 0, _, _, _, _, _, _, _, _, _, _, _, _, _, _, _, _, _, _ => none
  | k + 1, x6, x7, x216000, x216001, x216002, x216003, x216004, x216005, x217000, x217001, x217002, x217003, x217004, x226000, x226001, x226002, x226003, x226004 => if x7 = 0 then (coppicerlaw_TurnerTakes.j1 k x6 x7 (x216002 != x217001) x216000 x216001 x216002 x216003 x216004 x216005 x217000 x217001 x217002 x217003 x217004 x226000 x226001 x226002 x226003 x226004) else (coppicerlaw_TurnerTakes.j1 k x6 x7 false x216000 x216001 x216002 x216003 x216004 x216005 x217000 x217001 x217002 x217003 x217004 x226000 x226001 x226002 x226003 x226004)
def coppicerlaw_TurnerTakes.j1 : Nat → Int → Int → Bool → Int → Int → Int → List (List Int) → List (List (List Int)) → Int → Int → Int → List (List Int) → Int → Int → Int → Int → List (List Int) → Int → Int → Option (Bool)
  | 0, _, _, _, _, _, _, _, _, _, _, _, _, _, _, _, _, _, _, _ => none
  | k + 1, x6, x7, x28, x216000, x216001, x216002, x216003, x216004, x216005, x217000, x217001, x217002, x217003, x217004, x226000, x226001, x226002, x226003, x226004 => if x28 = true then (coppicerlaw_TurnerTakes.j2 k x6 3 x216000 x216001 x216002 x216003 x216004 x216005 x217000 x217001 x217002 x217003 x217004 x226000 x226001 x226002 x226003 x226004) else (coppicerlaw_TurnerTakes.j2 k x6 x7 x216000 x216001 x216002 x216003 x216004 x216005 x217000 x217001 x217002 x217003 x217004 x226000 x226001 x226002 x226003 x226004)
def coppicerlaw_TurnerTakes.j2 : Nat → Int → Int → Int → Int → Int → List (List Int) → List (List (List Int)) → Int → Int → Int → List (List Int) → Int → Int → Int → Int → List (List Int) → Int → Int → Option (Bool)
  | 0, _, _, _, _, _, _, _, _, _, _, _, _, _, _, _, _, _, _ => none
  | k + 1, x6, x7, x216000, x216001, x216002, x216003, x216004, x216005, x217000, x217001, x217002, x217003, x217004, x226000, x226001, x226002, x226003, x226004 => if x7 = 0 then (coppicerlaw_TurnerTakes.j3 k x6 x7 (decide ((wrap64 (x216000 * x217000)) > 7)) x216000 x216001 x216002 x216003 x216004 x216005 x217000 x217001 x217002 x217003 x217004 x226000 x226001 x226002 x226003 x226004) else (coppicerlaw_TurnerTakes.j3 k x6 x7 false x216000 x216001 x216002 x216003 x216004 x216005 x217000 x217001 x217002 x217003 x217004 x226000 x226001 x226002 x226003 x226004)
def coppicerlaw_TurnerTakes.j3 : Nat → Int → Int → Bool → Int → Int → Int → List (List Int) → List (List (List Int)) → Int → Int → Int → List (List Int) → Int → Int → Int → Int → List (List Int) → Int → Int → Option (Bool)
  | 0, _, _, _, _, _, _, _, _, _, _, _, _, _, _, _, _, _, _, _ => none
  | k + 1, x6, x7, x38, x216000, x216001, x216002, x216003, x216004, x216005, x217000, x217001, x217002, x217003, x217004, x226000, x226001, x226002, x226003, x226004 => if x38 = true then (coppicerlaw_TurnerTakes.j4 k x6 1 x216000 x216001 x216002 x216003 x216004 x216005 x217000 x217001 x217002 x217003 x217004 x226000 x226001 x226002 x226003 x226004) else (coppicerlaw_TurnerTakes.j4 k x6 x7 x216000 x216001 x216002 x216003 x216004 x216005 x217000 x217001 x217002 x217003 x217004 x226000 x226001 x226002 x226003 x226004)
def coppicerlaw_TurnerTakes.j4 : Nat → Int → Int → Int → Int → Int → List (List Int) → List (List (List Int)) → Int → Int → Int → List (List Int) → Int → Int → Int → Int → List (List Int) → Int → Int → Option (Bool)
  | 0, _, _, _, _, _, _, _, _, _, _, _, _, _, _, _, _, _, _ => none
  | k + 1, x6, x7, x216000, x216001, x216002, x216003, x216004, x216005, x217000, x217001, x217002, x217003, x217004, x226000, x226001, x226002, x226003, x226004 => if x7 = 0 then (if x6 = 0 then ((coppicerref_Before.f k x216000 x216001 x216002 x216003 x216004 x216005 x217000 x217001 x217002 x217003 x217004).bind fun bt228 => ((coppicerref_MachineSame.f k x226000 x226001 x226002 x226003 x226004 bt228.1 bt228.2.1 bt228.2.2.1 bt228.2.2.2.1 bt228.2.2.2.2).bind fun t235 => (some t235))) else (some false)) else (if x6 = x7 then ((coppicerref_Zero.f k x226000 x226001 x226002 x226003 x226004).bind fun t236 => (some t236)) else (some false))
end
def coppicerlaw_TurnerTakes.f (k : Nat) (a0_0 : Int) (a0_1 : Int) (a0_2 : Int) (l0_3 : List (List Int)) (l0_4 : List (List (List Int))) (a0_5 : Int) (a1_0 : Int) (a1_1 : Int) (l1_2 : List (List Int)) (a1_3 : Int) (a1_4 : Int) : Option (Bool) := (turner_Takes.f k a0_0 a0_1 a0_2 l0_3 l0_4 a0_5 a1_0 a1_1 l1_2 a1_3 a1_4).bind fun bt217 => ((coppicerref_TurnerCheck.f k a0_0 a0_1 a0_2 l0_3 l0_4 a0_5).bind fun t226 => (if t226 = 0 then ((coppicerref_MachineCheck.f k a1_0 a1_1 l1_2 a1_3 a1_4).bind fun t227 => (coppicerlaw_TurnerTakes.j0 k bt217.2.2.2.2.2 t227 a0_0 a0_1 a0_2 l0_3 l0_4 a0_5 a1_0 a1_1 l1_2 a1_3 a1_4 bt217.1 bt217.2.1 bt217.2.2.1 bt217.2.2.2.1 bt217.2.2.2.2.1)) else (coppicerlaw_TurnerTakes.j0 k bt217.2.2.2.2.2 t226 a0_0 a0_1 a0_2 l0_3 l0_4 a0_5 a1_0 a1_1 l1_2 a1_3 a1_4 bt217.1 bt217.2.1 bt217.2.2.1 bt217.2.2.2.1 bt217.2.2.2.2.1)))
theorem coppicerlaw_TurnerTakes.mono_l : ∀ k, (∀ y0 y1 y2 y3 y4 y5 y6 y7 y8 y9 y10 y11 y12 y13 y14 y15 y16 y17, LeO (coppicerlaw_TurnerTakes.j0 k y0 y1 y2 y3 y4 y5 y6 y7 y8 y9 y10 y11 y12 y13 y14 y15 y16 y17) (coppicerlaw_TurnerTakes.j0 (k + 1) y0 y1 y2 y3 y4 y5 y6 y7 y8 y9 y10 y11 y12 y13 y14 y15 y16 y17)) ∧ (∀ y0 y1 y2 y3 y4 y5 y6 y7 y8 y9 y10 y11 y12 y13 y14 y15 y16 y17 y18, LeO (coppicerlaw_TurnerTakes.j1 k y0 y1 y2 y3 y4 y5 y6 y7 y8 y9 y10 y11 y12 y13 y14 y15 y16 y17 y18) (coppicerlaw_TurnerTakes.j1 (k + 1) y0 y1 y2 y3 y4 y5 y6 y7 y8 y9 y10 y11 y12 y13 y14 y15 y16 y17 y18)) ∧ (∀ y0 y1 y2 y3 y4 y5 y6 y7 y8 y9 y10 y11 y12 y13 y14 y15 y16 y17, LeO (coppicerlaw_TurnerTakes.j2 k y0 y1 y2 y3 y4 y5 y6 y7 y8 y9 y10 y11 y12 y13 y14 y15 y16 y17) (coppicerlaw_TurnerTakes.j2 (k + 1) y0 y1 y2 y3 y4 y5 y6 y7 y8 y9 y10 y11 y12 y13 y14 y15 y16 y17)) ∧ (∀ y0 y1 y2 y3 y4 y5 y6 y7 y8 y9 y10 y11 y12 y13 y14 y15 y16 y17 y18, LeO (coppicerlaw_TurnerTakes.j3 k y0 y1 y2 y3 y4 y5 y6 y7 y8 y9 y10 y11 y12 y13 y14 y15 y16 y17 y18) (coppicerlaw_TurnerTakes.j3 (k + 1) y0 y1 y2 y3 y4 y5 y6 y7 y8 y9 y10 y11 y12 y13 y14 y15 y16 y17 y18)) ∧ (∀ y0 y1 y2 y3 y4 y5 y6 y7 y8 y9 y10 y11 y12 y13 y14 y15 y16 y17, LeO (coppicerlaw_TurnerTakes.j4 k y0 y1 y2 y3 y4 y5 y6 y7 y8 y9 y10 y11 y12 y13 y14 y15 y16 y17) (coppicerlaw_TurnerTakes.j4 (k + 1) y0 y1 y2 y3 y4 y5 y6 y7 y8 y9 y10 y11 y12 y13 y14 y15 y16 y17))
  | 0 => ⟨fun _ _ _ _ _ _ _ _ _ _ _ _ _ _ _ _ _ _ r h => by simp [coppicerlaw_TurnerTakes.j0] at h, fun _ _ _ _ _ _ _ _ _ _ _ _ _ _ _ _ _ _ _ r h => by simp [coppicerlaw_TurnerTakes.j1] at h, fun _ _ _ _ _ _ _ _ _ _ _ _ _ _ _ _ _ _ r h => by simp [coppicerlaw_TurnerTakes.j2] at h, fun _ _ _ _ _ _ _ _ _ _ _ _ _ _ _ _ _ _ _ r h => by simp [coppicerlaw_TurnerTakes.j3] at h, fun _ _ _ _ _ _ _ _ _ _ _ _ _ _ _ _ _ _ r h => by simp [coppicerlaw_TurnerTakes.j4] at h⟩
  | k + 1 => by
    obtain ⟨ih0, ih1, ih2, ih3, ih4⟩ := coppicerlaw_TurnerTakes.mono_l k
    refine ⟨?_, ?_, ?_, ?_, ?_⟩
    · intro y0 y1 y2 y3 y4 y5 y6 y7 y8 y9 y10 y11 y12 y13 y14 y15 y16 y17
      unfold coppicerlaw_TurnerTakes.j0
      repeat' first
      | (with_reducible exact ih0 _ _ _ _ _ _ _ _ _ _ _ _ _ _ _ _ _ _)
      | (with_reducible exact ih1 _ _ _ _ _ _ _ _ _ _ _ _ _ _ _ _ _ _ _)
      | (with_reducible exact ih2 _ _ _ _ _ _ _ _ _ _ _ _ _ _ _ _ _ _)
      | (with_reducible exact ih3 _ _ _ _ _ _ _ _ _ _ _ _ _ _ _ _ _ _ _)
      | (with_reducible exact ih4 _ _ _ _ _ _ _ _ _ _ _ _ _ _ _ _ _ _)
      | (with_reducible exact coppicerref_Before.mono _ _ _ _ _ _ _ _ _ _ _ _)
      | (with_reducible exact coppicerref_MachineCheck.mono _ _ _ _ _ _)
      | (with_reducible exact coppicerref_MachineSame.mono _ _ _ _ _ _ _ _ _ _ _)
      | (with_reducible exact coppicerref_TurnerCheck.mono _ _ _ _ _ _ _)
      | (with_reducible exact coppicerref_Zero.mono _ _ _ _ _ _)
      | (with_reducible exact turner_Takes.mono _ _ _ _ _ _ _ _ _ _ _ _)
      | (with_reducible exact LeO.refl _)
      | (with_reducible exact LeO.none _)
      | (with_reducible refine LeO.ite ?_ ?_)
      | (with_reducible refine LeO.bind ?_ (fun _ => ?_))
      | exact ih0 _ _ _ _ _ _ _ _ _ _ _ _ _ _ _ _ _ _
      | exact ih1 _ _ _ _ _ _ _ _ _ _ _ _ _ _ _ _ _ _ _
      | exact ih2 _ _ _ _ _ _ _ _ _ _ _ _ _ _ _ _ _ _
      | exact ih3 _ _ _ _ _ _ _ _ _ _ _ _ _ _ _ _ _ _ _
      | exact ih4 _ _ _ _ _ _ _ _ _ _ _ _ _ _ _ _ _ _
      | exact coppicerref_Before.mono _ _ _ _ _ _ _ _ _ _ _ _
      | exact coppicerref_MachineCheck.mono _ _ _ _ _ _
      | exact coppicerref_MachineSame.mono _ _ _ _ _ _ _ _ _ _ _
      | exact coppicerref_TurnerCheck.mono _ _ _ _ _ _ _
      | exact coppicerref_Zero.mono _ _ _ _ _ _
      | exact turner_Takes.mono _ _ _ _ _ _ _ _ _ _ _ _
      | exact LeO.none _
      | refine LeO.ite ?_ ?_
      | refine LeO.bind ?_ (fun _ => ?_)
    · intro y0 y1 y2 y3 y4 y5 y6 y7 y8 y9 y10 y11 y12 y13 y14 y15 y16 y17 y18
      unfold coppicerlaw_TurnerTakes.j1
      repeat' first
      | (with_reducible exact ih0 _ _ _ _ _ _ _ _ _ _ _ _ _ _ _ _ _ _)
      | (with_reducible exact ih1 _ _ _ _ _ _ _ _ _ _ _ _ _ _ _ _ _ _ _)
      | (with_reducible exact ih2 _ _ _ _ _ _ _ _ _ _ _ _ _ _ _ _ _ _)
      | (with_reducible exact ih3 _ _ _ _ _ _ _ _ _ _ _ _ _ _ _ _ _ _ _)
      | (with_reducible exact ih4 _ _ _ _ _ _ _ _ _ _ _ _ _ _ _ _ _ _)
      | (with_reducible exact coppicerref_Before.mono _ _ _ _ _ _ _ _ _ _ _ _)
      | (with_reducible exact coppicerref_MachineCheck.mono _ _ _ _ _ _)
      | (with_reducible exact coppicerref_MachineSame.mono _ _ _ _ _ _ _ _ _ _ _)
      | (with_reducible exact coppicerref_TurnerCheck.mono _ _ _ _ _ _ _)
      | (with_reducible exact coppicerref_Zero.mono _ _ _ _ _ _)
      | (with_reducible exact turner_Takes.mono _ _ _ _ _ _ _ _ _ _ _ _)
      | (with_reducible exact LeO.refl _)
      | (with_reducible exact LeO.none _)
      | (with_reducible refine LeO.ite ?_ ?_)
      | (with_reducible refine LeO.bind ?_ (fun _ => ?_))
      | exact ih0 _ _ _ _ _ _ _ _ _ _ _ _ _ _ _ _ _ _
      | exact ih1 _ _ _ _ _ _ _ _ _ _ _ _ _ _ _ _ _ _ _
      | exact ih2 _ _ _ _ _ _ _ _ _ _ _ _ _ _ _ _ _ _
      | exact ih3 _ _ _ _ _ _ _ _ _ _ _ _ _ _ _ _ _ _ _
      | exact ih4 _ _ _ _ _ _ _ _ _ _ _ _ _ _ _ _ _ _
      | exact coppicerref_Before.mono _ _ _ _ _ _ _ _ _ _ _ _
      | exact coppicerref_MachineCheck.mono _ _ _ _ _ _
      | exact coppicerref_MachineSame.mono _ _ _ _ _ _ _ _ _ _ _
      | exact coppicerref_TurnerCheck.mono _ _ _ _ _ _ _
      | exact coppicerref_Zero.mono _ _ _ _ _ _
      | exact turner_Takes.mono _ _ _ _ _ _ _ _ _ _ _ _
      | exact LeO.none _
      | refine LeO.ite ?_ ?_
      | refine LeO.bind ?_ (fun _ => ?_)
    · intro y0 y1 y2 y3 y4 y5 y6 y7 y8 y9 y10 y11 y12 y13 y14 y15 y16 y17
      unfold coppicerlaw_TurnerTakes.j2
      repeat' first
      | (with_reducible exact ih0 _ _ _ _ _ _ _ _ _ _ _ _ _ _ _ _ _ _)
      | (with_reducible exact ih1 _ _ _ _ _ _ _ _ _ _ _ _ _ _ _ _ _ _ _)
      | (with_reducible exact ih2 _ _ _ _ _ _ _ _ _ _ _ _ _ _ _ _ _ _)
      | (with_reducible exact ih3 _ _ _ _ _ _ _ _ _ _ _ _ _ _ _ _ _ _ _)
      | (with_reducible exact ih4 _ _ _ _ _ _ _ _ _ _ _ _ _ _ _ _ _ _)
      | (with_reducible exact coppicerref_Before.mono _ _ _ _ _ _ _ _ _ _ _ _)
      | (with_reducible exact coppicerref_MachineCheck.mono _ _ _ _ _ _)
      | (with_reducible exact coppicerref_MachineSame.mono _ _ _ _ _ _ _ _ _ _ _)
      | (with_reducible exact coppicerref_TurnerCheck.mono _ _ _ _ _ _ _)
      | (with_reducible exact coppicerref_Zero.mono _ _ _ _ _ _)
      | (with_reducible exact turner_Takes.mono _ _ _ _ _ _ _ _ _ _ _ _)
      | (with_reducible exact LeO.refl _)
      | (with_reducible exact LeO.none _)
      | (with_reducible refine LeO.ite ?_ ?_)
      | (with_reducible refine LeO.bind ?_ (fun _ => ?_))
      | exact ih0 _ _ _ _ _ _ _ _ _ _ _ _ _ _ _ _ _ _
      | exact ih1 _ _ _ _ _ _ _ _ _ _ _ _ _ _ _ _ _ _ _
      | exact ih2 _ _ _ _ _ _ _ _ _ _ _ _ _ _ _ _ _ _
      | exact ih3 _ _ _ _ _ _ _ _ _ _ _ _ _ _ _ _ _ _ _
      | exact ih4 _ _ _ _ _ _ _ _ _ _ _ _ _ _ _ _ _ _
      | exact coppicerref_Before.mono _ _ _ _ _ _ _ _ _ _ _ _
      | exact coppicerref_MachineCheck.mono _ _ _ _ _ _
      | exact coppicerref_MachineSame.mono _ _ _ _ _ _ _ _ _ _ _
      | exact coppicerref_TurnerCheck.mono _ _ _ _ _ _ _
      | exact coppicerref_Zero.mono _ _ _ _ _ _
      | exact turner_Takes.mono _ _ _ _ _ _ _ _ _ _ _ _
      | exact LeO.none _
      | refine LeO.ite ?_ ?_
      | refine LeO.bind ?_ (fun _ => ?_)
    · intro y0 y1 y2 y3 y4 y5 y6 y7 y8 y9 y10 y11 y12 y13 y14 y15 y16 y17 y18
      unfold coppicerlaw_TurnerTakes.j3
      repeat' first
      | (with_reducible exact ih0 _ _ _ _ _ _ _ _ _ _ _ _ _ _ _ _ _ _)
      | (with_reducible exact ih1 _ _ _ _ _ _ _ _ _ _ _ _ _ _ _ _ _ _ _)
      | (with_reducible exact ih2 _ _ _ _ _ _ _ _ _ _ _ _ _ _ _ _ _ _)
      | (with_reducible exact ih3 _ _ _ _ _ _ _ _ _ _ _ _ _ _ _ _ _ _ _)
      | (with_reducible exact ih4 _ _ _ _ _ _ _ _ _ _ _ _ _ _ _ _ _ _)
      | (with_reducible exact coppicerref_Before.mono _ _ _ _ _ _ _ _ _ _ _ _)
      | (with_reducible exact coppicerref_MachineCheck.mono _ _ _ _ _ _)
      | (with_reducible exact coppicerref_MachineSame.mono _ _ _ _ _ _ _ _ _ _ _)
      | (with_reducible exact coppicerref_TurnerCheck.mono _ _ _ _ _ _ _)
      | (with_reducible exact coppicerref_Zero.mono _ _ _ _ _ _)
      | (with_reducible exact turner_Takes.mono _ _ _ _ _ _ _ _ _ _ _ _)
      | (with_reducible exact LeO.refl _)
      | (with_reducible exact LeO.none _)
      | (with_reducible refine LeO.ite ?_ ?_)
      | (with_reducible refine LeO.bind ?_ (fun _ => ?_))
      | exact ih0 _ _ _ _ _ _ _ _ _ _ _ _ _ _ _ _ _ _
      | exact ih1 _ _ _ _ _ _ _ _ _ _ _ _ _ _ _ _ _ _ _
      | exact ih2 _ _ _ _ _ _ _ _ _ _ _ _ _ _ _ _ _ _
      | exact ih3 _ _ _ _ _ _ _ _ _ _ _ _ _ _ _ _ _ _ _
      | exact ih4 _ _ _ _ _ _ _ _ _ _ _ _ _ _ _ _ _ _
      | exact coppicerref_Before.mono _ _ _ _ _ _ _ _ _ _ _ _
      | exact coppicerref_MachineCheck.mono _ _ _ _ _ _
      | exact coppicerref_MachineSame.mono _ _ _ _ _ _ _ _ _ _ _
      | exact coppicerref_TurnerCheck.mono _ _ _ _ _ _ _
      | exact coppicerref_Zero.mono _ _ _ _ _ _
      | exact turner_Takes.mono _ _ _ _ _ _ _ _ _ _ _ _
      | exact LeO.none _
      | refine LeO.ite ?_ ?_
      | refine LeO.bind ?_ (fun _ => ?_)
    · intro y0 y1 y2 y3 y4 y5 y6 y7 y8 y9 y10 y11 y12 y13 y14 y15 y16 y17
      unfold coppicerlaw_TurnerTakes.j4
      repeat' first
      | (with_reducible exact ih0 _ _ _ _ _ _ _ _ _ _ _ _ _ _ _ _ _ _)
      | (with_reducible exact ih1 _ _ _ _ _ _ _ _ _ _ _ _ _ _ _ _ _ _ _)
      | (with_reducible exact ih2 _ _ _ _ _ _ _ _ _ _ _ _ _ _ _ _ _ _)
      | (with_reducible exact ih3 _ _ _ _ _ _ _ _ _ _ _ _ _ _ _ _ _ _ _)
      | (with_reducible exact ih4 _ _ _ _ _ _ _ _ _ _ _ _ _ _ _ _ _ _)
      | (with_reducible exact coppicerref_Before.mono _ _ _ _ _ _ _ _ _ _ _ _)
      | (with_reducible exact coppicerref_MachineCheck.mono _ _ _ _ _ _)
      | (with_reducible exact coppicerref_MachineSame.mono _ _ _ _ _ _ _ _ _ _ _)
      | (with_reducible exact coppicerref_TurnerCheck.mono _ _ _ _ _ _ _)
      | (with_reducible exact coppicerref_Zero.mono _ _ _ _ _ _)
      | (with_reducible exact turner_Takes.mono _ _ _ _ _ _ _ _ _ _ _ _)
      | (with_reducible exact LeO.refl _)
      | (with_reducible exact LeO.none _)
      | (with_reducible refine LeO.ite ?_ ?_)
      | (with_reducible refine LeO.bind ?_ (fun _ => ?_))
      | exact ih0 _ _ _ _ _ _ _ _ _ _ _ _ _ _ _ _ _ _
      | exact ih1 _ _ _ _ _ _ _ _ _ _ _ _ _ _ _ _ _ _ _
      | exact ih2 _ _ _ _ _ _ _ _ _ _ _ _ _ _ _ _ _ _
      | exact ih3 _ _ _ _ _ _ _ _ _ _ _ _ _ _ _ _ _ _ _
      | exact ih4 _ _ _ _ _ _ _ _ _ _ _ _ _ _ _ _ _ _
      | exact coppicerref_Before.mono _ _ _ _ _ _ _ _ _ _ _ _
      | exact coppicerref_MachineCheck.mono _ _ _ _ _ _
      | exact coppicerref_MachineSame.mono _ _ _ _ _ _ _ _ _ _ _
      | exact coppicerref_TurnerCheck.mono _ _ _ _ _ _ _
      | exact coppicerref_Zero.mono _ _ _ _ _ _
      | exact turner_Takes.mono _ _ _ _ _ _ _ _ _ _ _ _
      | exact LeO.none _
      | refine LeO.ite ?_ ?_
      | refine LeO.bind ?_ (fun _ => ?_)
theorem coppicerlaw_TurnerTakes.mono : ∀ a0 a1 a2 a3 a4 a5 a6 a7 a8 a9 a10 k, LeO (coppicerlaw_TurnerTakes.f k a0 a1 a2 a3 a4 a5 a6 a7 a8 a9 a10) (coppicerlaw_TurnerTakes.f (k + 1) a0 a1 a2 a3 a4 a5 a6 a7 a8 a9 a10) := by
  intro a0 a1 a2 a3 a4 a5 a6 a7 a8 a9 a10 k
  obtain ⟨ih0, ih1, ih2, ih3, ih4⟩ := coppicerlaw_TurnerTakes.mono_l k
  unfold coppicerlaw_TurnerTakes.f
  repeat' first
      | (with_reducible exact ih0 _ _ _ _ _ _ _ _ _ _ _ _ _ _ _ _ _ _)
      | (with_reducible exact ih1 _ _ _ _ _ _ _ _ _ _ _ _ _ _ _ _ _ _ _)
      | (with_reducible exact ih2 _ _ _ _ _ _ _ _ _ _ _ _ _ _ _ _ _ _)
      | (with_reducible exact ih3 _ _ _ _ _ _ _ _ _ _ _ _ _ _ _ _ _ _ _)
      | (with_reducible exact ih4 _ _ _ _ _ _ _ _ _ _ _ _ _ _ _ _ _ _)
      | (with_reducible exact coppicerref_Before.mono _ _ _ _ _ _ _ _ _ _ _ _)
      | (with_reducible exact coppicerref_MachineCheck.mono _ _ _ _ _ _)
      | (with_reducible exact coppicerref_MachineSame.mono _ _ _ _ _ _ _ _ _ _ _)
      | (with_reducible exact coppicerref_TurnerCheck.mono _ _ _ _ _ _ _)
      | (with_reducible exact coppicerref_Zero.mono _ _ _ _ _ _)
      | (with_reducible exact turner_Takes.mono _ _ _ _ _ _ _ _ _ _ _ _)
      | (with_reducible exact LeO.refl _)
      | (with_reducible exact LeO.none _)
      | (with_reducible refine LeO.ite ?_ ?_)
      | (with_reducible refine LeO.bind ?_ (fun _ => ?_))
      | exact ih0 _ _ _ _ _ _ _ _ _ _ _ _ _ _ _ _ _ _
      | exact ih1 _ _ _ _ _ _ _ _ _ _ _ _ _ _ _ _ _ _ _
      | exact ih2 _ _ _ _ _ _ _ _ _ _ _ _ _ _ _ _ _ _
      | exact ih3 _ _ _ _ _ _ _ _ _ _ _ _ _ _ _ _ _ _ _
      | exact ih4 _ _ _ _ _ _ _ _ _ _ _ _ _ _ _ _ _ _
      | exact coppicerref_Before.mono _ _ _ _ _ _ _ _ _ _ _ _
      | exact coppicerref_MachineCheck.mono _ _ _ _ _ _
      | exact coppicerref_MachineSame.mono _ _ _ _ _ _ _ _ _ _ _
      | exact coppicerref_TurnerCheck.mono _ _ _ _ _ _ _
      | exact coppicerref_Zero.mono _ _ _ _ _ _
      | exact turner_Takes.mono _ _ _ _ _ _ _ _ _ _ _ _
      | exact LeO.none _
      | refine LeO.ite ?_ ?_
      | refine LeO.bind ?_ (fun _ => ?_)
def coppicerlaw_TurnerTakes.T11 : Bool × List (List Nat × List Nat) := (true, [([], []), ([0], [0]), ([1], [1]), ([2], [2]), ([2], [2]), ([2], [2]), ([4, 5, 2, 2], [2, 4, 5]), ([3, 6, 6, 2], [2, 3, 6]), ([2, 7], [2, 7]), ([8, 7, 0, 1, 2, 3, 4, 5, 6, 7, 8], [8])])
def coppicerlaw_TurnerTakes.B11 : List Nat := [0, 1, 3, 7, 7, 7, 55, 127, 255, 511]
theorem coppicerlaw_TurnerTakes.tab11 : rtab .any (opsOf Try.f5 11) = coppicerlaw_TurnerTakes.T11 := by kernel_rfl
theorem coppicerlaw_TurnerTakes.bits11 : waitsOk coppicerlaw_TurnerTakes.T11.2 coppicerlaw_TurnerTakes.B11 = true := by kernel_rfl
set_option maxHeartbeats 8000000 in
set_option maxRecDepth 100000 in
theorem coppicerlaw_TurnerTakes.calls (k : Nat) (a0_0 : Int) (a0_1 : Int) (a0_2 : Int) (A0_3 : Option Addr) (c0_3 : Nat) (l0_3 : List (List Int)) (A0_4 : Option Addr) (c0_4 : Nat) (l0_4 : List (List (List Int))) (a0_5 : Int) (a1_0 : Int) (a1_1 : Int) (A1_2 : Option Addr) (c1_2 : Nat) (l1_2 : List (List Int)) (a1_3 : Int) (a1_4 : Int) (r : Bool) (w : World) (hr0_3 : Kd.C (Kd.slice 3 (Kd.int .i64)) w A0_3 l0_3.length l0_3) (hc0_3 : l0_3.length ≤ c0_3) (hr0_4 : Kd.C (Kd.slice 26 (Kd.slice 3 (Kd.int .i64))) w A0_4 l0_4.length l0_4) (hc0_4 : l0_4.length ≤ c0_4) (hr1_2 : Kd.C (Kd.slice 3 (Kd.int .i64)) w A1_2 l1_2.length l1_2) (hc1_2 : l1_2.length ≤ c1_2) (h : coppicerlaw_TurnerTakes.f k a0_0 a0_1 a0_2 l0_3 l0_4 a0_5 a1_0 a1_1 l1_2 a1_3 a1_4 = some r) :
    Calls Try.prog 5 #[.agg #[.int .i64 a0_0, .int .i64 a0_1, .int .i64 a0_2, .slice A0_3 l0_3.length c0_3, .slice A0_4 l0_4.length c0_4, .int .i64 a0_5], .agg #[.int .i64 a1_0, .int .i64 a1_1, .slice A1_2 l1_2.length c1_2, .int .i64 a1_3, .int .u32 a1_4]] w fun e w' => e = .returned (.bool r) ∧ Below w.heap.size w w' := by
  (have hu25 := Try.underlying25); (have hu43 := Try.underlying43); (have HR0_3 := Aside0.mk hr0_3); (have HC0_3 := Aside0.mk hc0_3); (clear hr0_3 hc0_3); (have HR0_4 := Aside0.mk hr0_4); (have HC0_4 := Aside0.mk hc0_4); (clear hr0_4 hc0_4); (have HR1_2 := Aside0.mk hr1_2); (have HC1_2 := Aside0.mk hc1_2); (clear hr1_2 hc1_2); (have HB := Aside0.mk (Below.refl w.heap.size w)); (have H : ((turner_Takes.f k a0_0 a0_1 a0_2 l0_3 l0_4 a0_5 a1_0 a1_1 l1_2 a1_3 a1_4).bind fun bt217 => ((coppicerref_TurnerCheck.f k a0_0 a0_1 a0_2 l0_3 l0_4 a0_5).bind fun t226 => (if t226 = 0 then ((coppicerref_MachineCheck.f k a1_0 a1_1 l1_2 a1_3 a1_4).bind fun t227 => (coppicerlaw_TurnerTakes.j0 k bt217.2.2.2.2.2 t227 a0_0 a0_1 a0_2 l0_3 l0_4 a0_5 a1_0 a1_1 l1_2 a1_3 a1_4 bt217.1 bt217.2.1 bt217.2.2.1 bt217.2.2.2.1 bt217.2.2.2.2.1)) else (coppicerlaw_TurnerTakes.j0 k bt217.2.2.2.2.2 t226 a0_0 a0_1 a0_2 l0_3 l0_4 a0_5 a1_0 a1_1 l1_2 a1_3 a1_4 bt217.1 bt217.2.1 bt217.2.2.1 bt217.2.2.2.1 bt217.2.2.2.2.1)))) = some r := h); (clear h); (replace H := Option.bind_eq_some_iff.mp H); (obtain ⟨⟨t217, t218, t219, t222, t223, t224⟩, A30, H⟩ := H); (replace H : ((coppicerref_TurnerCheck.f k a0_0 a0_1 a0_2 l0_3 l0_4 a0_5).bind fun t226 => (if t226 = 0 then ((coppicerref_MachineCheck.f k a1_0 a1_1 l1_2 a1_3 a1_4).bind fun t227 => (coppicerlaw_TurnerTakes.j0 k t224 t227 a0_0 a0_1 a0_2 l0_3 l0_4 a0_5 a1_0 a1_1 l1_2 a1_3 a1_4 t217 t218 t219 t222 t223)) else (coppicerlaw_TurnerTakes.j0 k t224 t226 a0_0 a0_1 a0_2 l0_3 l0_4 a0_5 a1_0 a1_1 l1_2 a1_3 a1_4 t217 t218 t219 t222 t223))) = some r := H)
  (have A3 := Aside0.mk A30); (clear A30); (replace H := Option.bind_eq_some_iff.mp H); (obtain ⟨t226, A40, H⟩ := H); (replace H : (if t226 = 0 then ((coppicerref_MachineCheck.f k a1_0 a1_1 l1_2 a1_3 a1_4).bind fun t227 => (coppicerlaw_TurnerTakes.j0 k t224 t227 a0_0 a0_1 a0_2 l0_3 l0_4 a0_5 a1_0 a1_1 l1_2 a1_3 a1_4 t217 t218 t219 t222 t223)) else (coppicerlaw_TurnerTakes.j0 k t224 t226 a0_0 a0_1 a0_2 l0_3 l0_4 a0_5 a1_0 a1_1 l1_2 a1_3 a1_4 t217 t218 t219 t222 t223)) = some r := H); (have A4 := Aside0.mk A40); (clear A40); (have HC5 := Aside0.mk H); (clear H)
  go_enter Try.func5, Try.ntmps5
  go_upto_if 17 with (first | ((with_reducible refine gate_dst (N := 2) rfl ?_); refine box_event ?hg (N := 2) ?hd (cs := #[.int .i64 a0_0, .int .i64 a0_1, .int .i64 a0_2, .slice A0_3 l0_3.length c0_3, .slice A0_4 l0_4.length c0_4, .int .i64 a0_5]) (t := 25) ?hr ?_; (case hd => rfl); (case hg => rfl); (case hr => first | (go_simp; done) | (go_simp; rfl)); intro gb215 hg w6 hbox hb; have n0_ := Aside0.mk (below_step (by repeat (first | (with_reducible first | exact HB.out | apply below_alloc | apply pw_below_drewN | apply below_drew1) | exact HB.out)) hb); have n1_ := Aside0.mk (hbox); have n2_ := Aside0.mk ((by rw [hg]; exact (below_size (by repeat (first | (with_reducible first | exact HB.out | apply below_alloc | apply pw_below_drewN | apply below_drew1) | exact HB.out))) : w.heap.size ≤ gb215)); have n3_ := Aside0.mk ((by rw [hg]; exact (below_size (by repeat (first | (with_reducible first | exact HB.out | apply below_alloc | apply pw_below_drewN | apply below_drew1) | exact HB.out))) : w.heap.size ≤ gb215)); clear HB; have HB := n0_; have BK215 := n1_; have GW215 := n2_; have GE215 := n3_; clear n0_ n1_ n2_ n3_; clear hb hbox hg) | ((with_reducible refine gate_dst (N := 3) rfl ?_); refine box_event ?hg (N := 3) ?hd (cs := #[.int .i64 a1_0, .int .i64 a1_1, .slice A1_2 l1_2.length c1_2, .int .i64 a1_3, .int .u32 a1_4]) (t := 43) ?hr ?_; (case hd => rfl); (case hg => rfl); (case hr => first | (go_simp; done) | (go_simp; rfl)); intro gb216 hg w7 hbox hb; have n0_ := Aside0.mk (blk_below (g := gb215) (o := .cells #[.int .i64 a0_0, .int .i64 a0_1, .int .i64 a0_2, .slice A0_3 l0_3.length c0_3, .slice A0_4 l0_4.length c0_4, .int .i64 a0_5] 25 (0, 0)) (by (with_reducible repeat (first | refine blk_drewN ?_ _ | refine blk_drew ?_ | refine blk_alloc ?_ _)); exact BK215.out) hb); have n1_ := Aside0.mk (below_step (by repeat (first | (with_reducible first | exact HB.out | apply below_alloc | apply pw_below_drewN | apply below_drew1 | refine below_set ?_ GE215.out) | exact HB.out)) hb); have n2_ := Aside0.mk (hbox); have n3_ := Aside0.mk ((by rw [hg]; exact (below_size (by repeat (first | (with_reducible first | exact HB.out | apply below_alloc | apply pw_below_drewN | apply below_drew1 | refine below_set ?_ GE215.out) | exact HB.out))) : w.heap.size ≤ gb216)); have n4_ := Aside0.mk ((by rw [hg]; exact (below_size (by repeat (first | (with_reducible first | exact HB.out | apply below_alloc | apply pw_below_drewN | apply below_drew1 | refine below_set ?_ GE215.out) | exact HB.out))) : w.heap.size ≤ gb216)); have n5_ := Aside0.mk ((by rw [hg]; exact Nat.ne_of_lt (blk_lt (g := gb215) (o := .cells #[.int .i64 a0_0, .int .i64 a0_1, .int .i64 a0_2, .slice A0_3 l0_3.length c0_3, .slice A0_4 l0_4.length c0_4, .int .i64 a0_5] 25 (0, 0)) (by (with_reducible repeat (first | refine blk_drewN ?_ _ | refine blk_drew ?_ | refine blk_alloc ?_ _)); exact BK215.out)) : gb215 ≠ gb216)); have n6_ := Aside0.mk ((by rw [hg]; exact Nat.ne_of_gt (blk_lt (g := gb215) (o := .cells #[.int .i64 a0_0, .int .i64 a0_1, .int .i64 a0_2, .slice A0_3 l0_3.length c0_3, .slice A0_4 l0_4.length c0_4, .int .i64 a0_5] 25 (0, 0)) (by (with_reducible repeat (first | refine blk_drewN ?_ _ | refine blk_drew ?_ | refine blk_alloc ?_ _)); exact BK215.out)) : gb216 ≠ gb215)); clear BK215; clear HB; have BK215 := n0_; have HB := n1_; have BK216 := n2_; have GW216 := n3_; have GE216 := n4_; have NB215_216 := n5_; have NB216_215 := n6_; clear n0_ n1_ n2_ n3_ n4_ n5_ n6_; clear hb hbox hg; have hnb8 := NB215_216.out; have hnc8 := NB216_215.out; have hcz9_0 : w7.cell? ⟨gb215, 0, none⟩ = some (.int .i64 a0_0) := (blk_cell BK215.out 0).trans rfl; have hcz9_1 : w7.cell? ⟨gb215, 1, none⟩ = some (.int .i64 a0_1) := (blk_cell BK215.out 1).trans rfl; have hcz9_2 : w7.cell? ⟨gb215, 2, none⟩ = some (.int .i64 a0_2) := (blk_cell BK215.out 2).trans rfl; have hcz9_3 : w7.cell? ⟨gb215, 3, none⟩ = some (.slice A0_3 l0_3.length c0_3) := (blk_cell BK215.out 3).trans rfl; have hcz9_4 : w7.cell? ⟨gb215, 4, none⟩ = some (.slice A0_4 l0_4.length c0_4) := (blk_cell BK215.out 4).trans rfl; have hcz9_5 : w7.cell? ⟨gb215, 5, none⟩ = some (.int .i64 a0_5) := (blk_cell BK215.out 5).trans rfl; have hfz9_0 := blk_frozen BK215.out 0; have hfz9_1 := blk_frozen BK215.out 1; have hfz9_2 := blk_frozen BK215.out 2; have hfz9_3 := blk_frozen BK215.out 3; have hfz9_4 := blk_frozen BK215.out 4; have hfz9_5 := blk_frozen BK215.out 5; have hcz10_0 : w7.cell? ⟨gb216, 0, none⟩ = some (.int .i64 a1_0) := (blk_cell BK216.out 0).trans rfl; have hcz10_1 : w7.cell? ⟨gb216, 1, none⟩ = some (.int .i64 a1_1) := (blk_cell BK216.out 1).trans rfl; have hcz10_2 : w7.cell? ⟨gb216, 2, none⟩ = some (.slice A1_2 l1_2.length c1_2) := (blk_cell BK216.out 2).trans rfl; have hcz10_3 : w7.cell? ⟨gb216, 3, none⟩ = some (.int .i64 a1_3) := (blk_cell BK216.out 3).trans rfl; have hcz10_4 : w7.cell? ⟨gb216, 4, none⟩ = some (.int .u32 a1_4) := (blk_cell BK216.out 4).trans rfl; have hfz10_0 := blk_frozen BK216.out 0; have hfz10_1 := blk_frozen BK216.out 1; have hfz10_2 := blk_frozen BK216.out 2; have hfz10_3 := blk_frozen BK216.out 3; have hfz10_4 := blk_frozen BK216.out 4) | ((with_reducible refine gate_callee (f := 21) rfl ?_); refine goesL_ (some 11) rfl rfl Try.func21 (by kernel_rfl) rfl #[.agg #[.int .i64 a0_0, .int .i64 a0_1, .int .i64 a0_2, .slice A0_3 l0_3.length c0_3, .slice A0_4 l0_4.length c0_4, .int .i64 a0_5], .agg #[.int .i64 a1_0, .int .i64 a1_1, .slice A1_2 l1_2.length c1_2, .int .i64 a1_3, .int .u32 a1_4]] rfl (by (try simp only [List.map_toArray, List.map_cons, List.map_nil]); first | done | rfl | (simp only [List.length_drop, List.length_take]; rfl)) ?_; (with_reducible refine (turner_Takes.calls k a0_0 a0_1 a0_2 _ _ l0_3 _ _ l0_4 a0_5 a1_0 a1_1 _ _ l1_2 a1_3 a1_4 t217 t218 t219 t222 t223 t224 _ ?side1 ?side2 ?side3 ?side4 ?side5 ?side6 A3.out).mono ?_); (case side1 => repeat (first | exact (Kd.C_below HR0_3.out HB.out) | (with_reducible refine Kd.C_alloc ?_ _) | (with_reducible refine Kd.C_drewN ?_ _) | (with_reducible refine Kd.C_drew ?_))); (case side2 => exact HC0_3.out); (case side3 => repeat (first | exact (Kd.C_below HR0_4.out HB.out) | (with_reducible refine Kd.C_alloc ?_ _) | (with_reducible refine Kd.C_drewN ?_ _) | (with_reducible refine Kd.C_drew ?_))); (case side4 => exact HC0_4.out); (case side5 => repeat (first | exact (Kd.C_below HR1_2.out HB.out) | (with_reducible refine Kd.C_alloc ?_ _) | (with_reducible refine Kd.C_drewN ?_ _) | (with_reducible refine Kd.C_drew ?_))); (case side6 => exact HC1_2.out); rintro e w11 ⟨v220, rfl, ho0, hb⟩; refine ⟨_, rfl, ?_⟩; have n0_ := Aside0.mk (Kd.S_lower ho0 (below_size (by repeat (first | (with_reducible first | exact HB.out | apply below_alloc | apply pw_below_drewN | apply below_drew1 | refine below_set ?_ GE215.out | refine below_set ?_ GE216.out) | exact HB.out)))); have n1_ := Aside0.mk (blk_below (g := gb215) (o := .cells #[.int .i64 a0_0, .int .i64 a0_1, .int .i64 a0_2, .slice A0_3 l0_3.length c0_3, .slice A0_4 l0_4.length c0_4, .int .i64 a0_5] 25 (0, 0)) (by (with_reducible repeat (first | refine blk_drewN ?_ _ | refine blk_drew ?_ | refine blk_alloc ?_ _)); exact BK215.out) hb); have n2_ := Aside0.mk (blk_below (g := gb216) (o := .cells #[.int .i64 a1_0, .int .i64 a1_1, .slice A1_2 l1_2.length c1_2, .int .i64 a1_3, .int .u32 a1_4] 43 (0, 0)) (by (with_reducible repeat (first | refine blk_drewN ?_ _ | refine blk_drew ?_ | refine blk_alloc ?_ _)); exact BK216.out) hb); have n3_ := Aside0.mk (below_step (by repeat (first | (with_reducible first | exact HB.out | apply below_alloc | apply pw_below_drewN | apply below_drew1 | refine below_set ?_ GE215.out | refine below_set ?_ GE216.out) | exact HB.out)) hb); clear BK215; clear BK216; clear HB; have HO221 := n0_; have BK215 := n1_; have BK216 := n2_; have HB := n3_; clear n0_ n1_ n2_ n3_; (try clear hb); (try clear hb2); (try clear hk); (try clear hi); (try clear ho0)) | ((with_reducible refine gate_dst (N := 5) rfl ?_); refine box_event ?hg (N := 5) ?hd (cs := #[.int .i64 0, .int .i64 0, .slice none 0 0, .int .i64 0, .int .u32 0]) (t := 43) ?hr ?_; (case hd => rfl); (case hg => rfl); (case hr => first | (go_simp; done) | (go_simp; rfl)); intro gb225 hg w12 hbox hb; have n0_ := Aside0.mk (Kd.S_below (by (with_reducible repeat (first | apply Kd.S_alloc | apply Kd.S_drewN | apply Kd.S_drew)); exact HO221.out) hb); have n1_ := Aside0.mk (blk_below (g := gb215) (o := .cells #[.int .i64 a0_0, .int .i64 a0_1, .int .i64 a0_2, .slice A0_3 l0_3.length c0_3, .slice A0_4 l0_4.length c0_4, .int .i64 a0_5] 25 (0, 0)) (by (with_reducible repeat (first | refine blk_drewN ?_ _ | refine blk_drew ?_ | refine blk_alloc ?_ _)); exact BK215.out) hb); have n2_ := Aside0.mk (blk_below (g := gb216) (o := .cells #[.int .i64 a1_0, .int .i64 a1_1, .slice A1_2 l1_2.length c1_2, .int .i64 a1_3, .int .u32 a1_4] 43 (0, 0)) (by (with_reducible repeat (first | refine blk_drewN ?_ _ | refine blk_drew ?_ | refine blk_alloc ?_ _)); exact BK216.out) hb); have n3_ := Aside0.mk (below_step (by repeat (first | (with_reducible first | exact HB.out | apply below_alloc | apply pw_below_drewN | apply below_drew1 | refine below_set ?_ GE215.out | refine below_set ?_ GE216.out) | exact HB.out)) hb); have n4_ := Aside0.mk (hbox); have n5_ := Aside0.mk ((by rw [hg]; exact (below_size (by repeat (first | (with_reducible first | exact HB.out | apply below_alloc | apply pw_below_drewN | apply below_drew1 | refine below_set ?_ GE215.out | refine below_set ?_ GE216.out) | exact HB.out))) : w.heap.size ≤ gb225)); have n6_ := Aside0.mk ((by rw [hg]; exact (below_size (by repeat (first | (with_reducible first | exact HB.out | apply below_alloc | apply pw_below_drewN | apply below_drew1 | refine below_set ?_ GE215.out | refine below_set ?_ GE216.out) | exact HB.out))) : w.heap.size ≤ gb225)); have n7_ := Aside0.mk ((by rw [hg]; exact Nat.ne_of_lt (blk_lt (g := gb215) (o := .cells #[.int .i64 a0_0, .int .i64 a0_1, .int .i64 a0_2, .slice A0_3 l0_3.length c0_3, .slice A0_4 l0_4.length c0_4, .int .i64 a0_5] 25 (0, 0)) (by (with_reducible repeat (first | refine blk_drewN ?_ _ | refine blk_drew ?_ | refine blk_alloc ?_ _)); exact BK215.out)) : gb215 ≠ gb225)); have n8_ := Aside0.mk ((by rw [hg]; exact Nat.ne_of_gt (blk_lt (g := gb215) (o := .cells #[.int .i64 a0_0, .int .i64 a0_1, .int .i64 a0_2, .slice A0_3 l0_3.length c0_3, .slice A0_4 l0_4.length c0_4, .int .i64 a0_5] 25 (0, 0)) (by (with_reducible repeat (first | refine blk_drewN ?_ _ | refine blk_drew ?_ | refine blk_alloc ?_ _)); exact BK215.out)) : gb225 ≠ gb215)); have n9_ := Aside0.mk ((by rw [hg]; exact Nat.ne_of_lt (blk_lt (g := gb216) (o := .cells #[.int .i64 a1_0, .int .i64 a1_1, .slice A1_2 l1_2.length c1_2, .int .i64 a1_3, .int .u32 a1_4] 43 (0, 0)) (by (with_reducible repeat (first | refine blk_drewN ?_ _ | refine blk_drew ?_ | refine blk_alloc ?_ _)); exact BK216.out)) : gb216 ≠ gb225)); have n10_ := Aside0.mk ((by rw [hg]; exact Nat.ne_of_gt (blk_lt (g := gb216) (o := .cells #[.int .i64 a1_0, .int .i64 a1_1, .slice A1_2 l1_2.length c1_2, .int .i64 a1_3, .int .u32 a1_4] 43 (0, 0)) (by (with_reducible repeat (first | refine blk_drewN ?_ _ | refine blk_drew ?_ | refine blk_alloc ?_ _)); exact BK216.out)) : gb225 ≠ gb216)); clear HO221; clear BK215; clear BK216; clear HB; have HO221 := n0_; have BK215 := n1_; have BK216 := n2_; have HB := n3_; have BK225 := n4_; have GW225 := n5_; have GE225 := n6_; have NB215_225 := n7_; have NB225_215 := n8_; have NB216_225 := n9_; have NB225_216 := n10_; clear n0_ n1_ n2_ n3_ n4_ n5_ n6_ n7_ n8_ n9_ n10_; clear hb hbox hg; have hnb13 := NB225_215.out; have hnc13 := NB215_225.out; have hnb14 := NB225_216.out; have hnc14 := NB216_225.out; have hcz15_0 : w12.cell? ⟨gb225, 0, none⟩ = some (.int .i64 0) := (blk_cell BK225.out 0).trans rfl; have hcz15_1 : w12.cell? ⟨gb225, 1, none⟩ = some (.int .i64 0) := (blk_cell BK225.out 1).trans rfl; have hcz15_2 : w12.cell? ⟨gb225, 2, none⟩ = some (.slice none 0 0) := (blk_cell BK225.out 2).trans rfl; have hcz15_3 : w12.cell? ⟨gb225, 3, none⟩ = some (.int .i64 0) := (blk_cell BK225.out 3).trans rfl; have hcz15_4 : w12.cell? ⟨gb225, 4, none⟩ = some (.int .u32 0) := (blk_cell BK225.out 4).trans rfl; have hfz15_0 := blk_frozen BK225.out 0; have hfz15_1 := blk_frozen BK225.out 1; have hfz15_2 := blk_frozen BK225.out 2; have hfz15_3 := blk_frozen BK225.out 3; have hfz15_4 := blk_frozen BK225.out 4; obtain ⟨Ao16, co16, eo16⟩ := Kd.S_slice HO221.out; subst eo16; have hcz17_0 : w12.cell? ⟨gb215, 0, none⟩ = some (.int .i64 a0_0) := (blk_cell BK215.out 0).trans rfl; have hcz17_1 : w12.cell? ⟨gb215, 1, none⟩ = some (.int .i64 a0_1) := (blk_cell BK215.out 1).trans rfl; have hcz17_2 : w12.cell? ⟨gb215, 2, none⟩ = some (.int .i64 a0_2) := (blk_cell BK215.out 2).trans rfl; have hcz17_3 : w12.cell? ⟨gb215, 3, none⟩ = some (.slice A0_3 l0_3.length c0_3) := (blk_cell BK215.out 3).trans rfl; have hcz17_4 : w12.cell? ⟨gb215, 4, none⟩ = some (.slice A0_4 l0_4.length c0_4) := (blk_cell BK215.out 4).trans rfl; have hcz17_5 : w12.cell? ⟨gb215, 5, none⟩ = some (.int .i64 a0_5) := (blk_cell BK215.out 5).trans rfl; have hfz17_0 := blk_frozen BK215.out 0; have hfz17_1 := blk_frozen BK215.out 1; have hfz17_2 := blk_frozen BK215.out 2; have hfz17_3 := blk_frozen BK215.out 3; have hfz17_4 := blk_frozen BK215.out 4; have hfz17_5 := blk_frozen BK215.out 5) | ((with_reducible refine gate_callee (f := 14) rfl ?_); refine goesL_ (some 15) rfl rfl Try.func14 (by kernel_rfl) rfl #[.agg #[.int .i64 a0_0, .int .i64 a0_1, .int .i64 a0_2, .slice A0_3 l0_3.length c0_3, .slice A0_4 l0_4.length c0_4, .int .i64 a0_5]] rfl (by (try simp only [List.map_toArray, List.map_cons, List.map_nil]); first | done | rfl | (simp only [List.length_drop, List.length_take]; rfl)) ?_; (with_reducible refine (coppicerref_TurnerCheck.calls k a0_0 a0_1 a0_2 _ _ l0_3 _ _ l0_4 a0_5 t226 _ ?side1 ?side2 ?side3 ?side4 A4.out).mono ?_); (case side1 => exact Kd.C_below HR0_3.out (by repeat (first | (with_reducible first | exact HB.out | apply below_alloc | apply pw_below_drewN | apply below_drew1 | refine below_set ?_ GE215.out | refine below_set ?_ GE216.out | refine below_set ?_ GE225.out) | exact HB.out))); (case side2 => exact HC0_3.out); (case side3 => exact Kd.C_below HR0_4.out (by repeat (first | (with_reducible first | exact HB.out | apply below_alloc | apply pw_below_drewN | apply below_drew1 | refine below_set ?_ GE215.out | refine below_set ?_ GE216.out | refine below_set ?_ GE225.out) | exact HB.out))); (case side4 => exact HC0_4.out); rintro e w18 ⟨rfl, hb⟩; refine ⟨_, rfl, ?_⟩; have n0_ := Aside0.mk (Kd.S_below (by (with_reducible repeat (first | apply Kd.S_alloc | apply Kd.S_drewN | apply Kd.S_drew)); exact (Kd.S_mono (Kd.S_far (p := ⟨gb225, 4, none⟩) (Kd.S_far (p := ⟨gb225, 3, none⟩) (Kd.S_far (p := ⟨gb225, 2, none⟩) (Kd.S_far (p := ⟨gb225, 1, none⟩) (Kd.S_far (p := ⟨gb225, 0, none⟩) (Kd.S_types HO221.out BK225.out (by decide)) (fun _ hk => hk.2) (.int .i64 t217)) (fun _ hk => hk.2) (.int .i64 t218)) (fun _ hk => hk.2) (.slice Ao16 t219.length co16)) (fun _ hk => hk.2) (.int .i64 t222)) (fun _ hk => hk.2) (.int .u32 t223)) (fun _ h_ => h_.1))) hb); have n1_ := Aside0.mk (blk_below (g := gb215) (o := .cells #[.int .i64 a0_0, .int .i64 a0_1, .int .i64 a0_2, .slice A0_3 l0_3.length c0_3, .slice A0_4 l0_4.length c0_4, .int .i64 a0_5] 25 (0, 0)) (by (with_reducible repeat (first | refine blk_drewN ?_ _ | refine blk_drew ?_ | refine blk_alloc ?_ _)); refine blk_far ?_ NB215_225.out _; (with_reducible repeat (first | refine blk_drewN ?_ _ | refine blk_drew ?_ | refine blk_alloc ?_ _)); refine blk_far ?_ NB215_225.out _; (with_reducible repeat (first | refine blk_drewN ?_ _ | refine blk_drew ?_ | refine blk_alloc ?_ _)); refine blk_far ?_ NB215_225.out _; (with_reducible repeat (first | refine blk_drewN ?_ _ | refine blk_drew ?_ | refine blk_alloc ?_ _)); refine blk_far ?_ NB215_225.out _; (with_reducible repeat (first | refine blk_drewN ?_ _ | refine blk_drew ?_ | refine blk_alloc ?_ _)); refine blk_far ?_ NB215_225.out _; (with_reducible repeat (first | refine blk_drewN ?_ _ | refine blk_drew ?_ | refine blk_alloc ?_ _)); exact BK215.out) hb); have n2_ := Aside0.mk (blk_below (g := gb216) (o := .cells #[.int .i64 a1_0, .int .i64 a1_1, .slice A1_2 l1_2.length c1_2, .int .i64 a1_3, .int .u32 a1_4] 43 (0, 0)) (by (with_reducible repeat (first | refine blk_drewN ?_ _ | refine blk_drew ?_ | refine blk_alloc ?_ _)); refine blk_far ?_ NB216_225.out _; (with_reducible repeat (first | refine blk_drewN ?_ _ | refine blk_drew ?_ | refine blk_alloc ?_ _)); refine blk_far ?_ NB216_225.out _; (with_reducible repeat (first | refine blk_drewN ?_ _ | refine blk_drew ?_ | refine blk_alloc ?_ _)); refine blk_far ?_ NB216_225.out _; (with_reducible repeat (first | refine blk_drewN ?_ _ | refine blk_drew ?_ | refine blk_alloc ?_ _)); refine blk_far ?_ NB216_225.out _; (with_reducible repeat (first | refine blk_drewN ?_ _ | refine blk_drew ?_ | refine blk_alloc ?_ _)); refine blk_far ?_ NB216_225.out _; (with_reducible repeat (first | refine blk_drewN ?_ _ | refine blk_drew ?_ | refine blk_alloc ?_ _)); exact BK216.out) hb); have n3_ := Aside0.mk (blk_below (g := gb225) (o := .cells #[.int .i64 t217, .int .i64 t218, .slice Ao16 t219.length co16, .int .i64 t222, .int .u32 t223] 43 (0, 0)) (by (with_reducible repeat (first | refine blk_drewN ?_ _ | refine blk_drew ?_ | refine blk_alloc ?_ _)); refine blk_put (cs := #[.int .i64 t217, .int .i64 t218, .slice Ao16 t219.length co16, .int .i64 t222, .int .u32 0]) ?_ 4 _ rfl; (with_reducible repeat (first | refine blk_drewN ?_ _ | refine blk_drew ?_ | refine blk_alloc ?_ _)); refine blk_put (cs := #[.int .i64 t217, .int .i64 t218, .slice Ao16 t219.length co16, .int .i64 0, .int .u32 0]) ?_ 3 _ rfl; (with_reducible repeat (first | refine blk_drewN ?_ _ | refine blk_drew ?_ | refine blk_alloc ?_ _)); refine blk_put (cs := #[.int .i64 t217, .int .i64 t218, .slice none 0 0, .int .i64 0, .int .u32 0]) ?_ 2 _ rfl; (with_reducible repeat (first | refine blk_drewN ?_ _ | refine blk_drew ?_ | refine blk_alloc ?_ _)); refine blk_put (cs := #[.int .i64 t217, .int .i64 0, .slice none 0 0, .int .i64 0, .int .u32 0]) ?_ 1 _ rfl; (with_reducible repeat (first | refine blk_drewN ?_ _ | refine blk_drew ?_ | refine blk_alloc ?_ _)); refine blk_put (cs := #[.int .i64 0, .int .i64 0, .slice none 0 0, .int .i64 0, .int .u32 0]) ?_ 0 _ rfl; (with_reducible repeat (first | refine blk_drewN ?_ _ | refine blk_drew ?_ | refine blk_alloc ?_ _)); exact BK225.out) hb); have n4_ := Aside0.mk (below_step (by repeat (first | (with_reducible first | exact HB.out | apply below_alloc | apply pw_below_drewN | apply below_drew1 | refine below_set ?_ GE215.out | refine below_set ?_ GE216.out | refine below_set ?_ GE225.out) | exact HB.out)) hb); clear HO221; clear BK215; clear BK216; clear BK225; clear HB; have HO221 := n0_; have BK215 := n1_; have BK216 := n2_; have BK225 := n3_; have HB := n4_; clear n0_ n1_ n2_ n3_ n4_; (try clear hb); (try clear hb2); (try clear hk); (try clear hi)))
  (try simp only [Act.put, List.setIfInBounds_toArray, List.set_cons_zero, List.set_cons_succ])
  go_cut [7] (fun v7 wc => ∃ (kq : Nat) (x7_4 : Int), v7 = .int .i64 x7_4 ∧ Aside0 (coppicerlaw_TurnerTakes.j0 kq t224 x7_4 a0_0 a0_1 a0_2 l0_3 l0_4 a0_5 a1_0 a1_1 l1_2 a1_3 a1_4 t217 t218 t219 t222 t223 = some r) ∧ Aside0 (kq ≤ k) ∧ Aside0 (Kd.S (Kd.slice 3 (Kd.int .i64)) 26 wc w.heap.size (fun _ => True) (.slice Ao16 t219.length co16) t219) ∧ Aside0 (wc.heap[gb215]? = some (.cells #[.int .i64 a0_0, .int .i64 a0_1, .int .i64 a0_2, (.slice A0_3 l0_3.length c0_3), (.slice A0_4 l0_4.length c0_4), .int .i64 a0_5] 25 (0, 0))) ∧ Aside0 (wc.heap[gb216]? = some (.cells #[.int .i64 a1_0, .int .i64 a1_1, (.slice A1_2 l1_2.length c1_2), .int .i64 a1_3, .int .u32 a1_4] 43 (0, 0))) ∧ Aside0 (wc.heap[gb225]? = some (.cells #[.int .i64 t217, .int .i64 t218, (.slice Ao16 t219.length co16), .int .i64 t222, .int .u32 t223] 43 (0, 0))) ∧ Aside0 (Below w.heap.size w wc))
  case first =>
    (have H := HC5.out); (clear HC5)
    by_cases c19 : t226 = 0
    rotate_left
    · rw [if_neg c19] at H
      (have c19b0 : (t226 == 0) = false := beq_eq_false_iff_ne.mpr c19); (have c19b1 : (t226 != 0) = true := bne_iff_ne.mpr c19)
      (first | rw [c19b0] | (simp only [i64_w, i32_w]; rw [c19b0]) | skip)
      (have H' := Aside0.mk H); (clear H)
      go_wp2
      go_meet
      case rel => exact ⟨_, (t226), (by first | rfl | (simp; done) | (simp [*]; done)), H', ⟨by first | omega | exact Nat.le_refl _⟩, ⟨by (with_reducible repeat (first | apply Kd.S_alloc | apply Kd.S_drewN | apply Kd.S_drew)); exact HO221.out⟩, ⟨by (with_reducible repeat (first | refine blk_drewN ?_ _ | refine blk_drew ?_ | refine blk_alloc ?_ _)); exact BK215.out⟩, ⟨by (with_reducible repeat (first | refine blk_drewN ?_ _ | refine blk_drew ?_ | refine blk_alloc ?_ _)); exact BK216.out⟩, ⟨by (with_reducible repeat (first | refine blk_drewN ?_ _ | refine blk_drew ?_ | refine blk_alloc ?_ _)); exact BK225.out⟩, ⟨by repeat (first | (with_reducible first | exact HB.out | apply below_alloc | apply pw_below_drewN | apply below_drew1 | refine below_set ?_ GE215.out | refine below_set ?_ GE216.out | refine below_set ?_ GE225.out) | exact HB.out)⟩⟩
    (rw [if_pos c19] at H); (have c19b0 : (t226 == 0) = true := beq_iff_eq.mpr c19); (have c19b1 : (t226 != 0) = false := bne_eq_false_iff_eq.mpr c19); (clear c19)
    (first | rw [c19b0] | (simp only [i64_w, i32_w]; rw [c19b0]) | skip)
    (replace H := Option.bind_eq_some_iff.mp H); (obtain ⟨t227, A200, H⟩ := H); (replace H : (coppicerlaw_TurnerTakes.j0 k t224 t227 a0_0 a0_1 a0_2 l0_3 l0_4 a0_5 a1_0 a1_1 l1_2 a1_3 a1_4 t217 t218 t219 t222 t223) = some r := H); (have A20 := Aside0.mk A200); (clear A200); (have H' := Aside0.mk H); (clear H); (have hnb21 := NB216_215.out); (have hnc21 := NB215_216.out); (have hnb22 := NB216_225.out); (have hnc22 := NB225_216.out); (have hcz23_0 : w18.cell? ⟨gb216, 0, none⟩ = some (.int .i64 a1_0) := (blk_cell BK216.out 0).trans rfl); (have hcz23_1 : w18.cell? ⟨gb216, 1, none⟩ = some (.int .i64 a1_1) := (blk_cell BK216.out 1).trans rfl); (have hcz23_2 : w18.cell? ⟨gb216, 2, none⟩ = some (.slice A1_2 l1_2.length c1_2) := (blk_cell BK216.out 2).trans rfl); (have hcz23_3 : w18.cell? ⟨gb216, 3, none⟩ = some (.int .i64 a1_3) := (blk_cell BK216.out 3).trans rfl); (have hcz23_4 : w18.cell? ⟨gb216, 4, none⟩ = some (.int .u32 a1_4) := (blk_cell BK216.out 4).trans rfl); (have hfz23_0 := blk_frozen BK216.out 0); (have hfz23_1 := blk_frozen BK216.out 1); (have hfz23_2 := blk_frozen BK216.out 2); (have hfz23_3 := blk_frozen BK216.out 3); (have hfz23_4 := blk_frozen BK216.out 4)
    go_wp2_with (first | ((with_reducible refine gate_callee (f := 22) rfl ?_); refine goesL_ (some 19) rfl rfl Try.func22 (by kernel_rfl) rfl #[.agg #[.int .i64 a1_0, .int .i64 a1_1, .slice A1_2 l1_2.length c1_2, .int .i64 a1_3, .int .u32 a1_4]] rfl (by (try simp only [List.map_toArray, List.map_cons, List.map_nil]); first | done | rfl | (simp only [List.length_drop, List.length_take]; rfl)) ?_; (with_reducible refine (coppicerref_MachineCheck.calls k a1_0 a1_1 _ _ l1_2 a1_3 a1_4 t227 _ ?side1 ?side2 A20.out).mono ?_); (case side1 => repeat (first | exact (Kd.C_below HR1_2.out HB.out) | (with_reducible refine Kd.C_alloc ?_ _) | (with_reducible refine Kd.C_drewN ?_ _) | (with_reducible refine Kd.C_drew ?_))); (case side2 => exact HC1_2.out); rintro e w24 ⟨rfl, hb⟩; refine ⟨_, rfl, ?_⟩; have n0_ := Aside0.mk (Kd.S_below (by (with_reducible repeat (first | apply Kd.S_alloc | apply Kd.S_drewN | apply Kd.S_drew)); exact HO221.out) hb); have n1_ := Aside0.mk (blk_below (g := gb215) (o := .cells #[.int .i64 a0_0, .int .i64 a0_1, .int .i64 a0_2, .slice A0_3 l0_3.length c0_3, .slice A0_4 l0_4.length c0_4, .int .i64 a0_5] 25 (0, 0)) (by (with_reducible repeat (first | refine blk_drewN ?_ _ | refine blk_drew ?_ | refine blk_alloc ?_ _)); exact BK215.out) hb); have n2_ := Aside0.mk (blk_below (g := gb216) (o := .cells #[.int .i64 a1_0, .int .i64 a1_1, .slice A1_2 l1_2.length c1_2, .int .i64 a1_3, .int .u32 a1_4] 43 (0, 0)) (by (with_reducible repeat (first | refine blk_drewN ?_ _ | refine blk_drew ?_ | refine blk_alloc ?_ _)); exact BK216.out) hb); have n3_ := Aside0.mk (blk_below (g := gb225) (o := .cells #[.int .i64 t217, .int .i64 t218, .slice Ao16 t219.length co16, .int .i64 t222, .int .u32 t223] 43 (0, 0)) (by (with_reducible repeat (first | refine blk_drewN ?_ _ | refine blk_drew ?_ | refine blk_alloc ?_ _)); exact BK225.out) hb); have n4_ := Aside0.mk (below_step (by repeat (first | (with_reducible first | exact HB.out | apply below_alloc | apply pw_below_drewN | apply below_drew1 | refine below_set ?_ GE215.out | refine below_set ?_ GE216.out | refine below_set ?_ GE225.out) | exact HB.out)) hb); clear HO221; clear BK215; clear BK216; clear BK225; clear HB; have HO221 := n0_; have BK215 := n1_; have BK216 := n2_; have BK225 := n3_; have HB := n4_; clear n0_ n1_ n2_ n3_ n4_; (try clear hb); (try clear hb2); (try clear hk); (try clear hi)))
    go_meet
    case rel => exact ⟨_, (t227), (by first | rfl | (simp; done) | (simp [*]; done)), H', ⟨by first | omega | exact Nat.le_refl _⟩, ⟨by (with_reducible repeat (first | apply Kd.S_alloc | apply Kd.S_drewN | apply Kd.S_drew)); exact HO221.out⟩, ⟨by (with_reducible repeat (first | refine blk_drewN ?_ _ | refine blk_drew ?_ | refine blk_alloc ?_ _)); exact BK215.out⟩, ⟨by (with_reducible repeat (first | refine blk_drewN ?_ _ | refine blk_drew ?_ | refine blk_alloc ?_ _)); exact BK216.out⟩, ⟨by (with_reducible repeat (first | refine blk_drewN ?_ _ | refine blk_drew ?_ | refine blk_alloc ?_ _)); exact BK225.out⟩, ⟨by repeat (first | (with_reducible first | exact HB.out | apply below_alloc | apply pw_below_drewN | apply below_drew1 | refine below_set ?_ GE215.out | refine below_set ?_ GE216.out | refine below_set ?_ GE225.out) | exact HB.out)⟩⟩
  case rest =>
    (clear HC5); (try clear c1); (try clear c2); (try clear p2); (try clear c5); (try clear c8); (try clear c13); (try clear c14); (try clear c19); (try clear c19b0); (try clear c19b1); (try clear c21); (try clear c22); (try clear hcz10_0); (try clear hcz10_1); (try clear hcz10_2); (try clear hcz10_3); (try clear hcz10_4); (try clear hcz15_0); (try clear hcz15_1); (try clear hcz15_2); (try clear hcz15_3); (try clear hcz15_4); (try clear hcz17_0); (try clear hcz17_1); (try clear hcz17_2); (try clear hcz17_3); (try clear hcz17_4); (try clear hcz17_5); (try clear hcz23_0); (try clear hcz23_1); (try clear hcz23_2); (try clear hcz23_3); (try clear hcz23_4); (try clear hcz9_0); (try clear hcz9_1); (try clear hcz9_2); (try clear hcz9_3); (try clear hcz9_4); (try clear hcz9_5); (try clear hfz10_0); (try clear hfz10_1); (try clear hfz10_2); (try clear hfz10_3); (try clear hfz10_4); (try clear hfz15_0); (try clear hfz15_1); (try clear hfz15_2); (try clear hfz15_3); (try clear hfz15_4); (try clear hfz17_0); (try clear hfz17_1); (try clear hfz17_2); (try clear hfz17_3); (try clear hfz17_4); (try clear hfz17_5); (try clear hfz23_0); (try clear hfz23_1); (try clear hfz23_2); (try clear hfz23_3); (try clear hfz23_4); (try clear hfz9_0); (try clear hfz9_1); (try clear hfz9_2); (try clear hfz9_3); (try clear hfz9_4); (try clear hfz9_5); (obtain ⟨kq, x7_4, rfl, HA, HJ4, HO_226002, BK215, BK216, BK225, HB⟩ := hcut)
    cases kq with
    | zero => exact absurd HA.out (by simp [coppicerlaw_TurnerTakes.j0])
    | succ kj4 =>
      (have H := HA.out); (clear HA); (simp only [coppicerlaw_TurnerTakes.j0] at H); (have HC25 := Aside0.mk H); (clear H)
      go_upto_region 5 with (fail)
      go_cut [28] (fun v28 wc => ∃ (kq : Nat) (x28_24 : Bool), v28 = .bool x28_24 ∧ Aside0 (coppicerlaw_TurnerTakes.j1 kq t224 x7_4 x28_24 a0_0 a0_1 a0_2 l0_3 l0_4 a0_5 a1_0 a1_1 l1_2 a1_3 a1_4 t217 t218 t219 t222 t223 = some r) ∧ Aside0 (kq ≤ kj4) ∧ Aside0 (Kd.S (Kd.slice 3 (Kd.int .i64)) 26 wc w.heap.size (fun _ => True) (.slice Ao16 t219.length co16) t219) ∧ Aside0 (wc.heap[gb215]? = some (.cells #[.int .i64 a0_0, .int .i64 a0_1, .int .i64 a0_2, (.slice A0_3 l0_3.length c0_3), (.slice A0_4 l0_4.length c0_4), .int .i64 a0_5] 25 (0, 0))) ∧ Aside0 (wc.heap[gb216]? = some (.cells #[.int .i64 a1_0, .int .i64 a1_1, (.slice A1_2 l1_2.length c1_2), .int .i64 a1_3, .int .u32 a1_4] 43 (0, 0))) ∧ Aside0 (wc.heap[gb225]? = some (.cells #[.int .i64 t217, .int .i64 t218, (.slice Ao16 t219.length co16), .int .i64 t222, .int .u32 t223] 43 (0, 0))) ∧ Aside0 (Below w.heap.size w wc))
      case first =>
        (have H := HC25.out); (clear HC25)
        by_cases c26 : x7_4 = 0
        rotate_left
        · rw [if_neg c26] at H
          (have c26b0 : (x7_4 == 0) = false := beq_eq_false_iff_ne.mpr c26); (have c26b1 : (x7_4 != 0) = true := bne_iff_ne.mpr c26)
          (first | rw [c26b0] | (simp only [i64_w, i32_w]; rw [c26b0]) | skip)
          (have H' := Aside0.mk H); (clear H)
          go_wp2
          go_meet
          case rel => exact ⟨_, (false), (by first | rfl | (simp; done) | (simp [*]; done)), H', ⟨by have := HJ4.out; first | omega | exact Nat.le_refl _⟩, ⟨by (with_reducible repeat (first | apply Kd.S_alloc | apply Kd.S_drewN | apply Kd.S_drew)); exact HO_226002.out⟩, ⟨by (with_reducible repeat (first | refine blk_drewN ?_ _ | refine blk_drew ?_ | refine blk_alloc ?_ _)); exact BK215.out⟩, ⟨by (with_reducible repeat (first | refine blk_drewN ?_ _ | refine blk_drew ?_ | refine blk_alloc ?_ _)); exact BK216.out⟩, ⟨by (with_reducible repeat (first | refine blk_drewN ?_ _ | refine blk_drew ?_ | refine blk_alloc ?_ _)); exact BK225.out⟩, ⟨by repeat (first | (with_reducible first | exact HB.out | apply below_alloc | apply pw_below_drewN | apply below_drew1 | refine below_set ?_ GE215.out | refine below_set ?_ GE216.out | refine below_set ?_ GE225.out) | exact HB.out)⟩⟩
        (rw [if_pos c26] at H); (have c26b0 : (x7_4 == 0) = true := beq_iff_eq.mpr c26); (have c26b1 : (x7_4 != 0) = false := bne_eq_false_iff_eq.mpr c26); (clear c26)
        (first | rw [c26b0] | (simp only [i64_w, i32_w]; rw [c26b0]) | skip)
        (have H' := Aside0.mk H); (clear H); (have hnb27 := NB215_216.out); (have hnc27 := NB216_215.out); (have hnb28 := NB215_225.out); (have hnc28 := NB225_215.out); (have hcz29_0 : wc.cell? ⟨gb215, 0, none⟩ = some (.int .i64 a0_0) := (blk_cell BK215.out 0).trans rfl); (have hcz29_1 : wc.cell? ⟨gb215, 1, none⟩ = some (.int .i64 a0_1) := (blk_cell BK215.out 1).trans rfl); (have hcz29_2 : wc.cell? ⟨gb215, 2, none⟩ = some (.int .i64 a0_2) := (blk_cell BK215.out 2).trans rfl); (have hcz29_3 : wc.cell? ⟨gb215, 3, none⟩ = some (.slice A0_3 l0_3.length c0_3) := (blk_cell BK215.out 3).trans rfl); (have hcz29_4 : wc.cell? ⟨gb215, 4, none⟩ = some (.slice A0_4 l0_4.length c0_4) := (blk_cell BK215.out 4).trans rfl); (have hcz29_5 : wc.cell? ⟨gb215, 5, none⟩ = some (.int .i64 a0_5) := (blk_cell BK215.out 5).trans rfl); (have hfz29_0 := blk_frozen BK215.out 0); (have hfz29_1 := blk_frozen BK215.out 1); (have hfz29_2 := blk_frozen BK215.out 2); (have hfz29_3 := blk_frozen BK215.out 3); (have hfz29_4 := blk_frozen BK215.out 4); (have hfz29_5 := blk_frozen BK215.out 5); (have hnb30 := NB216_225.out); (have hnc30 := NB225_216.out); (have hcz31_0 : wc.cell? ⟨gb216, 0, none⟩ = some (.int .i64 a1_0) := (blk_cell BK216.out 0).trans rfl); (have hcz31_1 : wc.cell? ⟨gb216, 1, none⟩ = some (.int .i64 a1_1) := (blk_cell BK216.out 1).trans rfl); (have hcz31_2 : wc.cell? ⟨gb216, 2, none⟩ = some (.slice A1_2 l1_2.length c1_2) := (blk_cell BK216.out 2).trans rfl); (have hcz31_3 : wc.cell? ⟨gb216, 3, none⟩ = some (.int .i64 a1_3) := (blk_cell BK216.out 3).trans rfl); (have hcz31_4 : wc.cell? ⟨gb216, 4, none⟩ = some (.int .u32 a1_4) := (blk_cell BK216.out 4).trans rfl)
        (have hfz31_0 := blk_frozen BK216.out 0); (have hfz31_1 := blk_frozen BK216.out 1); (have hfz31_2 := blk_frozen BK216.out 2); (have hfz31_3 := blk_frozen BK216.out 3); (have hfz31_4 := blk_frozen BK216.out 4)
        go_wp2
        go_meet
        case rel => exact ⟨_, ((a0_2 != a1_1)), (by first | rfl | (simp; done) | (simp [*]; done)), H', ⟨by have := HJ4.out; first | omega | exact Nat.le_refl _⟩, ⟨by (with_reducible repeat (first | apply Kd.S_alloc | apply Kd.S_drewN | apply Kd.S_drew)); exact HO_226002.out⟩, ⟨by (with_reducible repeat (first | refine blk_drewN ?_ _ | refine blk_drew ?_ | refine blk_alloc ?_ _)); exact BK215.out⟩, ⟨by (with_reducible repeat (first | refine blk_drewN ?_ _ | refine blk_drew ?_ | refine blk_alloc ?_ _)); exact BK216.out⟩, ⟨by (with_reducible repeat (first | refine blk_drewN ?_ _ | refine blk_drew ?_ | refine blk_alloc ?_ _)); exact BK225.out⟩, ⟨by repeat (first | (with_reducible first | exact HB.out | apply below_alloc | apply pw_below_drewN | apply below_drew1 | refine below_set ?_ GE215.out | refine below_set ?_ GE216.out | refine below_set ?_ GE225.out) | exact HB.out)⟩⟩
      case rest =>
        (clear HC25); (try clear c1); (try clear c2); (try clear p2); (try clear c3); (try clear c5); (try clear c8); (try clear c13); (try clear c14); (try clear c19); (try clear c19b0); (try clear c19b1); (try clear c21); (try clear c22); (try clear c26); (try clear c26b0); (try clear c26b1); (try clear c27); (try clear c28); (try clear c30); (try clear hcz10_0); (try clear hcz10_1); (try clear hcz10_2); (try clear hcz10_3); (try clear hcz10_4); (try clear hcz15_0); (try clear hcz15_1); (try clear hcz15_2); (try clear hcz15_3); (try clear hcz15_4); (try clear hcz17_0); (try clear hcz17_1); (try clear hcz17_2); (try clear hcz17_3); (try clear hcz17_4); (try clear hcz17_5); (try clear hcz23_0); (try clear hcz23_1); (try clear hcz23_2); (try clear hcz23_3); (try clear hcz23_4); (try clear hcz29_0); (try clear hcz29_1); (try clear hcz29_2); (try clear hcz29_3); (try clear hcz29_4); (try clear hcz29_5); (try clear hcz31_0); (try clear hcz31_1); (try clear hcz31_2); (try clear hcz31_3); (try clear hcz31_4); (try clear hcz9_0); (try clear hcz9_1); (try clear hcz9_2); (try clear hcz9_3); (try clear hcz9_4); (try clear hcz9_5); (try clear hfz10_0); (try clear hfz10_1); (try clear hfz10_2); (try clear hfz10_3); (try clear hfz10_4); (try clear hfz15_0); (try clear hfz15_1); (try clear hfz15_2); (try clear hfz15_3); (try clear hfz15_4); (try clear hfz17_0); (try clear hfz17_1); (try clear hfz17_2); (try clear hfz17_3); (try clear hfz17_4); (try clear hfz17_5); (try clear hfz23_0); (try clear hfz23_1); (try clear hfz23_2); (try clear hfz23_3); (try clear hfz23_4); (try clear hfz29_0); (try clear hfz29_1); (try clear hfz29_2); (try clear hfz29_3); (try clear hfz29_4); (try clear hfz29_5); (try clear hfz31_0); (try clear hfz31_1); (try clear hfz31_2); (try clear hfz31_3); (try clear hfz31_4); (try clear hfz9_0); (try clear hfz9_1); (try clear hfz9_2); (try clear hfz9_3)
        (try clear hfz9_4); (try clear hfz9_5); (try clear p2); (obtain ⟨kq, x28_24, rfl, HA, HJ24, HO_226002, BK215, BK216, BK225, HB⟩ := hcut)
        cases kq with
        | zero => exact absurd HA.out (by simp [coppicerlaw_TurnerTakes.j1])
        | succ kj24 =>
          (have H := HA.out); (clear HA); (simp only [coppicerlaw_TurnerTakes.j1] at H); (have HC32 := Aside0.mk H); (clear H)
          go_upto_if 28 with (fail)
          go_cut [7] (fun v7 wc => ∃ (kq : Nat) (x7_31 : Int), v7 = .int .i64 x7_31 ∧ Aside0 (coppicerlaw_TurnerTakes.j2 kq t224 x7_31 a0_0 a0_1 a0_2 l0_3 l0_4 a0_5 a1_0 a1_1 l1_2 a1_3 a1_4 t217 t218 t219 t222 t223 = some r) ∧ Aside0 (kq ≤ kj24) ∧ Aside0 (Kd.S (Kd.slice 3 (Kd.int .i64)) 26 wc w.heap.size (fun _ => True) (.slice Ao16 t219.length co16) t219) ∧ Aside0 (wc.heap[gb215]? = some (.cells #[.int .i64 a0_0, .int .i64 a0_1, .int .i64 a0_2, (.slice A0_3 l0_3.length c0_3), (.slice A0_4 l0_4.length c0_4), .int .i64 a0_5] 25 (0, 0))) ∧ Aside0 (wc.heap[gb216]? = some (.cells #[.int .i64 a1_0, .int .i64 a1_1, (.slice A1_2 l1_2.length c1_2), .int .i64 a1_3, .int .u32 a1_4] 43 (0, 0))) ∧ Aside0 (wc.heap[gb225]? = some (.cells #[.int .i64 t217, .int .i64 t218, (.slice Ao16 t219.length co16), .int .i64 t222, .int .u32 t223] 43 (0, 0))) ∧ Aside0 (Below w.heap.size w wc))
          case first =>
            (have H := HC32.out); (clear HC32)
            by_cases c33 : x28_24 = true
            · subst c33
              (have H1 : (coppicerlaw_TurnerTakes.j2 kj24 t224 3 a0_0 a0_1 a0_2 l0_3 l0_4 a0_5 a1_0 a1_1 l1_2 a1_3 a1_4 t217 t218 t219 t222 t223) = some r := by rw [if_pos rfl] at H; exact H); (clear H); (have H := H1); (clear H1); (have H' := Aside0.mk H); (clear H)
              go_wp2
              go_meet
              case rel => exact ⟨_, (3), (by first | rfl | (simp; done) | (simp [*]; done)), H', ⟨by have := HJ4.out; have := HJ24.out; first | omega | exact Nat.le_refl _⟩, ⟨by (with_reducible repeat (first | apply Kd.S_alloc | apply Kd.S_drewN | apply Kd.S_drew)); exact HO_226002.out⟩, ⟨by (with_reducible repeat (first | refine blk_drewN ?_ _ | refine blk_drew ?_ | refine blk_alloc ?_ _)); exact BK215.out⟩, ⟨by (with_reducible repeat (first | refine blk_drewN ?_ _ | refine blk_drew ?_ | refine blk_alloc ?_ _)); exact BK216.out⟩, ⟨by (with_reducible repeat (first | refine blk_drewN ?_ _ | refine blk_drew ?_ | refine blk_alloc ?_ _)); exact BK225.out⟩, ⟨by repeat (first | (with_reducible first | exact HB.out | apply below_alloc | apply pw_below_drewN | apply below_drew1 | refine below_set ?_ GE215.out | refine below_set ?_ GE216.out | refine below_set ?_ GE225.out) | exact HB.out)⟩⟩
            (replace c33 := Bool.eq_false_iff.mpr c33); (subst c33); (have H1 : (coppicerlaw_TurnerTakes.j2 kj24 t224 x7_4 a0_0 a0_1 a0_2 l0_3 l0_4 a0_5 a1_0 a1_1 l1_2 a1_3 a1_4 t217 t218 t219 t222 t223) = some r := by rw [if_neg (show ¬ (false = true) by decide)] at H; exact H); (clear H); (have H := H1); (clear H1); (have H' := Aside0.mk H); (clear H)
            go_wp2
            go_meet
            case rel => exact ⟨_, (x7_4), (by first | rfl | (simp; done) | (simp [*]; done)), H', ⟨by have := HJ4.out; have := HJ24.out; first | omega | exact Nat.le_refl _⟩, ⟨by (with_reducible repeat (first | apply Kd.S_alloc | apply Kd.S_drewN | apply Kd.S_drew)); exact HO_226002.out⟩, ⟨by (with_reducible repeat (first | refine blk_drewN ?_ _ | refine blk_drew ?_ | refine blk_alloc ?_ _)); exact BK215.out⟩, ⟨by (with_reducible repeat (first | refine blk_drewN ?_ _ | refine blk_drew ?_ | refine blk_alloc ?_ _)); exact BK216.out⟩, ⟨by (with_reducible repeat (first | refine blk_drewN ?_ _ | refine blk_drew ?_ | refine blk_alloc ?_ _)); exact BK225.out⟩, ⟨by repeat (first | (with_reducible first | exact HB.out | apply below_alloc | apply pw_below_drewN | apply below_drew1 | refine below_set ?_ GE215.out | refine below_set ?_ GE216.out | refine below_set ?_ GE225.out) | exact HB.out)⟩⟩
          case rest =>
            (clear HC32); (try clear c1); (try clear c2); (try clear p2); (try clear c3); (try clear c5); (try clear c8); (try clear c13); (try clear c14); (try clear c19); (try clear c19b0); (try clear c19b1); (try clear c21); (try clear c22); (try clear c26); (try clear c26b0); (try clear c26b1); (try clear c27); (try clear c28); (try clear c30); (try clear c33); (try clear hcz10_0); (try clear hcz10_1); (try clear hcz10_2); (try clear hcz10_3); (try clear hcz10_4); (try clear hcz15_0); (try clear hcz15_1); (try clear hcz15_2); (try clear hcz15_3); (try clear hcz15_4); (try clear hcz17_0); (try clear hcz17_1); (try clear hcz17_2); (try clear hcz17_3); (try clear hcz17_4); (try clear hcz17_5); (try clear hcz23_0); (try clear hcz23_1); (try clear hcz23_2); (try clear hcz23_3); (try clear hcz23_4); (try clear hcz29_0); (try clear hcz29_1); (try clear hcz29_2); (try clear hcz29_3); (try clear hcz29_4); (try clear hcz29_5); (try clear hcz31_0); (try clear hcz31_1); (try clear hcz31_2); (try clear hcz31_3); (try clear hcz31_4); (try clear hcz9_0); (try clear hcz9_1); (try clear hcz9_2); (try clear hcz9_3); (try clear hcz9_4); (try clear hcz9_5); (try clear hfz10_0); (try clear hfz10_1); (try clear hfz10_2); (try clear hfz10_3); (try clear hfz10_4); (try clear hfz15_0); (try clear hfz15_1); (try clear hfz15_2); (try clear hfz15_3); (try clear hfz15_4); (try clear hfz17_0); (try clear hfz17_1); (try clear hfz17_2); (try clear hfz17_3); (try clear hfz17_4); (try clear hfz17_5); (try clear hfz23_0); (try clear hfz23_1); (try clear hfz23_2); (try clear hfz23_3); (try clear hfz23_4); (try clear hfz29_0); (try clear hfz29_1); (try clear hfz29_2); (try clear hfz29_3); (try clear hfz29_4); (try clear hfz29_5); (try clear hfz31_0); (try clear hfz31_1); (try clear hfz31_2); (try clear hfz31_3); (try clear hfz31_4); (try clear hfz9_0); (try clear hfz9_1); (try clear hfz9_2)
            (try clear hfz9_3); (try clear hfz9_4); (try clear hfz9_5); (try clear p2); (obtain ⟨kq, x7_31, rfl, HA, HJ31, HO_226002, BK215, BK216, BK225, HB⟩ := hcut)
            cases kq with
            | zero => exact absurd HA.out (by simp [coppicerlaw_TurnerTakes.j2])
            | succ kj31 =>
              (have H := HA.out); (clear HA); (simp only [coppicerlaw_TurnerTakes.j2] at H); (have HC34 := Aside0.mk H); (clear H)
              go_upto_region 7 with (fail)
              go_cut [38] (fun v38 wc => ∃ (kq : Nat) (x38_33 : Bool), v38 = .bool x38_33 ∧ Aside0 (coppicerlaw_TurnerTakes.j3 kq t224 x7_31 x38_33 a0_0 a0_1 a0_2 l0_3 l0_4 a0_5 a1_0 a1_1 l1_2 a1_3 a1_4 t217 t218 t219 t222 t223 = some r) ∧ Aside0 (kq ≤ kj31) ∧ Aside0 (Kd.S (Kd.slice 3 (Kd.int .i64)) 26 wc w.heap.size (fun _ => True) (.slice Ao16 t219.length co16) t219) ∧ Aside0 (wc.heap[gb215]? = some (.cells #[.int .i64 a0_0, .int .i64 a0_1, .int .i64 a0_2, (.slice A0_3 l0_3.length c0_3), (.slice A0_4 l0_4.length c0_4), .int .i64 a0_5] 25 (0, 0))) ∧ Aside0 (wc.heap[gb216]? = some (.cells #[.int .i64 a1_0, .int .i64 a1_1, (.slice A1_2 l1_2.length c1_2), .int .i64 a1_3, .int .u32 a1_4] 43 (0, 0))) ∧ Aside0 (wc.heap[gb225]? = some (.cells #[.int .i64 t217, .int .i64 t218, (.slice Ao16 t219.length co16), .int .i64 t222, .int .u32 t223] 43 (0, 0))) ∧ Aside0 (Below w.heap.size w wc))
              case first =>
                (have H := HC34.out); (clear HC34)
                by_cases c35 : x7_31 = 0
                rotate_left
                · rw [if_neg c35] at H
                  (have c35b0 : (x7_31 == 0) = false := beq_eq_false_iff_ne.mpr c35); (have c35b1 : (x7_31 != 0) = true := bne_iff_ne.mpr c35)
                  (first | rw [c35b0] | (simp only [i64_w, i32_w]; rw [c35b0]) | skip)
                  (have H' := Aside0.mk H); (clear H)
                  go_wp2
                  go_meet
                  case rel => exact ⟨_, (false), (by first | rfl | (simp; done) | (simp [*]; done)), H', ⟨by have := HJ4.out; have := HJ24.out; have := HJ31.out; first | omega | exact Nat.le_refl _⟩, ⟨by (with_reducible repeat (first | apply Kd.S_alloc | apply Kd.S_drewN | apply Kd.S_drew)); exact HO_226002.out⟩, ⟨by (with_reducible repeat (first | refine blk_drewN ?_ _ | refine blk_drew ?_ | refine blk_alloc ?_ _)); exact BK215.out⟩, ⟨by (with_reducible repeat (first | refine blk_drewN ?_ _ | refine blk_drew ?_ | refine blk_alloc ?_ _)); exact BK216.out⟩, ⟨by (with_reducible repeat (first | refine blk_drewN ?_ _ | refine blk_drew ?_ | refine blk_alloc ?_ _)); exact BK225.out⟩, ⟨by repeat (first | (with_reducible first | exact HB.out | apply below_alloc | apply pw_below_drewN | apply below_drew1 | refine below_set ?_ GE215.out | refine below_set ?_ GE216.out | refine below_set ?_ GE225.out) | exact HB.out)⟩⟩
                (rw [if_pos c35] at H); (have c35b0 : (x7_31 == 0) = true := beq_iff_eq.mpr c35); (have c35b1 : (x7_31 != 0) = false := bne_eq_false_iff_eq.mpr c35); (clear c35)
                (first | rw [c35b0] | (simp only [i64_w, i32_w]; rw [c35b0]) | skip)
                (have H' := Aside0.mk H); (clear H); (have hnb36 := NB215_216.out); (have hnc36 := NB216_215.out); (have hnb37 := NB215_225.out); (have hnc37 := NB225_215.out); (have hcz38_0 : wc.cell? ⟨gb215, 0, none⟩ = some (.int .i64 a0_0) := (blk_cell BK215.out 0).trans rfl); (have hcz38_1 : wc.cell? ⟨gb215, 1, none⟩ = some (.int .i64 a0_1) := (blk_cell BK215.out 1).trans rfl); (have hcz38_2 : wc.cell? ⟨gb215, 2, none⟩ = some (.int .i64 a0_2) := (blk_cell BK215.out 2).trans rfl); (have hcz38_3 : wc.cell? ⟨gb215, 3, none⟩ = some (.slice A0_3 l0_3.length c0_3) := (blk_cell BK215.out 3).trans rfl); (have hcz38_4 : wc.cell? ⟨gb215, 4, none⟩ = some (.slice A0_4 l0_4.length c0_4) := (blk_cell BK215.out 4).trans rfl); (have hcz38_5 : wc.cell? ⟨gb215, 5, none⟩ = some (.int .i64 a0_5) := (blk_cell BK215.out 5).trans rfl); (have hfz38_0 := blk_frozen BK215.out 0); (have hfz38_1 := blk_frozen BK215.out 1); (have hfz38_2 := blk_frozen BK215.out 2); (have hfz38_3 := blk_frozen BK215.out 3); (have hfz38_4 := blk_frozen BK215.out 4); (have hfz38_5 := blk_frozen BK215.out 5); (have hnb39 := NB216_225.out); (have hnc39 := NB225_216.out); (have hcz40_0 : wc.cell? ⟨gb216, 0, none⟩ = some (.int .i64 a1_0) := (blk_cell BK216.out 0).trans rfl); (have hcz40_1 : wc.cell? ⟨gb216, 1, none⟩ = some (.int .i64 a1_1) := (blk_cell BK216.out 1).trans rfl); (have hcz40_2 : wc.cell? ⟨gb216, 2, none⟩ = some (.slice A1_2 l1_2.length c1_2) := (blk_cell BK216.out 2).trans rfl); (have hcz40_3 : wc.cell? ⟨gb216, 3, none⟩ = some (.int .i64 a1_3) := (blk_cell BK216.out 3).trans rfl); (have hcz40_4 : wc.cell? ⟨gb216, 4, none⟩ = some (.int .u32 a1_4) := (blk_cell BK216.out 4).trans rfl)
                (have hfz40_0 := blk_frozen BK216.out 0); (have hfz40_1 := blk_frozen BK216.out 1); (have hfz40_2 := blk_frozen BK216.out 2); (have hfz40_3 := blk_frozen BK216.out 3); (have hfz40_4 := blk_frozen BK216.out 4)
                go_wp2
                go_meet
                case rel => exact ⟨_, (decide ((wrap64 (a0_0 * a1_0)) > 7)), (by first | rfl | (simp; done) | (simp [*]; done)), H', ⟨by have := HJ4.out; have := HJ24.out; have := HJ31.out; first | omega | exact Nat.le_refl _⟩, ⟨by (with_reducible repeat (first | apply Kd.S_alloc | apply Kd.S_drewN | apply Kd.S_drew)); exact HO_226002.out⟩, ⟨by (with_reducible repeat (first | refine blk_drewN ?_ _ | refine blk_drew ?_ | refine blk_alloc ?_ _)); exact BK215.out⟩, ⟨by (with_reducible repeat (first | refine blk_drewN ?_ _ | refine blk_drew ?_ | refine blk_alloc ?_ _)); exact BK216.out⟩, ⟨by (with_reducible repeat (first | refine blk_drewN ?_ _ | refine blk_drew ?_ | refine blk_alloc ?_ _)); exact BK225.out⟩, ⟨by repeat (first | (with_reducible first | exact HB.out | apply below_alloc | apply pw_below_drewN | apply below_drew1 | refine below_set ?_ GE215.out | refine below_set ?_ GE216.out | refine below_set ?_ GE225.out) | exact HB.out)⟩⟩
              case rest =>
                (clear HC34); (try clear c1); (try clear c2); (try clear p2); (try clear c3); (try clear c5); (try clear p6); (try clear c8); (try clear c13); (try clear c14); (try clear c19); (try clear c19b0); (try clear c19b1); (try clear c21); (try clear c22); (try clear c26); (try clear c26b0); (try clear c26b1); (try clear c27); (try clear c28); (try clear c30); (try clear c33); (try clear c35); (try clear c35b0); (try clear c35b1); (try clear c36); (try clear c37); (try clear c39); (try clear hcz10_0); (try clear hcz10_1); (try clear hcz10_2); (try clear hcz10_3); (try clear hcz10_4); (try clear hcz15_0); (try clear hcz15_1); (try clear hcz15_2); (try clear hcz15_3); (try clear hcz15_4); (try clear hcz17_0); (try clear hcz17_1); (try clear hcz17_2); (try clear hcz17_3); (try clear hcz17_4); (try clear hcz17_5); (try clear hcz23_0); (try clear hcz23_1); (try clear hcz23_2); (try clear hcz23_3); (try clear hcz23_4); (try clear hcz29_0); (try clear hcz29_1); (try clear hcz29_2); (try clear hcz29_3); (try clear hcz29_4); (try clear hcz29_5); (try clear hcz31_0); (try clear hcz31_1); (try clear hcz31_2); (try clear hcz31_3); (try clear hcz31_4); (try clear hcz38_0); (try clear hcz38_1); (try clear hcz38_2); (try clear hcz38_3); (try clear hcz38_4); (try clear hcz38_5); (try clear hcz40_0); (try clear hcz40_1); (try clear hcz40_2); (try clear hcz40_3); (try clear hcz40_4); (try clear hcz9_0); (try clear hcz9_1); (try clear hcz9_2); (try clear hcz9_3); (try clear hcz9_4); (try clear hcz9_5); (try clear hfz10_0); (try clear hfz10_1); (try clear hfz10_2); (try clear hfz10_3); (try clear hfz10_4); (try clear hfz15_0); (try clear hfz15_1); (try clear hfz15_2); (try clear hfz15_3); (try clear hfz15_4); (try clear hfz17_0); (try clear hfz17_1); (try clear hfz17_2); (try clear hfz17_3); (try clear hfz17_4); (try clear hfz17_5); (try clear hfz23_0); (try clear hfz23_1); (try clear hfz23_2)
                (try clear hfz23_3); (try clear hfz23_4); (try clear hfz29_0); (try clear hfz29_1); (try clear hfz29_2); (try clear hfz29_3); (try clear hfz29_4); (try clear hfz29_5); (try clear hfz31_0); (try clear hfz31_1); (try clear hfz31_2); (try clear hfz31_3); (try clear hfz31_4); (try clear hfz38_0); (try clear hfz38_1); (try clear hfz38_2); (try clear hfz38_3); (try clear hfz38_4); (try clear hfz38_5); (try clear hfz40_0); (try clear hfz40_1); (try clear hfz40_2); (try clear hfz40_3); (try clear hfz40_4); (try clear hfz9_0); (try clear hfz9_1); (try clear hfz9_2); (try clear hfz9_3); (try clear hfz9_4); (try clear hfz9_5); (try clear p2); (obtain ⟨kq, x38_33, rfl, HA, HJ33, HO_226002, BK215, BK216, BK225, HB⟩ := hcut)
                cases kq with
                | zero => exact absurd HA.out (by simp [coppicerlaw_TurnerTakes.j3])
                | succ kj33 =>
                  (have H := HA.out); (clear HA); (simp only [coppicerlaw_TurnerTakes.j3] at H); (have HC41 := Aside0.mk H); (clear H)
                  go_upto_if 38 with (fail)
                  go_cut [7] (fun v7 wc => ∃ (kq : Nat) (x7_40 : Int), v7 = .int .i64 x7_40 ∧ Aside0 (coppicerlaw_TurnerTakes.j4 kq t224 x7_40 a0_0 a0_1 a0_2 l0_3 l0_4 a0_5 a1_0 a1_1 l1_2 a1_3 a1_4 t217 t218 t219 t222 t223 = some r) ∧ Aside0 (kq ≤ kj33) ∧ Aside0 (Kd.S (Kd.slice 3 (Kd.int .i64)) 26 wc w.heap.size (fun _ => True) (.slice Ao16 t219.length co16) t219) ∧ Aside0 (wc.heap[gb215]? = some (.cells #[.int .i64 a0_0, .int .i64 a0_1, .int .i64 a0_2, (.slice A0_3 l0_3.length c0_3), (.slice A0_4 l0_4.length c0_4), .int .i64 a0_5] 25 (0, 0))) ∧ Aside0 (wc.heap[gb216]? = some (.cells #[.int .i64 a1_0, .int .i64 a1_1, (.slice A1_2 l1_2.length c1_2), .int .i64 a1_3, .int .u32 a1_4] 43 (0, 0))) ∧ Aside0 (wc.heap[gb225]? = some (.cells #[.int .i64 t217, .int .i64 t218, (.slice Ao16 t219.length co16), .int .i64 t222, .int .u32 t223] 43 (0, 0))) ∧ Aside0 (Below w.heap.size w wc))
                  case first =>
                    (have H := HC41.out); (clear HC41)
                    by_cases c42 : x38_33 = true
                    · subst c42
                      (have H1 : (coppicerlaw_TurnerTakes.j4 kj33 t224 1 a0_0 a0_1 a0_2 l0_3 l0_4 a0_5 a1_0 a1_1 l1_2 a1_3 a1_4 t217 t218 t219 t222 t223) = some r := by rw [if_pos rfl] at H; exact H); (clear H); (have H := H1); (clear H1); (have H' := Aside0.mk H); (clear H)
                      go_wp2
                      go_meet
                      case rel => exact ⟨_, (1), (by first | rfl | (simp; done) | (simp [*]; done)), H', ⟨by have := HJ4.out; have := HJ24.out; have := HJ31.out; have := HJ33.out; first | omega | exact Nat.le_refl _⟩, ⟨by (with_reducible repeat (first | apply Kd.S_alloc | apply Kd.S_drewN | apply Kd.S_drew)); exact HO_226002.out⟩, ⟨by (with_reducible repeat (first | refine blk_drewN ?_ _ | refine blk_drew ?_ | refine blk_alloc ?_ _)); exact BK215.out⟩, ⟨by (with_reducible repeat (first | refine blk_drewN ?_ _ | refine blk_drew ?_ | refine blk_alloc ?_ _)); exact BK216.out⟩, ⟨by (with_reducible repeat (first | refine blk_drewN ?_ _ | refine blk_drew ?_ | refine blk_alloc ?_ _)); exact BK225.out⟩, ⟨by repeat (first | (with_reducible first | exact HB.out | apply below_alloc | apply pw_below_drewN | apply below_drew1 | refine below_set ?_ GE215.out | refine below_set ?_ GE216.out | refine below_set ?_ GE225.out) | exact HB.out)⟩⟩
                    (replace c42 := Bool.eq_false_iff.mpr c42); (subst c42); (have H1 : (coppicerlaw_TurnerTakes.j4 kj33 t224 x7_31 a0_0 a0_1 a0_2 l0_3 l0_4 a0_5 a1_0 a1_1 l1_2 a1_3 a1_4 t217 t218 t219 t222 t223) = some r := by rw [if_neg (show ¬ (false = true) by decide)] at H; exact H); (clear H); (have H := H1); (clear H1); (have H' := Aside0.mk H); (clear H)
                    go_wp2
                    go_meet
                    case rel => exact ⟨_, (x7_31), (by first | rfl | (simp; done) | (simp [*]; done)), H', ⟨by have := HJ4.out; have := HJ24.out; have := HJ31.out; have := HJ33.out; first | omega | exact Nat.le_refl _⟩, ⟨by (with_reducible repeat (first | apply Kd.S_alloc | apply Kd.S_drewN | apply Kd.S_drew)); exact HO_226002.out⟩, ⟨by (with_reducible repeat (first | refine blk_drewN ?_ _ | refine blk_drew ?_ | refine blk_alloc ?_ _)); exact BK215.out⟩, ⟨by (with_reducible repeat (first | refine blk_drewN ?_ _ | refine blk_drew ?_ | refine blk_alloc ?_ _)); exact BK216.out⟩, ⟨by (with_reducible repeat (first | refine blk_drewN ?_ _ | refine blk_drew ?_ | refine blk_alloc ?_ _)); exact BK225.out⟩, ⟨by repeat (first | (with_reducible first | exact HB.out | apply below_alloc | apply pw_below_drewN | apply below_drew1 | refine below_set ?_ GE215.out | refine below_set ?_ GE216.out | refine below_set ?_ GE225.out) | exact HB.out)⟩⟩
                  case rest =>
                    (clear HC41); (try clear c1); (try clear c2); (try clear p2); (try clear c3); (try clear c4); (try clear c5); (try clear p6); (try clear c8); (try clear c13); (try clear c14); (try clear c19); (try clear c19b0); (try clear c19b1); (try clear c21); (try clear c22); (try clear c26); (try clear c26b0); (try clear c26b1); (try clear c27); (try clear c28); (try clear c30); (try clear c33); (try clear c35); (try clear c35b0); (try clear c35b1); (try clear c36); (try clear c37); (try clear c39); (try clear c42); (try clear hcz10_0); (try clear hcz10_1); (try clear hcz10_2); (try clear hcz10_3); (try clear hcz10_4); (try clear hcz15_0); (try clear hcz15_1); (try clear hcz15_2); (try clear hcz15_3); (try clear hcz15_4); (try clear hcz17_0); (try clear hcz17_1); (try clear hcz17_2); (try clear hcz17_3); (try clear hcz17_4); (try clear hcz17_5); (try clear hcz23_0); (try clear hcz23_1); (try clear hcz23_2); (try clear hcz23_3); (try clear hcz23_4); (try clear hcz29_0); (try clear hcz29_1); (try clear hcz29_2); (try clear hcz29_3); (try clear hcz29_4); (try clear hcz29_5); (try clear hcz31_0); (try clear hcz31_1); (try clear hcz31_2); (try clear hcz31_3); (try clear hcz31_4); (try clear hcz38_0); (try clear hcz38_1); (try clear hcz38_2); (try clear hcz38_3); (try clear hcz38_4); (try clear hcz38_5); (try clear hcz40_0); (try clear hcz40_1); (try clear hcz40_2); (try clear hcz40_3); (try clear hcz40_4); (try clear hcz9_0); (try clear hcz9_1); (try clear hcz9_2); (try clear hcz9_3); (try clear hcz9_4); (try clear hcz9_5); (try clear hfz10_0); (try clear hfz10_1); (try clear hfz10_2); (try clear hfz10_3); (try clear hfz10_4); (try clear hfz15_0); (try clear hfz15_1); (try clear hfz15_2); (try clear hfz15_3); (try clear hfz15_4); (try clear hfz17_0); (try clear hfz17_1); (try clear hfz17_2); (try clear hfz17_3); (try clear hfz17_4); (try clear hfz17_5); (try clear hfz23_0)
                    (try clear hfz23_1); (try clear hfz23_2); (try clear hfz23_3); (try clear hfz23_4); (try clear hfz29_0); (try clear hfz29_1); (try clear hfz29_2); (try clear hfz29_3); (try clear hfz29_4); (try clear hfz29_5); (try clear hfz31_0); (try clear hfz31_1); (try clear hfz31_2); (try clear hfz31_3); (try clear hfz31_4); (try clear hfz38_0); (try clear hfz38_1); (try clear hfz38_2); (try clear hfz38_3); (try clear hfz38_4); (try clear hfz38_5); (try clear hfz40_0); (try clear hfz40_1); (try clear hfz40_2); (try clear hfz40_3); (try clear hfz40_4); (try clear hfz9_0); (try clear hfz9_1); (try clear hfz9_2); (try clear hfz9_3); (try clear hfz9_4); (try clear hfz9_5); (try clear p2); (try clear p6); (obtain ⟨kq, x7_40, rfl, HA, HJ40, HO_226002, BK215, BK216, BK225, HB⟩ := hcut)
                    cases kq with
                    | zero => exact absurd HA.out (by simp [coppicerlaw_TurnerTakes.j4])
                    | succ kj40 =>
                      (have H := HA.out); (clear HA); (simp only [coppicerlaw_TurnerTakes.j4] at H)
                      by_cases c43 : x7_40 = 0
                      rotate_left
                      · rw [if_neg c43] at H
                        (have c43b0 : (x7_40 == 0) = false := beq_eq_false_iff_ne.mpr c43); (have c43b1 : (x7_40 != 0) = true := bne_iff_ne.mpr c43)
                        by_cases c52 : t224 = x7_40
                        rotate_left
                        · rw [if_neg c52] at H
                          (have c52b0 : (t224 == x7_40) = false := beq_eq_false_iff_ne.mpr c52); (have c52b1 : (t224 != x7_40) = true := bne_iff_ne.mpr c52); (obtain rfl := Option.some.inj H)
                          go_wp2
                          go_ret
                          exact ⟨by first | rfl | (simp [errW_none, errW_some] <;> rfl) | (simp [*, errW_none, errW_some] <;> rfl), by repeat (first | (with_reducible first | exact HB.out | apply below_alloc | apply pw_below_drewN | apply below_drew1 | refine below_set ?_ GE215.out | refine below_set ?_ GE216.out | refine below_set ?_ GE225.out) | exact HB.out)⟩
                        (rw [if_pos c52] at H); (have c52b0 : (t224 == x7_40) = true := beq_iff_eq.mpr c52); (have c52b1 : (t224 != x7_40) = false := bne_eq_false_iff_eq.mpr c52); (clear c52); (replace H := Option.bind_eq_some_iff.mp H); (obtain ⟨t236, A530, H⟩ := H); (replace H : (some t236) = some r := H); (have A53 := Aside0.mk A530); (clear A530); (obtain rfl := Option.some.inj H); (have hnb54 := NB225_215.out); (have hnc54 := NB215_225.out); (have hnb55 := NB225_216.out); (have hnc55 := NB216_225.out); (have hcz56_0 : wc.cell? ⟨gb225, 0, none⟩ = some (.int .i64 t217) := (blk_cell BK225.out 0).trans rfl); (have hcz56_1 : wc.cell? ⟨gb225, 1, none⟩ = some (.int .i64 t218) := (blk_cell BK225.out 1).trans rfl); (have hcz56_2 : wc.cell? ⟨gb225, 2, none⟩ = some (.slice Ao16 t219.length co16) := (blk_cell BK225.out 2).trans rfl); (have hcz56_3 : wc.cell? ⟨gb225, 3, none⟩ = some (.int .i64 t222) := (blk_cell BK225.out 3).trans rfl); (have hcz56_4 : wc.cell? ⟨gb225, 4, none⟩ = some (.int .u32 t223) := (blk_cell BK225.out 4).trans rfl); (have hfz56_0 := blk_frozen BK225.out 0); (have hfz56_1 := blk_frozen BK225.out 1); (have hfz56_2 := blk_frozen BK225.out 2); (have hfz56_3 := blk_frozen BK225.out 3); (have hfz56_4 := blk_frozen BK225.out 4)
                        go_wp2_with (first | (go_at_call 23; (with_reducible refine (coppicerref_Zero.calls kj40 t217 t218 _ _ t219 t222 t223 t236 _ ?side1 ?side2 A53.out).mono ?_); (case side1 => repeat (first | exact (Kd.S_reads' HO_226002.out).2.2 | (with_reducible refine Kd.C_alloc ?_ _) | (with_reducible refine Kd.C_drewN ?_ _) | (with_reducible refine Kd.C_drew ?_))); (case side2 => exact (Kd.S_reads' HO_226002.out).2.1); rintro e w57 ⟨rfl, hb⟩; have n0_ := Aside0.mk (Kd.S_below (by (with_reducible repeat (first | apply Kd.S_alloc | apply Kd.S_drewN | apply Kd.S_drew)); exact HO_226002.out) hb); have n1_ := Aside0.mk (blk_below (g := gb215) (o := .cells #[.int .i64 a0_0, .int .i64 a0_1, .int .i64 a0_2, .slice A0_3 l0_3.length c0_3, .slice A0_4 l0_4.length c0_4, .int .i64 a0_5] 25 (0, 0)) (by (with_reducible repeat (first | refine blk_drewN ?_ _ | refine blk_drew ?_ | refine blk_alloc ?_ _)); exact BK215.out) hb); have n2_ := Aside0.mk (blk_below (g := gb216) (o := .cells #[.int .i64 a1_0, .int .i64 a1_1, .slice A1_2 l1_2.length c1_2, .int .i64 a1_3, .int .u32 a1_4] 43 (0, 0)) (by (with_reducible repeat (first | refine blk_drewN ?_ _ | refine blk_drew ?_ | refine blk_alloc ?_ _)); exact BK216.out) hb); have n3_ := Aside0.mk (blk_below (g := gb225) (o := .cells #[.int .i64 t217, .int .i64 t218, .slice Ao16 t219.length co16, .int .i64 t222, .int .u32 t223] 43 (0, 0)) (by (with_reducible repeat (first | refine blk_drewN ?_ _ | refine blk_drew ?_ | refine blk_alloc ?_ _)); exact BK225.out) hb); have n4_ := Aside0.mk (below_step (by repeat (first | (with_reducible first | exact HB.out | apply below_alloc | apply pw_below_drewN | apply below_drew1 | refine below_set ?_ GE215.out | refine below_set ?_ GE216.out | refine below_set ?_ GE225.out) | exact HB.out)) hb); clear HO_226002; clear BK215; clear BK216; clear BK225; clear HB; have HO_226002 := n0_; have BK215 := n1_; have BK216 := n2_; have BK225 := n3_; have HB := n4_; clear n0_ n1_ n2_ n3_ n4_; (try clear hb); (try clear hb2); (try clear hk); (try clear hi)))
                        go_ret
                        exact ⟨by first | rfl | (simp [errW_none, errW_some] <;> rfl) | (simp [*, errW_none, errW_some] <;> rfl), by repeat (first | (with_reducible first | exact HB.out | apply below_alloc | apply pw_below_drewN | apply below_drew1 | refine below_set ?_ GE215.out | refine below_set ?_ GE216.out | refine below_set ?_ GE225.out) | exact HB.out)⟩
                      (rw [if_pos c43] at H); (have c43b0 : (x7_40 == 0) = true := beq_iff_eq.mpr c43); (have c43b1 : (x7_40 != 0) = false := bne_eq_false_iff_eq.mpr c43); (clear c43)
                      by_cases c44 : t224 = 0
                      rotate_left
                      · rw [if_neg c44] at H
                        (have c44b0 : (t224 == 0) = false := beq_eq_false_iff_ne.mpr c44); (have c44b1 : (t224 != 0) = true := bne_iff_ne.mpr c44); (obtain rfl := Option.some.inj H)
                        try go_wp2
                        (have n0_ := Aside0.mk (Kd.S_drew HO_226002.out)); (have n1_ := Aside0.mk (blk_drew BK215.out)); (have n2_ := Aside0.mk (blk_drew BK216.out)); (have n3_ := Aside0.mk (blk_drew BK225.out)); (have n4_ := Aside0.mk (below_drew1 HB.out)); (clear HO_226002); (clear BK215); (clear BK216); (clear BK225); (clear HB); (have HO_226002 := n0_); (have BK215 := n1_); (have BK216 := n2_); (have BK225 := n3_); (have HB := n4_); (clear n0_ n1_ n2_ n3_ n4_)
                        refine start_ (n := 10) (S := fun w' => True) (ds := []) #[false, false, false, false, false, false, false, false, false, false] (by kernel_rfl) rfl rfl trivial (fun hHeld => ?_); refine with_tabW coppicerlaw_TurnerTakes.tab11 coppicerlaw_TurnerTakes.bits11 (fun HT_ HW_ => ?_)
                        generalize wc.drew = w51 at HO_226002 BK215 BK216 BK225 HB hHeld ⊢
                        refine pure_ (i := 0) (N := some 48) (v := ?_) (a' := ?_) #[true, false, false, false, false, false, false, false, false, false] rfl rfl (any_of HT_.out (by kernel_rfl)) (fun _ _ _ h => h) (Or.inl ⟨by rfl, ?_⟩) ?_ ?_
                        rotate_left
                        · intro w'
                          go_simp
                          with_reducible rfl
                        rotate_left
                        · simp only [Act.put, List.setIfInBounds_toArray, List.set_cons_zero, List.set_cons_succ, i64_w, i32_w]
                          rfl
                        refine pure_ (i := 1) (N := some 49) (v := ?_) (a' := ?_) #[true, true, false, false, false, false, false, false, false, false] rfl rfl (any_of HT_.out (by kernel_rfl)) (fun _ _ _ h => h) (Or.inl ⟨by rfl, ?_⟩) ?_ ?_
                        rotate_left
                        · intro w'
                          go_simp
                          with_reducible rfl
                        rotate_left
                        · simp only [Act.put, List.setIfInBounds_toArray, List.set_cons_zero, List.set_cons_succ, i64_w, i32_w]
                          rfl
                        refine pure_ (i := 2) (N := some 50) (v := ?_) (a' := ?_) #[true, true, true, false, false, false, false, false, false, false] rfl rfl (any_of HT_.out (by kernel_rfl)) (fun _ _ _ h => h) (Or.inl ⟨by rfl, ?_⟩) ?_ ?_
                        rotate_left
                        · intro w'
                          go_simp
                          with_reducible rfl
                        rotate_left
                        · simp only [Act.put, List.setIfInBounds_toArray, List.set_cons_zero, List.set_cons_succ, i64_w, i32_w]
                          rfl
                        refine pure_ (i := 3) (N := some 51) (v := undef) (a' := ?_) #[true, true, true, true, false, false, false, false, false, false] rfl rfl (any_of HT_.out (by kernel_rfl)) (fun _ _ _ h => h) (Or.inr ⟨by rfl, rfl⟩) ?_ ?_
                        rotate_left
                        · simp only [Act.put, List.setIfInBounds_toArray, List.set_cons_zero, List.set_cons_succ, i64_w, i32_w]
                          rfl
                        refine pure_ (i := 4) (N := some 52) (v := undef) (a' := ?_) #[true, true, true, true, true, false, false, false, false, false] rfl rfl (any_of HT_.out (by kernel_rfl)) (fun _ _ _ h => h) (Or.inr ⟨by rfl, rfl⟩) ?_ ?_
                        rotate_left
                        · simp only [Act.put, List.setIfInBounds_toArray, List.set_cons_zero, List.set_cons_succ, i64_w, i32_w]
                          rfl
                        refine pure_ (i := 5) (N := some 53) (v := undef) (a' := ?_) #[true, true, true, true, true, true, false, false, false, false] rfl rfl (any_of HT_.out (by kernel_rfl)) (fun _ _ _ h => h) (Or.inr ⟨by rfl, rfl⟩) ?_ ?_
                        rotate_left
                        · simp only [Act.put, List.setIfInBounds_toArray, List.set_cons_zero, List.set_cons_succ, i64_w, i32_w]
                          rfl
                        refine pure_ (i := 6) (N := some 54) (v := undef) (a' := ?_) #[true, true, true, true, true, true, true, false, false, false] rfl rfl (any_of HT_.out (by kernel_rfl)) (fun _ _ _ h => h) (Or.inr ⟨by rfl, rfl⟩) ?_ ?_
                        rotate_left
                        · simp only [Act.put, List.setIfInBounds_toArray, List.set_cons_zero, List.set_cons_succ, i64_w, i32_w]
                          rfl
                        refine pure_ (i := 7) (N := some 55) (v := undef) (a' := ?_) #[true, true, true, true, true, true, true, true, false, false] rfl rfl (any_of HT_.out (by kernel_rfl)) (fun _ _ _ h => h) (Or.inr ⟨by rfl, rfl⟩) ?_ ?_
                        rotate_left
                        · simp only [Act.put, List.setIfInBounds_toArray, List.set_cons_zero, List.set_cons_succ, i64_w, i32_w]
                          rfl
                        refine pure_ (i := 8) (N := some 56) (v := ?_) (a' := ?_) #[true, true, true, true, true, true, true, true, true, false] rfl rfl (any_of HT_.out (by kernel_rfl)) (fun _ _ _ h => h) (Or.inl ⟨by rfl, ?_⟩) ?_ ?_
                        rotate_left
                        · intro w'
                          go_simp
                          with_reducible rfl
                        rotate_left
                        · simp only [Act.put, List.setIfInBounds_toArray, List.set_cons_zero, List.set_cons_succ, i64_w, i32_w]
                          rfl
                        refine pure_ (i := 9) (N := some 4) (v := ?_) (a' := ?_) #[true, true, true, true, true, true, true, true, true, true] rfl rfl (any_of HT_.out (by kernel_rfl)) (fun _ _ _ h => h) (Or.inl ⟨by rfl, ?_⟩) ?_ ?_
                        rotate_left
                        · intro w'
                          go_simp
                          with_reducible rfl
                        rotate_left
                        · simp only [Act.put, List.setIfInBounds_toArray, List.set_cons_zero, List.set_cons_succ, i64_w, i32_w]
                          rfl
                        refine done_ (done_of HT_.out (by kernel_rfl)) ?_
                        try go_wp2
                        go_ret
                        exact ⟨by first | rfl | (simp [errW_none, errW_some] <;> rfl) | (simp [*, errW_none, errW_some] <;> rfl), by repeat (first | (with_reducible first | exact HB.out | apply below_alloc | apply pw_below_drewN | apply below_drew1 | refine below_set ?_ GE215.out | refine below_set ?_ GE216.out | refine below_set ?_ GE225.out) | exact HB.out)⟩
                      (rw [if_pos c44] at H); (have c44b0 : (t224 == 0) = true := beq_iff_eq.mpr c44); (have c44b1 : (t224 != 0) = false := bne_eq_false_iff_eq.mpr c44); (clear c44); (replace H := Option.bind_eq_some_iff.mp H); (obtain ⟨⟨t228, t229, t230, t233, t234⟩, A450, H⟩ := H); (replace H : ((coppicerref_MachineSame.f kj40 t217 t218 t219 t222 t223 t228 t229 t230 t233 t234).bind fun t235 => (some t235)) = some r := H); (have A45 := Aside0.mk A450); (clear A450); (replace H := Option.bind_eq_some_iff.mp H); (obtain ⟨t235, A460, H⟩ := H); (replace H : (some t235) = some r := H); (have A46 := Aside0.mk A460); (clear A460); (obtain rfl := Option.some.inj H)
                      try go_wp2
                      (have n0_ := Aside0.mk (Kd.S_drew HO_226002.out)); (have n1_ := Aside0.mk (blk_drew BK215.out)); (have n2_ := Aside0.mk (blk_drew BK216.out)); (have n3_ := Aside0.mk (blk_drew BK225.out)); (have n4_ := Aside0.mk (below_drew1 HB.out)); (clear HO_226002); (clear BK215); (clear BK216); (clear BK225); (clear HB); (have HO_226002 := n0_); (have BK215 := n1_); (have BK216 := n2_); (have BK225 := n3_); (have HB := n4_); (clear n0_ n1_ n2_ n3_ n4_)
                      refine start_ (n := 10) (S := fun w' => w'.cell? ⟨gb225, 0, none⟩ = some (.int .i64 t217) ∧ w'.cell? ⟨gb225, 1, none⟩ = some (.int .i64 t218) ∧ w'.cell? ⟨gb225, 2, none⟩ = some (.slice Ao16 t219.length co16) ∧ w'.cell? ⟨gb225, 3, none⟩ = some (.int .i64 t222) ∧ w'.cell? ⟨gb225, 4, none⟩ = some (.int .u32 t223) ∧ w'.cell? ⟨gb215, 0, none⟩ = some (.int .i64 a0_0) ∧ w'.cell? ⟨gb215, 1, none⟩ = some (.int .i64 a0_1) ∧ w'.cell? ⟨gb215, 2, none⟩ = some (.int .i64 a0_2) ∧ w'.cell? ⟨gb215, 3, none⟩ = some (.slice A0_3 l0_3.length c0_3) ∧ w'.cell? ⟨gb215, 4, none⟩ = some (.slice A0_4 l0_4.length c0_4) ∧ w'.cell? ⟨gb215, 5, none⟩ = some (.int .i64 a0_5) ∧ w'.cell? ⟨gb216, 0, none⟩ = some (.int .i64 a1_0) ∧ w'.cell? ⟨gb216, 1, none⟩ = some (.int .i64 a1_1) ∧ w'.cell? ⟨gb216, 2, none⟩ = some (.slice A1_2 l1_2.length c1_2) ∧ w'.cell? ⟨gb216, 3, none⟩ = some (.int .i64 a1_3) ∧ w'.cell? ⟨gb216, 4, none⟩ = some (.int .u32 a1_4)) (ds := []) #[false, false, false, false, false, false, false, false, false, false] (by kernel_rfl) rfl rfl ⟨(blk_cell BK225.out 0).trans rfl, (blk_cell BK225.out 1).trans rfl, (blk_cell BK225.out 2).trans rfl, (blk_cell BK225.out 3).trans rfl, (blk_cell BK225.out 4).trans rfl, (blk_cell BK215.out 0).trans rfl, (blk_cell BK215.out 1).trans rfl, (blk_cell BK215.out 2).trans rfl, (blk_cell BK215.out 3).trans rfl, (blk_cell BK215.out 4).trans rfl, (blk_cell BK215.out 5).trans rfl, (blk_cell BK216.out 0).trans rfl, (blk_cell BK216.out 1).trans rfl, (blk_cell BK216.out 2).trans rfl, (blk_cell BK216.out 3).trans rfl, (blk_cell BK216.out 4).trans rfl⟩ (fun hHeld => ?_); refine with_tabW coppicerlaw_TurnerTakes.tab11 coppicerlaw_TurnerTakes.bits11 (fun HT_ HW_ => ?_)
                      generalize wc.drew = w47 at HO_226002 BK215 BK216 BK225 HB hHeld ⊢
                      refine pure_ (i := 0) (N := some 48) (v := ?_) (a' := ?_) #[true, false, false, false, false, false, false, false, false, false] rfl rfl (any_of HT_.out (by kernel_rfl)) (fun _ _ _ h => h) (Or.inl ⟨by rfl, ?_⟩) ?_ ?_
                      rotate_left
                      · intro w'
                        go_simp
                        with_reducible rfl
                      rotate_left
                      · simp only [Act.put, List.setIfInBounds_toArray, List.set_cons_zero, List.set_cons_succ, i64_w, i32_w]
                        rfl
                      refine pure_ (i := 1) (N := some 49) (v := ?_) (a' := ?_) #[true, true, false, false, false, false, false, false, false, false] rfl rfl (any_of HT_.out (by kernel_rfl)) (fun _ _ _ h => h) (Or.inl ⟨by rfl, ?_⟩) ?_ ?_
                      rotate_left
                      · intro w'
                        go_simp
                        with_reducible rfl
                      rotate_left
                      · simp only [Act.put, List.setIfInBounds_toArray, List.set_cons_zero, List.set_cons_succ, i64_w, i32_w]
                        rfl
                      refine pure_ (i := 2) (N := some 50) (v := ?_) (a' := ?_) #[true, true, true, false, false, false, false, false, false, false] rfl rfl (any_of HT_.out (by kernel_rfl)) (fun _ _ _ h => h) (Or.inl ⟨by rfl, ?_⟩) ?_ ?_
                      rotate_left
                      · intro w'
                        go_simp
                        with_reducible rfl
                      rotate_left
                      · simp only [Act.put, List.setIfInBounds_toArray, List.set_cons_zero, List.set_cons_succ, i64_w, i32_w]
                        rfl
                      refine take_ (i := 3) (N := some 51) (v := ?_) (a' := ?_) #[true, true, true, true, false, false, false, false, false, false] rfl rfl (take_ofW HT_.out HW_.out (by kernel_rfl)) (fun _ _ _ h => h) (Or.inl ⟨by rfl, ?_⟩) hHeld ?_ ?_
                      rotate_left
                      · rintro w' ⟨s0, s1, s2, s3, s4, s5, s6, s7, s8, s9, s10, s11, s12, s13, s14, s15⟩
                        go_simp
                        with_reducible rfl
                      rotate_left
                      · simp only [Act.put, List.setIfInBounds_toArray, List.set_cons_zero, List.set_cons_succ, i64_w, i32_w]
                        rfl
                      refine take_ (i := 4) (N := some 52) (v := ?_) (a' := ?_) #[true, true, true, true, true, false, false, false, false, false] rfl rfl (take_ofW HT_.out HW_.out (by kernel_rfl)) (fun _ _ _ h => h) (Or.inl ⟨by rfl, ?_⟩) hHeld ?_ ?_
                      rotate_left
                      · rintro w' ⟨s0, s1, s2, s3, s4, s5, s6, s7, s8, s9, s10, s11, s12, s13, s14, s15⟩
                        go_simp
                        with_reducible rfl
                      rotate_left
                      · simp only [Act.put, List.setIfInBounds_toArray, List.set_cons_zero, List.set_cons_succ, i64_w, i32_w]
                        rfl
                      refine take_ (i := 5) (N := some 53) (v := ?_) (a' := ?_) #[true, true, true, true, true, true, false, false, false, false] rfl rfl (take_ofW HT_.out HW_.out (by kernel_rfl)) (fun _ _ _ h => h) (Or.inl ⟨by rfl, ?_⟩) hHeld ?_ ?_
                      rotate_left
                      · rintro w' ⟨s0, s1, s2, s3, s4, s5, s6, s7, s8, s9, s10, s11, s12, s13, s14, s15⟩
                        go_simp
                        with_reducible rfl
                      rotate_left
                      · simp only [Act.put, List.setIfInBounds_toArray, List.set_cons_zero, List.set_cons_succ, i64_w, i32_w]
                        rfl
                      refine one_ (i := 6) (N := some 54) #[true, true, true, true, true, true, true, false, false, false] rfl rfl (one_of HT_.out (by kernel_rfl)) (by decide) (fun K hK => ?_)
                      refine goes_ Try.func25 (by kernel_rfl) rfl #[.agg #[.int .i64 a0_0, .int .i64 a0_1, .int .i64 a0_2, .slice A0_3 l0_3.length c0_3, .slice A0_4 l0_4.length c0_4, .int .i64 a0_5], .agg #[.int .i64 a1_0, .int .i64 a1_1, .slice A1_2 l1_2.length c1_2, .int .i64 a1_3, .int .u32 a1_4]] (by rfl) rfl rfl (by (try simp only [List.map_toArray, List.map_cons, List.map_nil]); first | done | rfl | (simp only [List.length_drop, List.length_take]; rfl)) ?_
                      with_reducible refine (coppicerref_Before.calls kj40 a0_0 a0_1 a0_2 _ _ l0_3 _ _ l0_4 a0_5 a1_0 a1_1 _ _ l1_2 a1_3 a1_4 t228 t229 t230 t233 t234 _ ?side1 ?side2 ?side3 ?side4 ?side5 ?side6 A45.out).mono ?_
                      (case side1 => repeat (first | exact (Kd.C_below HR0_3.out HB.out) | (with_reducible refine Kd.C_alloc ?_ _) | (with_reducible refine Kd.C_drewN ?_ _) | (with_reducible refine Kd.C_drew ?_)))
                      (case side2 => exact HC0_3.out)
                      (case side3 => repeat (first | exact (Kd.C_below HR0_4.out HB.out) | (with_reducible refine Kd.C_alloc ?_ _) | (with_reducible refine Kd.C_drewN ?_ _) | (with_reducible refine Kd.C_drew ?_)))
                      (case side4 => exact HC0_4.out)
                      (case side5 => repeat (first | exact (Kd.C_below HR1_2.out HB.out) | (with_reducible refine Kd.C_alloc ?_ _) | (with_reducible refine Kd.C_drewN ?_ _) | (with_reducible refine Kd.C_drew ?_)))
                      (case side6 => exact HC1_2.out)
                      rintro e w48 ⟨v231, rfl, ho0, hb⟩
                      refine ⟨_, rfl, ?_⟩
                      (have n0_ := Aside0.mk (Kd.S_elder' (by (with_reducible repeat (first | apply Kd.S_alloc | apply Kd.S_drewN | apply Kd.S_drew)); exact HO_226002.out) (Kd.S_base ho0) hb)); (have n1_ := Aside0.mk (Kd.S_lower (Kd.S_new' ho0 (Kd.S_lt (by (with_reducible repeat (first | apply Kd.S_alloc | apply Kd.S_drewN | apply Kd.S_drew)); exact HO_226002.out))) (below_size (by repeat (first | (with_reducible first | exact HB.out | apply below_alloc | apply pw_below_drewN | apply below_drew1 | refine below_set ?_ GE215.out | refine below_set ?_ GE216.out | refine below_set ?_ GE225.out) | exact HB.out))))); (have n2_ := Aside0.mk (blk_below (g := gb215) (o := .cells #[.int .i64 a0_0, .int .i64 a0_1, .int .i64 a0_2, .slice A0_3 l0_3.length c0_3, .slice A0_4 l0_4.length c0_4, .int .i64 a0_5] 25 (0, 0)) (by (with_reducible repeat (first | refine blk_drewN ?_ _ | refine blk_drew ?_ | refine blk_alloc ?_ _)); exact BK215.out) hb)); (have n3_ := Aside0.mk (blk_below (g := gb216) (o := .cells #[.int .i64 a1_0, .int .i64 a1_1, .slice A1_2 l1_2.length c1_2, .int .i64 a1_3, .int .u32 a1_4] 43 (0, 0)) (by (with_reducible repeat (first | refine blk_drewN ?_ _ | refine blk_drew ?_ | refine blk_alloc ?_ _)); exact BK216.out) hb)); (have n4_ := Aside0.mk (blk_below (g := gb225) (o := .cells #[.int .i64 t217, .int .i64 t218, .slice Ao16 t219.length co16, .int .i64 t222, .int .u32 t223] 43 (0, 0)) (by (with_reducible repeat (first | refine blk_drewN ?_ _ | refine blk_drew ?_ | refine blk_alloc ?_ _)); exact BK225.out) hb)); (have n5_ := Aside0.mk (below_step (by repeat (first | (with_reducible first | exact HB.out | apply below_alloc | apply pw_below_drewN | apply below_drew1 | refine below_set ?_ GE215.out | refine below_set ?_ GE216.out | refine below_set ?_ GE225.out) | exact HB.out)) hb))
                      (clear HO_226002); (clear BK215); (clear BK216); (clear BK225); (clear HB); (have HO_226002 := n0_); (have HO232 := n1_); (have BK215 := n2_); (have BK216 := n3_); (have BK225 := n4_); (have HB := n5_); (clear n0_ n1_ n2_ n3_ n4_ n5_); ((try clear hb)); ((try clear hb2)); ((try clear hk)); ((try clear hi)); ((try clear ho0)); (obtain ⟨Ao49, co49, eo49⟩ := Kd.S_slice HO232.out)
                      (first | subst eo49 | (injection eo49 with f1_ f2_ f3_; have f4_ := f1_.symm; have f5_ := f3_.symm; clear f1_ f2_ f3_; subst f4_; subst f5_))
                      refine hK.out _ _ ⟨(blk_cell BK225.out 0).trans rfl, (blk_cell BK225.out 1).trans rfl, (blk_cell BK225.out 2).trans rfl, (blk_cell BK225.out 3).trans rfl, (blk_cell BK225.out 4).trans rfl, (blk_cell BK215.out 0).trans rfl, (blk_cell BK215.out 1).trans rfl, (blk_cell BK215.out 2).trans rfl, (blk_cell BK215.out 3).trans rfl, (blk_cell BK215.out 4).trans rfl, (blk_cell BK215.out 5).trans rfl, (blk_cell BK216.out 0).trans rfl, (blk_cell BK216.out 1).trans rfl, (blk_cell BK216.out 2).trans rfl, (blk_cell BK216.out 3).trans rfl, (blk_cell BK216.out 4).trans rfl⟩ (fun hHeld => ?_)
                      clear hK K
                      refine norm_ (a' := ?_) ?_ ?_
                      rotate_left
                      · show Act.put _ (some 54) _ = _
                        simp only [Act.put, List.setIfInBounds_toArray, List.set_cons_zero, List.set_cons_succ, i64_w, i32_w]
                        rfl
                      refine one_ (i := 7) (N := some 55) #[true, true, true, true, true, true, true, true, false, false] rfl rfl (one_of HT_.out (by kernel_rfl)) (by decide) (fun K hK => ?_)
                      refine goes_ Try.func24 (by kernel_rfl) rfl #[.agg #[.int .i64 t217, .int .i64 t218, .slice Ao16 t219.length co16, .int .i64 t222, .int .u32 t223], .agg #[.int .i64 t228, .int .i64 t229, .slice Ao49 t230.length co49, .int .i64 t233, .int .u32 t234]] (by rfl) rfl rfl (by (try simp only [List.map_toArray, List.map_cons, List.map_nil]); first | done | rfl | (simp only [List.length_drop, List.length_take]; rfl)) ?_
                      with_reducible refine (coppicerref_MachineSame.calls kj40 t217 t218 _ _ t219 t222 t223 t228 t229 _ _ t230 t233 t234 t235 _ ?side1 ?side2 ?side3 ?side4 A46.out).mono ?_
                      (case side1 => repeat (first | exact (Kd.S_reads' HO_226002.out).2.2 | (with_reducible refine Kd.C_alloc ?_ _) | (with_reducible refine Kd.C_drewN ?_ _) | (with_reducible refine Kd.C_drew ?_)))
                      (case side2 => exact (Kd.S_reads' HO_226002.out).2.1)
                      (case side3 => repeat (first | exact (Kd.S_reads' HO232.out).2.2 | (with_reducible refine Kd.C_alloc ?_ _) | (with_reducible refine Kd.C_drewN ?_ _) | (with_reducible refine Kd.C_drew ?_)))
                      (case side4 => exact (Kd.S_reads' HO232.out).2.1)
                      rintro e w50 ⟨rfl, hb⟩
                      refine ⟨_, rfl, ?_⟩
                      (have n0_ := Aside0.mk (Kd.S_below (by (with_reducible repeat (first | apply Kd.S_alloc | apply Kd.S_drewN | apply Kd.S_drew)); exact HO_226002.out) hb)); (have n1_ := Aside0.mk (Kd.S_below (by (with_reducible repeat (first | apply Kd.S_alloc | apply Kd.S_drewN | apply Kd.S_drew)); exact HO232.out) hb)); (have n2_ := Aside0.mk (blk_below (g := gb215) (o := .cells #[.int .i64 a0_0, .int .i64 a0_1, .int .i64 a0_2, .slice A0_3 l0_3.length c0_3, .slice A0_4 l0_4.length c0_4, .int .i64 a0_5] 25 (0, 0)) (by (with_reducible repeat (first | refine blk_drewN ?_ _ | refine blk_drew ?_ | refine blk_alloc ?_ _)); exact BK215.out) hb)); (have n3_ := Aside0.mk (blk_below (g := gb216) (o := .cells #[.int .i64 a1_0, .int .i64 a1_1, .slice A1_2 l1_2.length c1_2, .int .i64 a1_3, .int .u32 a1_4] 43 (0, 0)) (by (with_reducible repeat (first | refine blk_drewN ?_ _ | refine blk_drew ?_ | refine blk_alloc ?_ _)); exact BK216.out) hb)); (have n4_ := Aside0.mk (blk_below (g := gb225) (o := .cells #[.int .i64 t217, .int .i64 t218, .slice Ao16 t219.length co16, .int .i64 t222, .int .u32 t223] 43 (0, 0)) (by (with_reducible repeat (first | refine blk_drewN ?_ _ | refine blk_drew ?_ | refine blk_alloc ?_ _)); exact BK225.out) hb)); (have n5_ := Aside0.mk (below_step (by repeat (first | (with_reducible first | exact HB.out | apply below_alloc | apply pw_below_drewN | apply below_drew1 | refine below_set ?_ GE215.out | refine below_set ?_ GE216.out | refine below_set ?_ GE225.out) | exact HB.out)) hb)); (clear HO_226002); (clear HO232)
                      (clear BK215); (clear BK216); (clear BK225); (clear HB); (have HO_226002 := n0_); (have HO232 := n1_); (have BK215 := n2_); (have BK216 := n3_); (have BK225 := n4_); (have HB := n5_); (clear n0_ n1_ n2_ n3_ n4_ n5_); ((try clear hb)); ((try clear hb2)); ((try clear hk)); ((try clear hi))
                      refine hK.out _ _ ⟨(blk_cell BK225.out 0).trans rfl, (blk_cell BK225.out 1).trans rfl, (blk_cell BK225.out 2).trans rfl, (blk_cell BK225.out 3).trans rfl, (blk_cell BK225.out 4).trans rfl, (blk_cell BK215.out 0).trans rfl, (blk_cell BK215.out 1).trans rfl, (blk_cell BK215.out 2).trans rfl, (blk_cell BK215.out 3).trans rfl, (blk_cell BK215.out 4).trans rfl, (blk_cell BK215.out 5).trans rfl, (blk_cell BK216.out 0).trans rfl, (blk_cell BK216.out 1).trans rfl, (blk_cell BK216.out 2).trans rfl, (blk_cell BK216.out 3).trans rfl, (blk_cell BK216.out 4).trans rfl⟩ (fun hHeld => ?_)
                      clear hK K
                      refine norm_ (a' := ?_) ?_ ?_
                      rotate_left
                      · show Act.put _ (some 55) _ = _
                        simp only [Act.put, List.setIfInBounds_toArray, List.set_cons_zero, List.set_cons_succ, i64_w, i32_w]
                        rfl
                      refine pure_ (i := 8) (N := some 56) (v := ?_) (a' := ?_) #[true, true, true, true, true, true, true, true, true, false] rfl rfl (any_of HT_.out (by kernel_rfl)) (fun _ _ _ h => h) (Or.inl ⟨by rfl, ?_⟩) ?_ ?_
                      rotate_left
                      · intro w'
                        go_simp
                        with_reducible rfl
                      rotate_left
                      · simp only [Act.put, List.setIfInBounds_toArray, List.set_cons_zero, List.set_cons_succ, i64_w, i32_w]
                        rfl
                      refine pure_ (i := 9) (N := some 4) (v := ?_) (a' := ?_) #[true, true, true, true, true, true, true, true, true, true] rfl rfl (any_of HT_.out (by kernel_rfl)) (fun _ _ _ h => h) (Or.inl ⟨by rfl, ?_⟩) ?_ ?_
                      rotate_left
                      · intro w'
                        go_simp
                        with_reducible rfl
                      rotate_left
                      · simp only [Act.put, List.setIfInBounds_toArray, List.set_cons_zero, List.set_cons_succ, i64_w, i32_w]
                        rfl
                      refine done_ (done_of HT_.out (by kernel_rfl)) ?_
                      try go_wp2
                      go_ret
                      exact ⟨by first | rfl | (simp [errW_none, errW_some] <;> rfl) | (simp [*, errW_none, errW_some] <;> rfl), by repeat (first | (with_reducible first | exact HB.out | apply below_alloc | apply pw_below_drewN | apply below_drew1 | refine below_set ?_ GE215.out | refine below_set ?_ GE216.out | refine below_set ?_ GE225.out) | exact HB.out)⟩
end Go.Proofs.Ytlmagjgjaajeiaa.PTurnerTakes
