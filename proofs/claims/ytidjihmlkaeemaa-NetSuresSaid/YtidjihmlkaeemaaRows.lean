/-
  No cell of these rows narrows 'for every input' (looked for: loops, veiled, ifaces, maps, wideKeys, modest, calm, conditions, laid).
  DERIVED. THE GIVEN ROWS OF THIS SEAT. 12 by the template 'for every input the law returns true; each argument reads behind the call as it read before'; 0 by the template 'total and deterministic' (their statements: YtidjihmlkaeemaaTotals.lean).
  GIVEN WITH THE SEED: the statements are not yours to turn. If you find one false, say at which input.
  Laid BY PROGRAM, IN A SANDBOX (cutbox-rows.mjs): the forced cells as the released guide's own fill.sh prints them over the translation ad4c87141c3c48a6… (all of the seat's roots in one cut). By AI agents, Wed Nov 11 2026. No macro, syntax, notation, axiom, sorry.
-/
import Derived.Test.YtidjihmlkaeemaaChecked
import GoSem.Claim
import GoSem.ClaimJoined
import GoSem.ClaimMapViews
import Derived.JoinedTies
import Derived.KernelRfl
namespace Go.Proofs.Ytidjihmlkaeemaa
/- THE CELL 'sum', in the pinned program and in every row, IS THE sha256 OF THE DUMP (.gsa) THAT YtidjihmlkaeemaaProg.lean LOADS. Nothing in Lean hashes anything: it is a label: what it is worth is what the hold of that sum in a sandbox is worth. -/
noncomputable def Try.pinned : Pinned := { name := "ytidjihmlkaeemaa", sum := "ad4c87141c3c48a691617fd58c252524ab573d52e9b2ee579c9234799923c543", checked := Try.checked }
namespace Rows
def none {H : Type} : Left H := { results := [], args := [] }

/-- 'coppicerlaw.NetBacks': WHATEVER THE INPUT: true; the input reads as it did. -/
def netBacksSpec : ChangeSpec := { name := "netBacks", fn := fun _ => fun
  | [d] => { results := [.lit (.bool true)], args := [d] }
  | _ => none }
def netBacksRow : OpenClaim := { program := "ytidjihmlkaeemaa", sum := "ad4c87141c3c48a691617fd58c252524ab573d52e9b2ee579c9234799923c543", func := "coppicer/coppicerlaw.NetBacks", spec := "netBacks", apart := false }
def NetBacksSaid : Prop := netBacksRow.holds Try.pinned (OpenSpec.ofChange netBacksSpec)

/-- ITS FALSE NEIGHBOUR: 'it returns false'. Refute it at one input. -/
def netBacksWrong : ChangeSpec := { name := "netBacks", fn := fun _ => fun
  | [d] => { results := [.lit (.bool false)], args := [d] }
  | _ => none }
def NetBacksWrongFalsely : Prop := netBacksRow.holds Try.pinned (OpenSpec.ofChange netBacksWrong)

/-- 'coppicerlaw.NetRuns': WHATEVER THE INPUT: true; the input reads as it did. -/
def netRunsSpec : ChangeSpec := { name := "netRuns", fn := fun _ => fun
  | [d1, d2] => { results := [.lit (.bool true)], args := [d1, d2] }
  | _ => none }
def netRunsRow : OpenClaim := { program := "ytidjihmlkaeemaa", sum := "ad4c87141c3c48a691617fd58c252524ab573d52e9b2ee579c9234799923c543", func := "coppicer/coppicerlaw.NetRuns", spec := "netRuns", unfollowed := true, recurses := true, apart := false }
def NetRunsSaid : Prop := netRunsRow.holds Try.pinned (OpenSpec.ofChange netRunsSpec)

/-- ITS FALSE NEIGHBOUR: 'it returns false'. Refute it at one input. -/
def netRunsWrong : ChangeSpec := { name := "netRuns", fn := fun _ => fun
  | [d1, d2] => { results := [.lit (.bool false)], args := [d1, d2] }
  | _ => none }
def NetRunsWrongFalsely : Prop := netRunsRow.holds Try.pinned (OpenSpec.ofChange netRunsWrong)

/-- 'coppicerlaw.NetSures': WHATEVER THE INPUT: true; the input reads as it did. -/
def netSuresSpec : ChangeSpec := { name := "netSures", fn := fun _ => fun
  | [d] => { results := [.lit (.bool true)], args := [d] }
  | _ => none }
def netSuresRow : OpenClaim := { program := "ytidjihmlkaeemaa", sum := "ad4c87141c3c48a691617fd58c252524ab573d52e9b2ee579c9234799923c543", func := "coppicer/coppicerlaw.NetSures", spec := "netSures", apart := false }
def NetSuresSaid : Prop := netSuresRow.holds Try.pinned (OpenSpec.ofChange netSuresSpec)

/-- ITS FALSE NEIGHBOUR: 'it returns false'. Refute it at one input. -/
def netSuresWrong : ChangeSpec := { name := "netSures", fn := fun _ => fun
  | [d] => { results := [.lit (.bool false)], args := [d] }
  | _ => none }
def NetSuresWrongFalsely : Prop := netSuresRow.holds Try.pinned (OpenSpec.ofChange netSuresWrong)

/-- 'coppicerlaw.MachineChecks': WHATEVER THE INPUT: true; the input reads as it did. -/
def machineChecksSpec : ChangeSpec := { name := "machineChecks", fn := fun _ => fun
  | [d] => { results := [.lit (.bool true)], args := [d] }
  | _ => none }
def machineChecksRow : OpenClaim := { program := "ytidjihmlkaeemaa", sum := "ad4c87141c3c48a691617fd58c252524ab573d52e9b2ee579c9234799923c543", func := "coppicer/coppicerlaw.MachineChecks", spec := "machineChecks", unfollowed := true, recurses := true, apart := false }
def MachineChecksSaid : Prop := machineChecksRow.holds Try.pinned (OpenSpec.ofChange machineChecksSpec)

/-- ITS FALSE NEIGHBOUR: 'it returns false'. Refute it at one input. -/
def machineChecksWrong : ChangeSpec := { name := "machineChecks", fn := fun _ => fun
  | [d] => { results := [.lit (.bool false)], args := [d] }
  | _ => none }
def MachineChecksWrongFalsely : Prop := machineChecksRow.holds Try.pinned (OpenSpec.ofChange machineChecksWrong)

/-- 'coppicerlaw.MachineRuns': WHATEVER THE INPUT: true; the input reads as it did. -/
def machineRunsSpec : ChangeSpec := { name := "machineRuns", fn := fun _ => fun
  | [d1, d2] => { results := [.lit (.bool true)], args := [d1, d2] }
  | _ => none }
def machineRunsRow : OpenClaim := { program := "ytidjihmlkaeemaa", sum := "ad4c87141c3c48a691617fd58c252524ab573d52e9b2ee579c9234799923c543", func := "coppicer/coppicerlaw.MachineRuns", spec := "machineRuns", unfollowed := true, recurses := true, apart := false }
def MachineRunsSaid : Prop := machineRunsRow.holds Try.pinned (OpenSpec.ofChange machineRunsSpec)

/-- ITS FALSE NEIGHBOUR: 'it returns false'. Refute it at one input. -/
def machineRunsWrong : ChangeSpec := { name := "machineRuns", fn := fun _ => fun
  | [d1, d2] => { results := [.lit (.bool false)], args := [d1, d2] }
  | _ => none }
def MachineRunsWrongFalsely : Prop := machineRunsRow.holds Try.pinned (OpenSpec.ofChange machineRunsWrong)

/-- 'coppicerlaw.MachineNot': WHATEVER THE INPUT: true; the input reads as it did. -/
def machineNotSpec : ChangeSpec := { name := "machineNot", fn := fun _ => fun
  | [d] => { results := [.lit (.bool true)], args := [d] }
  | _ => none }
def machineNotRow : OpenClaim := { program := "ytidjihmlkaeemaa", sum := "ad4c87141c3c48a691617fd58c252524ab573d52e9b2ee579c9234799923c543", func := "coppicer/coppicerlaw.MachineNot", spec := "machineNot", unfollowed := true, recurses := true, apart := false }
def MachineNotSaid : Prop := machineNotRow.holds Try.pinned (OpenSpec.ofChange machineNotSpec)

/-- ITS FALSE NEIGHBOUR: 'it returns false'. Refute it at one input. -/
def machineNotWrong : ChangeSpec := { name := "machineNot", fn := fun _ => fun
  | [d] => { results := [.lit (.bool false)], args := [d] }
  | _ => none }
def MachineNotWrongFalsely : Prop := machineNotRow.holds Try.pinned (OpenSpec.ofChange machineNotWrong)

/-- 'coppicerlaw.MachineBoth': WHATEVER THE INPUT: true; the input reads as it did. -/
def machineBothSpec : ChangeSpec := { name := "machineBoth", fn := fun _ => fun
  | [d1, d2] => { results := [.lit (.bool true)], args := [d1, d2] }
  | _ => none }
def machineBothRow : OpenClaim := { program := "ytidjihmlkaeemaa", sum := "ad4c87141c3c48a691617fd58c252524ab573d52e9b2ee579c9234799923c543", func := "coppicer/coppicerlaw.MachineBoth", spec := "machineBoth", unfollowed := true, recurses := true, apart := false }
def MachineBothSaid : Prop := machineBothRow.holds Try.pinned (OpenSpec.ofChange machineBothSpec)

/-- ITS FALSE NEIGHBOUR: 'it returns false'. Refute it at one input. -/
def machineBothWrong : ChangeSpec := { name := "machineBoth", fn := fun _ => fun
  | [d1, d2] => { results := [.lit (.bool false)], args := [d1, d2] }
  | _ => none }
def MachineBothWrongFalsely : Prop := machineBothRow.holds Try.pinned (OpenSpec.ofChange machineBothWrong)

/-- 'coppicerlaw.TallyManies': WHATEVER THE INPUT: true; the input reads as it did. -/
def tallyManiesSpec : ChangeSpec := { name := "tallyManies", fn := fun _ => fun
  | [d1, d2] => { results := [.lit (.bool true)], args := [d1, d2] }
  | _ => none }
def tallyManiesRow : OpenClaim := { program := "ytidjihmlkaeemaa", sum := "ad4c87141c3c48a691617fd58c252524ab573d52e9b2ee579c9234799923c543", func := "coppicer/coppicerlaw.TallyManies", spec := "tallyManies", unfollowed := true, recurses := true, apart := false }
def TallyManiesSaid : Prop := tallyManiesRow.holds Try.pinned (OpenSpec.ofChange tallyManiesSpec)

/-- ITS FALSE NEIGHBOUR: 'it returns false'. Refute it at one input. -/
def tallyManiesWrong : ChangeSpec := { name := "tallyManies", fn := fun _ => fun
  | [d1, d2] => { results := [.lit (.bool false)], args := [d1, d2] }
  | _ => none }
def TallyManiesWrongFalsely : Prop := tallyManiesRow.holds Try.pinned (OpenSpec.ofChange tallyManiesWrong)

/-- 'coppicerlaw.TallyWords': WHATEVER THE INPUT: true; the input reads as it did. -/
def tallyWordsSpec : ChangeSpec := { name := "tallyWords", fn := fun _ => fun
  | [d1, d2, d3] => { results := [.lit (.bool true)], args := [d1, d2, d3] }
  | _ => none }
def tallyWordsRow : OpenClaim := { program := "ytidjihmlkaeemaa", sum := "ad4c87141c3c48a691617fd58c252524ab573d52e9b2ee579c9234799923c543", func := "coppicer/coppicerlaw.TallyWords", spec := "tallyWords", unfollowed := true, recurses := true, apart := false }
def TallyWordsSaid : Prop := tallyWordsRow.holds Try.pinned (OpenSpec.ofChange tallyWordsSpec)

/-- ITS FALSE NEIGHBOUR: 'it returns false'. Refute it at one input. -/
def tallyWordsWrong : ChangeSpec := { name := "tallyWords", fn := fun _ => fun
  | [d1, d2, d3] => { results := [.lit (.bool false)], args := [d1, d2, d3] }
  | _ => none }
def TallyWordsWrongFalsely : Prop := tallyWordsRow.holds Try.pinned (OpenSpec.ofChange tallyWordsWrong)

/-- 'coppicerlaw.TallyPlaces': WHATEVER THE INPUT: true; the input reads as it did. -/
def tallyPlacesSpec : ChangeSpec := { name := "tallyPlaces", fn := fun _ => fun
  | [d1, d2] => { results := [.lit (.bool true)], args := [d1, d2] }
  | _ => none }
def tallyPlacesRow : OpenClaim := { program := "ytidjihmlkaeemaa", sum := "ad4c87141c3c48a691617fd58c252524ab573d52e9b2ee579c9234799923c543", func := "coppicer/coppicerlaw.TallyPlaces", spec := "tallyPlaces", unfollowed := true, recurses := true, apart := false }
def TallyPlacesSaid : Prop := tallyPlacesRow.holds Try.pinned (OpenSpec.ofChange tallyPlacesSpec)

/-- ITS FALSE NEIGHBOUR: 'it returns false'. Refute it at one input. -/
def tallyPlacesWrong : ChangeSpec := { name := "tallyPlaces", fn := fun _ => fun
  | [d1, d2] => { results := [.lit (.bool false)], args := [d1, d2] }
  | _ => none }
def TallyPlacesWrongFalsely : Prop := tallyPlacesRow.holds Try.pinned (OpenSpec.ofChange tallyPlacesWrong)

/-- 'coppicerlaw.TallyPumps': WHATEVER THE INPUT: true; the input reads as it did. -/
def tallyPumpsSpec : ChangeSpec := { name := "tallyPumps", fn := fun _ => fun
  | [d1, d2] => { results := [.lit (.bool true)], args := [d1, d2] }
  | _ => none }
def tallyPumpsRow : OpenClaim := { program := "ytidjihmlkaeemaa", sum := "ad4c87141c3c48a691617fd58c252524ab573d52e9b2ee579c9234799923c543", func := "coppicer/coppicerlaw.TallyPumps", spec := "tallyPumps", unfollowed := true, recurses := true, apart := false }
def TallyPumpsSaid : Prop := tallyPumpsRow.holds Try.pinned (OpenSpec.ofChange tallyPumpsSpec)

/-- ITS FALSE NEIGHBOUR: 'it returns false'. Refute it at one input. -/
def tallyPumpsWrong : ChangeSpec := { name := "tallyPumps", fn := fun _ => fun
  | [d1, d2] => { results := [.lit (.bool false)], args := [d1, d2] }
  | _ => none }
def TallyPumpsWrongFalsely : Prop := tallyPumpsRow.holds Try.pinned (OpenSpec.ofChange tallyPumpsWrong)

/-- 'coppicerlaw.TurnerChecks': WHATEVER THE INPUT: true; the input reads as it did. -/
def turnerChecksSpec : ChangeSpec := { name := "turnerChecks", fn := fun _ => fun
  | [d] => { results := [.lit (.bool true)], args := [d] }
  | _ => none }
def turnerChecksRow : OpenClaim := { program := "ytidjihmlkaeemaa", sum := "ad4c87141c3c48a691617fd58c252524ab573d52e9b2ee579c9234799923c543", func := "coppicer/coppicerlaw.TurnerChecks", spec := "turnerChecks", unfollowed := true, recurses := true, apart := false }
def TurnerChecksSaid : Prop := turnerChecksRow.holds Try.pinned (OpenSpec.ofChange turnerChecksSpec)

/-- ITS FALSE NEIGHBOUR: 'it returns false'. Refute it at one input. -/
def turnerChecksWrong : ChangeSpec := { name := "turnerChecks", fn := fun _ => fun
  | [d] => { results := [.lit (.bool false)], args := [d] }
  | _ => none }
def TurnerChecksWrongFalsely : Prop := turnerChecksRow.holds Try.pinned (OpenSpec.ofChange turnerChecksWrong)

/- THE SECOND FORM. 'bulk': how many values and letters a reading holds, each counted each time it is reached (what is shared counts as often as it is met; a slice's spare places count too). A statement '..UptoSaid' is the law's where the arguments, and the package variables that the reading takes, are together of bulk at most 1048576: NARROWER than '..Said'. Prove '..Said' where nothing that the law and all that it calls make is longer than what came in: it says more and counts as full. Else prove '..UptoSaid'. A law counts once. -/
mutual
def uptoBulk {H : Type} : DataW H → Nat
  | .lit (.string bytes) => bytes.length + 1
  | .lit _ => 1
  | .nil => 1
  | .ptr d => uptoBulk d + 1
  | .slice elems spare => uptoBulkAll elems + uptoBulkAll spare + 1
  | .agg parts => uptoBulkAll parts + 1
  | .iface _ d => uptoBulk d + 1
  | .map entries => uptoBulkEntries entries + 1
  | .held _ => 1
def uptoBulkAll {H : Type} : List (DataW H) → Nat
  | [] => 0
  | d :: r => uptoBulk d + uptoBulkAll r
def uptoBulkEntries {H : Type} : List (Lit × DataW H) → Nat
  | [] => 0
  | x :: r => uptoBulkEntry x + uptoBulkEntries r
def uptoBulkEntry {H : Type} : Lit × DataW H → Nat
  | (.string bytes, d) => bytes.length + uptoBulk d + 1
  | (_, d) => uptoBulk d + 1
 end
def uptoSmall : (H : Type) → List (DataW H) → Bool := fun _ ds => decide (uptoBulkAll ds ≤ 1048576)
def OpenSpec.upto (s : _root_.Go.ChangeSpec) : _root_.Go.OpenSpec := { _root_.Go.OpenSpec.ofChange s with cond := some uptoSmall }

/-- 'coppicerlaw.NetBacks', WHERE WHAT IT READS IS OF BULK AT MOST 1048576: true; the input reads as it did. -/
def netBacksUptoRow : OpenClaim := { program := "ytidjihmlkaeemaa", sum := "ad4c87141c3c48a691617fd58c252524ab573d52e9b2ee579c9234799923c543", func := "coppicer/coppicerlaw.NetBacks", spec := "netBacks", apart := false, narrowed := true }
def NetBacksUptoSaid : Prop := netBacksUptoRow.holds Try.pinned (OpenSpec.upto netBacksSpec)

/-- 'coppicerlaw.NetRuns', WHERE WHAT IT READS IS OF BULK AT MOST 1048576: true; the input reads as it did. -/
def netRunsUptoRow : OpenClaim := { program := "ytidjihmlkaeemaa", sum := "ad4c87141c3c48a691617fd58c252524ab573d52e9b2ee579c9234799923c543", func := "coppicer/coppicerlaw.NetRuns", spec := "netRuns", unfollowed := true, recurses := true, apart := false, narrowed := true }
def NetRunsUptoSaid : Prop := netRunsUptoRow.holds Try.pinned (OpenSpec.upto netRunsSpec)

/-- 'coppicerlaw.NetSures', WHERE WHAT IT READS IS OF BULK AT MOST 1048576: true; the input reads as it did. -/
def netSuresUptoRow : OpenClaim := { program := "ytidjihmlkaeemaa", sum := "ad4c87141c3c48a691617fd58c252524ab573d52e9b2ee579c9234799923c543", func := "coppicer/coppicerlaw.NetSures", spec := "netSures", apart := false, narrowed := true }
def NetSuresUptoSaid : Prop := netSuresUptoRow.holds Try.pinned (OpenSpec.upto netSuresSpec)

/-- 'coppicerlaw.MachineChecks', WHERE WHAT IT READS IS OF BULK AT MOST 1048576: true; the input reads as it did. -/
def machineChecksUptoRow : OpenClaim := { program := "ytidjihmlkaeemaa", sum := "ad4c87141c3c48a691617fd58c252524ab573d52e9b2ee579c9234799923c543", func := "coppicer/coppicerlaw.MachineChecks", spec := "machineChecks", unfollowed := true, recurses := true, apart := false, narrowed := true }
def MachineChecksUptoSaid : Prop := machineChecksUptoRow.holds Try.pinned (OpenSpec.upto machineChecksSpec)

/-- 'coppicerlaw.MachineRuns', WHERE WHAT IT READS IS OF BULK AT MOST 1048576: true; the input reads as it did. -/
def machineRunsUptoRow : OpenClaim := { program := "ytidjihmlkaeemaa", sum := "ad4c87141c3c48a691617fd58c252524ab573d52e9b2ee579c9234799923c543", func := "coppicer/coppicerlaw.MachineRuns", spec := "machineRuns", unfollowed := true, recurses := true, apart := false, narrowed := true }
def MachineRunsUptoSaid : Prop := machineRunsUptoRow.holds Try.pinned (OpenSpec.upto machineRunsSpec)

/-- 'coppicerlaw.MachineNot', WHERE WHAT IT READS IS OF BULK AT MOST 1048576: true; the input reads as it did. -/
def machineNotUptoRow : OpenClaim := { program := "ytidjihmlkaeemaa", sum := "ad4c87141c3c48a691617fd58c252524ab573d52e9b2ee579c9234799923c543", func := "coppicer/coppicerlaw.MachineNot", spec := "machineNot", unfollowed := true, recurses := true, apart := false, narrowed := true }
def MachineNotUptoSaid : Prop := machineNotUptoRow.holds Try.pinned (OpenSpec.upto machineNotSpec)

/-- 'coppicerlaw.MachineBoth', WHERE WHAT IT READS IS OF BULK AT MOST 1048576: true; the input reads as it did. -/
def machineBothUptoRow : OpenClaim := { program := "ytidjihmlkaeemaa", sum := "ad4c87141c3c48a691617fd58c252524ab573d52e9b2ee579c9234799923c543", func := "coppicer/coppicerlaw.MachineBoth", spec := "machineBoth", unfollowed := true, recurses := true, apart := false, narrowed := true }
def MachineBothUptoSaid : Prop := machineBothUptoRow.holds Try.pinned (OpenSpec.upto machineBothSpec)

/-- 'coppicerlaw.TallyManies', WHERE WHAT IT READS IS OF BULK AT MOST 1048576: true; the input reads as it did. -/
def tallyManiesUptoRow : OpenClaim := { program := "ytidjihmlkaeemaa", sum := "ad4c87141c3c48a691617fd58c252524ab573d52e9b2ee579c9234799923c543", func := "coppicer/coppicerlaw.TallyManies", spec := "tallyManies", unfollowed := true, recurses := true, apart := false, narrowed := true }
def TallyManiesUptoSaid : Prop := tallyManiesUptoRow.holds Try.pinned (OpenSpec.upto tallyManiesSpec)

/-- 'coppicerlaw.TallyWords', WHERE WHAT IT READS IS OF BULK AT MOST 1048576: true; the input reads as it did. -/
def tallyWordsUptoRow : OpenClaim := { program := "ytidjihmlkaeemaa", sum := "ad4c87141c3c48a691617fd58c252524ab573d52e9b2ee579c9234799923c543", func := "coppicer/coppicerlaw.TallyWords", spec := "tallyWords", unfollowed := true, recurses := true, apart := false, narrowed := true }
def TallyWordsUptoSaid : Prop := tallyWordsUptoRow.holds Try.pinned (OpenSpec.upto tallyWordsSpec)

/-- 'coppicerlaw.TallyPlaces', WHERE WHAT IT READS IS OF BULK AT MOST 1048576: true; the input reads as it did. -/
def tallyPlacesUptoRow : OpenClaim := { program := "ytidjihmlkaeemaa", sum := "ad4c87141c3c48a691617fd58c252524ab573d52e9b2ee579c9234799923c543", func := "coppicer/coppicerlaw.TallyPlaces", spec := "tallyPlaces", unfollowed := true, recurses := true, apart := false, narrowed := true }
def TallyPlacesUptoSaid : Prop := tallyPlacesUptoRow.holds Try.pinned (OpenSpec.upto tallyPlacesSpec)

/-- 'coppicerlaw.TallyPumps', WHERE WHAT IT READS IS OF BULK AT MOST 1048576: true; the input reads as it did. -/
def tallyPumpsUptoRow : OpenClaim := { program := "ytidjihmlkaeemaa", sum := "ad4c87141c3c48a691617fd58c252524ab573d52e9b2ee579c9234799923c543", func := "coppicer/coppicerlaw.TallyPumps", spec := "tallyPumps", unfollowed := true, recurses := true, apart := false, narrowed := true }
def TallyPumpsUptoSaid : Prop := tallyPumpsUptoRow.holds Try.pinned (OpenSpec.upto tallyPumpsSpec)

/-- 'coppicerlaw.TurnerChecks', WHERE WHAT IT READS IS OF BULK AT MOST 1048576: true; the input reads as it did. -/
def turnerChecksUptoRow : OpenClaim := { program := "ytidjihmlkaeemaa", sum := "ad4c87141c3c48a691617fd58c252524ab573d52e9b2ee579c9234799923c543", func := "coppicer/coppicerlaw.TurnerChecks", spec := "turnerChecks", unfollowed := true, recurses := true, apart := false, narrowed := true }
def TurnerChecksUptoSaid : Prop := turnerChecksUptoRow.holds Try.pinned (OpenSpec.upto turnerChecksSpec)

end Rows
end Go.Proofs.Ytidjihmlkaeemaa
