/-
  No cell of these rows narrows 'for every input' (looked for: loops, veiled, ifaces, maps, wideKeys, modest, calm, conditions, laid).
  DERIVED. THE GIVEN ROWS OF THIS SEAT. 12 by the template 'for every input the law returns true; each argument reads behind the call as it read before'; 0 by the template 'total and deterministic' (their statements: YtnjfcbhbebokeaaTotals.lean).
  GIVEN WITH THE SEED: the statements are not yours to turn. If you find one false, say at which input.
  Laid BY PROGRAM, IN A SANDBOX (cutbox-rows.mjs): the forced cells as the released guide's own fill.sh prints them over the translation 88d00b09676ee3d5… (all of the seat's roots in one cut). By AI agents, Wed Nov 11 2026. No macro, syntax, notation, axiom, sorry.
-/
import Derived.Test.YtnjfcbhbebokeaaChecked
import GoSem.Claim
import GoSem.ClaimJoined
import GoSem.ClaimMapViews
import Derived.JoinedTies
import Derived.KernelRfl
namespace Go.Proofs.Ytnjfcbhbebokeaa
/- THE CELL 'sum', in the pinned program and in every row, IS THE sha256 OF THE DUMP (.gsa) THAT YtnjfcbhbebokeaaProg.lean LOADS. Nothing in Lean hashes anything: it is a label: what it is worth is what the hold of that sum in a sandbox is worth. -/
noncomputable def Try.pinned : Pinned := { name := "ytnjfcbhbebokeaa", sum := "88d00b09676ee3d59ffa08c881144fb0df302e04a0463fb61427f20c3f18841d", checked := Try.checked }
namespace Rows
def none {H : Type} : Left H := { results := [], args := [] }

/-- 'coppicerlaw.GrammarChecks': WHATEVER THE INPUT: true; the input reads as it did. -/
def grammarChecksSpec : ChangeSpec := { name := "grammarChecks", fn := fun _ => fun
  | [d] => { results := [.lit (.bool true)], args := [d] }
  | _ => none }
def grammarChecksRow : OpenClaim := { program := "ytnjfcbhbebokeaa", sum := "88d00b09676ee3d59ffa08c881144fb0df302e04a0463fb61427f20c3f18841d", func := "coppicer/coppicerlaw.GrammarChecks", spec := "grammarChecks", unfollowed := true, recurses := true, plainKeys := false, apart := false }
def GrammarChecksSaid : Prop := grammarChecksRow.holds Try.pinned (OpenSpec.ofChange grammarChecksSpec)

/-- ITS FALSE NEIGHBOUR: 'it returns false'. Refute it at one input. -/
def grammarChecksWrong : ChangeSpec := { name := "grammarChecks", fn := fun _ => fun
  | [d] => { results := [.lit (.bool false)], args := [d] }
  | _ => none }
def GrammarChecksWrongFalsely : Prop := grammarChecksRow.holds Try.pinned (OpenSpec.ofChange grammarChecksWrong)

/-- 'coppicerlaw.GrammarComes': WHATEVER THE INPUT: true; the input reads as it did. -/
def grammarComesSpec : ChangeSpec := { name := "grammarComes", fn := fun _ => fun
  | [d] => { results := [.lit (.bool true)], args := [d] }
  | _ => none }
def grammarComesRow : OpenClaim := { program := "ytnjfcbhbebokeaa", sum := "88d00b09676ee3d59ffa08c881144fb0df302e04a0463fb61427f20c3f18841d", func := "coppicer/coppicerlaw.GrammarComes", spec := "grammarComes", unfollowed := true, recurses := true, plainKeys := false, apart := false }
def GrammarComesSaid : Prop := grammarComesRow.holds Try.pinned (OpenSpec.ofChange grammarComesSpec)

/-- ITS FALSE NEIGHBOUR: 'it returns false'. Refute it at one input. -/
def grammarComesWrong : ChangeSpec := { name := "grammarComes", fn := fun _ => fun
  | [d] => { results := [.lit (.bool false)], args := [d] }
  | _ => none }
def GrammarComesWrongFalsely : Prop := grammarComesRow.holds Try.pinned (OpenSpec.ofChange grammarComesWrong)

/-- 'coppicerlaw.GrammarMakes': WHATEVER THE INPUT: true; the input reads as it did. -/
def grammarMakesSpec : ChangeSpec := { name := "grammarMakes", fn := fun _ => fun
  | [d] => { results := [.lit (.bool true)], args := [d] }
  | _ => none }
def grammarMakesRow : OpenClaim := { program := "ytnjfcbhbebokeaa", sum := "88d00b09676ee3d59ffa08c881144fb0df302e04a0463fb61427f20c3f18841d", func := "coppicer/coppicerlaw.GrammarMakes", spec := "grammarMakes", unfollowed := true, recurses := true, plainKeys := false, apart := false }
def GrammarMakesSaid : Prop := grammarMakesRow.holds Try.pinned (OpenSpec.ofChange grammarMakesSpec)

/-- ITS FALSE NEIGHBOUR: 'it returns false'. Refute it at one input. -/
def grammarMakesWrong : ChangeSpec := { name := "grammarMakes", fn := fun _ => fun
  | [d] => { results := [.lit (.bool false)], args := [d] }
  | _ => none }
def GrammarMakesWrongFalsely : Prop := grammarMakesRow.holds Try.pinned (OpenSpec.ofChange grammarMakesWrong)

/-- 'coppicerlaw.GrammarVoids': WHATEVER THE INPUT: true; the input reads as it did. -/
def grammarVoidsSpec : ChangeSpec := { name := "grammarVoids", fn := fun _ => fun
  | [d] => { results := [.lit (.bool true)], args := [d] }
  | _ => none }
def grammarVoidsRow : OpenClaim := { program := "ytnjfcbhbebokeaa", sum := "88d00b09676ee3d59ffa08c881144fb0df302e04a0463fb61427f20c3f18841d", func := "coppicer/coppicerlaw.GrammarVoids", spec := "grammarVoids", unfollowed := true, recurses := true, plainKeys := false, apart := false }
def GrammarVoidsSaid : Prop := grammarVoidsRow.holds Try.pinned (OpenSpec.ofChange grammarVoidsSpec)

/-- ITS FALSE NEIGHBOUR: 'it returns false'. Refute it at one input. -/
def grammarVoidsWrong : ChangeSpec := { name := "grammarVoids", fn := fun _ => fun
  | [d] => { results := [.lit (.bool false)], args := [d] }
  | _ => none }
def GrammarVoidsWrongFalsely : Prop := grammarVoidsRow.holds Try.pinned (OpenSpec.ofChange grammarVoidsWrong)

/-- 'coppicerlaw.GrammarSteps': WHATEVER THE INPUT: true; the input reads as it did. -/
def grammarStepsSpec : ChangeSpec := { name := "grammarSteps", fn := fun _ => fun
  | [d1, d2, d3, d4] => { results := [.lit (.bool true)], args := [d1, d2, d3, d4] }
  | _ => none }
def grammarStepsRow : OpenClaim := { program := "ytnjfcbhbebokeaa", sum := "88d00b09676ee3d59ffa08c881144fb0df302e04a0463fb61427f20c3f18841d", func := "coppicer/coppicerlaw.GrammarSteps", spec := "grammarSteps", unfollowed := true, recurses := true, plainKeys := false, apart := false }
def GrammarStepsSaid : Prop := grammarStepsRow.holds Try.pinned (OpenSpec.ofChange grammarStepsSpec)

/-- ITS FALSE NEIGHBOUR: 'it returns false'. Refute it at one input. -/
def grammarStepsWrong : ChangeSpec := { name := "grammarSteps", fn := fun _ => fun
  | [d1, d2, d3, d4] => { results := [.lit (.bool false)], args := [d1, d2, d3, d4] }
  | _ => none }
def GrammarStepsWrongFalsely : Prop := grammarStepsRow.holds Try.pinned (OpenSpec.ofChange grammarStepsWrong)

/-- 'coppicerlaw.TableNames': WHATEVER THE INPUT: true; the input reads as it did. -/
def tableNamesSpec : ChangeSpec := { name := "tableNames", fn := fun _ => fun
  | [d1, d2] => { results := [.lit (.bool true)], args := [d1, d2] }
  | _ => none }
def tableNamesRow : OpenClaim := { program := "ytnjfcbhbebokeaa", sum := "88d00b09676ee3d59ffa08c881144fb0df302e04a0463fb61427f20c3f18841d", func := "coppicer/coppicerlaw.TableNames", spec := "tableNames", unfollowed := true, recurses := true, plainKeys := false, apart := false }
def TableNamesSaid : Prop := tableNamesRow.holds Try.pinned (OpenSpec.ofChange tableNamesSpec)

/-- ITS FALSE NEIGHBOUR: 'it returns false'. Refute it at one input. -/
def tableNamesWrong : ChangeSpec := { name := "tableNames", fn := fun _ => fun
  | [d1, d2] => { results := [.lit (.bool false)], args := [d1, d2] }
  | _ => none }
def TableNamesWrongFalsely : Prop := tableNamesRow.holds Try.pinned (OpenSpec.ofChange tableNamesWrong)

/-- 'coppicerlaw.TableTakes': WHATEVER THE INPUT: true; the input reads as it did. -/
def tableTakesSpec : ChangeSpec := { name := "tableTakes", fn := fun _ => fun
  | [d1, d2] => { results := [.lit (.bool true)], args := [d1, d2] }
  | _ => none }
def tableTakesRow : OpenClaim := { program := "ytnjfcbhbebokeaa", sum := "88d00b09676ee3d59ffa08c881144fb0df302e04a0463fb61427f20c3f18841d", func := "coppicer/coppicerlaw.TableTakes", spec := "tableTakes", unfollowed := true, recurses := true, plainKeys := false, apart := false }
def TableTakesSaid : Prop := tableTakesRow.holds Try.pinned (OpenSpec.ofChange tableTakesSpec)

/-- ITS FALSE NEIGHBOUR: 'it returns false'. Refute it at one input. -/
def tableTakesWrong : ChangeSpec := { name := "tableTakes", fn := fun _ => fun
  | [d1, d2] => { results := [.lit (.bool false)], args := [d1, d2] }
  | _ => none }
def TableTakesWrongFalsely : Prop := tableTakesRow.holds Try.pinned (OpenSpec.ofChange tableTakesWrong)

/-- 'coppicerlaw.TableTrees': WHATEVER THE INPUT: true; the input reads as it did. -/
def tableTreesSpec : ChangeSpec := { name := "tableTrees", fn := fun _ => fun
  | [d1, d2] => { results := [.lit (.bool true)], args := [d1, d2] }
  | _ => none }
def tableTreesRow : OpenClaim := { program := "ytnjfcbhbebokeaa", sum := "88d00b09676ee3d59ffa08c881144fb0df302e04a0463fb61427f20c3f18841d", func := "coppicer/coppicerlaw.TableTrees", spec := "tableTrees", unfollowed := true, recurses := true, plainKeys := false, apart := false }
def TableTreesSaid : Prop := tableTreesRow.holds Try.pinned (OpenSpec.ofChange tableTreesSpec)

/-- ITS FALSE NEIGHBOUR: 'it returns false'. Refute it at one input. -/
def tableTreesWrong : ChangeSpec := { name := "tableTrees", fn := fun _ => fun
  | [d1, d2] => { results := [.lit (.bool false)], args := [d1, d2] }
  | _ => none }
def TableTreesWrongFalsely : Prop := tableTreesRow.holds Try.pinned (OpenSpec.ofChange tableTreesWrong)

/-- 'coppicerlaw.AheadFirsts': WHATEVER THE INPUT: true; the input reads as it did. -/
def aheadFirstsSpec : ChangeSpec := { name := "aheadFirsts", fn := fun _ => fun
  | [d] => { results := [.lit (.bool true)], args := [d] }
  | _ => none }
def aheadFirstsRow : OpenClaim := { program := "ytnjfcbhbebokeaa", sum := "88d00b09676ee3d59ffa08c881144fb0df302e04a0463fb61427f20c3f18841d", func := "coppicer/coppicerlaw.AheadFirsts", spec := "aheadFirsts", unfollowed := true, recurses := true, plainKeys := false, apart := false }
def AheadFirstsSaid : Prop := aheadFirstsRow.holds Try.pinned (OpenSpec.ofChange aheadFirstsSpec)

/-- ITS FALSE NEIGHBOUR: 'it returns false'. Refute it at one input. -/
def aheadFirstsWrong : ChangeSpec := { name := "aheadFirsts", fn := fun _ => fun
  | [d] => { results := [.lit (.bool false)], args := [d] }
  | _ => none }
def AheadFirstsWrongFalsely : Prop := aheadFirstsRow.holds Try.pinned (OpenSpec.ofChange aheadFirstsWrong)

/-- 'coppicerlaw.AheadFollows': WHATEVER THE INPUT: true; the input reads as it did. -/
def aheadFollowsSpec : ChangeSpec := { name := "aheadFollows", fn := fun _ => fun
  | [d] => { results := [.lit (.bool true)], args := [d] }
  | _ => none }
def aheadFollowsRow : OpenClaim := { program := "ytnjfcbhbebokeaa", sum := "88d00b09676ee3d59ffa08c881144fb0df302e04a0463fb61427f20c3f18841d", func := "coppicer/coppicerlaw.AheadFollows", spec := "aheadFollows", unfollowed := true, recurses := true, plainKeys := false, apart := false }
def AheadFollowsSaid : Prop := aheadFollowsRow.holds Try.pinned (OpenSpec.ofChange aheadFollowsSpec)

/-- ITS FALSE NEIGHBOUR: 'it returns false'. Refute it at one input. -/
def aheadFollowsWrong : ChangeSpec := { name := "aheadFollows", fn := fun _ => fun
  | [d] => { results := [.lit (.bool false)], args := [d] }
  | _ => none }
def AheadFollowsWrongFalsely : Prop := aheadFollowsRow.holds Try.pinned (OpenSpec.ofChange aheadFollowsWrong)

/-- 'coppicerlaw.AheadClears': WHATEVER THE INPUT: true; the input reads as it did. -/
def aheadClearsSpec : ChangeSpec := { name := "aheadClears", fn := fun _ => fun
  | [d] => { results := [.lit (.bool true)], args := [d] }
  | _ => none }
def aheadClearsRow : OpenClaim := { program := "ytnjfcbhbebokeaa", sum := "88d00b09676ee3d59ffa08c881144fb0df302e04a0463fb61427f20c3f18841d", func := "coppicer/coppicerlaw.AheadClears", spec := "aheadClears", unfollowed := true, recurses := true, plainKeys := false, apart := false }
def AheadClearsSaid : Prop := aheadClearsRow.holds Try.pinned (OpenSpec.ofChange aheadClearsSpec)

/-- ITS FALSE NEIGHBOUR: 'it returns false'. Refute it at one input. -/
def aheadClearsWrong : ChangeSpec := { name := "aheadClears", fn := fun _ => fun
  | [d] => { results := [.lit (.bool false)], args := [d] }
  | _ => none }
def AheadClearsWrongFalsely : Prop := aheadClearsRow.holds Try.pinned (OpenSpec.ofChange aheadClearsWrong)

/-- 'coppicerlaw.AheadParses': WHATEVER THE INPUT: true; the input reads as it did. -/
def aheadParsesSpec : ChangeSpec := { name := "aheadParses", fn := fun _ => fun
  | [d1, d2] => { results := [.lit (.bool true)], args := [d1, d2] }
  | _ => none }
def aheadParsesRow : OpenClaim := { program := "ytnjfcbhbebokeaa", sum := "88d00b09676ee3d59ffa08c881144fb0df302e04a0463fb61427f20c3f18841d", func := "coppicer/coppicerlaw.AheadParses", spec := "aheadParses", unfollowed := true, recurses := true, plainKeys := false, apart := false }
def AheadParsesSaid : Prop := aheadParsesRow.holds Try.pinned (OpenSpec.ofChange aheadParsesSpec)

/-- ITS FALSE NEIGHBOUR: 'it returns false'. Refute it at one input. -/
def aheadParsesWrong : ChangeSpec := { name := "aheadParses", fn := fun _ => fun
  | [d1, d2] => { results := [.lit (.bool false)], args := [d1, d2] }
  | _ => none }
def AheadParsesWrongFalsely : Prop := aheadParsesRow.holds Try.pinned (OpenSpec.ofChange aheadParsesWrong)

/- THE SECOND FORM. 'bulk': how many values and letters a reading holds, each counted each time it is reached (what is shared counts as often as it is met; a slice's spare places count too). A statement '..UptoSaid' is the law's where the arguments, and the package variables that the reading takes, are together of bulk at most 1048576: NARROWER than '..Said'. Prove '..Said' where nothing that the law and all that it calls make is longer than what came in: it says more and counts as full. Else prove '..UptoSaid'. A law counts once. -/
mutual
def uptoBulk {H : Type} : DataW H → Nat
  | .lit (.string bytes) => bytes.length + 1
  | .lit _ => 1
  | .nil => 1
  | .ptr d => uptoBulk d + 1
  | .slice elems spare => uptoBulkAll elems + uptoBulkAll spare + 1
  | .agg parts => uptoBulkAll parts + 1
  | .iface _ d => uptoBulk d + 1
  | .map entries => uptoBulkEntries entries + 1
  | .held _ => 1
def uptoBulkAll {H : Type} : List (DataW H) → Nat
  | [] => 0
  | d :: r => uptoBulk d + uptoBulkAll r
def uptoBulkEntries {H : Type} : List (Lit × DataW H) → Nat
  | [] => 0
  | x :: r => uptoBulkEntry x + uptoBulkEntries r
def uptoBulkEntry {H : Type} : Lit × DataW H → Nat
  | (.string bytes, d) => bytes.length + uptoBulk d + 1
  | (_, d) => uptoBulk d + 1
 end
def uptoSmall : (H : Type) → List (DataW H) → Bool := fun _ ds => decide (uptoBulkAll ds ≤ 1048576)
def OpenSpec.upto (s : _root_.Go.ChangeSpec) : _root_.Go.OpenSpec := { _root_.Go.OpenSpec.ofChange s with cond := some uptoSmall }

/-- 'coppicerlaw.GrammarChecks', WHERE WHAT IT READS IS OF BULK AT MOST 1048576: true; the input reads as it did. -/
def grammarChecksUptoRow : OpenClaim := { program := "ytnjfcbhbebokeaa", sum := "88d00b09676ee3d59ffa08c881144fb0df302e04a0463fb61427f20c3f18841d", func := "coppicer/coppicerlaw.GrammarChecks", spec := "grammarChecks", unfollowed := true, recurses := true, plainKeys := false, apart := false, narrowed := true }
def GrammarChecksUptoSaid : Prop := grammarChecksUptoRow.holds Try.pinned (OpenSpec.upto grammarChecksSpec)

/-- 'coppicerlaw.GrammarComes', WHERE WHAT IT READS IS OF BULK AT MOST 1048576: true; the input reads as it did. -/
def grammarComesUptoRow : OpenClaim := { program := "ytnjfcbhbebokeaa", sum := "88d00b09676ee3d59ffa08c881144fb0df302e04a0463fb61427f20c3f18841d", func := "coppicer/coppicerlaw.GrammarComes", spec := "grammarComes", unfollowed := true, recurses := true, plainKeys := false, apart := false, narrowed := true }
def GrammarComesUptoSaid : Prop := grammarComesUptoRow.holds Try.pinned (OpenSpec.upto grammarComesSpec)

/-- 'coppicerlaw.GrammarMakes', WHERE WHAT IT READS IS OF BULK AT MOST 1048576: true; the input reads as it did. -/
def grammarMakesUptoRow : OpenClaim := { program := "ytnjfcbhbebokeaa", sum := "88d00b09676ee3d59ffa08c881144fb0df302e04a0463fb61427f20c3f18841d", func := "coppicer/coppicerlaw.GrammarMakes", spec := "grammarMakes", unfollowed := true, recurses := true, plainKeys := false, apart := false, narrowed := true }
def GrammarMakesUptoSaid : Prop := grammarMakesUptoRow.holds Try.pinned (OpenSpec.upto grammarMakesSpec)

/-- 'coppicerlaw.GrammarVoids', WHERE WHAT IT READS IS OF BULK AT MOST 1048576: true; the input reads as it did. -/
def grammarVoidsUptoRow : OpenClaim := { program := "ytnjfcbhbebokeaa", sum := "88d00b09676ee3d59ffa08c881144fb0df302e04a0463fb61427f20c3f18841d", func := "coppicer/coppicerlaw.GrammarVoids", spec := "grammarVoids", unfollowed := true, recurses := true, plainKeys := false, apart := false, narrowed := true }
def GrammarVoidsUptoSaid : Prop := grammarVoidsUptoRow.holds Try.pinned (OpenSpec.upto grammarVoidsSpec)

/-- 'coppicerlaw.GrammarSteps', WHERE WHAT IT READS IS OF BULK AT MOST 1048576: true; the input reads as it did. -/
def grammarStepsUptoRow : OpenClaim := { program := "ytnjfcbhbebokeaa", sum := "88d00b09676ee3d59ffa08c881144fb0df302e04a0463fb61427f20c3f18841d", func := "coppicer/coppicerlaw.GrammarSteps", spec := "grammarSteps", unfollowed := true, recurses := true, plainKeys := false, apart := false, narrowed := true }
def GrammarStepsUptoSaid : Prop := grammarStepsUptoRow.holds Try.pinned (OpenSpec.upto grammarStepsSpec)

/-- 'coppicerlaw.TableNames', WHERE WHAT IT READS IS OF BULK AT MOST 1048576: true; the input reads as it did. -/
def tableNamesUptoRow : OpenClaim := { program := "ytnjfcbhbebokeaa", sum := "88d00b09676ee3d59ffa08c881144fb0df302e04a0463fb61427f20c3f18841d", func := "coppicer/coppicerlaw.TableNames", spec := "tableNames", unfollowed := true, recurses := true, plainKeys := false, apart := false, narrowed := true }
def TableNamesUptoSaid : Prop := tableNamesUptoRow.holds Try.pinned (OpenSpec.upto tableNamesSpec)

/-- 'coppicerlaw.TableTakes', WHERE WHAT IT READS IS OF BULK AT MOST 1048576: true; the input reads as it did. -/
def tableTakesUptoRow : OpenClaim := { program := "ytnjfcbhbebokeaa", sum := "88d00b09676ee3d59ffa08c881144fb0df302e04a0463fb61427f20c3f18841d", func := "coppicer/coppicerlaw.TableTakes", spec := "tableTakes", unfollowed := true, recurses := true, plainKeys := false, apart := false, narrowed := true }
def TableTakesUptoSaid : Prop := tableTakesUptoRow.holds Try.pinned (OpenSpec.upto tableTakesSpec)

/-- 'coppicerlaw.TableTrees', WHERE WHAT IT READS IS OF BULK AT MOST 1048576: true; the input reads as it did. -/
def tableTreesUptoRow : OpenClaim := { program := "ytnjfcbhbebokeaa", sum := "88d00b09676ee3d59ffa08c881144fb0df302e04a0463fb61427f20c3f18841d", func := "coppicer/coppicerlaw.TableTrees", spec := "tableTrees", unfollowed := true, recurses := true, plainKeys := false, apart := false, narrowed := true }
def TableTreesUptoSaid : Prop := tableTreesUptoRow.holds Try.pinned (OpenSpec.upto tableTreesSpec)

/-- 'coppicerlaw.AheadFirsts', WHERE WHAT IT READS IS OF BULK AT MOST 1048576: true; the input reads as it did. -/
def aheadFirstsUptoRow : OpenClaim := { program := "ytnjfcbhbebokeaa", sum := "88d00b09676ee3d59ffa08c881144fb0df302e04a0463fb61427f20c3f18841d", func := "coppicer/coppicerlaw.AheadFirsts", spec := "aheadFirsts", unfollowed := true, recurses := true, plainKeys := false, apart := false, narrowed := true }
def AheadFirstsUptoSaid : Prop := aheadFirstsUptoRow.holds Try.pinned (OpenSpec.upto aheadFirstsSpec)

/-- 'coppicerlaw.AheadFollows', WHERE WHAT IT READS IS OF BULK AT MOST 1048576: true; the input reads as it did. -/
def aheadFollowsUptoRow : OpenClaim := { program := "ytnjfcbhbebokeaa", sum := "88d00b09676ee3d59ffa08c881144fb0df302e04a0463fb61427f20c3f18841d", func := "coppicer/coppicerlaw.AheadFollows", spec := "aheadFollows", unfollowed := true, recurses := true, plainKeys := false, apart := false, narrowed := true }
def AheadFollowsUptoSaid : Prop := aheadFollowsUptoRow.holds Try.pinned (OpenSpec.upto aheadFollowsSpec)

/-- 'coppicerlaw.AheadClears', WHERE WHAT IT READS IS OF BULK AT MOST 1048576: true; the input reads as it did. -/
def aheadClearsUptoRow : OpenClaim := { program := "ytnjfcbhbebokeaa", sum := "88d00b09676ee3d59ffa08c881144fb0df302e04a0463fb61427f20c3f18841d", func := "coppicer/coppicerlaw.AheadClears", spec := "aheadClears", unfollowed := true, recurses := true, plainKeys := false, apart := false, narrowed := true }
def AheadClearsUptoSaid : Prop := aheadClearsUptoRow.holds Try.pinned (OpenSpec.upto aheadClearsSpec)

/-- 'coppicerlaw.AheadParses', WHERE WHAT IT READS IS OF BULK AT MOST 1048576: true; the input reads as it did. -/
def aheadParsesUptoRow : OpenClaim := { program := "ytnjfcbhbebokeaa", sum := "88d00b09676ee3d59ffa08c881144fb0df302e04a0463fb61427f20c3f18841d", func := "coppicer/coppicerlaw.AheadParses", spec := "aheadParses", unfollowed := true, recurses := true, plainKeys := false, apart := false, narrowed := true }
def AheadParsesUptoSaid : Prop := aheadParsesUptoRow.holds Try.pinned (OpenSpec.upto aheadParsesSpec)

end Rows
end Go.Proofs.Ytnjfcbhbebokeaa
