/-
  No cell of these rows narrows 'for every input' (looked for: loops, veiled, ifaces, maps, wideKeys, modest, calm, conditions, laid).
  DERIVED. THE GIVEN ROWS OF THIS SEAT. 9 by the template 'for every input the law returns true; each argument reads behind the call as it read before'; 0 by the template 'total and deterministic' (their statements: YtmfdfffedkejjaaTotals.lean).
  GIVEN WITH THE SEED: the statements are not yours to turn. If you find one false, say at which input.
  Laid BY PROGRAM, IN A SANDBOX (cutbox-rows.mjs): the forced cells as the released guide's own fill.sh prints them over the translation c25d9b1515845fcc… (all of the seat's roots in one cut). By AI agents, Wed Nov 11 2026. No macro, syntax, notation, axiom, sorry.
-/
import Derived.Test.YtmfdfffedkejjaaChecked
import GoSem.Claim
import GoSem.ClaimJoined
import GoSem.ClaimMapViews
import Derived.JoinedTies
import Derived.KernelRfl
namespace Go.Proofs.Ytmfdfffedkejjaa
/- THE CELL 'sum', in the pinned program and in every row, IS THE sha256 OF THE DUMP (.gsa) THAT YtmfdfffedkejjaaProg.lean LOADS. Nothing in Lean hashes anything: it is a label: what it is worth is what the hold of that sum in a sandbox is worth. -/
noncomputable def Try.pinned : Pinned := { name := "ytmfdfffedkejjaa", sum := "c25d9b1515845fcc7dae77b392b4e9de229e5065c9234a110037af3990653464", checked := Try.checked }
namespace Rows
def none {H : Type} : Left H := { results := [], args := [] }

/-- 'coppicerlaw.SentenceBacks': WHATEVER THE INPUT: true; the input reads as it did. -/
def sentenceBacksSpec : ChangeSpec := { name := "sentenceBacks", fn := fun _ => fun
  | [d1, d2, d3] => { results := [.lit (.bool true)], args := [d1, d2, d3] }
  | _ => none }
def sentenceBacksRow : OpenClaim := { program := "ytmfdfffedkejjaa", sum := "c25d9b1515845fcc7dae77b392b4e9de229e5065c9234a110037af3990653464", func := "coppicer/coppicerlaw.SentenceBacks", spec := "sentenceBacks", unfollowed := true, recurses := true, plainKeys := false, apart := false }
def SentenceBacksSaid : Prop := sentenceBacksRow.holds Try.pinned (OpenSpec.ofChange sentenceBacksSpec)

/-- ITS FALSE NEIGHBOUR: 'it returns false'. Refute it at one input. -/
def sentenceBacksWrong : ChangeSpec := { name := "sentenceBacks", fn := fun _ => fun
  | [d1, d2, d3] => { results := [.lit (.bool false)], args := [d1, d2, d3] }
  | _ => none }
def SentenceBacksWrongFalsely : Prop := sentenceBacksRow.holds Try.pinned (OpenSpec.ofChange sentenceBacksWrong)

/-- 'coppicerlaw.SentenceEmpties': WHATEVER THE INPUT: true; the input reads as it did. -/
def sentenceEmptiesSpec : ChangeSpec := { name := "sentenceEmpties", fn := fun _ => fun
  | [d1, d2] => { results := [.lit (.bool true)], args := [d1, d2] }
  | _ => none }
def sentenceEmptiesRow : OpenClaim := { program := "ytmfdfffedkejjaa", sum := "c25d9b1515845fcc7dae77b392b4e9de229e5065c9234a110037af3990653464", func := "coppicer/coppicerlaw.SentenceEmpties", spec := "sentenceEmpties", unfollowed := true, recurses := true, plainKeys := false, apart := false }
def SentenceEmptiesSaid : Prop := sentenceEmptiesRow.holds Try.pinned (OpenSpec.ofChange sentenceEmptiesSpec)

/-- ITS FALSE NEIGHBOUR: 'it returns false'. Refute it at one input. -/
def sentenceEmptiesWrong : ChangeSpec := { name := "sentenceEmpties", fn := fun _ => fun
  | [d1, d2] => { results := [.lit (.bool false)], args := [d1, d2] }
  | _ => none }
def SentenceEmptiesWrongFalsely : Prop := sentenceEmptiesRow.holds Try.pinned (OpenSpec.ofChange sentenceEmptiesWrong)

/-- 'coppicerlaw.SentenceTakes': WHATEVER THE INPUT: true; the input reads as it did. -/
def sentenceTakesSpec : ChangeSpec := { name := "sentenceTakes", fn := fun _ => fun
  | [d1, d2, d3] => { results := [.lit (.bool true)], args := [d1, d2, d3] }
  | _ => none }
def sentenceTakesRow : OpenClaim := { program := "ytmfdfffedkejjaa", sum := "c25d9b1515845fcc7dae77b392b4e9de229e5065c9234a110037af3990653464", func := "coppicer/coppicerlaw.SentenceTakes", spec := "sentenceTakes", unfollowed := true, recurses := true, plainKeys := false, apart := false }
def SentenceTakesSaid : Prop := sentenceTakesRow.holds Try.pinned (OpenSpec.ofChange sentenceTakesSpec)

/-- ITS FALSE NEIGHBOUR: 'it returns false'. Refute it at one input. -/
def sentenceTakesWrong : ChangeSpec := { name := "sentenceTakes", fn := fun _ => fun
  | [d1, d2, d3] => { results := [.lit (.bool false)], args := [d1, d2, d3] }
  | _ => none }
def SentenceTakesWrongFalsely : Prop := sentenceTakesRow.holds Try.pinned (OpenSpec.ofChange sentenceTakesWrong)

/-- 'coppicerlaw.SolveArdens': WHATEVER THE INPUT: true; the input reads as it did. -/
def solveArdensSpec : ChangeSpec := { name := "solveArdens", fn := fun _ => fun
  | [d1, d2, d3, d4] => { results := [.lit (.bool true)], args := [d1, d2, d3, d4] }
  | _ => none }
def solveArdensRow : OpenClaim := { program := "ytmfdfffedkejjaa", sum := "c25d9b1515845fcc7dae77b392b4e9de229e5065c9234a110037af3990653464", func := "coppicer/coppicerlaw.SolveArdens", spec := "solveArdens", unfollowed := true, recurses := true, plainKeys := false, apart := false }
def SolveArdensSaid : Prop := solveArdensRow.holds Try.pinned (OpenSpec.ofChange solveArdensSpec)

/-- ITS FALSE NEIGHBOUR: 'it returns false'. Refute it at one input. -/
def solveArdensWrong : ChangeSpec := { name := "solveArdens", fn := fun _ => fun
  | [d1, d2, d3, d4] => { results := [.lit (.bool false)], args := [d1, d2, d3, d4] }
  | _ => none }
def SolveArdensWrongFalsely : Prop := solveArdensRow.holds Try.pinned (OpenSpec.ofChange solveArdensWrong)

/-- 'coppicerlaw.SolveSentences': WHATEVER THE INPUT: true; the input reads as it did. -/
def solveSentencesSpec : ChangeSpec := { name := "solveSentences", fn := fun _ => fun
  | [d1, d2] => { results := [.lit (.bool true)], args := [d1, d2] }
  | _ => none }
def solveSentencesRow : OpenClaim := { program := "ytmfdfffedkejjaa", sum := "c25d9b1515845fcc7dae77b392b4e9de229e5065c9234a110037af3990653464", func := "coppicer/coppicerlaw.SolveSentences", spec := "solveSentences", unfollowed := true, recurses := true, plainKeys := false, apart := false }
def SolveSentencesSaid : Prop := solveSentencesRow.holds Try.pinned (OpenSpec.ofChange solveSentencesSpec)

/-- ITS FALSE NEIGHBOUR: 'it returns false'. Refute it at one input. -/
def solveSentencesWrong : ChangeSpec := { name := "solveSentences", fn := fun _ => fun
  | [d1, d2] => { results := [.lit (.bool false)], args := [d1, d2] }
  | _ => none }
def SolveSentencesWrongFalsely : Prop := solveSentencesRow.holds Try.pinned (OpenSpec.ofChange solveSentencesWrong)

/-- 'coppicerlaw.SpotNets': WHATEVER THE INPUT: true; the input reads as it did. -/
def spotNetsSpec : ChangeSpec := { name := "spotNets", fn := fun _ => fun
  | [d1, d2, d3] => { results := [.lit (.bool true)], args := [d1, d2, d3] }
  | _ => none }
def spotNetsRow : OpenClaim := { program := "ytmfdfffedkejjaa", sum := "c25d9b1515845fcc7dae77b392b4e9de229e5065c9234a110037af3990653464", func := "coppicer/coppicerlaw.SpotNets", spec := "spotNets", unfollowed := true, recurses := true, plainKeys := false, apart := false }
def SpotNetsSaid : Prop := spotNetsRow.holds Try.pinned (OpenSpec.ofChange spotNetsSpec)

/-- ITS FALSE NEIGHBOUR: 'it returns false'. Refute it at one input. -/
def spotNetsWrong : ChangeSpec := { name := "spotNets", fn := fun _ => fun
  | [d1, d2, d3] => { results := [.lit (.bool false)], args := [d1, d2, d3] }
  | _ => none }
def SpotNetsWrongFalsely : Prop := spotNetsRow.holds Try.pinned (OpenSpec.ofChange spotNetsWrong)

/-- 'coppicerlaw.AfterTakes': WHATEVER THE INPUT: true; the input reads as it did. -/
def afterTakesSpec : ChangeSpec := { name := "afterTakes", fn := fun _ => fun
  | [d1, d2, d3] => { results := [.lit (.bool true)], args := [d1, d2, d3] }
  | _ => none }
def afterTakesRow : OpenClaim := { program := "ytmfdfffedkejjaa", sum := "c25d9b1515845fcc7dae77b392b4e9de229e5065c9234a110037af3990653464", func := "coppicer/coppicerlaw.AfterTakes", spec := "afterTakes", inPlace := ["internal/bytealg.abigen_runtime_cmpstring", "internal/abi.NoEscape"], unfollowed := true, recurses := true, plainKeys := false, apart := false }
def AfterTakesSaid : Prop := afterTakesRow.holds Try.pinned (OpenSpec.ofChange afterTakesSpec)

/-- ITS FALSE NEIGHBOUR: 'it returns false'. Refute it at one input. -/
def afterTakesWrong : ChangeSpec := { name := "afterTakes", fn := fun _ => fun
  | [d1, d2, d3] => { results := [.lit (.bool false)], args := [d1, d2, d3] }
  | _ => none }
def AfterTakesWrongFalsely : Prop := afterTakesRow.holds Try.pinned (OpenSpec.ofChange afterTakesWrong)

/-- 'coppicerlaw.AfterTells': WHATEVER THE INPUT: true; the input reads as it did. -/
def afterTellsSpec : ChangeSpec := { name := "afterTells", fn := fun _ => fun
  | [d1, d2, d3, d4] => { results := [.lit (.bool true)], args := [d1, d2, d3, d4] }
  | _ => none }
def afterTellsRow : OpenClaim := { program := "ytmfdfffedkejjaa", sum := "c25d9b1515845fcc7dae77b392b4e9de229e5065c9234a110037af3990653464", func := "coppicer/coppicerlaw.AfterTells", spec := "afterTells", inPlace := ["internal/bytealg.abigen_runtime_cmpstring", "internal/abi.NoEscape"], unfollowed := true, recurses := true, plainKeys := false, apart := false }
def AfterTellsSaid : Prop := afterTellsRow.holds Try.pinned (OpenSpec.ofChange afterTellsSpec)

/-- ITS FALSE NEIGHBOUR: 'it returns false'. Refute it at one input. -/
def afterTellsWrong : ChangeSpec := { name := "afterTells", fn := fun _ => fun
  | [d1, d2, d3, d4] => { results := [.lit (.bool false)], args := [d1, d2, d3, d4] }
  | _ => none }
def AfterTellsWrongFalsely : Prop := afterTellsRow.holds Try.pinned (OpenSpec.ofChange afterTellsWrong)

/-- 'coppicerlaw.AfterSures': WHATEVER THE INPUT: true; the input reads as it did. -/
def afterSuresSpec : ChangeSpec := { name := "afterSures", fn := fun _ => fun
  | [d1, d2] => { results := [.lit (.bool true)], args := [d1, d2] }
  | _ => none }
def afterSuresRow : OpenClaim := { program := "ytmfdfffedkejjaa", sum := "c25d9b1515845fcc7dae77b392b4e9de229e5065c9234a110037af3990653464", func := "coppicer/coppicerlaw.AfterSures", spec := "afterSures", inPlace := ["internal/bytealg.abigen_runtime_cmpstring", "internal/abi.NoEscape"], unfollowed := true, recurses := true, plainKeys := false, apart := false }
def AfterSuresSaid : Prop := afterSuresRow.holds Try.pinned (OpenSpec.ofChange afterSuresSpec)

/-- ITS FALSE NEIGHBOUR: 'it returns false'. Refute it at one input. -/
def afterSuresWrong : ChangeSpec := { name := "afterSures", fn := fun _ => fun
  | [d1, d2] => { results := [.lit (.bool false)], args := [d1, d2] }
  | _ => none }
def AfterSuresWrongFalsely : Prop := afterSuresRow.holds Try.pinned (OpenSpec.ofChange afterSuresWrong)

/- THE SECOND FORM. 'bulk': how many values and letters a reading holds, each counted each time it is reached (what is shared counts as often as it is met; a slice's spare places count too). A statement '..UptoSaid' is the law's where the arguments, and the package variables that the reading takes, are together of bulk at most 1048576: NARROWER than '..Said'. Prove '..Said' where nothing that the law and all that it calls make is longer than what came in: it says more and counts as full. Else prove '..UptoSaid'. A law counts once. -/
mutual
def uptoBulk {H : Type} : DataW H → Nat
  | .lit (.string bytes) => bytes.length + 1
  | .lit _ => 1
  | .nil => 1
  | .ptr d => uptoBulk d + 1
  | .slice elems spare => uptoBulkAll elems + uptoBulkAll spare + 1
  | .agg parts => uptoBulkAll parts + 1
  | .iface _ d => uptoBulk d + 1
  | .map entries => uptoBulkEntries entries + 1
  | .held _ => 1
def uptoBulkAll {H : Type} : List (DataW H) → Nat
  | [] => 0
  | d :: r => uptoBulk d + uptoBulkAll r
def uptoBulkEntries {H : Type} : List (Lit × DataW H) → Nat
  | [] => 0
  | x :: r => uptoBulkEntry x + uptoBulkEntries r
def uptoBulkEntry {H : Type} : Lit × DataW H → Nat
  | (.string bytes, d) => bytes.length + uptoBulk d + 1
  | (_, d) => uptoBulk d + 1
 end
def uptoSmall : (H : Type) → List (DataW H) → Bool := fun _ ds => decide (uptoBulkAll ds ≤ 1048576)
def OpenSpec.upto (s : _root_.Go.ChangeSpec) : _root_.Go.OpenSpec := { _root_.Go.OpenSpec.ofChange s with cond := some uptoSmall }

/-- 'coppicerlaw.SentenceBacks', WHERE WHAT IT READS IS OF BULK AT MOST 1048576: true; the input reads as it did. -/
def sentenceBacksUptoRow : OpenClaim := { program := "ytmfdfffedkejjaa", sum := "c25d9b1515845fcc7dae77b392b4e9de229e5065c9234a110037af3990653464", func := "coppicer/coppicerlaw.SentenceBacks", spec := "sentenceBacks", unfollowed := true, recurses := true, plainKeys := false, apart := false, narrowed := true }
def SentenceBacksUptoSaid : Prop := sentenceBacksUptoRow.holds Try.pinned (OpenSpec.upto sentenceBacksSpec)

/-- 'coppicerlaw.SentenceEmpties', WHERE WHAT IT READS IS OF BULK AT MOST 1048576: true; the input reads as it did. -/
def sentenceEmptiesUptoRow : OpenClaim := { program := "ytmfdfffedkejjaa", sum := "c25d9b1515845fcc7dae77b392b4e9de229e5065c9234a110037af3990653464", func := "coppicer/coppicerlaw.SentenceEmpties", spec := "sentenceEmpties", unfollowed := true, recurses := true, plainKeys := false, apart := false, narrowed := true }
def SentenceEmptiesUptoSaid : Prop := sentenceEmptiesUptoRow.holds Try.pinned (OpenSpec.upto sentenceEmptiesSpec)

/-- 'coppicerlaw.SentenceTakes', WHERE WHAT IT READS IS OF BULK AT MOST 1048576: true; the input reads as it did. -/
def sentenceTakesUptoRow : OpenClaim := { program := "ytmfdfffedkejjaa", sum := "c25d9b1515845fcc7dae77b392b4e9de229e5065c9234a110037af3990653464", func := "coppicer/coppicerlaw.SentenceTakes", spec := "sentenceTakes", unfollowed := true, recurses := true, plainKeys := false, apart := false, narrowed := true }
def SentenceTakesUptoSaid : Prop := sentenceTakesUptoRow.holds Try.pinned (OpenSpec.upto sentenceTakesSpec)

/-- 'coppicerlaw.SolveArdens', WHERE WHAT IT READS IS OF BULK AT MOST 1048576: true; the input reads as it did. -/
def solveArdensUptoRow : OpenClaim := { program := "ytmfdfffedkejjaa", sum := "c25d9b1515845fcc7dae77b392b4e9de229e5065c9234a110037af3990653464", func := "coppicer/coppicerlaw.SolveArdens", spec := "solveArdens", unfollowed := true, recurses := true, plainKeys := false, apart := false, narrowed := true }
def SolveArdensUptoSaid : Prop := solveArdensUptoRow.holds Try.pinned (OpenSpec.upto solveArdensSpec)

/-- 'coppicerlaw.SolveSentences', WHERE WHAT IT READS IS OF BULK AT MOST 1048576: true; the input reads as it did. -/
def solveSentencesUptoRow : OpenClaim := { program := "ytmfdfffedkejjaa", sum := "c25d9b1515845fcc7dae77b392b4e9de229e5065c9234a110037af3990653464", func := "coppicer/coppicerlaw.SolveSentences", spec := "solveSentences", unfollowed := true, recurses := true, plainKeys := false, apart := false, narrowed := true }
def SolveSentencesUptoSaid : Prop := solveSentencesUptoRow.holds Try.pinned (OpenSpec.upto solveSentencesSpec)

/-- 'coppicerlaw.SpotNets', WHERE WHAT IT READS IS OF BULK AT MOST 1048576: true; the input reads as it did. -/
def spotNetsUptoRow : OpenClaim := { program := "ytmfdfffedkejjaa", sum := "c25d9b1515845fcc7dae77b392b4e9de229e5065c9234a110037af3990653464", func := "coppicer/coppicerlaw.SpotNets", spec := "spotNets", unfollowed := true, recurses := true, plainKeys := false, apart := false, narrowed := true }
def SpotNetsUptoSaid : Prop := spotNetsUptoRow.holds Try.pinned (OpenSpec.upto spotNetsSpec)

/-- 'coppicerlaw.AfterTakes', WHERE WHAT IT READS IS OF BULK AT MOST 1048576: true; the input reads as it did. -/
def afterTakesUptoRow : OpenClaim := { program := "ytmfdfffedkejjaa", sum := "c25d9b1515845fcc7dae77b392b4e9de229e5065c9234a110037af3990653464", func := "coppicer/coppicerlaw.AfterTakes", spec := "afterTakes", inPlace := ["internal/bytealg.abigen_runtime_cmpstring", "internal/abi.NoEscape"], unfollowed := true, recurses := true, plainKeys := false, apart := false, narrowed := true }
def AfterTakesUptoSaid : Prop := afterTakesUptoRow.holds Try.pinned (OpenSpec.upto afterTakesSpec)

/-- 'coppicerlaw.AfterTells', WHERE WHAT IT READS IS OF BULK AT MOST 1048576: true; the input reads as it did. -/
def afterTellsUptoRow : OpenClaim := { program := "ytmfdfffedkejjaa", sum := "c25d9b1515845fcc7dae77b392b4e9de229e5065c9234a110037af3990653464", func := "coppicer/coppicerlaw.AfterTells", spec := "afterTells", inPlace := ["internal/bytealg.abigen_runtime_cmpstring", "internal/abi.NoEscape"], unfollowed := true, recurses := true, plainKeys := false, apart := false, narrowed := true }
def AfterTellsUptoSaid : Prop := afterTellsUptoRow.holds Try.pinned (OpenSpec.upto afterTellsSpec)

/-- 'coppicerlaw.AfterSures', WHERE WHAT IT READS IS OF BULK AT MOST 1048576: true; the input reads as it did. -/
def afterSuresUptoRow : OpenClaim := { program := "ytmfdfffedkejjaa", sum := "c25d9b1515845fcc7dae77b392b4e9de229e5065c9234a110037af3990653464", func := "coppicer/coppicerlaw.AfterSures", spec := "afterSures", inPlace := ["internal/bytealg.abigen_runtime_cmpstring", "internal/abi.NoEscape"], unfollowed := true, recurses := true, plainKeys := false, apart := false, narrowed := true }
def AfterSuresUptoSaid : Prop := afterSuresUptoRow.holds Try.pinned (OpenSpec.upto afterSuresSpec)

end Rows
end Go.Proofs.Ytmfdfffedkejjaa
