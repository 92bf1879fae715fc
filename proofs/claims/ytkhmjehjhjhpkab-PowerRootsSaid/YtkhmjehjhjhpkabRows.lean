/-
  No cell of these rows narrows 'for every input' (looked for: loops, veiled, ifaces, maps, wideKeys, modest, calm, conditions, laid).
  DERIVED. THE GIVEN ROWS OF THIS SEAT. 12 by the template 'for every input the law returns true; each argument reads behind the call as it read before'; 0 by the template 'total and deterministic' (their statements: YtkhmjehjhjhpkabTotals.lean).
  GIVEN WITH THE SEED: the statements are not yours to turn. If you find one false, say at which input.
  Laid BY PROGRAM, IN A SANDBOX (cutbox-rows.mjs): the forced cells as the released guide's own fill.sh prints them over the translation c16a4353e2cf9544… (all of the seat's roots in one cut). By AI agents, Wed Nov 11 2026. No macro, syntax, notation, axiom, sorry.
-/
import Derived.Test.YtkhmjehjhjhpkabChecked
import GoSem.Claim
import GoSem.ClaimJoined
import GoSem.ClaimMapViews
import Derived.JoinedTies
import Derived.KernelRfl
namespace Go.Proofs.Ytkhmjehjhjhpkab
/- THE CELL 'sum', in the pinned program and in every row, IS THE sha256 OF THE DUMP (.gsa) THAT YtkhmjehjhjhpkabProg.lean LOADS. Nothing in Lean hashes anything: it is a label: what it is worth is what the hold of that sum in a sandbox is worth. -/
noncomputable def Try.pinned : Pinned := { name := "ytkhmjehjhjhpkab", sum := "c16a4353e2cf95448438a2db97ad093a2f057e88f56041ab6d08b2363326b568", checked := Try.checked }
namespace Rows
def none {H : Type} : Left H := { results := [], args := [] }

/-- 'coppicerlaw.PowerRoots': WHATEVER THE INPUT: true; the input reads as it did. -/
def powerRootsSpec : ChangeSpec := { name := "powerRoots", fn := fun _ => fun
  | [d] => { results := [.lit (.bool true)], args := [d] }
  | _ => none }
def powerRootsRow : OpenClaim := { program := "ytkhmjehjhjhpkab", sum := "c16a4353e2cf95448438a2db97ad093a2f057e88f56041ab6d08b2363326b568", func := "coppicer/coppicerlaw.PowerRoots", spec := "powerRoots", apart := false }
def PowerRootsSaid : Prop := powerRootsRow.holds Try.pinned (OpenSpec.ofChange powerRootsSpec)

/-- ITS FALSE NEIGHBOUR: 'it returns false'. Refute it at one input. -/
def powerRootsWrong : ChangeSpec := { name := "powerRoots", fn := fun _ => fun
  | [d] => { results := [.lit (.bool false)], args := [d] }
  | _ => none }
def PowerRootsWrongFalsely : Prop := powerRootsRow.holds Try.pinned (OpenSpec.ofChange powerRootsWrong)

/-- 'coppicerlaw.EditShares': WHATEVER THE INPUT: true; the input reads as it did. -/
def editSharesSpec : ChangeSpec := { name := "editShares", fn := fun _ => fun
  | [d1, d2] => { results := [.lit (.bool true)], args := [d1, d2] }
  | _ => none }
def editSharesRow : OpenClaim := { program := "ytkhmjehjhjhpkab", sum := "c16a4353e2cf95448438a2db97ad093a2f057e88f56041ab6d08b2363326b568", func := "coppicer/coppicerlaw.EditShares", spec := "editShares", inPlace := ["internal/bytealg.Compare"], unfollowed := true, recurses := true, apart := false }
def EditSharesSaid : Prop := editSharesRow.holds Try.pinned (OpenSpec.ofChange editSharesSpec)

/-- ITS FALSE NEIGHBOUR: 'it returns false'. Refute it at one input. -/
def editSharesWrong : ChangeSpec := { name := "editShares", fn := fun _ => fun
  | [d1, d2] => { results := [.lit (.bool false)], args := [d1, d2] }
  | _ => none }
def EditSharesWrongFalsely : Prop := editSharesRow.holds Try.pinned (OpenSpec.ofChange editSharesWrong)

/-- 'coppicerlaw.BorderFinds': WHATEVER THE INPUT: true; the input reads as it did. -/
def borderFindsSpec : ChangeSpec := { name := "borderFinds", fn := fun _ => fun
  | [d1, d2] => { results := [.lit (.bool true)], args := [d1, d2] }
  | _ => none }
def borderFindsRow : OpenClaim := { program := "ytkhmjehjhjhpkab", sum := "c16a4353e2cf95448438a2db97ad093a2f057e88f56041ab6d08b2363326b568", func := "coppicer/coppicerlaw.BorderFinds", spec := "borderFinds", apart := false }
def BorderFindsSaid : Prop := borderFindsRow.holds Try.pinned (OpenSpec.ofChange borderFindsSpec)

/-- ITS FALSE NEIGHBOUR: 'it returns false'. Refute it at one input. -/
def borderFindsWrong : ChangeSpec := { name := "borderFinds", fn := fun _ => fun
  | [d1, d2] => { results := [.lit (.bool false)], args := [d1, d2] }
  | _ => none }
def BorderFindsWrongFalsely : Prop := borderFindsRow.holds Try.pinned (OpenSpec.ofChange borderFindsWrong)

/-- 'coppicerlaw.BracketIs': WHATEVER THE INPUT: true; the input reads as it did. -/
def bracketIsSpec : ChangeSpec := { name := "bracketIs", fn := fun _ => fun
  | [d] => { results := [.lit (.bool true)], args := [d] }
  | _ => none }
def bracketIsRow : OpenClaim := { program := "ytkhmjehjhjhpkab", sum := "c16a4353e2cf95448438a2db97ad093a2f057e88f56041ab6d08b2363326b568", func := "coppicer/coppicerlaw.BracketIs", spec := "bracketIs", apart := false }
def BracketIsSaid : Prop := bracketIsRow.holds Try.pinned (OpenSpec.ofChange bracketIsSpec)

/-- ITS FALSE NEIGHBOUR: 'it returns false'. Refute it at one input. -/
def bracketIsWrong : ChangeSpec := { name := "bracketIs", fn := fun _ => fun
  | [d] => { results := [.lit (.bool false)], args := [d] }
  | _ => none }
def BracketIsWrongFalsely : Prop := bracketIsRow.holds Try.pinned (OpenSpec.ofChange bracketIsWrong)

/-- 'coppicerlaw.BracketTurns': WHATEVER THE INPUT: true; the input reads as it did. -/
def bracketTurnsSpec : ChangeSpec := { name := "bracketTurns", fn := fun _ => fun
  | [d] => { results := [.lit (.bool true)], args := [d] }
  | _ => none }
def bracketTurnsRow : OpenClaim := { program := "ytkhmjehjhjhpkab", sum := "c16a4353e2cf95448438a2db97ad093a2f057e88f56041ab6d08b2363326b568", func := "coppicer/coppicerlaw.BracketTurns", spec := "bracketTurns", apart := false }
def BracketTurnsSaid : Prop := bracketTurnsRow.holds Try.pinned (OpenSpec.ofChange bracketTurnsSpec)

/-- ITS FALSE NEIGHBOUR: 'it returns false'. Refute it at one input. -/
def bracketTurnsWrong : ChangeSpec := { name := "bracketTurns", fn := fun _ => fun
  | [d] => { results := [.lit (.bool false)], args := [d] }
  | _ => none }
def BracketTurnsWrongFalsely : Prop := bracketTurnsRow.holds Try.pinned (OpenSpec.ofChange bracketTurnsWrong)

/-- 'coppicerlaw.BracketManies': WHATEVER THE INPUT: true; the input reads as it did. -/
def bracketManiesSpec : ChangeSpec := { name := "bracketManies", fn := fun _ => fun
  | [d] => { results := [.lit (.bool true)], args := [d] }
  | _ => none }
def bracketManiesRow : OpenClaim := { program := "ytkhmjehjhjhpkab", sum := "c16a4353e2cf95448438a2db97ad093a2f057e88f56041ab6d08b2363326b568", func := "coppicer/coppicerlaw.BracketManies", spec := "bracketManies", apart := false }
def BracketManiesSaid : Prop := bracketManiesRow.holds Try.pinned (OpenSpec.ofChange bracketManiesSpec)

/-- ITS FALSE NEIGHBOUR: 'it returns false'. Refute it at one input. -/
def bracketManiesWrong : ChangeSpec := { name := "bracketManies", fn := fun _ => fun
  | [d] => { results := [.lit (.bool false)], args := [d] }
  | _ => none }
def BracketManiesWrongFalsely : Prop := bracketManiesRow.holds Try.pinned (OpenSpec.ofChange bracketManiesWrong)

/-- 'coppicerlaw.BracketPairs': WHATEVER THE INPUT: true; the input reads as it did. -/
def bracketPairsSpec : ChangeSpec := { name := "bracketPairs", fn := fun _ => fun
  | [d] => { results := [.lit (.bool true)], args := [d] }
  | _ => none }
def bracketPairsRow : OpenClaim := { program := "ytkhmjehjhjhpkab", sum := "c16a4353e2cf95448438a2db97ad093a2f057e88f56041ab6d08b2363326b568", func := "coppicer/coppicerlaw.BracketPairs", spec := "bracketPairs", apart := false }
def BracketPairsSaid : Prop := bracketPairsRow.holds Try.pinned (OpenSpec.ofChange bracketPairsSpec)

/-- ITS FALSE NEIGHBOUR: 'it returns false'. Refute it at one input. -/
def bracketPairsWrong : ChangeSpec := { name := "bracketPairs", fn := fun _ => fun
  | [d] => { results := [.lit (.bool false)], args := [d] }
  | _ => none }
def BracketPairsWrongFalsely : Prop := bracketPairsRow.holds Try.pinned (OpenSpec.ofChange bracketPairsWrong)

/-- 'coppicerlaw.BracketWords': WHATEVER THE INPUT: true; the input reads as it did. -/
def bracketWordsSpec : ChangeSpec := { name := "bracketWords", fn := fun _ => fun
  | [d1, d2] => { results := [.lit (.bool true)], args := [d1, d2] }
  | _ => none }
def bracketWordsRow : OpenClaim := { program := "ytkhmjehjhjhpkab", sum := "c16a4353e2cf95448438a2db97ad093a2f057e88f56041ab6d08b2363326b568", func := "coppicer/coppicerlaw.BracketWords", spec := "bracketWords", recurses := true, apart := false }
def BracketWordsSaid : Prop := bracketWordsRow.holds Try.pinned (OpenSpec.ofChange bracketWordsSpec)

/-- ITS FALSE NEIGHBOUR: 'it returns false'. Refute it at one input. -/
def bracketWordsWrong : ChangeSpec := { name := "bracketWords", fn := fun _ => fun
  | [d1, d2] => { results := [.lit (.bool false)], args := [d1, d2] }
  | _ => none }
def BracketWordsWrongFalsely : Prop := bracketWordsRow.holds Try.pinned (OpenSpec.ofChange bracketWordsWrong)

/-- 'coppicerlaw.BracketRanks': WHATEVER THE INPUT: true; the input reads as it did. -/
def bracketRanksSpec : ChangeSpec := { name := "bracketRanks", fn := fun _ => fun
  | [d] => { results := [.lit (.bool true)], args := [d] }
  | _ => none }
def bracketRanksRow : OpenClaim := { program := "ytkhmjehjhjhpkab", sum := "c16a4353e2cf95448438a2db97ad093a2f057e88f56041ab6d08b2363326b568", func := "coppicer/coppicerlaw.BracketRanks", spec := "bracketRanks", recurses := true, apart := false }
def BracketRanksSaid : Prop := bracketRanksRow.holds Try.pinned (OpenSpec.ofChange bracketRanksSpec)

/-- ITS FALSE NEIGHBOUR: 'it returns false'. Refute it at one input. -/
def bracketRanksWrong : ChangeSpec := { name := "bracketRanks", fn := fun _ => fun
  | [d] => { results := [.lit (.bool false)], args := [d] }
  | _ => none }
def BracketRanksWrongFalsely : Prop := bracketRanksRow.holds Try.pinned (OpenSpec.ofChange bracketRanksWrong)

/-- 'coppicerlaw.NetChecks': WHATEVER THE INPUT: true; the input reads as it did. -/
def netChecksSpec : ChangeSpec := { name := "netChecks", fn := fun _ => fun
  | [d] => { results := [.lit (.bool true)], args := [d] }
  | _ => none }
def netChecksRow : OpenClaim := { program := "ytkhmjehjhjhpkab", sum := "c16a4353e2cf95448438a2db97ad093a2f057e88f56041ab6d08b2363326b568", func := "coppicer/coppicerlaw.NetChecks", spec := "netChecks", apart := false }
def NetChecksSaid : Prop := netChecksRow.holds Try.pinned (OpenSpec.ofChange netChecksSpec)

/-- ITS FALSE NEIGHBOUR: 'it returns false'. Refute it at one input. -/
def netChecksWrong : ChangeSpec := { name := "netChecks", fn := fun _ => fun
  | [d] => { results := [.lit (.bool false)], args := [d] }
  | _ => none }
def NetChecksWrongFalsely : Prop := netChecksRow.holds Try.pinned (OpenSpec.ofChange netChecksWrong)

/-- 'coppicerlaw.SentenceChecks': WHATEVER THE INPUT: true; the input reads as it did. -/
def sentenceChecksSpec : ChangeSpec := { name := "sentenceChecks", fn := fun _ => fun
  | [d1, d2] => { results := [.lit (.bool true)], args := [d1, d2] }
  | _ => none }
def sentenceChecksRow : OpenClaim := { program := "ytkhmjehjhjhpkab", sum := "c16a4353e2cf95448438a2db97ad093a2f057e88f56041ab6d08b2363326b568", func := "coppicer/coppicerlaw.SentenceChecks", spec := "sentenceChecks", unfollowed := true, recurses := true, apart := false }
def SentenceChecksSaid : Prop := sentenceChecksRow.holds Try.pinned (OpenSpec.ofChange sentenceChecksSpec)

/-- ITS FALSE NEIGHBOUR: 'it returns false'. Refute it at one input. -/
def sentenceChecksWrong : ChangeSpec := { name := "sentenceChecks", fn := fun _ => fun
  | [d1, d2] => { results := [.lit (.bool false)], args := [d1, d2] }
  | _ => none }
def SentenceChecksWrongFalsely : Prop := sentenceChecksRow.holds Try.pinned (OpenSpec.ofChange sentenceChecksWrong)

/-- 'coppicerlaw.PlainIs': WHATEVER THE INPUT: true; the input reads as it did. -/
def plainIsSpec : ChangeSpec := { name := "plainIs", fn := fun _ => fun
  | [d] => { results := [.lit (.bool true)], args := [d] }
  | _ => none }
def plainIsRow : OpenClaim := { program := "ytkhmjehjhjhpkab", sum := "c16a4353e2cf95448438a2db97ad093a2f057e88f56041ab6d08b2363326b568", func := "coppicer/coppicerlaw.PlainIs", spec := "plainIs", unfollowed := true, recurses := true, apart := false }
def PlainIsSaid : Prop := plainIsRow.holds Try.pinned (OpenSpec.ofChange plainIsSpec)

/-- ITS FALSE NEIGHBOUR: 'it returns false'. Refute it at one input. -/
def plainIsWrong : ChangeSpec := { name := "plainIs", fn := fun _ => fun
  | [d] => { results := [.lit (.bool false)], args := [d] }
  | _ => none }
def PlainIsWrongFalsely : Prop := plainIsRow.holds Try.pinned (OpenSpec.ofChange plainIsWrong)

/- THE SECOND FORM. 'bulk': how many values and letters a reading holds, each counted each time it is reached (what is shared counts as often as it is met; a slice's spare places count too). A statement '..UptoSaid' is the law's where the arguments, and the package variables that the reading takes, are together of bulk at most 1048576: NARROWER than '..Said'. Prove '..Said' where nothing that the law and all that it calls make is longer than what came in: it says more and counts as full. Else prove '..UptoSaid'. A law counts once. -/
mutual
def uptoBulk {H : Type} : DataW H → Nat
  | .lit (.string bytes) => bytes.length + 1
  | .lit _ => 1
  | .nil => 1
  | .ptr d => uptoBulk d + 1
  | .slice elems spare => uptoBulkAll elems + uptoBulkAll spare + 1
  | .agg parts => uptoBulkAll parts + 1
  | .iface _ d => uptoBulk d + 1
  | .map entries => uptoBulkEntries entries + 1
  | .held _ => 1
def uptoBulkAll {H : Type} : List (DataW H) → Nat
  | [] => 0
  | d :: r => uptoBulk d + uptoBulkAll r
def uptoBulkEntries {H : Type} : List (Lit × DataW H) → Nat
  | [] => 0
  | x :: r => uptoBulkEntry x + uptoBulkEntries r
def uptoBulkEntry {H : Type} : Lit × DataW H → Nat
  | (.string bytes, d) => bytes.length + uptoBulk d + 1
  | (_, d) => uptoBulk d + 1
 end
def uptoSmall : (H : Type) → List (DataW H) → Bool := fun _ ds => decide (uptoBulkAll ds ≤ 1048576)
def OpenSpec.upto (s : _root_.Go.ChangeSpec) : _root_.Go.OpenSpec := { _root_.Go.OpenSpec.ofChange s with cond := some uptoSmall }

/-- 'coppicerlaw.PowerRoots', WHERE WHAT IT READS IS OF BULK AT MOST 1048576: true; the input reads as it did. -/
def powerRootsUptoRow : OpenClaim := { program := "ytkhmjehjhjhpkab", sum := "c16a4353e2cf95448438a2db97ad093a2f057e88f56041ab6d08b2363326b568", func := "coppicer/coppicerlaw.PowerRoots", spec := "powerRoots", apart := false, narrowed := true }
def PowerRootsUptoSaid : Prop := powerRootsUptoRow.holds Try.pinned (OpenSpec.upto powerRootsSpec)

/-- 'coppicerlaw.EditShares', WHERE WHAT IT READS IS OF BULK AT MOST 1048576: true; the input reads as it did. -/
def editSharesUptoRow : OpenClaim := { program := "ytkhmjehjhjhpkab", sum := "c16a4353e2cf95448438a2db97ad093a2f057e88f56041ab6d08b2363326b568", func := "coppicer/coppicerlaw.EditShares", spec := "editShares", inPlace := ["internal/bytealg.Compare"], unfollowed := true, recurses := true, apart := false, narrowed := true }
def EditSharesUptoSaid : Prop := editSharesUptoRow.holds Try.pinned (OpenSpec.upto editSharesSpec)

/-- 'coppicerlaw.BorderFinds', WHERE WHAT IT READS IS OF BULK AT MOST 1048576: true; the input reads as it did. -/
def borderFindsUptoRow : OpenClaim := { program := "ytkhmjehjhjhpkab", sum := "c16a4353e2cf95448438a2db97ad093a2f057e88f56041ab6d08b2363326b568", func := "coppicer/coppicerlaw.BorderFinds", spec := "borderFinds", apart := false, narrowed := true }
def BorderFindsUptoSaid : Prop := borderFindsUptoRow.holds Try.pinned (OpenSpec.upto borderFindsSpec)

/-- 'coppicerlaw.BracketIs', WHERE WHAT IT READS IS OF BULK AT MOST 1048576: true; the input reads as it did. -/
def bracketIsUptoRow : OpenClaim := { program := "ytkhmjehjhjhpkab", sum := "c16a4353e2cf95448438a2db97ad093a2f057e88f56041ab6d08b2363326b568", func := "coppicer/coppicerlaw.BracketIs", spec := "bracketIs", apart := false, narrowed := true }
def BracketIsUptoSaid : Prop := bracketIsUptoRow.holds Try.pinned (OpenSpec.upto bracketIsSpec)

/-- 'coppicerlaw.BracketTurns', WHERE WHAT IT READS IS OF BULK AT MOST 1048576: true; the input reads as it did. -/
def bracketTurnsUptoRow : OpenClaim := { program := "ytkhmjehjhjhpkab", sum := "c16a4353e2cf95448438a2db97ad093a2f057e88f56041ab6d08b2363326b568", func := "coppicer/coppicerlaw.BracketTurns", spec := "bracketTurns", apart := false, narrowed := true }
def BracketTurnsUptoSaid : Prop := bracketTurnsUptoRow.holds Try.pinned (OpenSpec.upto bracketTurnsSpec)

/-- 'coppicerlaw.BracketManies', WHERE WHAT IT READS IS OF BULK AT MOST 1048576: true; the input reads as it did. -/
def bracketManiesUptoRow : OpenClaim := { program := "ytkhmjehjhjhpkab", sum := "c16a4353e2cf95448438a2db97ad093a2f057e88f56041ab6d08b2363326b568", func := "coppicer/coppicerlaw.BracketManies", spec := "bracketManies", apart := false, narrowed := true }
def BracketManiesUptoSaid : Prop := bracketManiesUptoRow.holds Try.pinned (OpenSpec.upto bracketManiesSpec)

/-- 'coppicerlaw.BracketPairs', WHERE WHAT IT READS IS OF BULK AT MOST 1048576: true; the input reads as it did. -/
def bracketPairsUptoRow : OpenClaim := { program := "ytkhmjehjhjhpkab", sum := "c16a4353e2cf95448438a2db97ad093a2f057e88f56041ab6d08b2363326b568", func := "coppicer/coppicerlaw.BracketPairs", spec := "bracketPairs", apart := false, narrowed := true }
def BracketPairsUptoSaid : Prop := bracketPairsUptoRow.holds Try.pinned (OpenSpec.upto bracketPairsSpec)

/-- 'coppicerlaw.BracketWords', WHERE WHAT IT READS IS OF BULK AT MOST 1048576: true; the input reads as it did. -/
def bracketWordsUptoRow : OpenClaim := { program := "ytkhmjehjhjhpkab", sum := "c16a4353e2cf95448438a2db97ad093a2f057e88f56041ab6d08b2363326b568", func := "coppicer/coppicerlaw.BracketWords", spec := "bracketWords", recurses := true, apart := false, narrowed := true }
def BracketWordsUptoSaid : Prop := bracketWordsUptoRow.holds Try.pinned (OpenSpec.upto bracketWordsSpec)

/-- 'coppicerlaw.BracketRanks', WHERE WHAT IT READS IS OF BULK AT MOST 1048576: true; the input reads as it did. -/
def bracketRanksUptoRow : OpenClaim := { program := "ytkhmjehjhjhpkab", sum := "c16a4353e2cf95448438a2db97ad093a2f057e88f56041ab6d08b2363326b568", func := "coppicer/coppicerlaw.BracketRanks", spec := "bracketRanks", recurses := true, apart := false, narrowed := true }
def BracketRanksUptoSaid : Prop := bracketRanksUptoRow.holds Try.pinned (OpenSpec.upto bracketRanksSpec)

/-- 'coppicerlaw.NetChecks', WHERE WHAT IT READS IS OF BULK AT MOST 1048576: true; the input reads as it did. -/
def netChecksUptoRow : OpenClaim := { program := "ytkhmjehjhjhpkab", sum := "c16a4353e2cf95448438a2db97ad093a2f057e88f56041ab6d08b2363326b568", func := "coppicer/coppicerlaw.NetChecks", spec := "netChecks", apart := false, narrowed := true }
def NetChecksUptoSaid : Prop := netChecksUptoRow.holds Try.pinned (OpenSpec.upto netChecksSpec)

/-- 'coppicerlaw.SentenceChecks', WHERE WHAT IT READS IS OF BULK AT MOST 1048576: true; the input reads as it did. -/
def sentenceChecksUptoRow : OpenClaim := { program := "ytkhmjehjhjhpkab", sum := "c16a4353e2cf95448438a2db97ad093a2f057e88f56041ab6d08b2363326b568", func := "coppicer/coppicerlaw.SentenceChecks", spec := "sentenceChecks", unfollowed := true, recurses := true, apart := false, narrowed := true }
def SentenceChecksUptoSaid : Prop := sentenceChecksUptoRow.holds Try.pinned (OpenSpec.upto sentenceChecksSpec)

/-- 'coppicerlaw.PlainIs', WHERE WHAT IT READS IS OF BULK AT MOST 1048576: true; the input reads as it did. -/
def plainIsUptoRow : OpenClaim := { program := "ytkhmjehjhjhpkab", sum := "c16a4353e2cf95448438a2db97ad093a2f057e88f56041ab6d08b2363326b568", func := "coppicer/coppicerlaw.PlainIs", spec := "plainIs", unfollowed := true, recurses := true, apart := false, narrowed := true }
def PlainIsUptoSaid : Prop := plainIsUptoRow.holds Try.pinned (OpenSpec.upto plainIsSpec)

end Rows
end Go.Proofs.Ytkhmjehjhjhpkab
