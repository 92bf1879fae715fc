/-
  No cell of these rows narrows 'for every input' (looked for: loops, veiled, ifaces, maps, wideKeys, modest, calm, conditions, laid).
  DERIVED. THE GIVEN ROWS OF THIS SEAT. 4 by the template 'for every input the law returns true; each argument reads behind the call as it read before'; 0 by the template 'total and deterministic' (their statements: YtcfodnildhhocaaTotals.lean).
  GIVEN WITH THE SEED: the statements are not yours to turn. If you find one false, say at which input.
  Laid BY PROGRAM, IN A SANDBOX (cutbox-rows.mjs): the forced cells as the released guide's own fill.sh prints them over the translation 913d2f7bb88ae4c6… (all of the seat's roots in one cut). By AI agents, Wed Nov 11 2026. No macro, syntax, notation, axiom, sorry.
-/
import Derived.Test.YtcfodnildhhocaaChecked
import GoSem.Claim
import GoSem.ClaimJoined
import GoSem.ClaimMapViews
import Derived.JoinedTies
import Derived.KernelRfl
namespace Go.Proofs.Ytcfodnildhhocaa
/- THE CELL 'sum', in the pinned program and in every row, IS THE sha256 OF THE DUMP (.gsa) THAT YtcfodnildhhocaaProg.lean LOADS. Nothing in Lean hashes anything: it is a label: what it is worth is what the hold of that sum in a sandbox is worth. -/
noncomputable def Try.pinned : Pinned := { name := "ytcfodnildhhocaa", sum := "913d2f7bb88ae4c6c93d0535b8412edd4d496c71d47ce67f41517a18ad5e07f7", checked := Try.checked }
namespace Rows
def none {H : Type} : Left H := { results := [], args := [] }

/-- 'coppicerlaw.TurnerThens': WHATEVER THE INPUT: true; the input reads as it did. -/
def turnerThensSpec : ChangeSpec := { name := "turnerThens", fn := fun _ => fun
  | [d1, d2] => { results := [.lit (.bool true)], args := [d1, d2] }
  | _ => none }
def turnerThensRow : OpenClaim := { program := "ytcfodnildhhocaa", sum := "913d2f7bb88ae4c6c93d0535b8412edd4d496c71d47ce67f41517a18ad5e07f7", func := "coppicer/coppicerlaw.TurnerThens", spec := "turnerThens", unfollowed := true, recurses := true, apart := false }
def TurnerThensSaid : Prop := turnerThensRow.holds Try.pinned (OpenSpec.ofChange turnerThensSpec)

/-- ITS FALSE NEIGHBOUR: 'it returns false'. Refute it at one input. -/
def turnerThensWrong : ChangeSpec := { name := "turnerThens", fn := fun _ => fun
  | [d1, d2] => { results := [.lit (.bool false)], args := [d1, d2] }
  | _ => none }
def TurnerThensWrongFalsely : Prop := turnerThensRow.holds Try.pinned (OpenSpec.ofChange turnerThensWrong)

/-- 'coppicerlaw.LeastAlikes': WHATEVER THE INPUT: true; the input reads as it did. -/
def leastAlikesSpec : ChangeSpec := { name := "leastAlikes", fn := fun _ => fun
  | [d] => { results := [.lit (.bool true)], args := [d] }
  | _ => none }
def leastAlikesRow : OpenClaim := { program := "ytcfodnildhhocaa", sum := "913d2f7bb88ae4c6c93d0535b8412edd4d496c71d47ce67f41517a18ad5e07f7", func := "coppicer/coppicerlaw.LeastAlikes", spec := "leastAlikes", unfollowed := true, recurses := true, apart := false }
def LeastAlikesSaid : Prop := leastAlikesRow.holds Try.pinned (OpenSpec.ofChange leastAlikesSpec)

/-- ITS FALSE NEIGHBOUR: 'it returns false'. Refute it at one input. -/
def leastAlikesWrong : ChangeSpec := { name := "leastAlikes", fn := fun _ => fun
  | [d] => { results := [.lit (.bool false)], args := [d] }
  | _ => none }
def LeastAlikesWrongFalsely : Prop := leastAlikesRow.holds Try.pinned (OpenSpec.ofChange leastAlikesWrong)

/-- 'coppicerlaw.LeastTells': WHATEVER THE INPUT: true; the input reads as it did. -/
def leastTellsSpec : ChangeSpec := { name := "leastTells", fn := fun _ => fun
  | [d] => { results := [.lit (.bool true)], args := [d] }
  | _ => none }
def leastTellsRow : OpenClaim := { program := "ytcfodnildhhocaa", sum := "913d2f7bb88ae4c6c93d0535b8412edd4d496c71d47ce67f41517a18ad5e07f7", func := "coppicer/coppicerlaw.LeastTells", spec := "leastTells", unfollowed := true, recurses := true, apart := false }
def LeastTellsSaid : Prop := leastTellsRow.holds Try.pinned (OpenSpec.ofChange leastTellsSpec)

/-- ITS FALSE NEIGHBOUR: 'it returns false'. Refute it at one input. -/
def leastTellsWrong : ChangeSpec := { name := "leastTells", fn := fun _ => fun
  | [d] => { results := [.lit (.bool false)], args := [d] }
  | _ => none }
def LeastTellsWrongFalsely : Prop := leastTellsRow.holds Try.pinned (OpenSpec.ofChange leastTellsWrong)

/-- 'coppicerlaw.LeastSames': WHATEVER THE INPUT: true; the input reads as it did. -/
def leastSamesSpec : ChangeSpec := { name := "leastSames", fn := fun _ => fun
  | [d1, d2] => { results := [.lit (.bool true)], args := [d1, d2] }
  | _ => none }
def leastSamesRow : OpenClaim := { program := "ytcfodnildhhocaa", sum := "913d2f7bb88ae4c6c93d0535b8412edd4d496c71d47ce67f41517a18ad5e07f7", func := "coppicer/coppicerlaw.LeastSames", spec := "leastSames", unfollowed := true, recurses := true, apart := false }
def LeastSamesSaid : Prop := leastSamesRow.holds Try.pinned (OpenSpec.ofChange leastSamesSpec)

/-- ITS FALSE NEIGHBOUR: 'it returns false'. Refute it at one input. -/
def leastSamesWrong : ChangeSpec := { name := "leastSames", fn := fun _ => fun
  | [d1, d2] => { results := [.lit (.bool false)], args := [d1, d2] }
  | _ => none }
def LeastSamesWrongFalsely : Prop := leastSamesRow.holds Try.pinned (OpenSpec.ofChange leastSamesWrong)

/- THE SECOND FORM. 'bulk': how many values and letters a reading holds, each counted each time it is reached (what is shared counts as often as it is met; a slice's spare places count too). A statement '..UptoSaid' is the law's where the arguments, and the package variables that the reading takes, are together of bulk at most 1048576: NARROWER than '..Said'. Prove '..Said' where nothing that the law and all that it calls make is longer than what came in: it says more and counts as full. Else prove '..UptoSaid'. A law counts once. -/
mutual
def uptoBulk {H : Type} : DataW H → Nat
  | .lit (.string bytes) => bytes.length + 1
  | .lit _ => 1
  | .nil => 1
  | .ptr d => uptoBulk d + 1
  | .slice elems spare => uptoBulkAll elems + uptoBulkAll spare + 1
  | .agg parts => uptoBulkAll parts + 1
  | .iface _ d => uptoBulk d + 1
  | .map entries => uptoBulkEntries entries + 1
  | .held _ => 1
def uptoBulkAll {H : Type} : List (DataW H) → Nat
  | [] => 0
  | d :: r => uptoBulk d + uptoBulkAll r
def uptoBulkEntries {H : Type} : List (Lit × DataW H) → Nat
  | [] => 0
  | x :: r => uptoBulkEntry x + uptoBulkEntries r
def uptoBulkEntry {H : Type} : Lit × DataW H → Nat
  | (.string bytes, d) => bytes.length + uptoBulk d + 1
  | (_, d) => uptoBulk d + 1
 end
def uptoSmall : (H : Type) → List (DataW H) → Bool := fun _ ds => decide (uptoBulkAll ds ≤ 1048576)
def OpenSpec.upto (s : _root_.Go.ChangeSpec) : _root_.Go.OpenSpec := { _root_.Go.OpenSpec.ofChange s with cond := some uptoSmall }

/-- 'coppicerlaw.TurnerThens', WHERE WHAT IT READS IS OF BULK AT MOST 1048576: true; the input reads as it did. -/
def turnerThensUptoRow : OpenClaim := { program := "ytcfodnildhhocaa", sum := "913d2f7bb88ae4c6c93d0535b8412edd4d496c71d47ce67f41517a18ad5e07f7", func := "coppicer/coppicerlaw.TurnerThens", spec := "turnerThens", unfollowed := true, recurses := true, apart := false, narrowed := true }
def TurnerThensUptoSaid : Prop := turnerThensUptoRow.holds Try.pinned (OpenSpec.upto turnerThensSpec)

/-- 'coppicerlaw.LeastAlikes', WHERE WHAT IT READS IS OF BULK AT MOST 1048576: true; the input reads as it did. -/
def leastAlikesUptoRow : OpenClaim := { program := "ytcfodnildhhocaa", sum := "913d2f7bb88ae4c6c93d0535b8412edd4d496c71d47ce67f41517a18ad5e07f7", func := "coppicer/coppicerlaw.LeastAlikes", spec := "leastAlikes", unfollowed := true, recurses := true, apart := false, narrowed := true }
def LeastAlikesUptoSaid : Prop := leastAlikesUptoRow.holds Try.pinned (OpenSpec.upto leastAlikesSpec)

/-- 'coppicerlaw.LeastTells', WHERE WHAT IT READS IS OF BULK AT MOST 1048576: true; the input reads as it did. -/
def leastTellsUptoRow : OpenClaim := { program := "ytcfodnildhhocaa", sum := "913d2f7bb88ae4c6c93d0535b8412edd4d496c71d47ce67f41517a18ad5e07f7", func := "coppicer/coppicerlaw.LeastTells", spec := "leastTells", unfollowed := true, recurses := true, apart := false, narrowed := true }
def LeastTellsUptoSaid : Prop := leastTellsUptoRow.holds Try.pinned (OpenSpec.upto leastTellsSpec)

/-- 'coppicerlaw.LeastSames', WHERE WHAT IT READS IS OF BULK AT MOST 1048576: true; the input reads as it did. -/
def leastSamesUptoRow : OpenClaim := { program := "ytcfodnildhhocaa", sum := "913d2f7bb88ae4c6c93d0535b8412edd4d496c71d47ce67f41517a18ad5e07f7", func := "coppicer/coppicerlaw.LeastSames", spec := "leastSames", unfollowed := true, recurses := true, apart := false, narrowed := true }
def LeastSamesUptoSaid : Prop := leastSamesUptoRow.holds Try.pinned (OpenSpec.upto leastSamesSpec)

end Rows
end Go.Proofs.Ytcfodnildhhocaa
