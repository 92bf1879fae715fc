/-
  No cell of these rows narrows 'for every input' (looked for: loops, veiled, ifaces, maps, wideKeys, modest, calm, conditions, laid).
  DERIVED. THE GIVEN ROWS OF THIS SEAT. 3 by the template 'for every input the law returns true; each argument reads behind the call as it read before'; 0 by the template 'total and deterministic' (their statements: YtofdaiknpficfaaTotals.lean).
  GIVEN WITH THE SEED: the statements are not yours to turn. If you find one false, say at which input.
  Laid BY PROGRAM, IN A SANDBOX (cutbox-rows.mjs): the forced cells as the released guide's own fill.sh prints them over the translation 7d0038e41a71dbbe… (all of the seat's roots in one cut). By AI agents, Wed Nov 11 2026. No macro, syntax, notation, axiom, sorry.
-/
import Derived.Test.YtofdaiknpficfaaChecked
import GoSem.Claim
import GoSem.ClaimJoined
import GoSem.ClaimMapViews
import Derived.JoinedTies
import Derived.KernelRfl
namespace Go.Proofs.Ytofdaiknpficfaa
/- THE CELL 'sum', in the pinned program and in every row, IS THE sha256 OF THE DUMP (.gsa) THAT YtofdaiknpficfaaProg.lean LOADS. Nothing in Lean hashes anything: it is a label: what it is worth is what the hold of that sum in a sandbox is worth. -/
noncomputable def Try.pinned : Pinned := { name := "ytofdaiknpficfaa", sum := "7d0038e41a71dbbe9bd6101a110f22a87247b355d93482a0c9dc03e066cb3d48", checked := Try.checked }
namespace Rows
def none {H : Type} : Left H := { results := [], args := [] }

/-- 'coppicerlaw.KindsSizes': WHATEVER THE INPUT: true; the input reads as it did. -/
def kindsSizesSpec : ChangeSpec := { name := "kindsSizes", fn := fun _ => fun
  | [d] => { results := [.lit (.bool true)], args := [d] }
  | _ => none }
def kindsSizesRow : OpenClaim := { program := "ytofdaiknpficfaa", sum := "7d0038e41a71dbbe9bd6101a110f22a87247b355d93482a0c9dc03e066cb3d48", func := "coppicer/coppicerlaw.KindsSizes", spec := "kindsSizes", unfollowed := true, recurses := true, apart := false }
def KindsSizesSaid : Prop := kindsSizesRow.holds Try.pinned (OpenSpec.ofChange kindsSizesSpec)

/-- ITS FALSE NEIGHBOUR: 'it returns false'. Refute it at one input. -/
def kindsSizesWrong : ChangeSpec := { name := "kindsSizes", fn := fun _ => fun
  | [d] => { results := [.lit (.bool false)], args := [d] }
  | _ => none }
def KindsSizesWrongFalsely : Prop := kindsSizesRow.holds Try.pinned (OpenSpec.ofChange kindsSizesWrong)

/-- 'coppicerlaw.KindsSames': WHATEVER THE INPUT: true; the input reads as it did. -/
def kindsSamesSpec : ChangeSpec := { name := "kindsSames", fn := fun _ => fun
  | [d1, d2, d3] => { results := [.lit (.bool true)], args := [d1, d2, d3] }
  | _ => none }
def kindsSamesRow : OpenClaim := { program := "ytofdaiknpficfaa", sum := "7d0038e41a71dbbe9bd6101a110f22a87247b355d93482a0c9dc03e066cb3d48", func := "coppicer/coppicerlaw.KindsSames", spec := "kindsSames", unfollowed := true, recurses := true, apart := false }
def KindsSamesSaid : Prop := kindsSamesRow.holds Try.pinned (OpenSpec.ofChange kindsSamesSpec)

/-- ITS FALSE NEIGHBOUR: 'it returns false'. Refute it at one input. -/
def kindsSamesWrong : ChangeSpec := { name := "kindsSames", fn := fun _ => fun
  | [d1, d2, d3] => { results := [.lit (.bool false)], args := [d1, d2, d3] }
  | _ => none }
def KindsSamesWrongFalsely : Prop := kindsSamesRow.holds Try.pinned (OpenSpec.ofChange kindsSamesWrong)

/-- 'coppicerlaw.KindsStills': WHATEVER THE INPUT: true; the input reads as it did. -/
def kindsStillsSpec : ChangeSpec := { name := "kindsStills", fn := fun _ => fun
  | [d] => { results := [.lit (.bool true)], args := [d] }
  | _ => none }
def kindsStillsRow : OpenClaim := { program := "ytofdaiknpficfaa", sum := "7d0038e41a71dbbe9bd6101a110f22a87247b355d93482a0c9dc03e066cb3d48", func := "coppicer/coppicerlaw.KindsStills", spec := "kindsStills", unfollowed := true, recurses := true, apart := false }
def KindsStillsSaid : Prop := kindsStillsRow.holds Try.pinned (OpenSpec.ofChange kindsStillsSpec)

/-- ITS FALSE NEIGHBOUR: 'it returns false'. Refute it at one input. -/
def kindsStillsWrong : ChangeSpec := { name := "kindsStills", fn := fun _ => fun
  | [d] => { results := [.lit (.bool false)], args := [d] }
  | _ => none }
def KindsStillsWrongFalsely : Prop := kindsStillsRow.holds Try.pinned (OpenSpec.ofChange kindsStillsWrong)

/- THE SECOND FORM. 'bulk': how many values and letters a reading holds, each counted each time it is reached (what is shared counts as often as it is met; a slice's spare places count too). A statement '..UptoSaid' is the law's where the arguments, and the package variables that the reading takes, are together of bulk at most 1048576: NARROWER than '..Said'. Prove '..Said' where nothing that the law and all that it calls make is longer than what came in: it says more and counts as full. Else prove '..UptoSaid'. A law counts once. -/
mutual
def uptoBulk {H : Type} : DataW H → Nat
  | .lit (.string bytes) => bytes.length + 1
  | .lit _ => 1
  | .nil => 1
  | .ptr d => uptoBulk d + 1
  | .slice elems spare => uptoBulkAll elems + uptoBulkAll spare + 1
  | .agg parts => uptoBulkAll parts + 1
  | .iface _ d => uptoBulk d + 1
  | .map entries => uptoBulkEntries entries + 1
  | .held _ => 1
def uptoBulkAll {H : Type} : List (DataW H) → Nat
  | [] => 0
  | d :: r => uptoBulk d + uptoBulkAll r
def uptoBulkEntries {H : Type} : List (Lit × DataW H) → Nat
  | [] => 0
  | x :: r => uptoBulkEntry x + uptoBulkEntries r
def uptoBulkEntry {H : Type} : Lit × DataW H → Nat
  | (.string bytes, d) => bytes.length + uptoBulk d + 1
  | (_, d) => uptoBulk d + 1
 end
def uptoSmall : (H : Type) → List (DataW H) → Bool := fun _ ds => decide (uptoBulkAll ds ≤ 1048576)
def OpenSpec.upto (s : _root_.Go.ChangeSpec) : _root_.Go.OpenSpec := { _root_.Go.OpenSpec.ofChange s with cond := some uptoSmall }

/-- 'coppicerlaw.KindsSizes', WHERE WHAT IT READS IS OF BULK AT MOST 1048576: true; the input reads as it did. -/
def kindsSizesUptoRow : OpenClaim := { program := "ytofdaiknpficfaa", sum := "7d0038e41a71dbbe9bd6101a110f22a87247b355d93482a0c9dc03e066cb3d48", func := "coppicer/coppicerlaw.KindsSizes", spec := "kindsSizes", unfollowed := true, recurses := true, apart := false, narrowed := true }
def KindsSizesUptoSaid : Prop := kindsSizesUptoRow.holds Try.pinned (OpenSpec.upto kindsSizesSpec)

/-- 'coppicerlaw.KindsSames', WHERE WHAT IT READS IS OF BULK AT MOST 1048576: true; the input reads as it did. -/
def kindsSamesUptoRow : OpenClaim := { program := "ytofdaiknpficfaa", sum := "7d0038e41a71dbbe9bd6101a110f22a87247b355d93482a0c9dc03e066cb3d48", func := "coppicer/coppicerlaw.KindsSames", spec := "kindsSames", unfollowed := true, recurses := true, apart := false, narrowed := true }
def KindsSamesUptoSaid : Prop := kindsSamesUptoRow.holds Try.pinned (OpenSpec.upto kindsSamesSpec)

/-- 'coppicerlaw.KindsStills', WHERE WHAT IT READS IS OF BULK AT MOST 1048576: true; the input reads as it did. -/
def kindsStillsUptoRow : OpenClaim := { program := "ytofdaiknpficfaa", sum := "7d0038e41a71dbbe9bd6101a110f22a87247b355d93482a0c9dc03e066cb3d48", func := "coppicer/coppicerlaw.KindsStills", spec := "kindsStills", unfollowed := true, recurses := true, apart := false, narrowed := true }
def KindsStillsUptoSaid : Prop := kindsStillsUptoRow.holds Try.pinned (OpenSpec.upto kindsStillsSpec)

end Rows
end Go.Proofs.Ytofdaiknpficfaa
