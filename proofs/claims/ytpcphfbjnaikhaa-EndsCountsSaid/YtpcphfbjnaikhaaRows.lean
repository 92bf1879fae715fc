/-
  No cell of these rows narrows 'for every input' (looked for: loops, veiled, ifaces, maps, wideKeys, modest, calm, conditions, laid).
  DERIVED. THE GIVEN ROWS OF THIS SEAT. 4 by the template 'for every input the law returns true; each argument reads behind the call as it read before'; 0 by the template 'total and deterministic' (their statements: YtpcphfbjnaikhaaTotals.lean).
  GIVEN WITH THE SEED: the statements are not yours to turn. If you find one false, say at which input.
  Laid BY PROGRAM, IN A SANDBOX (cutbox-rows.mjs): the forced cells as the released guide's own fill.sh prints them over the translation 1cc1bd9208cbc939… (all of the seat's roots in one cut). By AI agents, Wed Nov 11 2026. No macro, syntax, notation, axiom, sorry.
-/
import Derived.Test.YtpcphfbjnaikhaaChecked
import GoSem.Claim
import GoSem.ClaimJoined
import GoSem.ClaimMapViews
import Derived.JoinedTies
import Derived.KernelRfl
namespace Go.Proofs.Ytpcphfbjnaikhaa
/- THE CELL 'sum', in the pinned program and in every row, IS THE sha256 OF THE DUMP (.gsa) THAT YtpcphfbjnaikhaaProg.lean LOADS. Nothing in Lean hashes anything: it is a label: what it is worth is what the hold of that sum in a sandbox is worth. -/
noncomputable def Try.pinned : Pinned := { name := "ytpcphfbjnaikhaa", sum := "1cc1bd9208cbc939578c4b7a8d588078a436c812456fe92ed5428e89383abb3a", checked := Try.checked }
namespace Rows
def none {H : Type} : Left H := { results := [], args := [] }

/-- 'coppicerlaw.EndsOrders': WHATEVER THE INPUT: true; the input reads as it did. -/
def endsOrdersSpec : ChangeSpec := { name := "endsOrders", fn := fun _ => fun
  | [d] => { results := [.lit (.bool true)], args := [d] }
  | _ => none }
def endsOrdersRow : OpenClaim := { program := "ytpcphfbjnaikhaa", sum := "1cc1bd9208cbc939578c4b7a8d588078a436c812456fe92ed5428e89383abb3a", func := "coppicer/coppicerlaw.EndsOrders", spec := "endsOrders", inPlace := ["internal/bytealg.Compare"], unfollowed := true, recurses := true, apart := false }
def EndsOrdersSaid : Prop := endsOrdersRow.holds Try.pinned (OpenSpec.ofChange endsOrdersSpec)

/-- ITS FALSE NEIGHBOUR: 'it returns false'. Refute it at one input. -/
def endsOrdersWrong : ChangeSpec := { name := "endsOrders", fn := fun _ => fun
  | [d] => { results := [.lit (.bool false)], args := [d] }
  | _ => none }
def EndsOrdersWrongFalsely : Prop := endsOrdersRow.holds Try.pinned (OpenSpec.ofChange endsOrdersWrong)

/-- 'coppicerlaw.EndsCounts': WHATEVER THE INPUT: true; the input reads as it did. -/
def endsCountsSpec : ChangeSpec := { name := "endsCounts", fn := fun _ => fun
  | [d1, d2] => { results := [.lit (.bool true)], args := [d1, d2] }
  | _ => none }
def endsCountsRow : OpenClaim := { program := "ytpcphfbjnaikhaa", sum := "1cc1bd9208cbc939578c4b7a8d588078a436c812456fe92ed5428e89383abb3a", func := "coppicer/coppicerlaw.EndsCounts", spec := "endsCounts", inPlace := ["internal/bytealg.Compare"], unfollowed := true, recurses := true, apart := false }
def EndsCountsSaid : Prop := endsCountsRow.holds Try.pinned (OpenSpec.ofChange endsCountsSpec)

/-- ITS FALSE NEIGHBOUR: 'it returns false'. Refute it at one input. -/
def endsCountsWrong : ChangeSpec := { name := "endsCounts", fn := fun _ => fun
  | [d1, d2] => { results := [.lit (.bool false)], args := [d1, d2] }
  | _ => none }
def EndsCountsWrongFalsely : Prop := endsCountsRow.holds Try.pinned (OpenSpec.ofChange endsCountsWrong)

/-- 'coppicerlaw.EndsCommons': WHATEVER THE INPUT: true; the input reads as it did. -/
def endsCommonsSpec : ChangeSpec := { name := "endsCommons", fn := fun _ => fun
  | [d] => { results := [.lit (.bool true)], args := [d] }
  | _ => none }
def endsCommonsRow : OpenClaim := { program := "ytpcphfbjnaikhaa", sum := "1cc1bd9208cbc939578c4b7a8d588078a436c812456fe92ed5428e89383abb3a", func := "coppicer/coppicerlaw.EndsCommons", spec := "endsCommons", inPlace := ["internal/bytealg.Compare"], unfollowed := true, recurses := true, apart := false }
def EndsCommonsSaid : Prop := endsCommonsRow.holds Try.pinned (OpenSpec.ofChange endsCommonsSpec)

/-- ITS FALSE NEIGHBOUR: 'it returns false'. Refute it at one input. -/
def endsCommonsWrong : ChangeSpec := { name := "endsCommons", fn := fun _ => fun
  | [d] => { results := [.lit (.bool false)], args := [d] }
  | _ => none }
def EndsCommonsWrongFalsely : Prop := endsCommonsRow.holds Try.pinned (OpenSpec.ofChange endsCommonsWrong)

/-- 'coppicerlaw.EndsDifferents': WHATEVER THE INPUT: true; the input reads as it did. -/
def endsDifferentsSpec : ChangeSpec := { name := "endsDifferents", fn := fun _ => fun
  | [d] => { results := [.lit (.bool true)], args := [d] }
  | _ => none }
def endsDifferentsRow : OpenClaim := { program := "ytpcphfbjnaikhaa", sum := "1cc1bd9208cbc939578c4b7a8d588078a436c812456fe92ed5428e89383abb3a", func := "coppicer/coppicerlaw.EndsDifferents", spec := "endsDifferents", inPlace := ["internal/bytealg.Compare"], unfollowed := true, recurses := true, apart := false }
def EndsDifferentsSaid : Prop := endsDifferentsRow.holds Try.pinned (OpenSpec.ofChange endsDifferentsSpec)

/-- ITS FALSE NEIGHBOUR: 'it returns false'. Refute it at one input. -/
def endsDifferentsWrong : ChangeSpec := { name := "endsDifferents", fn := fun _ => fun
  | [d] => { results := [.lit (.bool false)], args := [d] }
  | _ => none }
def EndsDifferentsWrongFalsely : Prop := endsDifferentsRow.holds Try.pinned (OpenSpec.ofChange endsDifferentsWrong)

/- THE SECOND FORM. 'bulk': how many values and letters a reading holds, each counted each time it is reached (what is shared counts as often as it is met; a slice's spare places count too). A statement '..UptoSaid' is the law's where the arguments, and the package variables that the reading takes, are together of bulk at most 1048576: NARROWER than '..Said'. Prove '..Said' where nothing that the law and all that it calls make is longer than what came in: it says more and counts as full. Else prove '..UptoSaid'. A law counts once. -/
mutual
def uptoBulk {H : Type} : DataW H → Nat
  | .lit (.string bytes) => bytes.length + 1
  | .lit _ => 1
  | .nil => 1
  | .ptr d => uptoBulk d + 1
  | .slice elems spare => uptoBulkAll elems + uptoBulkAll spare + 1
  | .agg parts => uptoBulkAll parts + 1
  | .iface _ d => uptoBulk d + 1
  | .map entries => uptoBulkEntries entries + 1
  | .held _ => 1
def uptoBulkAll {H : Type} : List (DataW H) → Nat
  | [] => 0
  | d :: r => uptoBulk d + uptoBulkAll r
def uptoBulkEntries {H : Type} : List (Lit × DataW H) → Nat
  | [] => 0
  | x :: r => uptoBulkEntry x + uptoBulkEntries r
def uptoBulkEntry {H : Type} : Lit × DataW H → Nat
  | (.string bytes, d) => bytes.length + uptoBulk d + 1
  | (_, d) => uptoBulk d + 1
 end
def uptoSmall : (H : Type) → List (DataW H) → Bool := fun _ ds => decide (uptoBulkAll ds ≤ 1048576)
def OpenSpec.upto (s : _root_.Go.ChangeSpec) : _root_.Go.OpenSpec := { _root_.Go.OpenSpec.ofChange s with cond := some uptoSmall }

/-- 'coppicerlaw.EndsOrders', WHERE WHAT IT READS IS OF BULK AT MOST 1048576: true; the input reads as it did. -/
def endsOrdersUptoRow : OpenClaim := { program := "ytpcphfbjnaikhaa", sum := "1cc1bd9208cbc939578c4b7a8d588078a436c812456fe92ed5428e89383abb3a", func := "coppicer/coppicerlaw.EndsOrders", spec := "endsOrders", inPlace := ["internal/bytealg.Compare"], unfollowed := true, recurses := true, apart := false, narrowed := true }
def EndsOrdersUptoSaid : Prop := endsOrdersUptoRow.holds Try.pinned (OpenSpec.upto endsOrdersSpec)

/-- 'coppicerlaw.EndsCounts', WHERE WHAT IT READS IS OF BULK AT MOST 1048576: true; the input reads as it did. -/
def endsCountsUptoRow : OpenClaim := { program := "ytpcphfbjnaikhaa", sum := "1cc1bd9208cbc939578c4b7a8d588078a436c812456fe92ed5428e89383abb3a", func := "coppicer/coppicerlaw.EndsCounts", spec := "endsCounts", inPlace := ["internal/bytealg.Compare"], unfollowed := true, recurses := true, apart := false, narrowed := true }
def EndsCountsUptoSaid : Prop := endsCountsUptoRow.holds Try.pinned (OpenSpec.upto endsCountsSpec)

/-- 'coppicerlaw.EndsCommons', WHERE WHAT IT READS IS OF BULK AT MOST 1048576: true; the input reads as it did. -/
def endsCommonsUptoRow : OpenClaim := { program := "ytpcphfbjnaikhaa", sum := "1cc1bd9208cbc939578c4b7a8d588078a436c812456fe92ed5428e89383abb3a", func := "coppicer/coppicerlaw.EndsCommons", spec := "endsCommons", inPlace := ["internal/bytealg.Compare"], unfollowed := true, recurses := true, apart := false, narrowed := true }
def EndsCommonsUptoSaid : Prop := endsCommonsUptoRow.holds Try.pinned (OpenSpec.upto endsCommonsSpec)

/-- 'coppicerlaw.EndsDifferents', WHERE WHAT IT READS IS OF BULK AT MOST 1048576: true; the input reads as it did. -/
def endsDifferentsUptoRow : OpenClaim := { program := "ytpcphfbjnaikhaa", sum := "1cc1bd9208cbc939578c4b7a8d588078a436c812456fe92ed5428e89383abb3a", func := "coppicer/coppicerlaw.EndsDifferents", spec := "endsDifferents", inPlace := ["internal/bytealg.Compare"], unfollowed := true, recurses := true, apart := false, narrowed := true }
def EndsDifferentsUptoSaid : Prop := endsDifferentsUptoRow.holds Try.pinned (OpenSpec.upto endsDifferentsSpec)

end Rows
end Go.Proofs.Ytpcphfbjnaikhaa
