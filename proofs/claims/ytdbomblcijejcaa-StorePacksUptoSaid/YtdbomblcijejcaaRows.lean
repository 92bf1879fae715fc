/-
  No cell of these rows narrows 'for every input' (looked for: loops, veiled, ifaces, maps, wideKeys, modest, calm, conditions, laid).
  DERIVED. THE GIVEN ROWS OF THIS SEAT. 2 by the template 'for every input the law returns true; each argument reads behind the call as it read before'; 0 by the template 'total and deterministic' (their statements: YtdbomblcijejcaaTotals.lean).
  GIVEN WITH THE SEED: the statements are not yours to turn. If you find one false, say at which input.
  Laid BY PROGRAM, IN A SANDBOX (cutbox-rows.mjs): the forced cells as the released guide's own fill.sh prints them over the translation b7817dd812a8649b… (all of the seat's roots in one cut). By AI agents, Wed Nov 11 2026. No macro, syntax, notation, axiom, sorry.
-/
import Derived.Test.YtdbomblcijejcaaChecked
import GoSem.Claim
import GoSem.ClaimJoined
import GoSem.ClaimMapViews
import Derived.JoinedTies
import Derived.KernelRfl
namespace Go.Proofs.Ytdbomblcijejcaa
/- THE CELL 'sum', in the pinned program and in every row, IS THE sha256 OF THE DUMP (.gsa) THAT YtdbomblcijejcaaProg.lean LOADS. Nothing in Lean hashes anything: it is a label: what it is worth is what the hold of that sum in a sandbox is worth. -/
noncomputable def Try.pinned : Pinned := { name := "ytdbomblcijejcaa", sum := "b7817dd812a8649be2681a2ac997ee05c3881a11586fc6ad5866e96657358cb4", checked := Try.checked }
namespace Rows
def none {H : Type} : Left H := { results := [], args := [] }

/-- 'coppicerlaw.ThicketCounts': WHATEVER THE INPUT: true; the input reads as it did. -/
def thicketCountsSpec : ChangeSpec := { name := "thicketCounts", fn := fun _ => fun
  | [d] => { results := [.lit (.bool true)], args := [d] }
  | _ => none }
def thicketCountsRow : OpenClaim := { program := "ytdbomblcijejcaa", sum := "b7817dd812a8649be2681a2ac997ee05c3881a11586fc6ad5866e96657358cb4", func := "coppicer/coppicerlaw.ThicketCounts", spec := "thicketCounts", unfollowed := true, recurses := true, apart := false }
def ThicketCountsSaid : Prop := thicketCountsRow.holds Try.pinned (OpenSpec.ofChange thicketCountsSpec)

/-- ITS FALSE NEIGHBOUR: 'it returns false'. Refute it at one input. -/
def thicketCountsWrong : ChangeSpec := { name := "thicketCounts", fn := fun _ => fun
  | [d] => { results := [.lit (.bool false)], args := [d] }
  | _ => none }
def ThicketCountsWrongFalsely : Prop := thicketCountsRow.holds Try.pinned (OpenSpec.ofChange thicketCountsWrong)

/-- 'coppicerlaw.StorePacks': WHATEVER THE INPUT: true; the input reads as it did. -/
def storePacksSpec : ChangeSpec := { name := "storePacks", fn := fun _ => fun
  | [d] => { results := [.lit (.bool true)], args := [d] }
  | _ => none }
def storePacksRow : OpenClaim := { program := "ytdbomblcijejcaa", sum := "b7817dd812a8649be2681a2ac997ee05c3881a11586fc6ad5866e96657358cb4", func := "coppicer/coppicerlaw.StorePacks", spec := "storePacks", unfollowed := true, recurses := true, apart := false }
def StorePacksSaid : Prop := storePacksRow.holds Try.pinned (OpenSpec.ofChange storePacksSpec)

/-- ITS FALSE NEIGHBOUR: 'it returns false'. Refute it at one input. -/
def storePacksWrong : ChangeSpec := { name := "storePacks", fn := fun _ => fun
  | [d] => { results := [.lit (.bool false)], args := [d] }
  | _ => none }
def StorePacksWrongFalsely : Prop := storePacksRow.holds Try.pinned (OpenSpec.ofChange storePacksWrong)

/- THE SECOND FORM. 'bulk': how many values and letters a reading holds, each counted each time it is reached (what is shared counts as often as it is met; a slice's spare places count too). A statement '..UptoSaid' is the law's where the arguments, and the package variables that the reading takes, are together of bulk at most 1048576: NARROWER than '..Said'. Prove '..Said' where nothing that the law and all that it calls make is longer than what came in: it says more and counts as full. Else prove '..UptoSaid'. A law counts once. -/
mutual
def uptoBulk {H : Type} : DataW H → Nat
  | .lit (.string bytes) => bytes.length + 1
  | .lit _ => 1
  | .nil => 1
  | .ptr d => uptoBulk d + 1
  | .slice elems spare => uptoBulkAll elems + uptoBulkAll spare + 1
  | .agg parts => uptoBulkAll parts + 1
  | .iface _ d => uptoBulk d + 1
  | .map entries => uptoBulkEntries entries + 1
  | .held _ => 1
def uptoBulkAll {H : Type} : List (DataW H) → Nat
  | [] => 0
  | d :: r => uptoBulk d + uptoBulkAll r
def uptoBulkEntries {H : Type} : List (Lit × DataW H) → Nat
  | [] => 0
  | x :: r => uptoBulkEntry x + uptoBulkEntries r
def uptoBulkEntry {H : Type} : Lit × DataW H → Nat
  | (.string bytes, d) => bytes.length + uptoBulk d + 1
  | (_, d) => uptoBulk d + 1
 end
def uptoSmall : (H : Type) → List (DataW H) → Bool := fun _ ds => decide (uptoBulkAll ds ≤ 1048576)
def OpenSpec.upto (s : _root_.Go.ChangeSpec) : _root_.Go.OpenSpec := { _root_.Go.OpenSpec.ofChange s with cond := some uptoSmall }

/-- 'coppicerlaw.ThicketCounts', WHERE WHAT IT READS IS OF BULK AT MOST 1048576: true; the input reads as it did. -/
def thicketCountsUptoRow : OpenClaim := { program := "ytdbomblcijejcaa", sum := "b7817dd812a8649be2681a2ac997ee05c3881a11586fc6ad5866e96657358cb4", func := "coppicer/coppicerlaw.ThicketCounts", spec := "thicketCounts", unfollowed := true, recurses := true, apart := false, narrowed := true }
def ThicketCountsUptoSaid : Prop := thicketCountsUptoRow.holds Try.pinned (OpenSpec.upto thicketCountsSpec)

/-- 'coppicerlaw.StorePacks', WHERE WHAT IT READS IS OF BULK AT MOST 1048576: true; the input reads as it did. -/
def storePacksUptoRow : OpenClaim := { program := "ytdbomblcijejcaa", sum := "b7817dd812a8649be2681a2ac997ee05c3881a11586fc6ad5866e96657358cb4", func := "coppicer/coppicerlaw.StorePacks", spec := "storePacks", unfollowed := true, recurses := true, apart := false, narrowed := true }
def StorePacksUptoSaid : Prop := storePacksUptoRow.holds Try.pinned (OpenSpec.upto storePacksSpec)

end Rows
end Go.Proofs.Ytdbomblcijejcaa
