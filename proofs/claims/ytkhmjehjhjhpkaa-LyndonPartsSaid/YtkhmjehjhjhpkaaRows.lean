/-
  No cell of these rows narrows 'for every input' (looked for: loops, veiled, ifaces, maps, wideKeys, modest, calm, conditions, laid).
  DERIVED. THE GIVEN ROWS OF THIS SEAT. 12 by the template 'for every input the law returns true; each argument reads behind the call as it read before'; 0 by the template 'total and deterministic' (their statements: YtkhmjehjhjhpkaaTotals.lean).
  GIVEN WITH THE SEED: the statements are not yours to turn. If you find one false, say at which input.
  Laid BY PROGRAM, IN A SANDBOX (cutbox-rows.mjs): the forced cells as the released guide's own fill.sh prints them over the translation 3ca80742b66a0712… (all of the seat's roots in one cut). By AI agents, Wed Nov 11 2026. No macro, syntax, notation, axiom, sorry.
-/
import Derived.Test.YtkhmjehjhjhpkaaChecked
import GoSem.Claim
import GoSem.ClaimJoined
import GoSem.ClaimMapViews
import Derived.JoinedTies
import Derived.KernelRfl
namespace Go.Proofs.Ytkhmjehjhjhpkaa
/- THE CELL 'sum', in the pinned program and in every row, IS THE sha256 OF THE DUMP (.gsa) THAT YtkhmjehjhjhpkaaProg.lean LOADS. Nothing in Lean hashes anything: it is a label: what it is worth is what the hold of that sum in a sandbox is worth. -/
noncomputable def Try.pinned : Pinned := { name := "ytkhmjehjhjhpkaa", sum := "3ca80742b66a07126d14303cccfdc4bccf76f3ea4e3a3d7800b46b63ebbb951e", checked := Try.checked }
namespace Rows
def none {H : Type} : Left H := { results := [], args := [] }

/-- 'coppicerlaw.StoreSums': WHATEVER THE INPUT: true; the input reads as it did. -/
def storeSumsSpec : ChangeSpec := { name := "storeSums", fn := fun _ => fun
  | [d] => { results := [.lit (.bool true)], args := [d] }
  | _ => none }
def storeSumsRow : OpenClaim := { program := "ytkhmjehjhjhpkaa", sum := "3ca80742b66a07126d14303cccfdc4bccf76f3ea4e3a3d7800b46b63ebbb951e", func := "coppicer/coppicerlaw.StoreSums", spec := "storeSums", apart := false }
def StoreSumsSaid : Prop := storeSumsRow.holds Try.pinned (OpenSpec.ofChange storeSumsSpec)

/-- ITS FALSE NEIGHBOUR: 'it returns false'. Refute it at one input. -/
def storeSumsWrong : ChangeSpec := { name := "storeSums", fn := fun _ => fun
  | [d] => { results := [.lit (.bool false)], args := [d] }
  | _ => none }
def StoreSumsWrongFalsely : Prop := storeSumsRow.holds Try.pinned (OpenSpec.ofChange storeSumsWrong)

/-- 'coppicerlaw.EditInsides': WHATEVER THE INPUT: true; the input reads as it did. -/
def editInsidesSpec : ChangeSpec := { name := "editInsides", fn := fun _ => fun
  | [d1, d2] => { results := [.lit (.bool true)], args := [d1, d2] }
  | _ => none }
def editInsidesRow : OpenClaim := { program := "ytkhmjehjhjhpkaa", sum := "3ca80742b66a07126d14303cccfdc4bccf76f3ea4e3a3d7800b46b63ebbb951e", func := "coppicer/coppicerlaw.EditInsides", spec := "editInsides", apart := false }
def EditInsidesSaid : Prop := editInsidesRow.holds Try.pinned (OpenSpec.ofChange editInsidesSpec)

/-- ITS FALSE NEIGHBOUR: 'it returns false'. Refute it at one input. -/
def editInsidesWrong : ChangeSpec := { name := "editInsides", fn := fun _ => fun
  | [d1, d2] => { results := [.lit (.bool false)], args := [d1, d2] }
  | _ => none }
def EditInsidesWrongFalsely : Prop := editInsidesRow.holds Try.pinned (OpenSpec.ofChange editInsidesWrong)

/-- 'coppicerlaw.LyndonIs': WHATEVER THE INPUT: true; the input reads as it did. -/
def lyndonIsSpec : ChangeSpec := { name := "lyndonIs", fn := fun _ => fun
  | [d] => { results := [.lit (.bool true)], args := [d] }
  | _ => none }
def lyndonIsRow : OpenClaim := { program := "ytkhmjehjhjhpkaa", sum := "3ca80742b66a07126d14303cccfdc4bccf76f3ea4e3a3d7800b46b63ebbb951e", func := "coppicer/coppicerlaw.LyndonIs", spec := "lyndonIs", inPlace := ["internal/bytealg.Compare"], apart := false }
def LyndonIsSaid : Prop := lyndonIsRow.holds Try.pinned (OpenSpec.ofChange lyndonIsSpec)

/-- ITS FALSE NEIGHBOUR: 'it returns false'. Refute it at one input. -/
def lyndonIsWrong : ChangeSpec := { name := "lyndonIs", fn := fun _ => fun
  | [d] => { results := [.lit (.bool false)], args := [d] }
  | _ => none }
def LyndonIsWrongFalsely : Prop := lyndonIsRow.holds Try.pinned (OpenSpec.ofChange lyndonIsWrong)

/-- 'coppicerlaw.PowerIs': WHATEVER THE INPUT: true; the input reads as it did. -/
def powerIsSpec : ChangeSpec := { name := "powerIs", fn := fun _ => fun
  | [d1, d2] => { results := [.lit (.bool true)], args := [d1, d2] }
  | _ => none }
def powerIsRow : OpenClaim := { program := "ytkhmjehjhjhpkaa", sum := "3ca80742b66a07126d14303cccfdc4bccf76f3ea4e3a3d7800b46b63ebbb951e", func := "coppicer/coppicerlaw.PowerIs", spec := "powerIs", apart := false }
def PowerIsSaid : Prop := powerIsRow.holds Try.pinned (OpenSpec.ofChange powerIsSpec)

/-- ITS FALSE NEIGHBOUR: 'it returns false'. Refute it at one input. -/
def powerIsWrong : ChangeSpec := { name := "powerIs", fn := fun _ => fun
  | [d1, d2] => { results := [.lit (.bool false)], args := [d1, d2] }
  | _ => none }
def PowerIsWrongFalsely : Prop := powerIsRow.holds Try.pinned (OpenSpec.ofChange powerIsWrong)

/-- 'coppicerlaw.LyndonTurns': WHATEVER THE INPUT: true; the input reads as it did. -/
def lyndonTurnsSpec : ChangeSpec := { name := "lyndonTurns", fn := fun _ => fun
  | [d] => { results := [.lit (.bool true)], args := [d] }
  | _ => none }
def lyndonTurnsRow : OpenClaim := { program := "ytkhmjehjhjhpkaa", sum := "3ca80742b66a07126d14303cccfdc4bccf76f3ea4e3a3d7800b46b63ebbb951e", func := "coppicer/coppicerlaw.LyndonTurns", spec := "lyndonTurns", inPlace := ["internal/bytealg.Compare"], apart := false }
def LyndonTurnsSaid : Prop := lyndonTurnsRow.holds Try.pinned (OpenSpec.ofChange lyndonTurnsSpec)

/-- ITS FALSE NEIGHBOUR: 'it returns false'. Refute it at one input. -/
def lyndonTurnsWrong : ChangeSpec := { name := "lyndonTurns", fn := fun _ => fun
  | [d] => { results := [.lit (.bool false)], args := [d] }
  | _ => none }
def LyndonTurnsWrongFalsely : Prop := lyndonTurnsRow.holds Try.pinned (OpenSpec.ofChange lyndonTurnsWrong)

/-- 'coppicerlaw.BeginCovers': WHATEVER THE INPUT: true; the input reads as it did. -/
def beginCoversSpec : ChangeSpec := { name := "beginCovers", fn := fun _ => fun
  | [d1, d2] => { results := [.lit (.bool true)], args := [d1, d2] }
  | _ => none }
def beginCoversRow : OpenClaim := { program := "ytkhmjehjhjhpkaa", sum := "3ca80742b66a07126d14303cccfdc4bccf76f3ea4e3a3d7800b46b63ebbb951e", func := "coppicer/coppicerlaw.BeginCovers", spec := "beginCovers", apart := false }
def BeginCoversSaid : Prop := beginCoversRow.holds Try.pinned (OpenSpec.ofChange beginCoversSpec)

/-- ITS FALSE NEIGHBOUR: 'it returns false'. Refute it at one input. -/
def beginCoversWrong : ChangeSpec := { name := "beginCovers", fn := fun _ => fun
  | [d1, d2] => { results := [.lit (.bool false)], args := [d1, d2] }
  | _ => none }
def BeginCoversWrongFalsely : Prop := beginCoversRow.holds Try.pinned (OpenSpec.ofChange beginCoversWrong)

/-- 'coppicerlaw.EditFars': WHATEVER THE INPUT: true; the input reads as it did. -/
def editFarsSpec : ChangeSpec := { name := "editFars", fn := fun _ => fun
  | [d1, d2] => { results := [.lit (.bool true)], args := [d1, d2] }
  | _ => none }
def editFarsRow : OpenClaim := { program := "ytkhmjehjhjhpkaa", sum := "3ca80742b66a07126d14303cccfdc4bccf76f3ea4e3a3d7800b46b63ebbb951e", func := "coppicer/coppicerlaw.EditFars", spec := "editFars", apart := false }
def EditFarsSaid : Prop := editFarsRow.holds Try.pinned (OpenSpec.ofChange editFarsSpec)

/-- ITS FALSE NEIGHBOUR: 'it returns false'. Refute it at one input. -/
def editFarsWrong : ChangeSpec := { name := "editFars", fn := fun _ => fun
  | [d1, d2] => { results := [.lit (.bool false)], args := [d1, d2] }
  | _ => none }
def EditFarsWrongFalsely : Prop := editFarsRow.holds Try.pinned (OpenSpec.ofChange editFarsWrong)

/-- 'coppicerlaw.PowerMeets': WHATEVER THE INPUT: true; the input reads as it did. -/
def powerMeetsSpec : ChangeSpec := { name := "powerMeets", fn := fun _ => fun
  | [d1, d2] => { results := [.lit (.bool true)], args := [d1, d2] }
  | _ => none }
def powerMeetsRow : OpenClaim := { program := "ytkhmjehjhjhpkaa", sum := "3ca80742b66a07126d14303cccfdc4bccf76f3ea4e3a3d7800b46b63ebbb951e", func := "coppicer/coppicerlaw.PowerMeets", spec := "powerMeets", apart := false }
def PowerMeetsSaid : Prop := powerMeetsRow.holds Try.pinned (OpenSpec.ofChange powerMeetsSpec)

/-- ITS FALSE NEIGHBOUR: 'it returns false'. Refute it at one input. -/
def powerMeetsWrong : ChangeSpec := { name := "powerMeets", fn := fun _ => fun
  | [d1, d2] => { results := [.lit (.bool false)], args := [d1, d2] }
  | _ => none }
def PowerMeetsWrongFalsely : Prop := powerMeetsRow.holds Try.pinned (OpenSpec.ofChange powerMeetsWrong)

/-- 'coppicerlaw.LyndonParts': WHATEVER THE INPUT: true; the input reads as it did. -/
def lyndonPartsSpec : ChangeSpec := { name := "lyndonParts", fn := fun _ => fun
  | [d] => { results := [.lit (.bool true)], args := [d] }
  | _ => none }
def lyndonPartsRow : OpenClaim := { program := "ytkhmjehjhjhpkaa", sum := "3ca80742b66a07126d14303cccfdc4bccf76f3ea4e3a3d7800b46b63ebbb951e", func := "coppicer/coppicerlaw.LyndonParts", spec := "lyndonParts", apart := false }
def LyndonPartsSaid : Prop := lyndonPartsRow.holds Try.pinned (OpenSpec.ofChange lyndonPartsSpec)

/-- ITS FALSE NEIGHBOUR: 'it returns false'. Refute it at one input. -/
def lyndonPartsWrong : ChangeSpec := { name := "lyndonParts", fn := fun _ => fun
  | [d] => { results := [.lit (.bool false)], args := [d] }
  | _ => none }
def LyndonPartsWrongFalsely : Prop := lyndonPartsRow.holds Try.pinned (OpenSpec.ofChange lyndonPartsWrong)

/-- 'coppicerlaw.BeginAgains': WHATEVER THE INPUT: true; the input reads as it did. -/
def beginAgainsSpec : ChangeSpec := { name := "beginAgains", fn := fun _ => fun
  | [d] => { results := [.lit (.bool true)], args := [d] }
  | _ => none }
def beginAgainsRow : OpenClaim := { program := "ytkhmjehjhjhpkaa", sum := "3ca80742b66a07126d14303cccfdc4bccf76f3ea4e3a3d7800b46b63ebbb951e", func := "coppicer/coppicerlaw.BeginAgains", spec := "beginAgains", apart := false }
def BeginAgainsSaid : Prop := beginAgainsRow.holds Try.pinned (OpenSpec.ofChange beginAgainsSpec)

/-- ITS FALSE NEIGHBOUR: 'it returns false'. Refute it at one input. -/
def beginAgainsWrong : ChangeSpec := { name := "beginAgains", fn := fun _ => fun
  | [d] => { results := [.lit (.bool false)], args := [d] }
  | _ => none }
def BeginAgainsWrongFalsely : Prop := beginAgainsRow.holds Try.pinned (OpenSpec.ofChange beginAgainsWrong)

/-- 'coppicerlaw.BorderTells': WHATEVER THE INPUT: true; the input reads as it did. -/
def borderTellsSpec : ChangeSpec := { name := "borderTells", fn := fun _ => fun
  | [d] => { results := [.lit (.bool true)], args := [d] }
  | _ => none }
def borderTellsRow : OpenClaim := { program := "ytkhmjehjhjhpkaa", sum := "3ca80742b66a07126d14303cccfdc4bccf76f3ea4e3a3d7800b46b63ebbb951e", func := "coppicer/coppicerlaw.BorderTells", spec := "borderTells", apart := false }
def BorderTellsSaid : Prop := borderTellsRow.holds Try.pinned (OpenSpec.ofChange borderTellsSpec)

/-- ITS FALSE NEIGHBOUR: 'it returns false'. Refute it at one input. -/
def borderTellsWrong : ChangeSpec := { name := "borderTells", fn := fun _ => fun
  | [d] => { results := [.lit (.bool false)], args := [d] }
  | _ => none }
def BorderTellsWrongFalsely : Prop := borderTellsRow.holds Try.pinned (OpenSpec.ofChange borderTellsWrong)

/-- 'coppicerlaw.PowerAlls': WHATEVER THE INPUT: true; the input reads as it did. -/
def powerAllsSpec : ChangeSpec := { name := "powerAlls", fn := fun _ => fun
  | [d] => { results := [.lit (.bool true)], args := [d] }
  | _ => none }
def powerAllsRow : OpenClaim := { program := "ytkhmjehjhjhpkaa", sum := "3ca80742b66a07126d14303cccfdc4bccf76f3ea4e3a3d7800b46b63ebbb951e", func := "coppicer/coppicerlaw.PowerAlls", spec := "powerAlls", apart := false }
def PowerAllsSaid : Prop := powerAllsRow.holds Try.pinned (OpenSpec.ofChange powerAllsSpec)

/-- ITS FALSE NEIGHBOUR: 'it returns false'. Refute it at one input. -/
def powerAllsWrong : ChangeSpec := { name := "powerAlls", fn := fun _ => fun
  | [d] => { results := [.lit (.bool false)], args := [d] }
  | _ => none }
def PowerAllsWrongFalsely : Prop := powerAllsRow.holds Try.pinned (OpenSpec.ofChange powerAllsWrong)

/- THE SECOND FORM. 'bulk': how many values and letters a reading holds, each counted each time it is reached (what is shared counts as often as it is met; a slice's spare places count too). A statement '..UptoSaid' is the law's where the arguments, and the package variables that the reading takes, are together of bulk at most 1048576: NARROWER than '..Said'. Prove '..Said' where nothing that the law and all that it calls make is longer than what came in: it says more and counts as full. Else prove '..UptoSaid'. A law counts once. -/
mutual
def uptoBulk {H : Type} : DataW H → Nat
  | .lit (.string bytes) => bytes.length + 1
  | .lit _ => 1
  | .nil => 1
  | .ptr d => uptoBulk d + 1
  | .slice elems spare => uptoBulkAll elems + uptoBulkAll spare + 1
  | .agg parts => uptoBulkAll parts + 1
  | .iface _ d => uptoBulk d + 1
  | .map entries => uptoBulkEntries entries + 1
  | .held _ => 1
def uptoBulkAll {H : Type} : List (DataW H) → Nat
  | [] => 0
  | d :: r => uptoBulk d + uptoBulkAll r
def uptoBulkEntries {H : Type} : List (Lit × DataW H) → Nat
  | [] => 0
  | x :: r => uptoBulkEntry x + uptoBulkEntries r
def uptoBulkEntry {H : Type} : Lit × DataW H → Nat
  | (.string bytes, d) => bytes.length + uptoBulk d + 1
  | (_, d) => uptoBulk d + 1
 end
def uptoSmall : (H : Type) → List (DataW H) → Bool := fun _ ds => decide (uptoBulkAll ds ≤ 1048576)
def OpenSpec.upto (s : _root_.Go.ChangeSpec) : _root_.Go.OpenSpec := { _root_.Go.OpenSpec.ofChange s with cond := some uptoSmall }

/-- 'coppicerlaw.StoreSums', WHERE WHAT IT READS IS OF BULK AT MOST 1048576: true; the input reads as it did. -/
def storeSumsUptoRow : OpenClaim := { program := "ytkhmjehjhjhpkaa", sum := "3ca80742b66a07126d14303cccfdc4bccf76f3ea4e3a3d7800b46b63ebbb951e", func := "coppicer/coppicerlaw.StoreSums", spec := "storeSums", apart := false, narrowed := true }
def StoreSumsUptoSaid : Prop := storeSumsUptoRow.holds Try.pinned (OpenSpec.upto storeSumsSpec)

/-- 'coppicerlaw.EditInsides', WHERE WHAT IT READS IS OF BULK AT MOST 1048576: true; the input reads as it did. -/
def editInsidesUptoRow : OpenClaim := { program := "ytkhmjehjhjhpkaa", sum := "3ca80742b66a07126d14303cccfdc4bccf76f3ea4e3a3d7800b46b63ebbb951e", func := "coppicer/coppicerlaw.EditInsides", spec := "editInsides", apart := false, narrowed := true }
def EditInsidesUptoSaid : Prop := editInsidesUptoRow.holds Try.pinned (OpenSpec.upto editInsidesSpec)

/-- 'coppicerlaw.LyndonIs', WHERE WHAT IT READS IS OF BULK AT MOST 1048576: true; the input reads as it did. -/
def lyndonIsUptoRow : OpenClaim := { program := "ytkhmjehjhjhpkaa", sum := "3ca80742b66a07126d14303cccfdc4bccf76f3ea4e3a3d7800b46b63ebbb951e", func := "coppicer/coppicerlaw.LyndonIs", spec := "lyndonIs", inPlace := ["internal/bytealg.Compare"], apart := false, narrowed := true }
def LyndonIsUptoSaid : Prop := lyndonIsUptoRow.holds Try.pinned (OpenSpec.upto lyndonIsSpec)

/-- 'coppicerlaw.PowerIs', WHERE WHAT IT READS IS OF BULK AT MOST 1048576: true; the input reads as it did. -/
def powerIsUptoRow : OpenClaim := { program := "ytkhmjehjhjhpkaa", sum := "3ca80742b66a07126d14303cccfdc4bccf76f3ea4e3a3d7800b46b63ebbb951e", func := "coppicer/coppicerlaw.PowerIs", spec := "powerIs", apart := false, narrowed := true }
def PowerIsUptoSaid : Prop := powerIsUptoRow.holds Try.pinned (OpenSpec.upto powerIsSpec)

/-- 'coppicerlaw.LyndonTurns', WHERE WHAT IT READS IS OF BULK AT MOST 1048576: true; the input reads as it did. -/
def lyndonTurnsUptoRow : OpenClaim := { program := "ytkhmjehjhjhpkaa", sum := "3ca80742b66a07126d14303cccfdc4bccf76f3ea4e3a3d7800b46b63ebbb951e", func := "coppicer/coppicerlaw.LyndonTurns", spec := "lyndonTurns", inPlace := ["internal/bytealg.Compare"], apart := false, narrowed := true }
def LyndonTurnsUptoSaid : Prop := lyndonTurnsUptoRow.holds Try.pinned (OpenSpec.upto lyndonTurnsSpec)

/-- 'coppicerlaw.BeginCovers', WHERE WHAT IT READS IS OF BULK AT MOST 1048576: true; the input reads as it did. -/
def beginCoversUptoRow : OpenClaim := { program := "ytkhmjehjhjhpkaa", sum := "3ca80742b66a07126d14303cccfdc4bccf76f3ea4e3a3d7800b46b63ebbb951e", func := "coppicer/coppicerlaw.BeginCovers", spec := "beginCovers", apart := false, narrowed := true }
def BeginCoversUptoSaid : Prop := beginCoversUptoRow.holds Try.pinned (OpenSpec.upto beginCoversSpec)

/-- 'coppicerlaw.EditFars', WHERE WHAT IT READS IS OF BULK AT MOST 1048576: true; the input reads as it did. -/
def editFarsUptoRow : OpenClaim := { program := "ytkhmjehjhjhpkaa", sum := "3ca80742b66a07126d14303cccfdc4bccf76f3ea4e3a3d7800b46b63ebbb951e", func := "coppicer/coppicerlaw.EditFars", spec := "editFars", apart := false, narrowed := true }
def EditFarsUptoSaid : Prop := editFarsUptoRow.holds Try.pinned (OpenSpec.upto editFarsSpec)

/-- 'coppicerlaw.PowerMeets', WHERE WHAT IT READS IS OF BULK AT MOST 1048576: true; the input reads as it did. -/
def powerMeetsUptoRow : OpenClaim := { program := "ytkhmjehjhjhpkaa", sum := "3ca80742b66a07126d14303cccfdc4bccf76f3ea4e3a3d7800b46b63ebbb951e", func := "coppicer/coppicerlaw.PowerMeets", spec := "powerMeets", apart := false, narrowed := true }
def PowerMeetsUptoSaid : Prop := powerMeetsUptoRow.holds Try.pinned (OpenSpec.upto powerMeetsSpec)

/-- 'coppicerlaw.LyndonParts', WHERE WHAT IT READS IS OF BULK AT MOST 1048576: true; the input reads as it did. -/
def lyndonPartsUptoRow : OpenClaim := { program := "ytkhmjehjhjhpkaa", sum := "3ca80742b66a07126d14303cccfdc4bccf76f3ea4e3a3d7800b46b63ebbb951e", func := "coppicer/coppicerlaw.LyndonParts", spec := "lyndonParts", apart := false, narrowed := true }
def LyndonPartsUptoSaid : Prop := lyndonPartsUptoRow.holds Try.pinned (OpenSpec.upto lyndonPartsSpec)

/-- 'coppicerlaw.BeginAgains', WHERE WHAT IT READS IS OF BULK AT MOST 1048576: true; the input reads as it did. -/
def beginAgainsUptoRow : OpenClaim := { program := "ytkhmjehjhjhpkaa", sum := "3ca80742b66a07126d14303cccfdc4bccf76f3ea4e3a3d7800b46b63ebbb951e", func := "coppicer/coppicerlaw.BeginAgains", spec := "beginAgains", apart := false, narrowed := true }
def BeginAgainsUptoSaid : Prop := beginAgainsUptoRow.holds Try.pinned (OpenSpec.upto beginAgainsSpec)

/-- 'coppicerlaw.BorderTells', WHERE WHAT IT READS IS OF BULK AT MOST 1048576: true; the input reads as it did. -/
def borderTellsUptoRow : OpenClaim := { program := "ytkhmjehjhjhpkaa", sum := "3ca80742b66a07126d14303cccfdc4bccf76f3ea4e3a3d7800b46b63ebbb951e", func := "coppicer/coppicerlaw.BorderTells", spec := "borderTells", apart := false, narrowed := true }
def BorderTellsUptoSaid : Prop := borderTellsUptoRow.holds Try.pinned (OpenSpec.upto borderTellsSpec)

/-- 'coppicerlaw.PowerAlls', WHERE WHAT IT READS IS OF BULK AT MOST 1048576: true; the input reads as it did. -/
def powerAllsUptoRow : OpenClaim := { program := "ytkhmjehjhjhpkaa", sum := "3ca80742b66a07126d14303cccfdc4bccf76f3ea4e3a3d7800b46b63ebbb951e", func := "coppicer/coppicerlaw.PowerAlls", spec := "powerAlls", apart := false, narrowed := true }
def PowerAllsUptoSaid : Prop := powerAllsUptoRow.holds Try.pinned (OpenSpec.upto powerAllsSpec)

end Rows
end Go.Proofs.Ytkhmjehjhjhpkaa
