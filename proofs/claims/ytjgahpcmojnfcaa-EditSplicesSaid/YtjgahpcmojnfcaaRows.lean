/-
  No cell of these rows narrows 'for every input' (looked for: loops, veiled, ifaces, maps, wideKeys, modest, calm, conditions, laid).
  DERIVED. THE GIVEN ROWS OF THIS SEAT. 6 by the template 'for every input the law returns true; each argument reads behind the call as it read before'; 0 by the template 'total and deterministic' (their statements: YtjgahpcmojnfcaaTotals.lean).
  GIVEN WITH THE SEED: the statements are not yours to turn. If you find one false, say at which input.
  Laid BY PROGRAM, IN A SANDBOX (cutbox-rows.mjs): the forced cells as the released guide's own fill.sh prints them over the translation 1fee3f3290e7212a… (all of the seat's roots in one cut). By AI agents, Wed Nov 11 2026. No macro, syntax, notation, axiom, sorry.
-/
import Derived.Test.YtjgahpcmojnfcaaChecked
import GoSem.Claim
import GoSem.ClaimJoined
import GoSem.ClaimMapViews
import Derived.JoinedTies
import Derived.KernelRfl
namespace Go.Proofs.Ytjgahpcmojnfcaa
/- THE CELL 'sum', in the pinned program and in every row, IS THE sha256 OF THE DUMP (.gsa) THAT YtjgahpcmojnfcaaProg.lean LOADS. Nothing in Lean hashes anything: it is a label: what it is worth is what the hold of that sum in a sandbox is worth. -/
noncomputable def Try.pinned : Pinned := { name := "ytjgahpcmojnfcaa", sum := "1fee3f3290e7212a148b84692b750ca8c5046de3cea25dd683418187032f8c22", checked := Try.checked }
namespace Rows
def none {H : Type} : Left H := { results := [], args := [] }

/-- 'stanzalaw19.EditChecks': WHATEVER THE INPUT: true; the input reads as it did. -/
def editChecksSpec : ChangeSpec := { name := "editChecks", fn := fun _ => fun
  | [d1, d2] => { results := [.lit (.bool true)], args := [d1, d2] }
  | _ => none }
def editChecksRow : OpenClaim := { program := "ytjgahpcmojnfcaa", sum := "1fee3f3290e7212a148b84692b750ca8c5046de3cea25dd683418187032f8c22", func := "stanza/stanzalaw19.EditChecks", spec := "editChecks", apart := false }
def EditChecksSaid : Prop := editChecksRow.holds Try.pinned (OpenSpec.ofChange editChecksSpec)

/-- ITS FALSE NEIGHBOUR: 'it returns false'. Refute it at one input. -/
def editChecksWrong : ChangeSpec := { name := "editChecks", fn := fun _ => fun
  | [d1, d2] => { results := [.lit (.bool false)], args := [d1, d2] }
  | _ => none }
def EditChecksWrongFalsely : Prop := editChecksRow.holds Try.pinned (OpenSpec.ofChange editChecksWrong)

/-- 'stanzalaw19.EditSplices': WHATEVER THE INPUT: true; the input reads as it did. -/
def editSplicesSpec : ChangeSpec := { name := "editSplices", fn := fun _ => fun
  | [d1, d2] => { results := [.lit (.bool true)], args := [d1, d2] }
  | _ => none }
def editSplicesRow : OpenClaim := { program := "ytjgahpcmojnfcaa", sum := "1fee3f3290e7212a148b84692b750ca8c5046de3cea25dd683418187032f8c22", func := "stanza/stanzalaw19.EditSplices", spec := "editSplices", apart := false }
def EditSplicesSaid : Prop := editSplicesRow.holds Try.pinned (OpenSpec.ofChange editSplicesSpec)

/-- ITS FALSE NEIGHBOUR: 'it returns false'. Refute it at one input. -/
def editSplicesWrong : ChangeSpec := { name := "editSplices", fn := fun _ => fun
  | [d1, d2] => { results := [.lit (.bool false)], args := [d1, d2] }
  | _ => none }
def EditSplicesWrongFalsely : Prop := editSplicesRow.holds Try.pinned (OpenSpec.ofChange editSplicesWrong)

/-- 'stanzalaw19.EditUndoes': WHATEVER THE INPUT: true; the input reads as it did. -/
def editUndoesSpec : ChangeSpec := { name := "editUndoes", fn := fun _ => fun
  | [d1, d2] => { results := [.lit (.bool true)], args := [d1, d2] }
  | _ => none }
def editUndoesRow : OpenClaim := { program := "ytjgahpcmojnfcaa", sum := "1fee3f3290e7212a148b84692b750ca8c5046de3cea25dd683418187032f8c22", func := "stanza/stanzalaw19.EditUndoes", spec := "editUndoes", apart := false }
def EditUndoesSaid : Prop := editUndoesRow.holds Try.pinned (OpenSpec.ofChange editUndoesSpec)

/-- ITS FALSE NEIGHBOUR: 'it returns false'. Refute it at one input. -/
def editUndoesWrong : ChangeSpec := { name := "editUndoes", fn := fun _ => fun
  | [d1, d2] => { results := [.lit (.bool false)], args := [d1, d2] }
  | _ => none }
def EditUndoesWrongFalsely : Prop := editUndoesRow.holds Try.pinned (OpenSpec.ofChange editUndoesWrong)

/-- 'stanzalaw19.EditParts': WHATEVER THE INPUT: true; the input reads as it did. -/
def editPartsSpec : ChangeSpec := { name := "editParts", fn := fun _ => fun
  | [d1, d2] => { results := [.lit (.bool true)], args := [d1, d2] }
  | _ => none }
def editPartsRow : OpenClaim := { program := "ytjgahpcmojnfcaa", sum := "1fee3f3290e7212a148b84692b750ca8c5046de3cea25dd683418187032f8c22", func := "stanza/stanzalaw19.EditParts", spec := "editParts", apart := false }
def EditPartsSaid : Prop := editPartsRow.holds Try.pinned (OpenSpec.ofChange editPartsSpec)

/-- ITS FALSE NEIGHBOUR: 'it returns false'. Refute it at one input. -/
def editPartsWrong : ChangeSpec := { name := "editParts", fn := fun _ => fun
  | [d1, d2] => { results := [.lit (.bool false)], args := [d1, d2] }
  | _ => none }
def EditPartsWrongFalsely : Prop := editPartsRow.holds Try.pinned (OpenSpec.ofChange editPartsWrong)

/-- 'stanzalaw19.EditApart': WHATEVER THE INPUT: true; the input reads as it did. -/
def editApartSpec : ChangeSpec := { name := "editApart", fn := fun _ => fun
  | [d1, d2, d3] => { results := [.lit (.bool true)], args := [d1, d2, d3] }
  | _ => none }
def editApartRow : OpenClaim := { program := "ytjgahpcmojnfcaa", sum := "1fee3f3290e7212a148b84692b750ca8c5046de3cea25dd683418187032f8c22", func := "stanza/stanzalaw19.EditApart", spec := "editApart", apart := false }
def EditApartSaid : Prop := editApartRow.holds Try.pinned (OpenSpec.ofChange editApartSpec)

/-- ITS FALSE NEIGHBOUR: 'it returns false'. Refute it at one input. -/
def editApartWrong : ChangeSpec := { name := "editApart", fn := fun _ => fun
  | [d1, d2, d3] => { results := [.lit (.bool false)], args := [d1, d2, d3] }
  | _ => none }
def EditApartWrongFalsely : Prop := editApartRow.holds Try.pinned (OpenSpec.ofChange editApartWrong)

/-- 'stanzalaw19.EditEnds': WHATEVER THE INPUT: true; the input reads as it did. -/
def editEndsSpec : ChangeSpec := { name := "editEnds", fn := fun _ => fun
  | [d1, d2] => { results := [.lit (.bool true)], args := [d1, d2] }
  | _ => none }
def editEndsRow : OpenClaim := { program := "ytjgahpcmojnfcaa", sum := "1fee3f3290e7212a148b84692b750ca8c5046de3cea25dd683418187032f8c22", func := "stanza/stanzalaw19.EditEnds", spec := "editEnds", apart := false }
def EditEndsSaid : Prop := editEndsRow.holds Try.pinned (OpenSpec.ofChange editEndsSpec)

/-- ITS FALSE NEIGHBOUR: 'it returns false'. Refute it at one input. -/
def editEndsWrong : ChangeSpec := { name := "editEnds", fn := fun _ => fun
  | [d1, d2] => { results := [.lit (.bool false)], args := [d1, d2] }
  | _ => none }
def EditEndsWrongFalsely : Prop := editEndsRow.holds Try.pinned (OpenSpec.ofChange editEndsWrong)

/- THE SECOND FORM. 'bulk': how many values and letters a reading holds, each counted each time it is reached (what is shared counts as often as it is met; a slice's spare places count too). A statement '..UptoSaid' is the law's where the arguments, and the package variables that the reading takes, are together of bulk at most 1048576: NARROWER than '..Said'. Prove '..Said' where nothing that the law and all that it calls make is longer than what came in: it says more and counts as full. Else prove '..UptoSaid'. A law counts once. -/
mutual
def uptoBulk {H : Type} : DataW H → Nat
  | .lit (.string bytes) => bytes.length + 1
  | .lit _ => 1
  | .nil => 1
  | .ptr d => uptoBulk d + 1
  | .slice elems spare => uptoBulkAll elems + uptoBulkAll spare + 1
  | .agg parts => uptoBulkAll parts + 1
  | .iface _ d => uptoBulk d + 1
  | .map entries => uptoBulkEntries entries + 1
  | .held _ => 1
def uptoBulkAll {H : Type} : List (DataW H) → Nat
  | [] => 0
  | d :: r => uptoBulk d + uptoBulkAll r
def uptoBulkEntries {H : Type} : List (Lit × DataW H) → Nat
  | [] => 0
  | x :: r => uptoBulkEntry x + uptoBulkEntries r
def uptoBulkEntry {H : Type} : Lit × DataW H → Nat
  | (.string bytes, d) => bytes.length + uptoBulk d + 1
  | (_, d) => uptoBulk d + 1
 end
def uptoSmall : (H : Type) → List (DataW H) → Bool := fun _ ds => decide (uptoBulkAll ds ≤ 1048576)
def OpenSpec.upto (s : _root_.Go.ChangeSpec) : _root_.Go.OpenSpec := { _root_.Go.OpenSpec.ofChange s with cond := some uptoSmall }

/-- 'stanzalaw19.EditChecks', WHERE WHAT IT READS IS OF BULK AT MOST 1048576: true; the input reads as it did. -/
def editChecksUptoRow : OpenClaim := { program := "ytjgahpcmojnfcaa", sum := "1fee3f3290e7212a148b84692b750ca8c5046de3cea25dd683418187032f8c22", func := "stanza/stanzalaw19.EditChecks", spec := "editChecks", apart := false, narrowed := true }
def EditChecksUptoSaid : Prop := editChecksUptoRow.holds Try.pinned (OpenSpec.upto editChecksSpec)

/-- 'stanzalaw19.EditSplices', WHERE WHAT IT READS IS OF BULK AT MOST 1048576: true; the input reads as it did. -/
def editSplicesUptoRow : OpenClaim := { program := "ytjgahpcmojnfcaa", sum := "1fee3f3290e7212a148b84692b750ca8c5046de3cea25dd683418187032f8c22", func := "stanza/stanzalaw19.EditSplices", spec := "editSplices", apart := false, narrowed := true }
def EditSplicesUptoSaid : Prop := editSplicesUptoRow.holds Try.pinned (OpenSpec.upto editSplicesSpec)

/-- 'stanzalaw19.EditUndoes', WHERE WHAT IT READS IS OF BULK AT MOST 1048576: true; the input reads as it did. -/
def editUndoesUptoRow : OpenClaim := { program := "ytjgahpcmojnfcaa", sum := "1fee3f3290e7212a148b84692b750ca8c5046de3cea25dd683418187032f8c22", func := "stanza/stanzalaw19.EditUndoes", spec := "editUndoes", apart := false, narrowed := true }
def EditUndoesUptoSaid : Prop := editUndoesUptoRow.holds Try.pinned (OpenSpec.upto editUndoesSpec)

/-- 'stanzalaw19.EditParts', WHERE WHAT IT READS IS OF BULK AT MOST 1048576: true; the input reads as it did. -/
def editPartsUptoRow : OpenClaim := { program := "ytjgahpcmojnfcaa", sum := "1fee3f3290e7212a148b84692b750ca8c5046de3cea25dd683418187032f8c22", func := "stanza/stanzalaw19.EditParts", spec := "editParts", apart := false, narrowed := true }
def EditPartsUptoSaid : Prop := editPartsUptoRow.holds Try.pinned (OpenSpec.upto editPartsSpec)

/-- 'stanzalaw19.EditApart', WHERE WHAT IT READS IS OF BULK AT MOST 1048576: true; the input reads as it did. -/
def editApartUptoRow : OpenClaim := { program := "ytjgahpcmojnfcaa", sum := "1fee3f3290e7212a148b84692b750ca8c5046de3cea25dd683418187032f8c22", func := "stanza/stanzalaw19.EditApart", spec := "editApart", apart := false, narrowed := true }
def EditApartUptoSaid : Prop := editApartUptoRow.holds Try.pinned (OpenSpec.upto editApartSpec)

/-- 'stanzalaw19.EditEnds', WHERE WHAT IT READS IS OF BULK AT MOST 1048576: true; the input reads as it did. -/
def editEndsUptoRow : OpenClaim := { program := "ytjgahpcmojnfcaa", sum := "1fee3f3290e7212a148b84692b750ca8c5046de3cea25dd683418187032f8c22", func := "stanza/stanzalaw19.EditEnds", spec := "editEnds", apart := false, narrowed := true }
def EditEndsUptoSaid : Prop := editEndsUptoRow.holds Try.pinned (OpenSpec.upto editEndsSpec)

end Rows
end Go.Proofs.Ytjgahpcmojnfcaa
