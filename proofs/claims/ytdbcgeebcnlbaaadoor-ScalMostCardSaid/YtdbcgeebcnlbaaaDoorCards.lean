/-
  DERIVED. GIVEN WITH THE SEED: THE CARDS: each row of YtdbcgeebcnlbaaaDoorRows.lean that lists a variable, with what it lists TIED to the program's text (the seventh form; the later family's looks); each row that meets fmt, with fmt's text TOLD by the authors' own Lean function (tested against real Go, not proved from fmt's source: count such statements apart). THE CARD IS WHAT COUNTS. Prove the row's statement (the work); the ties are given (YtdbcgeebcnlbaaaDoorTie.lean); close each card by the builder's one call (the guide's Derived/Test/ToyasCard.lean, 'card_holds'). Laid BY PROGRAM, IN A SANDBOX (cutbox-door.mjs). By AI agents, Wed Nov 11 2026. No macro, syntax, notation, axiom, sorry.
-/
import Derived.Test.YtdbcgeebcnlbaaaDoorRows
import GoSem.ClaimSeven
namespace Go.Proofs.YtdbcgeebcnlbaaaDoor
namespace Rows

/-- THE TIED CARD OF 'stanzalaw01.ScalWhole'. -/
def scalWholeCard : Claim7 := { stood := { row := scalWholeRow, standIns := [], harness := (true, "96404486b3d8996d8be9116373f20444934eb8d3822b123ff55b20a5b862d422"), looks := false }, kinds := [], alts := [], laidByText := true, laidKinds := [.data, .pinned], laidTests := true, laidLooks := .later }
def ScalWholeCardSaid : Prop := Claim7.holds Tryd.pinned (.plain (OpenSpec.ofChange scalWholeSpec)) scalWholeCard

/-- THE TIED CARD OF 'stanzalaw01.ScalMost'. -/
def scalMostCard : Claim7 := { stood := { row := scalMostRow, standIns := [], harness := (true, "96404486b3d8996d8be9116373f20444934eb8d3822b123ff55b20a5b862d422"), looks := false }, kinds := [], alts := [], laidByText := true, laidKinds := [.data, .pinned], laidTests := true, laidLooks := .later }
def ScalMostCardSaid : Prop := Claim7.holds Tryd.pinned (.plain (OpenSpec.ofChange scalMostSpec)) scalMostCard

/-- THE SECOND FORM's CARD OF 'stanzalaw01.ScalWhole'. -/
def scalWholeUptoCard : Claim7 := { stood := { row := scalWholeUptoRow, standIns := [], harness := (true, "96404486b3d8996d8be9116373f20444934eb8d3822b123ff55b20a5b862d422"), looks := false }, kinds := [], alts := [], laidByText := true, laidKinds := [.data, .pinned], laidTests := true, laidLooks := .later }
def ScalWholeUptoCardSaid : Prop := Claim7.holds Tryd.pinned (.plain (OpenSpec.upto scalWholeSpec)) scalWholeUptoCard

/-- THE SECOND FORM's CARD OF 'stanzalaw01.ScalMost'. -/
def scalMostUptoCard : Claim7 := { stood := { row := scalMostUptoRow, standIns := [], harness := (true, "96404486b3d8996d8be9116373f20444934eb8d3822b123ff55b20a5b862d422"), looks := false }, kinds := [], alts := [], laidByText := true, laidKinds := [.data, .pinned], laidTests := true, laidLooks := .later }
def ScalMostUptoCardSaid : Prop := Claim7.holds Tryd.pinned (.plain (OpenSpec.upto scalMostSpec)) scalMostUptoCard
end Rows
end Go.Proofs.YtdbcgeebcnlbaaaDoor
