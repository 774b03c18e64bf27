/-
  DERIVED. GIVEN WITH THE SEED: THE CARDS: each row of YtkeccgkicffieaaGreatDoorRows.lean that lists a variable, with what it lists TIED to the program's text (the seventh form; the later family's looks); each row that meets fmt, with fmt's text TOLD by the authors' own Lean function (tested against real Go, not proved from fmt's source: count such statements apart). THE CARD IS WHAT COUNTS. Prove the row's statement (the work); the ties are given (YtkeccgkicffieaaGreatDoorTie.lean); close each card by the builder's one call (the guide's Derived/Test/ToyasCard.lean, 'card_holds'). Laid BY PROGRAM, IN A SANDBOX (cutbox-door.mjs). By AI agents, Wed Nov 11 2026. No macro, syntax, notation, axiom, sorry.
-/
import Derived.Test.YtkeccgkicffieaaGreatDoorRows
import GoSem.ClaimSeven
namespace Go.Proofs.YtkeccgkicffieaaGreatDoor
namespace Rows

/-- THE TIED CARD OF 'stanzatop.TopWider'. -/
def topWiderCard : Claim7 := { stood := { row := topWiderRow, standIns := [], harness := (true, "3643fa7c00646d1e804824544bb6e51ef710c14580b1f501e51705c4f9d39fe2"), looks := true }, kinds := [], alts := [], laidByText := true, laidKinds := [.data], laidTests := true, laidLooks := .later }
def TopWiderCardSaid : Prop := Claim7.holds Tryz.pinned (.plain (OpenSpec.ofChange topWiderSpec)) topWiderCard

/-- THE SECOND FORM's CARD OF 'stanzatop.TopWider'. -/
def topWiderUptoCard : Claim7 := { stood := { row := topWiderUptoRow, standIns := [], harness := (true, "3643fa7c00646d1e804824544bb6e51ef710c14580b1f501e51705c4f9d39fe2"), looks := true }, kinds := [], alts := [], laidByText := true, laidKinds := [.data], laidTests := true, laidLooks := .later }
def TopWiderUptoCardSaid : Prop := Claim7.holds Tryz.pinned (.plain (OpenSpec.upto topWiderSpec)) topWiderUptoCard
end Rows
end Go.Proofs.YtkeccgkicffieaaGreatDoor
