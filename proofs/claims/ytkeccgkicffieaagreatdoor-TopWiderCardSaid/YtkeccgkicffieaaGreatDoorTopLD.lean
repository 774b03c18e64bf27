/- seg's Read at the three texts of rules. Conditions: none. -/
import Derived.Test.YtkeccgkicffieaaGreatDoorTopLB
import Derived.Test.YtkeccgkicffieaaGreatDoorTopRG
namespace Go.Proofs.YtkeccgkicffieaaGreatDoor.PTopWider
open Go.RowKit Go.Proofs.YtkeccgkicffieaaGreatDoorW.PrintWords Go.Proofs.YtkeccgkicffieaaGreatDoorW.PrintLast Go.Proofs.YtkeccgkicffieaaGreatDoorW.PrintMore
set_option linter.unusedVariables false
def rsM : List RX := [⟨1, .one 1, .one 1⟩]
def rsP : List RX := [⟨2, .one 4, .one 7⟩, ⟨0, .one 7, .two 2 4⟩, ⟨1, .one 2, .one 7⟩, ⟨0, .one 7, .one 7⟩]
def rsX : List RX := [⟨0, .one 2, .one 2⟩, ⟨1, .one 2, .one 7⟩, ⟨2, .one 4, .one 7⟩, ⟨0, .one 7, .one 7⟩]
def auM : List (List Int) × List Int := ([[1], [1]], [0, 1])
def auPl : List (List Int) × List Int := ([[1, 2, 3], [1, 2, 3], [1, 2, 3], [1, 2, 3]], [0, 10, 14, 11])
def auPr : List (List Int) × List Int := ([[1, 2, 2], [1, 2, 2], [1, 2, 2]], [0, 13, 15])
def auXl : List (List Int) × List Int := ([[1, 2, 3], [1, 2, 3], [1, 2, 3], [1, 2, 3]], [0, 8, 11, 12])
def auXr : List (List Int) × List Int := ([[1, 2, 1], [1, 2, 1], [1, 2, 1]], [0, 14, 15])
def machM : Mach := machOf 1 rsM auM auM
def machP : Mach := machOf 3 rsP auPl auPr
def machX : Mach := machOf 3 rsX auXl auXr
set_option maxRecDepth 100000 in
theorem read_M (w : World) : Calls Tryz.prog 11 #[.string txtM] w fun e w' => ReadE w machM e w' :=
 read_calls 50 200 9 1 txtM rsM auM auM auM auM w (by decide) allM (by decide) (by decide) (by kernel_rfl) (by kernel_rfl) (by kernel_rfl) (by kernel_rfl)
set_option maxRecDepth 100000 in
theorem read_P (w : World) : Calls Tryz.prog 11 #[.string txtP] w fun e w' => ReadE w machP e w' :=
 read_calls 50 200 9 3 txtP rsP auPl auPl ([[1, 2, 3], [1, 2, 3], [1, 2, 3], [1, 2, 3]], [0, 13, 15, 15]) auPr w (by decide) allP (by decide) (by decide) (by kernel_rfl) (by kernel_rfl) (by kernel_rfl) (by kernel_rfl)
set_option maxRecDepth 100000 in
theorem read_X (w : World) : Calls Tryz.prog 11 #[.string txtX] w fun e w' => ReadE w machX e w' :=
 read_calls 50 200 9 3 txtX rsX auXl auXl auXr auXr w (by decide) allX (by decide) (by decide) (by kernel_rfl) (by kernel_rfl) (by kernel_rfl) (by kernel_rfl)
end Go.Proofs.YtkeccgkicffieaaGreatDoor.PTopWider
