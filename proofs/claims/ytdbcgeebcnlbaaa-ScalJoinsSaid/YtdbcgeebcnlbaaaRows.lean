/-
  No cell of these rows narrows 'for every input' (looked for: loops, veiled, ifaces, maps, wideKeys, modest, calm, conditions, laid).
  DERIVED. THE GIVEN ROWS OF THIS SEAT. 6 by the template 'for every input the law returns true; each argument reads behind the call as it read before'; 0 by the template 'total and deterministic' (their statements: YtdbcgeebcnlbaaaTotals.lean).
  GIVEN WITH THE SEED: the statements are not yours to turn. If you find one false, say at which input.
  Laid BY PROGRAM, IN A SANDBOX (cutbox-rows.mjs): the forced cells as the released guide's own fill.sh prints them over the translation 65c96cab0349d3df… (all of the seat's roots in one cut). By AI agents, Wed Nov 11 2026. No macro, syntax, notation, axiom, sorry.
-/
import Derived.Test.YtdbcgeebcnlbaaaChecked
import GoSem.Claim
import GoSem.ClaimJoined
import GoSem.ClaimMapViews
import Derived.JoinedTies
import Derived.KernelRfl
namespace Go.Proofs.Ytdbcgeebcnlbaaa
/- THE CELL 'sum', in the pinned program and in every row, IS THE sha256 OF THE DUMP (.gsa) THAT YtdbcgeebcnlbaaaProg.lean LOADS. Nothing in Lean hashes anything: it is a label: what it is worth is what the hold of that sum in a sandbox is worth. -/
noncomputable def Try.pinned : Pinned := { name := "ytdbcgeebcnlbaaa", sum := "65c96cab0349d3df1cbf5236875219f2445a796b43273b8c860fdfd1da519812", checked := Try.checked }
namespace Rows
def none {H : Type} : Left H := { results := [], args := [] }

/-- 'stanzalaw01.ScalAll': WHATEVER THE INPUT: true; the input reads as it did. -/
def scalAllSpec : ChangeSpec := { name := "scalAll", fn := fun _ => fun
  | [d] => { results := [.lit (.bool true)], args := [d] }
  | _ => none }
def scalAllRow : OpenClaim := { program := "ytdbcgeebcnlbaaa", sum := "65c96cab0349d3df1cbf5236875219f2445a796b43273b8c860fdfd1da519812", func := "stanza/stanzalaw01.ScalAll", spec := "scalAll", apart := false }
def ScalAllSaid : Prop := scalAllRow.holds Try.pinned (OpenSpec.ofChange scalAllSpec)

/-- ITS FALSE NEIGHBOUR: 'it returns false'. Refute it at one input. -/
def scalAllWrong : ChangeSpec := { name := "scalAll", fn := fun _ => fun
  | [d] => { results := [.lit (.bool false)], args := [d] }
  | _ => none }
def ScalAllWrongFalsely : Prop := scalAllRow.holds Try.pinned (OpenSpec.ofChange scalAllWrong)

/-- 'stanzalaw01.ScalOne': WHATEVER THE INPUT: true; the input reads as it did. -/
def scalOneSpec : ChangeSpec := { name := "scalOne", fn := fun _ => fun
  | [d1, d2] => { results := [.lit (.bool true)], args := [d1, d2] }
  | _ => none }
def scalOneRow : OpenClaim := { program := "ytdbcgeebcnlbaaa", sum := "65c96cab0349d3df1cbf5236875219f2445a796b43273b8c860fdfd1da519812", func := "stanza/stanzalaw01.ScalOne", spec := "scalOne", apart := false }
def ScalOneSaid : Prop := scalOneRow.holds Try.pinned (OpenSpec.ofChange scalOneSpec)

/-- ITS FALSE NEIGHBOUR: 'it returns false'. Refute it at one input. -/
def scalOneWrong : ChangeSpec := { name := "scalOne", fn := fun _ => fun
  | [d1, d2] => { results := [.lit (.bool false)], args := [d1, d2] }
  | _ => none }
def ScalOneWrongFalsely : Prop := scalOneRow.holds Try.pinned (OpenSpec.ofChange scalOneWrong)

/-- 'stanzalaw01.ScalCuts': WHATEVER THE INPUT: true; the input reads as it did. -/
def scalCutsSpec : ChangeSpec := { name := "scalCuts", fn := fun _ => fun
  | [d1, d2] => { results := [.lit (.bool true)], args := [d1, d2] }
  | _ => none }
def scalCutsRow : OpenClaim := { program := "ytdbcgeebcnlbaaa", sum := "65c96cab0349d3df1cbf5236875219f2445a796b43273b8c860fdfd1da519812", func := "stanza/stanzalaw01.ScalCuts", spec := "scalCuts", apart := false }
def ScalCutsSaid : Prop := scalCutsRow.holds Try.pinned (OpenSpec.ofChange scalCutsSpec)

/-- ITS FALSE NEIGHBOUR: 'it returns false'. Refute it at one input. -/
def scalCutsWrong : ChangeSpec := { name := "scalCuts", fn := fun _ => fun
  | [d1, d2] => { results := [.lit (.bool false)], args := [d1, d2] }
  | _ => none }
def ScalCutsWrongFalsely : Prop := scalCutsRow.holds Try.pinned (OpenSpec.ofChange scalCutsWrong)

/-- 'stanzalaw01.ScalFinds': WHATEVER THE INPUT: true; the input reads as it did. -/
def scalFindsSpec : ChangeSpec := { name := "scalFinds", fn := fun _ => fun
  | [d1, d2] => { results := [.lit (.bool true)], args := [d1, d2] }
  | _ => none }
def scalFindsRow : OpenClaim := { program := "ytdbcgeebcnlbaaa", sum := "65c96cab0349d3df1cbf5236875219f2445a796b43273b8c860fdfd1da519812", func := "stanza/stanzalaw01.ScalFinds", spec := "scalFinds", apart := false }
def ScalFindsSaid : Prop := scalFindsRow.holds Try.pinned (OpenSpec.ofChange scalFindsSpec)

/-- ITS FALSE NEIGHBOUR: 'it returns false'. Refute it at one input. -/
def scalFindsWrong : ChangeSpec := { name := "scalFinds", fn := fun _ => fun
  | [d1, d2] => { results := [.lit (.bool false)], args := [d1, d2] }
  | _ => none }
def ScalFindsWrongFalsely : Prop := scalFindsRow.holds Try.pinned (OpenSpec.ofChange scalFindsWrong)

/-- 'stanzalaw01.ScalPuts': WHATEVER THE INPUT: true; the input reads as it did. -/
def scalPutsSpec : ChangeSpec := { name := "scalPuts", fn := fun _ => fun
  | [d] => { results := [.lit (.bool true)], args := [d] }
  | _ => none }
def scalPutsRow : OpenClaim := { program := "ytdbcgeebcnlbaaa", sum := "65c96cab0349d3df1cbf5236875219f2445a796b43273b8c860fdfd1da519812", func := "stanza/stanzalaw01.ScalPuts", spec := "scalPuts", apart := false }
def ScalPutsSaid : Prop := scalPutsRow.holds Try.pinned (OpenSpec.ofChange scalPutsSpec)

/-- ITS FALSE NEIGHBOUR: 'it returns false'. Refute it at one input. -/
def scalPutsWrong : ChangeSpec := { name := "scalPuts", fn := fun _ => fun
  | [d] => { results := [.lit (.bool false)], args := [d] }
  | _ => none }
def ScalPutsWrongFalsely : Prop := scalPutsRow.holds Try.pinned (OpenSpec.ofChange scalPutsWrong)

/-- 'stanzalaw01.ScalJoins': WHATEVER THE INPUT: true; the input reads as it did. -/
def scalJoinsSpec : ChangeSpec := { name := "scalJoins", fn := fun _ => fun
  | [d1, d2] => { results := [.lit (.bool true)], args := [d1, d2] }
  | _ => none }
def scalJoinsRow : OpenClaim := { program := "ytdbcgeebcnlbaaa", sum := "65c96cab0349d3df1cbf5236875219f2445a796b43273b8c860fdfd1da519812", func := "stanza/stanzalaw01.ScalJoins", spec := "scalJoins", apart := false }
def ScalJoinsSaid : Prop := scalJoinsRow.holds Try.pinned (OpenSpec.ofChange scalJoinsSpec)

/-- ITS FALSE NEIGHBOUR: 'it returns false'. Refute it at one input. -/
def scalJoinsWrong : ChangeSpec := { name := "scalJoins", fn := fun _ => fun
  | [d1, d2] => { results := [.lit (.bool false)], args := [d1, d2] }
  | _ => none }
def ScalJoinsWrongFalsely : Prop := scalJoinsRow.holds Try.pinned (OpenSpec.ofChange scalJoinsWrong)

/- THE SECOND FORM. 'bulk': how many values and letters a reading holds, each counted each time it is reached (what is shared counts as often as it is met; a slice's spare places count too). A statement '..UptoSaid' is the law's where the arguments, and the package variables that the reading takes, are together of bulk at most 1048576: NARROWER than '..Said'. Prove '..Said' where nothing that the law and all that it calls make is longer than what came in: it says more and counts as full. Else prove '..UptoSaid'. A law counts once. -/
mutual
def uptoBulk {H : Type} : DataW H → Nat
  | .lit (.string bytes) => bytes.length + 1
  | .lit _ => 1
  | .nil => 1
  | .ptr d => uptoBulk d + 1
  | .slice elems spare => uptoBulkAll elems + uptoBulkAll spare + 1
  | .agg parts => uptoBulkAll parts + 1
  | .iface _ d => uptoBulk d + 1
  | .map entries => uptoBulkEntries entries + 1
  | .held _ => 1
def uptoBulkAll {H : Type} : List (DataW H) → Nat
  | [] => 0
  | d :: r => uptoBulk d + uptoBulkAll r
def uptoBulkEntries {H : Type} : List (Lit × DataW H) → Nat
  | [] => 0
  | x :: r => uptoBulkEntry x + uptoBulkEntries r
def uptoBulkEntry {H : Type} : Lit × DataW H → Nat
  | (.string bytes, d) => bytes.length + uptoBulk d + 1
  | (_, d) => uptoBulk d + 1
 end
def uptoSmall : (H : Type) → List (DataW H) → Bool := fun _ ds => decide (uptoBulkAll ds ≤ 1048576)
def OpenSpec.upto (s : _root_.Go.ChangeSpec) : _root_.Go.OpenSpec := { _root_.Go.OpenSpec.ofChange s with cond := some uptoSmall }

/-- 'stanzalaw01.ScalAll', WHERE WHAT IT READS IS OF BULK AT MOST 1048576: true; the input reads as it did. -/
def scalAllUptoRow : OpenClaim := { program := "ytdbcgeebcnlbaaa", sum := "65c96cab0349d3df1cbf5236875219f2445a796b43273b8c860fdfd1da519812", func := "stanza/stanzalaw01.ScalAll", spec := "scalAll", apart := false, narrowed := true }
def ScalAllUptoSaid : Prop := scalAllUptoRow.holds Try.pinned (OpenSpec.upto scalAllSpec)

/-- 'stanzalaw01.ScalOne', WHERE WHAT IT READS IS OF BULK AT MOST 1048576: true; the input reads as it did. -/
def scalOneUptoRow : OpenClaim := { program := "ytdbcgeebcnlbaaa", sum := "65c96cab0349d3df1cbf5236875219f2445a796b43273b8c860fdfd1da519812", func := "stanza/stanzalaw01.ScalOne", spec := "scalOne", apart := false, narrowed := true }
def ScalOneUptoSaid : Prop := scalOneUptoRow.holds Try.pinned (OpenSpec.upto scalOneSpec)

/-- 'stanzalaw01.ScalCuts', WHERE WHAT IT READS IS OF BULK AT MOST 1048576: true; the input reads as it did. -/
def scalCutsUptoRow : OpenClaim := { program := "ytdbcgeebcnlbaaa", sum := "65c96cab0349d3df1cbf5236875219f2445a796b43273b8c860fdfd1da519812", func := "stanza/stanzalaw01.ScalCuts", spec := "scalCuts", apart := false, narrowed := true }
def ScalCutsUptoSaid : Prop := scalCutsUptoRow.holds Try.pinned (OpenSpec.upto scalCutsSpec)

/-- 'stanzalaw01.ScalFinds', WHERE WHAT IT READS IS OF BULK AT MOST 1048576: true; the input reads as it did. -/
def scalFindsUptoRow : OpenClaim := { program := "ytdbcgeebcnlbaaa", sum := "65c96cab0349d3df1cbf5236875219f2445a796b43273b8c860fdfd1da519812", func := "stanza/stanzalaw01.ScalFinds", spec := "scalFinds", apart := false, narrowed := true }
def ScalFindsUptoSaid : Prop := scalFindsUptoRow.holds Try.pinned (OpenSpec.upto scalFindsSpec)

/-- 'stanzalaw01.ScalPuts', WHERE WHAT IT READS IS OF BULK AT MOST 1048576: true; the input reads as it did. -/
def scalPutsUptoRow : OpenClaim := { program := "ytdbcgeebcnlbaaa", sum := "65c96cab0349d3df1cbf5236875219f2445a796b43273b8c860fdfd1da519812", func := "stanza/stanzalaw01.ScalPuts", spec := "scalPuts", apart := false, narrowed := true }
def ScalPutsUptoSaid : Prop := scalPutsUptoRow.holds Try.pinned (OpenSpec.upto scalPutsSpec)

/-- 'stanzalaw01.ScalJoins', WHERE WHAT IT READS IS OF BULK AT MOST 1048576: true; the input reads as it did. -/
def scalJoinsUptoRow : OpenClaim := { program := "ytdbcgeebcnlbaaa", sum := "65c96cab0349d3df1cbf5236875219f2445a796b43273b8c860fdfd1da519812", func := "stanza/stanzalaw01.ScalJoins", spec := "scalJoins", apart := false, narrowed := true }
def ScalJoinsUptoSaid : Prop := scalJoinsUptoRow.holds Try.pinned (OpenSpec.upto scalJoinsSpec)

end Rows
end Go.Proofs.Ytdbcgeebcnlbaaa
