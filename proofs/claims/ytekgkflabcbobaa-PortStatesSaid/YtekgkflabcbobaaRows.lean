/-
  No cell of these rows narrows 'for every input' (looked for: loops, veiled, ifaces, maps, wideKeys, modest, calm, conditions, laid).
  DERIVED. THE GIVEN ROWS OF THIS SEAT. 4 by the template 'for every input the law returns true; each argument reads behind the call as it read before'; 0 by the template 'total and deterministic' (their statements: YtekgkflabcbobaaTotals.lean).
  GIVEN WITH THE SEED: the statements are not yours to turn. If you find one false, say at which input.
  Laid BY PROGRAM, IN A SANDBOX (cutbox-rows.mjs): the forced cells as the released guide's own fill.sh prints them over the translation 6a0a462211217650… (all of the seat's roots in one cut). By AI agents, Wed Nov 11 2026. No macro, syntax, notation, axiom, sorry.
-/
import Derived.Test.YtekgkflabcbobaaChecked
import GoSem.Claim
import GoSem.ClaimJoined
import GoSem.ClaimMapViews
import Derived.JoinedTies
import Derived.KernelRfl
namespace Go.Proofs.Ytekgkflabcbobaa
/- THE CELL 'sum', in the pinned program and in every row, IS THE sha256 OF THE DUMP (.gsa) THAT YtekgkflabcbobaaProg.lean LOADS. Nothing in Lean hashes anything: it is a label: what it is worth is what the hold of that sum in a sandbox is worth. -/
noncomputable def Try.pinned : Pinned := { name := "ytekgkflabcbobaa", sum := "6a0a46221121765030eb47c248c14910095356aa55e6e0b82ce893d16059eebb", checked := Try.checked }
namespace Rows
def none {H : Type} : Left H := { results := [], args := [] }

/-- 'carillonlaw21.PortFaults': WHATEVER THE INPUT: true; the input reads as it did. -/
def portFaultsSpec : ChangeSpec := { name := "portFaults", fn := fun _ => fun
  | [d1, d2] => { results := [.lit (.bool true)], args := [d1, d2] }
  | _ => none }
def portFaultsRow : OpenClaim := { program := "ytekgkflabcbobaa", sum := "6a0a46221121765030eb47c248c14910095356aa55e6e0b82ce893d16059eebb", func := "carillon/carillonlaw21.PortFaults", spec := "portFaults", apart := false }
def PortFaultsSaid : Prop := portFaultsRow.holds Try.pinned (OpenSpec.ofChange portFaultsSpec)

/-- ITS FALSE NEIGHBOUR: 'it returns false'. Refute it at one input. -/
def portFaultsWrong : ChangeSpec := { name := "portFaults", fn := fun _ => fun
  | [d1, d2] => { results := [.lit (.bool false)], args := [d1, d2] }
  | _ => none }
def PortFaultsWrongFalsely : Prop := portFaultsRow.holds Try.pinned (OpenSpec.ofChange portFaultsWrong)

/-- 'carillonlaw21.PortAll': WHATEVER THE INPUT: true; the input reads as it did. -/
def portAllSpec : ChangeSpec := { name := "portAll", fn := fun _ => fun
  | [d1, d2, d3, d4, d5] => { results := [.lit (.bool true)], args := [d1, d2, d3, d4, d5] }
  | _ => none }
def portAllRow : OpenClaim := { program := "ytekgkflabcbobaa", sum := "6a0a46221121765030eb47c248c14910095356aa55e6e0b82ce893d16059eebb", func := "carillon/carillonlaw21.PortAll", spec := "portAll", apart := false }
def PortAllSaid : Prop := portAllRow.holds Try.pinned (OpenSpec.ofChange portAllSpec)

/-- ITS FALSE NEIGHBOUR: 'it returns false'. Refute it at one input. -/
def portAllWrong : ChangeSpec := { name := "portAll", fn := fun _ => fun
  | [d1, d2, d3, d4, d5] => { results := [.lit (.bool false)], args := [d1, d2, d3, d4, d5] }
  | _ => none }
def PortAllWrongFalsely : Prop := portAllRow.holds Try.pinned (OpenSpec.ofChange portAllWrong)

/-- 'carillonlaw21.PortTable': WHATEVER THE INPUT: true; the input reads as it did. -/
def portTableSpec : ChangeSpec := { name := "portTable", fn := fun _ => fun
  | [] => { results := [.lit (.bool true)], args := [] }
  | _ => none }
def portTableRow : OpenClaim := { program := "ytekgkflabcbobaa", sum := "6a0a46221121765030eb47c248c14910095356aa55e6e0b82ce893d16059eebb", func := "carillon/carillonlaw21.PortTable", spec := "portTable", apart := false }
def PortTableSaid : Prop := portTableRow.holds Try.pinned (OpenSpec.ofChange portTableSpec)

/-- ITS FALSE NEIGHBOUR: 'it returns false'. Refute it at one input. -/
def portTableWrong : ChangeSpec := { name := "portTable", fn := fun _ => fun
  | [] => { results := [.lit (.bool false)], args := [] }
  | _ => none }
def PortTableWrongFalsely : Prop := portTableRow.holds Try.pinned (OpenSpec.ofChange portTableWrong)

/-- 'carillonlaw21.PortStates': WHATEVER THE INPUT: true; the input reads as it did. -/
def portStatesSpec : ChangeSpec := { name := "portStates", fn := fun _ => fun
  | [d1, d2] => { results := [.lit (.bool true)], args := [d1, d2] }
  | _ => none }
def portStatesRow : OpenClaim := { program := "ytekgkflabcbobaa", sum := "6a0a46221121765030eb47c248c14910095356aa55e6e0b82ce893d16059eebb", func := "carillon/carillonlaw21.PortStates", spec := "portStates", apart := false }
def PortStatesSaid : Prop := portStatesRow.holds Try.pinned (OpenSpec.ofChange portStatesSpec)

/-- ITS FALSE NEIGHBOUR: 'it returns false'. Refute it at one input. -/
def portStatesWrong : ChangeSpec := { name := "portStates", fn := fun _ => fun
  | [d1, d2] => { results := [.lit (.bool false)], args := [d1, d2] }
  | _ => none }
def PortStatesWrongFalsely : Prop := portStatesRow.holds Try.pinned (OpenSpec.ofChange portStatesWrong)

/- THE SECOND FORM. 'bulk': how many values and letters a reading holds, each counted each time it is reached (what is shared counts as often as it is met; a slice's spare places count too). A statement '..UptoSaid' is the law's where the arguments, and the package variables that the reading takes, are together of bulk at most 1048576: NARROWER than '..Said'. Prove '..Said' where nothing that the law and all that it calls make is longer than what came in: it says more and counts as full. Else prove '..UptoSaid'. A law counts once. -/
mutual
def uptoBulk {H : Type} : DataW H → Nat
  | .lit (.string bytes) => bytes.length + 1
  | .lit _ => 1
  | .nil => 1
  | .ptr d => uptoBulk d + 1
  | .slice elems spare => uptoBulkAll elems + uptoBulkAll spare + 1
  | .agg parts => uptoBulkAll parts + 1
  | .iface _ d => uptoBulk d + 1
  | .map entries => uptoBulkEntries entries + 1
  | .held _ => 1
def uptoBulkAll {H : Type} : List (DataW H) → Nat
  | [] => 0
  | d :: r => uptoBulk d + uptoBulkAll r
def uptoBulkEntries {H : Type} : List (Lit × DataW H) → Nat
  | [] => 0
  | x :: r => uptoBulkEntry x + uptoBulkEntries r
def uptoBulkEntry {H : Type} : Lit × DataW H → Nat
  | (.string bytes, d) => bytes.length + uptoBulk d + 1
  | (_, d) => uptoBulk d + 1
 end
def uptoSmall : (H : Type) → List (DataW H) → Bool := fun _ ds => decide (uptoBulkAll ds ≤ 1048576)
def OpenSpec.upto (s : _root_.Go.ChangeSpec) : _root_.Go.OpenSpec := { _root_.Go.OpenSpec.ofChange s with cond := some uptoSmall }

/-- 'carillonlaw21.PortFaults', WHERE WHAT IT READS IS OF BULK AT MOST 1048576: true; the input reads as it did. -/
def portFaultsUptoRow : OpenClaim := { program := "ytekgkflabcbobaa", sum := "6a0a46221121765030eb47c248c14910095356aa55e6e0b82ce893d16059eebb", func := "carillon/carillonlaw21.PortFaults", spec := "portFaults", apart := false, narrowed := true }
def PortFaultsUptoSaid : Prop := portFaultsUptoRow.holds Try.pinned (OpenSpec.upto portFaultsSpec)

/-- 'carillonlaw21.PortAll', WHERE WHAT IT READS IS OF BULK AT MOST 1048576: true; the input reads as it did. -/
def portAllUptoRow : OpenClaim := { program := "ytekgkflabcbobaa", sum := "6a0a46221121765030eb47c248c14910095356aa55e6e0b82ce893d16059eebb", func := "carillon/carillonlaw21.PortAll", spec := "portAll", apart := false, narrowed := true }
def PortAllUptoSaid : Prop := portAllUptoRow.holds Try.pinned (OpenSpec.upto portAllSpec)

/-- 'carillonlaw21.PortTable', WHERE WHAT IT READS IS OF BULK AT MOST 1048576: true; the input reads as it did. -/
def portTableUptoRow : OpenClaim := { program := "ytekgkflabcbobaa", sum := "6a0a46221121765030eb47c248c14910095356aa55e6e0b82ce893d16059eebb", func := "carillon/carillonlaw21.PortTable", spec := "portTable", apart := false, narrowed := true }
def PortTableUptoSaid : Prop := portTableUptoRow.holds Try.pinned (OpenSpec.upto portTableSpec)

/-- 'carillonlaw21.PortStates', WHERE WHAT IT READS IS OF BULK AT MOST 1048576: true; the input reads as it did. -/
def portStatesUptoRow : OpenClaim := { program := "ytekgkflabcbobaa", sum := "6a0a46221121765030eb47c248c14910095356aa55e6e0b82ce893d16059eebb", func := "carillon/carillonlaw21.PortStates", spec := "portStates", apart := false, narrowed := true }
def PortStatesUptoSaid : Prop := portStatesUptoRow.holds Try.pinned (OpenSpec.upto portStatesSpec)

end Rows
end Go.Proofs.Ytekgkflabcbobaa
