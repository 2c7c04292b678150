/-
  No cell of these rows narrows 'for every input' (looked for: loops, veiled, ifaces, maps, wideKeys, modest, calm, conditions, laid).
  DERIVED. THE GIVEN ROWS OF THIS SEAT. 4 by the template 'for every input the law returns true; each argument reads behind the call as it read before'; 0 by the template 'total and deterministic' (their statements: YtagpcmhannmaeaaTotals.lean).
  GIVEN WITH THE SEED: the statements are not yours to turn. If you find one false, say at which input.
  Laid BY PROGRAM, IN A SANDBOX (cutbox-rows.mjs): the forced cells as the released guide's own fill.sh prints them over the translation ab2c5ec0d6c6a4e9… (all of the seat's roots in one cut). By AI agents, Wed Nov 11 2026. No macro, syntax, notation, axiom, sorry.
-/
import Derived.Test.YtagpcmhannmaeaaChecked
import GoSem.Claim
import GoSem.ClaimJoined
import GoSem.ClaimMapViews
import Derived.JoinedTies
import Derived.KernelRfl
namespace Go.Proofs.Ytagpcmhannmaeaa
/- THE CELL 'sum', in the pinned program and in every row, IS THE sha256 OF THE DUMP (.gsa) THAT YtagpcmhannmaeaaProg.lean LOADS. Nothing in Lean hashes anything: it is a label: what it is worth is what the hold of that sum in a sandbox is worth. -/
noncomputable def Try.pinned : Pinned := { name := "ytagpcmhannmaeaa", sum := "ab2c5ec0d6c6a4e973c0afcb2c3c825830985d58629054e2c07b7ae1c424adce", checked := Try.checked }
namespace Rows
def none {H : Type} : Left H := { results := [], args := [] }

/-- 'carillonlaw24.OscSteps': WHATEVER THE INPUT: true; the input reads as it did. -/
def oscStepsSpec : ChangeSpec := { name := "oscSteps", fn := fun _ => fun
  | [d1, d2, d3, d4, d5] => { results := [.lit (.bool true)], args := [d1, d2, d3, d4, d5] }
  | _ => none }
def oscStepsRow : OpenClaim := { program := "ytagpcmhannmaeaa", sum := "ab2c5ec0d6c6a4e973c0afcb2c3c825830985d58629054e2c07b7ae1c424adce", func := "carillon/carillonlaw24.OscSteps", spec := "oscSteps", apart := false }
def OscStepsSaid : Prop := oscStepsRow.holds Try.pinned (OpenSpec.ofChange oscStepsSpec)

/-- ITS FALSE NEIGHBOUR: 'it returns false'. Refute it at one input. -/
def oscStepsWrong : ChangeSpec := { name := "oscSteps", fn := fun _ => fun
  | [d1, d2, d3, d4, d5] => { results := [.lit (.bool false)], args := [d1, d2, d3, d4, d5] }
  | _ => none }
def OscStepsWrongFalsely : Prop := oscStepsRow.holds Try.pinned (OpenSpec.ofChange oscStepsWrong)

/-- 'carillonlaw24.OscSteers': WHATEVER THE INPUT: true; the input reads as it did. -/
def oscSteersSpec : ChangeSpec := { name := "oscSteers", fn := fun _ => fun
  | [d1, d2, d3, d4] => { results := [.lit (.bool true)], args := [d1, d2, d3, d4] }
  | _ => none }
def oscSteersRow : OpenClaim := { program := "ytagpcmhannmaeaa", sum := "ab2c5ec0d6c6a4e973c0afcb2c3c825830985d58629054e2c07b7ae1c424adce", func := "carillon/carillonlaw24.OscSteers", spec := "oscSteers", apart := false }
def OscSteersSaid : Prop := oscSteersRow.holds Try.pinned (OpenSpec.ofChange oscSteersSpec)

/-- ITS FALSE NEIGHBOUR: 'it returns false'. Refute it at one input. -/
def oscSteersWrong : ChangeSpec := { name := "oscSteers", fn := fun _ => fun
  | [d1, d2, d3, d4] => { results := [.lit (.bool false)], args := [d1, d2, d3, d4] }
  | _ => none }
def OscSteersWrongFalsely : Prop := oscSteersRow.holds Try.pinned (OpenSpec.ofChange oscSteersWrong)

/-- 'carillonlaw24.OscSmall': WHATEVER THE INPUT: true; the input reads as it did. -/
def oscSmallSpec : ChangeSpec := { name := "oscSmall", fn := fun _ => fun
  | [d1, d2, d3, d4] => { results := [.lit (.bool true)], args := [d1, d2, d3, d4] }
  | _ => none }
def oscSmallRow : OpenClaim := { program := "ytagpcmhannmaeaa", sum := "ab2c5ec0d6c6a4e973c0afcb2c3c825830985d58629054e2c07b7ae1c424adce", func := "carillon/carillonlaw24.OscSmall", spec := "oscSmall", apart := false }
def OscSmallSaid : Prop := oscSmallRow.holds Try.pinned (OpenSpec.ofChange oscSmallSpec)

/-- ITS FALSE NEIGHBOUR: 'it returns false'. Refute it at one input. -/
def oscSmallWrong : ChangeSpec := { name := "oscSmall", fn := fun _ => fun
  | [d1, d2, d3, d4] => { results := [.lit (.bool false)], args := [d1, d2, d3, d4] }
  | _ => none }
def OscSmallWrongFalsely : Prop := oscSmallRow.holds Try.pinned (OpenSpec.ofChange oscSmallWrong)

/-- 'carillonlaw24.OscPlays': WHATEVER THE INPUT: true; the input reads as it did. -/
def oscPlaysSpec : ChangeSpec := { name := "oscPlays", fn := fun _ => fun
  | [d1, d2, d3] => { results := [.lit (.bool true)], args := [d1, d2, d3] }
  | _ => none }
def oscPlaysRow : OpenClaim := { program := "ytagpcmhannmaeaa", sum := "ab2c5ec0d6c6a4e973c0afcb2c3c825830985d58629054e2c07b7ae1c424adce", func := "carillon/carillonlaw24.OscPlays", spec := "oscPlays", apart := false }
def OscPlaysSaid : Prop := oscPlaysRow.holds Try.pinned (OpenSpec.ofChange oscPlaysSpec)

/-- ITS FALSE NEIGHBOUR: 'it returns false'. Refute it at one input. -/
def oscPlaysWrong : ChangeSpec := { name := "oscPlays", fn := fun _ => fun
  | [d1, d2, d3] => { results := [.lit (.bool false)], args := [d1, d2, d3] }
  | _ => none }
def OscPlaysWrongFalsely : Prop := oscPlaysRow.holds Try.pinned (OpenSpec.ofChange oscPlaysWrong)

/- THE SECOND FORM. 'bulk': how many values and letters a reading holds, each counted each time it is reached (what is shared counts as often as it is met; a slice's spare places count too). A statement '..UptoSaid' is the law's where the arguments, and the package variables that the reading takes, are together of bulk at most 1048576: NARROWER than '..Said'. Prove '..Said' where nothing that the law and all that it calls make is longer than what came in: it says more and counts as full. Else prove '..UptoSaid'. A law counts once. -/
mutual
def uptoBulk {H : Type} : DataW H → Nat
  | .lit (.string bytes) => bytes.length + 1
  | .lit _ => 1
  | .nil => 1
  | .ptr d => uptoBulk d + 1
  | .slice elems spare => uptoBulkAll elems + uptoBulkAll spare + 1
  | .agg parts => uptoBulkAll parts + 1
  | .iface _ d => uptoBulk d + 1
  | .map entries => uptoBulkEntries entries + 1
  | .held _ => 1
def uptoBulkAll {H : Type} : List (DataW H) → Nat
  | [] => 0
  | d :: r => uptoBulk d + uptoBulkAll r
def uptoBulkEntries {H : Type} : List (Lit × DataW H) → Nat
  | [] => 0
  | x :: r => uptoBulkEntry x + uptoBulkEntries r
def uptoBulkEntry {H : Type} : Lit × DataW H → Nat
  | (.string bytes, d) => bytes.length + uptoBulk d + 1
  | (_, d) => uptoBulk d + 1
 end
def uptoSmall : (H : Type) → List (DataW H) → Bool := fun _ ds => decide (uptoBulkAll ds ≤ 1048576)
def OpenSpec.upto (s : _root_.Go.ChangeSpec) : _root_.Go.OpenSpec := { _root_.Go.OpenSpec.ofChange s with cond := some uptoSmall }

/-- 'carillonlaw24.OscSteps', WHERE WHAT IT READS IS OF BULK AT MOST 1048576: true; the input reads as it did. -/
def oscStepsUptoRow : OpenClaim := { program := "ytagpcmhannmaeaa", sum := "ab2c5ec0d6c6a4e973c0afcb2c3c825830985d58629054e2c07b7ae1c424adce", func := "carillon/carillonlaw24.OscSteps", spec := "oscSteps", apart := false, narrowed := true }
def OscStepsUptoSaid : Prop := oscStepsUptoRow.holds Try.pinned (OpenSpec.upto oscStepsSpec)

/-- 'carillonlaw24.OscSteers', WHERE WHAT IT READS IS OF BULK AT MOST 1048576: true; the input reads as it did. -/
def oscSteersUptoRow : OpenClaim := { program := "ytagpcmhannmaeaa", sum := "ab2c5ec0d6c6a4e973c0afcb2c3c825830985d58629054e2c07b7ae1c424adce", func := "carillon/carillonlaw24.OscSteers", spec := "oscSteers", apart := false, narrowed := true }
def OscSteersUptoSaid : Prop := oscSteersUptoRow.holds Try.pinned (OpenSpec.upto oscSteersSpec)

/-- 'carillonlaw24.OscSmall', WHERE WHAT IT READS IS OF BULK AT MOST 1048576: true; the input reads as it did. -/
def oscSmallUptoRow : OpenClaim := { program := "ytagpcmhannmaeaa", sum := "ab2c5ec0d6c6a4e973c0afcb2c3c825830985d58629054e2c07b7ae1c424adce", func := "carillon/carillonlaw24.OscSmall", spec := "oscSmall", apart := false, narrowed := true }
def OscSmallUptoSaid : Prop := oscSmallUptoRow.holds Try.pinned (OpenSpec.upto oscSmallSpec)

/-- 'carillonlaw24.OscPlays', WHERE WHAT IT READS IS OF BULK AT MOST 1048576: true; the input reads as it did. -/
def oscPlaysUptoRow : OpenClaim := { program := "ytagpcmhannmaeaa", sum := "ab2c5ec0d6c6a4e973c0afcb2c3c825830985d58629054e2c07b7ae1c424adce", func := "carillon/carillonlaw24.OscPlays", spec := "oscPlays", apart := false, narrowed := true }
def OscPlaysUptoSaid : Prop := oscPlaysUptoRow.holds Try.pinned (OpenSpec.upto oscPlaysSpec)

end Rows
end Go.Proofs.Ytagpcmhannmaeaa
