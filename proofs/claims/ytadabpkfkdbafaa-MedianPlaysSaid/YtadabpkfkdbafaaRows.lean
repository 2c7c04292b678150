/-
  No cell of these rows narrows 'for every input' (looked for: loops, veiled, ifaces, maps, wideKeys, modest, calm, conditions, laid).
  DERIVED. THE GIVEN ROWS OF THIS SEAT. 5 by the template 'for every input the law returns true; each argument reads behind the call as it read before'; 0 by the template 'total and deterministic' (their statements: YtadabpkfkdbafaaTotals.lean).
  GIVEN WITH THE SEED: the statements are not yours to turn. If you find one false, say at which input.
  Laid BY PROGRAM, IN A SANDBOX (cutbox-rows.mjs): the forced cells as the released guide's own fill.sh prints them over the translation 7fd3ac6d8ef6287c… (all of the seat's roots in one cut). By AI agents, Wed Nov 11 2026. No macro, syntax, notation, axiom, sorry.
-/
import Derived.Test.YtadabpkfkdbafaaChecked
import GoSem.Claim
import GoSem.ClaimJoined
import GoSem.ClaimMapViews
import Derived.JoinedTies
import Derived.KernelRfl
namespace Go.Proofs.Ytadabpkfkdbafaa
/- THE CELL 'sum', in the pinned program and in every row, IS THE sha256 OF THE DUMP (.gsa) THAT YtadabpkfkdbafaaProg.lean LOADS. Nothing in Lean hashes anything: it is a label: what it is worth is what the hold of that sum in a sandbox is worth. -/
noncomputable def Try.pinned : Pinned := { name := "ytadabpkfkdbafaa", sum := "7fd3ac6d8ef6287c9a7653c118dea421525313a990742f5dd8bf62aebf2ca1d4", checked := Try.checked }
namespace Rows
def none {H : Type} : Left H := { results := [], args := [] }

/-- 'carillonlaw19.MedianOdd': WHATEVER THE INPUT: true; the input reads as it did. -/
def medianOddSpec : ChangeSpec := { name := "medianOdd", fn := fun _ => fun
  | [d1, d2, d3, d4] => { results := [.lit (.bool true)], args := [d1, d2, d3, d4] }
  | _ => none }
def medianOddRow : OpenClaim := { program := "ytadabpkfkdbafaa", sum := "7fd3ac6d8ef6287c9a7653c118dea421525313a990742f5dd8bf62aebf2ca1d4", func := "carillon/carillonlaw19.MedianOdd", spec := "medianOdd", apart := false }
def MedianOddSaid : Prop := medianOddRow.holds Try.pinned (OpenSpec.ofChange medianOddSpec)

/-- ITS FALSE NEIGHBOUR: 'it returns false'. Refute it at one input. -/
def medianOddWrong : ChangeSpec := { name := "medianOdd", fn := fun _ => fun
  | [d1, d2, d3, d4] => { results := [.lit (.bool false)], args := [d1, d2, d3, d4] }
  | _ => none }
def MedianOddWrongFalsely : Prop := medianOddRow.holds Try.pinned (OpenSpec.ofChange medianOddWrong)

/-- 'carillonlaw19.MedianOrder': WHATEVER THE INPUT: true; the input reads as it did. -/
def medianOrderSpec : ChangeSpec := { name := "medianOrder", fn := fun _ => fun
  | [d1, d2] => { results := [.lit (.bool true)], args := [d1, d2] }
  | _ => none }
def medianOrderRow : OpenClaim := { program := "ytadabpkfkdbafaa", sum := "7fd3ac6d8ef6287c9a7653c118dea421525313a990742f5dd8bf62aebf2ca1d4", func := "carillon/carillonlaw19.MedianOrder", spec := "medianOrder", apart := false }
def MedianOrderSaid : Prop := medianOrderRow.holds Try.pinned (OpenSpec.ofChange medianOrderSpec)

/-- ITS FALSE NEIGHBOUR: 'it returns false'. Refute it at one input. -/
def medianOrderWrong : ChangeSpec := { name := "medianOrder", fn := fun _ => fun
  | [d1, d2] => { results := [.lit (.bool false)], args := [d1, d2] }
  | _ => none }
def MedianOrderWrongFalsely : Prop := medianOrderRow.holds Try.pinned (OpenSpec.ofChange medianOrderWrong)

/-- 'carillonlaw19.MedianMiddle': WHATEVER THE INPUT: true; the input reads as it did. -/
def medianMiddleSpec : ChangeSpec := { name := "medianMiddle", fn := fun _ => fun
  | [d1, d2] => { results := [.lit (.bool true)], args := [d1, d2] }
  | _ => none }
def medianMiddleRow : OpenClaim := { program := "ytadabpkfkdbafaa", sum := "7fd3ac6d8ef6287c9a7653c118dea421525313a990742f5dd8bf62aebf2ca1d4", func := "carillon/carillonlaw19.MedianMiddle", spec := "medianMiddle", apart := false }
def MedianMiddleSaid : Prop := medianMiddleRow.holds Try.pinned (OpenSpec.ofChange medianMiddleSpec)

/-- ITS FALSE NEIGHBOUR: 'it returns false'. Refute it at one input. -/
def medianMiddleWrong : ChangeSpec := { name := "medianMiddle", fn := fun _ => fun
  | [d1, d2] => { results := [.lit (.bool false)], args := [d1, d2] }
  | _ => none }
def MedianMiddleWrongFalsely : Prop := medianMiddleRow.holds Try.pinned (OpenSpec.ofChange medianMiddleWrong)

/-- 'carillonlaw19.MedianLast': WHATEVER THE INPUT: true; the input reads as it did. -/
def medianLastSpec : ChangeSpec := { name := "medianLast", fn := fun _ => fun
  | [d1, d2, d3] => { results := [.lit (.bool true)], args := [d1, d2, d3] }
  | _ => none }
def medianLastRow : OpenClaim := { program := "ytadabpkfkdbafaa", sum := "7fd3ac6d8ef6287c9a7653c118dea421525313a990742f5dd8bf62aebf2ca1d4", func := "carillon/carillonlaw19.MedianLast", spec := "medianLast", apart := false }
def MedianLastSaid : Prop := medianLastRow.holds Try.pinned (OpenSpec.ofChange medianLastSpec)

/-- ITS FALSE NEIGHBOUR: 'it returns false'. Refute it at one input. -/
def medianLastWrong : ChangeSpec := { name := "medianLast", fn := fun _ => fun
  | [d1, d2, d3] => { results := [.lit (.bool false)], args := [d1, d2, d3] }
  | _ => none }
def MedianLastWrongFalsely : Prop := medianLastRow.holds Try.pinned (OpenSpec.ofChange medianLastWrong)

/-- 'carillonlaw19.MedianPlays': WHATEVER THE INPUT: true; the input reads as it did. -/
def medianPlaysSpec : ChangeSpec := { name := "medianPlays", fn := fun _ => fun
  | [d1, d2, d3] => { results := [.lit (.bool true)], args := [d1, d2, d3] }
  | _ => none }
def medianPlaysRow : OpenClaim := { program := "ytadabpkfkdbafaa", sum := "7fd3ac6d8ef6287c9a7653c118dea421525313a990742f5dd8bf62aebf2ca1d4", func := "carillon/carillonlaw19.MedianPlays", spec := "medianPlays", apart := false }
def MedianPlaysSaid : Prop := medianPlaysRow.holds Try.pinned (OpenSpec.ofChange medianPlaysSpec)

/-- ITS FALSE NEIGHBOUR: 'it returns false'. Refute it at one input. -/
def medianPlaysWrong : ChangeSpec := { name := "medianPlays", fn := fun _ => fun
  | [d1, d2, d3] => { results := [.lit (.bool false)], args := [d1, d2, d3] }
  | _ => none }
def MedianPlaysWrongFalsely : Prop := medianPlaysRow.holds Try.pinned (OpenSpec.ofChange medianPlaysWrong)

/- THE SECOND FORM. 'bulk': how many values and letters a reading holds, each counted each time it is reached (what is shared counts as often as it is met; a slice's spare places count too). A statement '..UptoSaid' is the law's where the arguments, and the package variables that the reading takes, are together of bulk at most 1048576: NARROWER than '..Said'. Prove '..Said' where nothing that the law and all that it calls make is longer than what came in: it says more and counts as full. Else prove '..UptoSaid'. A law counts once. -/
mutual
def uptoBulk {H : Type} : DataW H → Nat
  | .lit (.string bytes) => bytes.length + 1
  | .lit _ => 1
  | .nil => 1
  | .ptr d => uptoBulk d + 1
  | .slice elems spare => uptoBulkAll elems + uptoBulkAll spare + 1
  | .agg parts => uptoBulkAll parts + 1
  | .iface _ d => uptoBulk d + 1
  | .map entries => uptoBulkEntries entries + 1
  | .held _ => 1
def uptoBulkAll {H : Type} : List (DataW H) → Nat
  | [] => 0
  | d :: r => uptoBulk d + uptoBulkAll r
def uptoBulkEntries {H : Type} : List (Lit × DataW H) → Nat
  | [] => 0
  | x :: r => uptoBulkEntry x + uptoBulkEntries r
def uptoBulkEntry {H : Type} : Lit × DataW H → Nat
  | (.string bytes, d) => bytes.length + uptoBulk d + 1
  | (_, d) => uptoBulk d + 1
 end
def uptoSmall : (H : Type) → List (DataW H) → Bool := fun _ ds => decide (uptoBulkAll ds ≤ 1048576)
def OpenSpec.upto (s : _root_.Go.ChangeSpec) : _root_.Go.OpenSpec := { _root_.Go.OpenSpec.ofChange s with cond := some uptoSmall }

/-- 'carillonlaw19.MedianOdd', WHERE WHAT IT READS IS OF BULK AT MOST 1048576: true; the input reads as it did. -/
def medianOddUptoRow : OpenClaim := { program := "ytadabpkfkdbafaa", sum := "7fd3ac6d8ef6287c9a7653c118dea421525313a990742f5dd8bf62aebf2ca1d4", func := "carillon/carillonlaw19.MedianOdd", spec := "medianOdd", apart := false, narrowed := true }
def MedianOddUptoSaid : Prop := medianOddUptoRow.holds Try.pinned (OpenSpec.upto medianOddSpec)

/-- 'carillonlaw19.MedianOrder', WHERE WHAT IT READS IS OF BULK AT MOST 1048576: true; the input reads as it did. -/
def medianOrderUptoRow : OpenClaim := { program := "ytadabpkfkdbafaa", sum := "7fd3ac6d8ef6287c9a7653c118dea421525313a990742f5dd8bf62aebf2ca1d4", func := "carillon/carillonlaw19.MedianOrder", spec := "medianOrder", apart := false, narrowed := true }
def MedianOrderUptoSaid : Prop := medianOrderUptoRow.holds Try.pinned (OpenSpec.upto medianOrderSpec)

/-- 'carillonlaw19.MedianMiddle', WHERE WHAT IT READS IS OF BULK AT MOST 1048576: true; the input reads as it did. -/
def medianMiddleUptoRow : OpenClaim := { program := "ytadabpkfkdbafaa", sum := "7fd3ac6d8ef6287c9a7653c118dea421525313a990742f5dd8bf62aebf2ca1d4", func := "carillon/carillonlaw19.MedianMiddle", spec := "medianMiddle", apart := false, narrowed := true }
def MedianMiddleUptoSaid : Prop := medianMiddleUptoRow.holds Try.pinned (OpenSpec.upto medianMiddleSpec)

/-- 'carillonlaw19.MedianLast', WHERE WHAT IT READS IS OF BULK AT MOST 1048576: true; the input reads as it did. -/
def medianLastUptoRow : OpenClaim := { program := "ytadabpkfkdbafaa", sum := "7fd3ac6d8ef6287c9a7653c118dea421525313a990742f5dd8bf62aebf2ca1d4", func := "carillon/carillonlaw19.MedianLast", spec := "medianLast", apart := false, narrowed := true }
def MedianLastUptoSaid : Prop := medianLastUptoRow.holds Try.pinned (OpenSpec.upto medianLastSpec)

/-- 'carillonlaw19.MedianPlays', WHERE WHAT IT READS IS OF BULK AT MOST 1048576: true; the input reads as it did. -/
def medianPlaysUptoRow : OpenClaim := { program := "ytadabpkfkdbafaa", sum := "7fd3ac6d8ef6287c9a7653c118dea421525313a990742f5dd8bf62aebf2ca1d4", func := "carillon/carillonlaw19.MedianPlays", spec := "medianPlays", apart := false, narrowed := true }
def MedianPlaysUptoSaid : Prop := medianPlaysUptoRow.holds Try.pinned (OpenSpec.upto medianPlaysSpec)

end Rows
end Go.Proofs.Ytadabpkfkdbafaa
