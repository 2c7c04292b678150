/-
  No cell of these rows narrows 'for every input' (looked for: loops, veiled, ifaces, maps, wideKeys, modest, calm, conditions, laid).
  DERIVED. THE GIVEN ROWS OF THIS SEAT. 6 by the template 'for every input the law returns true; each argument reads behind the call as it read before'; 0 by the template 'total and deterministic' (their statements: YtjbkffhbgcoliaaTotals.lean).
  GIVEN WITH THE SEED: the statements are not yours to turn. If you find one false, say at which input.
  Laid BY PROGRAM, IN A SANDBOX (cutbox-rows.mjs): the forced cells as the released guide's own fill.sh prints them over the translation 2255f3160d4d03cb… (all of the seat's roots in one cut). By AI agents, Wed Nov 11 2026. No macro, syntax, notation, axiom, sorry.
-/
import Derived.Test.YtjbkffhbgcoliaaChecked
import GoSem.Claim
import GoSem.ClaimJoined
import GoSem.ClaimMapViews
import Derived.JoinedTies
import Derived.KernelRfl
namespace Go.Proofs.Ytjbkffhbgcoliaa
/- THE CELL 'sum', in the pinned program and in every row, IS THE sha256 OF THE DUMP (.gsa) THAT YtjbkffhbgcoliaaProg.lean LOADS. Nothing in Lean hashes anything: it is a label: what it is worth is what the hold of that sum in a sandbox is worth. -/
noncomputable def Try.pinned : Pinned := { name := "ytjbkffhbgcoliaa", sum := "2255f3160d4d03cb9080221dc981a6b5befd971287e4cebd833cadc93b312843", checked := Try.checked }
namespace Rows
def none {H : Type} : Left H := { results := [], args := [] }

/-- 'carillonlaw20.ServoSettles': WHATEVER THE INPUT: true; the input reads as it did. -/
def servoSettlesSpec : ChangeSpec := { name := "servoSettles", fn := fun _ => fun
  | [d1, d2] => { results := [.lit (.bool true)], args := [d1, d2] }
  | _ => none }
def servoSettlesRow : OpenClaim := { program := "ytjbkffhbgcoliaa", sum := "2255f3160d4d03cb9080221dc981a6b5befd971287e4cebd833cadc93b312843", func := "carillon/carillonlaw20.ServoSettles", spec := "servoSettles", apart := false }
def ServoSettlesSaid : Prop := servoSettlesRow.holds Try.pinned (OpenSpec.ofChange servoSettlesSpec)

/-- ITS FALSE NEIGHBOUR: 'it returns false'. Refute it at one input. -/
def servoSettlesWrong : ChangeSpec := { name := "servoSettles", fn := fun _ => fun
  | [d1, d2] => { results := [.lit (.bool false)], args := [d1, d2] }
  | _ => none }
def ServoSettlesWrongFalsely : Prop := servoSettlesRow.holds Try.pinned (OpenSpec.ofChange servoSettlesWrong)

/-- 'carillonlaw20.ServoSigns': WHATEVER THE INPUT: true; the input reads as it did. -/
def servoSignsSpec : ChangeSpec := { name := "servoSigns", fn := fun _ => fun
  | [d1, d2, d3] => { results := [.lit (.bool true)], args := [d1, d2, d3] }
  | _ => none }
def servoSignsRow : OpenClaim := { program := "ytjbkffhbgcoliaa", sum := "2255f3160d4d03cb9080221dc981a6b5befd971287e4cebd833cadc93b312843", func := "carillon/carillonlaw20.ServoSigns", spec := "servoSigns", apart := false }
def ServoSignsSaid : Prop := servoSignsRow.holds Try.pinned (OpenSpec.ofChange servoSignsSpec)

/-- ITS FALSE NEIGHBOUR: 'it returns false'. Refute it at one input. -/
def servoSignsWrong : ChangeSpec := { name := "servoSigns", fn := fun _ => fun
  | [d1, d2, d3] => { results := [.lit (.bool false)], args := [d1, d2, d3] }
  | _ => none }
def ServoSignsWrongFalsely : Prop := servoSignsRow.holds Try.pinned (OpenSpec.ofChange servoSignsWrong)

/-- 'carillonlaw20.ServoClamps': WHATEVER THE INPUT: true; the input reads as it did. -/
def servoClampsSpec : ChangeSpec := { name := "servoClamps", fn := fun _ => fun
  | [d1, d2] => { results := [.lit (.bool true)], args := [d1, d2] }
  | _ => none }
def servoClampsRow : OpenClaim := { program := "ytjbkffhbgcoliaa", sum := "2255f3160d4d03cb9080221dc981a6b5befd971287e4cebd833cadc93b312843", func := "carillon/carillonlaw20.ServoClamps", spec := "servoClamps", apart := false }
def ServoClampsSaid : Prop := servoClampsRow.holds Try.pinned (OpenSpec.ofChange servoClampsSpec)

/-- ITS FALSE NEIGHBOUR: 'it returns false'. Refute it at one input. -/
def servoClampsWrong : ChangeSpec := { name := "servoClamps", fn := fun _ => fun
  | [d1, d2] => { results := [.lit (.bool false)], args := [d1, d2] }
  | _ => none }
def ServoClampsWrongFalsely : Prop := servoClampsRow.holds Try.pinned (OpenSpec.ofChange servoClampsWrong)

/-- 'carillonlaw20.ServoFirst': WHATEVER THE INPUT: true; the input reads as it did. -/
def servoFirstSpec : ChangeSpec := { name := "servoFirst", fn := fun _ => fun
  | [d1, d2, d3, d4, d5] => { results := [.lit (.bool true)], args := [d1, d2, d3, d4, d5] }
  | _ => none }
def servoFirstRow : OpenClaim := { program := "ytjbkffhbgcoliaa", sum := "2255f3160d4d03cb9080221dc981a6b5befd971287e4cebd833cadc93b312843", func := "carillon/carillonlaw20.ServoFirst", spec := "servoFirst", apart := false }
def ServoFirstSaid : Prop := servoFirstRow.holds Try.pinned (OpenSpec.ofChange servoFirstSpec)

/-- ITS FALSE NEIGHBOUR: 'it returns false'. Refute it at one input. -/
def servoFirstWrong : ChangeSpec := { name := "servoFirst", fn := fun _ => fun
  | [d1, d2, d3, d4, d5] => { results := [.lit (.bool false)], args := [d1, d2, d3, d4, d5] }
  | _ => none }
def ServoFirstWrongFalsely : Prop := servoFirstRow.holds Try.pinned (OpenSpec.ofChange servoFirstWrong)

/-- 'carillonlaw20.ServoBounds': WHATEVER THE INPUT: true; the input reads as it did. -/
def servoBoundsSpec : ChangeSpec := { name := "servoBounds", fn := fun _ => fun
  | [d1, d2, d3, d4] => { results := [.lit (.bool true)], args := [d1, d2, d3, d4] }
  | _ => none }
def servoBoundsRow : OpenClaim := { program := "ytjbkffhbgcoliaa", sum := "2255f3160d4d03cb9080221dc981a6b5befd971287e4cebd833cadc93b312843", func := "carillon/carillonlaw20.ServoBounds", spec := "servoBounds", apart := false }
def ServoBoundsSaid : Prop := servoBoundsRow.holds Try.pinned (OpenSpec.ofChange servoBoundsSpec)

/-- ITS FALSE NEIGHBOUR: 'it returns false'. Refute it at one input. -/
def servoBoundsWrong : ChangeSpec := { name := "servoBounds", fn := fun _ => fun
  | [d1, d2, d3, d4] => { results := [.lit (.bool false)], args := [d1, d2, d3, d4] }
  | _ => none }
def ServoBoundsWrongFalsely : Prop := servoBoundsRow.holds Try.pinned (OpenSpec.ofChange servoBoundsWrong)

/-- 'carillonlaw20.ServoResets': WHATEVER THE INPUT: true; the input reads as it did. -/
def servoResetsSpec : ChangeSpec := { name := "servoResets", fn := fun _ => fun
  | [d1, d2, d3, d4, d5] => { results := [.lit (.bool true)], args := [d1, d2, d3, d4, d5] }
  | _ => none }
def servoResetsRow : OpenClaim := { program := "ytjbkffhbgcoliaa", sum := "2255f3160d4d03cb9080221dc981a6b5befd971287e4cebd833cadc93b312843", func := "carillon/carillonlaw20.ServoResets", spec := "servoResets", apart := false }
def ServoResetsSaid : Prop := servoResetsRow.holds Try.pinned (OpenSpec.ofChange servoResetsSpec)

/-- ITS FALSE NEIGHBOUR: 'it returns false'. Refute it at one input. -/
def servoResetsWrong : ChangeSpec := { name := "servoResets", fn := fun _ => fun
  | [d1, d2, d3, d4, d5] => { results := [.lit (.bool false)], args := [d1, d2, d3, d4, d5] }
  | _ => none }
def ServoResetsWrongFalsely : Prop := servoResetsRow.holds Try.pinned (OpenSpec.ofChange servoResetsWrong)

/- THE SECOND FORM. 'bulk': how many values and letters a reading holds, each counted each time it is reached (what is shared counts as often as it is met; a slice's spare places count too). A statement '..UptoSaid' is the law's where the arguments, and the package variables that the reading takes, are together of bulk at most 1048576: NARROWER than '..Said'. Prove '..Said' where nothing that the law and all that it calls make is longer than what came in: it says more and counts as full. Else prove '..UptoSaid'. A law counts once. -/
mutual
def uptoBulk {H : Type} : DataW H → Nat
  | .lit (.string bytes) => bytes.length + 1
  | .lit _ => 1
  | .nil => 1
  | .ptr d => uptoBulk d + 1
  | .slice elems spare => uptoBulkAll elems + uptoBulkAll spare + 1
  | .agg parts => uptoBulkAll parts + 1
  | .iface _ d => uptoBulk d + 1
  | .map entries => uptoBulkEntries entries + 1
  | .held _ => 1
def uptoBulkAll {H : Type} : List (DataW H) → Nat
  | [] => 0
  | d :: r => uptoBulk d + uptoBulkAll r
def uptoBulkEntries {H : Type} : List (Lit × DataW H) → Nat
  | [] => 0
  | x :: r => uptoBulkEntry x + uptoBulkEntries r
def uptoBulkEntry {H : Type} : Lit × DataW H → Nat
  | (.string bytes, d) => bytes.length + uptoBulk d + 1
  | (_, d) => uptoBulk d + 1
 end
def uptoSmall : (H : Type) → List (DataW H) → Bool := fun _ ds => decide (uptoBulkAll ds ≤ 1048576)
def OpenSpec.upto (s : _root_.Go.ChangeSpec) : _root_.Go.OpenSpec := { _root_.Go.OpenSpec.ofChange s with cond := some uptoSmall }

/-- 'carillonlaw20.ServoSettles', WHERE WHAT IT READS IS OF BULK AT MOST 1048576: true; the input reads as it did. -/
def servoSettlesUptoRow : OpenClaim := { program := "ytjbkffhbgcoliaa", sum := "2255f3160d4d03cb9080221dc981a6b5befd971287e4cebd833cadc93b312843", func := "carillon/carillonlaw20.ServoSettles", spec := "servoSettles", apart := false, narrowed := true }
def ServoSettlesUptoSaid : Prop := servoSettlesUptoRow.holds Try.pinned (OpenSpec.upto servoSettlesSpec)

/-- 'carillonlaw20.ServoSigns', WHERE WHAT IT READS IS OF BULK AT MOST 1048576: true; the input reads as it did. -/
def servoSignsUptoRow : OpenClaim := { program := "ytjbkffhbgcoliaa", sum := "2255f3160d4d03cb9080221dc981a6b5befd971287e4cebd833cadc93b312843", func := "carillon/carillonlaw20.ServoSigns", spec := "servoSigns", apart := false, narrowed := true }
def ServoSignsUptoSaid : Prop := servoSignsUptoRow.holds Try.pinned (OpenSpec.upto servoSignsSpec)

/-- 'carillonlaw20.ServoClamps', WHERE WHAT IT READS IS OF BULK AT MOST 1048576: true; the input reads as it did. -/
def servoClampsUptoRow : OpenClaim := { program := "ytjbkffhbgcoliaa", sum := "2255f3160d4d03cb9080221dc981a6b5befd971287e4cebd833cadc93b312843", func := "carillon/carillonlaw20.ServoClamps", spec := "servoClamps", apart := false, narrowed := true }
def ServoClampsUptoSaid : Prop := servoClampsUptoRow.holds Try.pinned (OpenSpec.upto servoClampsSpec)

/-- 'carillonlaw20.ServoFirst', WHERE WHAT IT READS IS OF BULK AT MOST 1048576: true; the input reads as it did. -/
def servoFirstUptoRow : OpenClaim := { program := "ytjbkffhbgcoliaa", sum := "2255f3160d4d03cb9080221dc981a6b5befd971287e4cebd833cadc93b312843", func := "carillon/carillonlaw20.ServoFirst", spec := "servoFirst", apart := false, narrowed := true }
def ServoFirstUptoSaid : Prop := servoFirstUptoRow.holds Try.pinned (OpenSpec.upto servoFirstSpec)

/-- 'carillonlaw20.ServoBounds', WHERE WHAT IT READS IS OF BULK AT MOST 1048576: true; the input reads as it did. -/
def servoBoundsUptoRow : OpenClaim := { program := "ytjbkffhbgcoliaa", sum := "2255f3160d4d03cb9080221dc981a6b5befd971287e4cebd833cadc93b312843", func := "carillon/carillonlaw20.ServoBounds", spec := "servoBounds", apart := false, narrowed := true }
def ServoBoundsUptoSaid : Prop := servoBoundsUptoRow.holds Try.pinned (OpenSpec.upto servoBoundsSpec)

/-- 'carillonlaw20.ServoResets', WHERE WHAT IT READS IS OF BULK AT MOST 1048576: true; the input reads as it did. -/
def servoResetsUptoRow : OpenClaim := { program := "ytjbkffhbgcoliaa", sum := "2255f3160d4d03cb9080221dc981a6b5befd971287e4cebd833cadc93b312843", func := "carillon/carillonlaw20.ServoResets", spec := "servoResets", apart := false, narrowed := true }
def ServoResetsUptoSaid : Prop := servoResetsUptoRow.holds Try.pinned (OpenSpec.upto servoResetsSpec)

end Rows
end Go.Proofs.Ytjbkffhbgcoliaa
