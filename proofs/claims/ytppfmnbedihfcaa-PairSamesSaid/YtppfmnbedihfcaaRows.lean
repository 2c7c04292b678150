/-
  No cell of these rows narrows 'for every input' (looked for: loops, veiled, ifaces, maps, wideKeys, modest, calm, conditions, laid).
  DERIVED. THE GIVEN ROWS OF THIS SEAT. 5 by the template 'for every input the law returns true; each argument reads behind the call as it read before'; 0 by the template 'total and deterministic' (their statements: YtppfmnbedihfcaaTotals.lean).
  GIVEN WITH THE SEED: the statements are not yours to turn. If you find one false, say at which input.
  Laid BY PROGRAM, IN A SANDBOX (cutbox-rows.mjs): the forced cells as the released guide's own fill.sh prints them over the translation 5a185f7ba1722c83… (all of the seat's roots in one cut). By AI agents, Wed Nov 11 2026. No macro, syntax, notation, axiom, sorry.
-/
import Derived.Test.YtppfmnbedihfcaaChecked
import GoSem.Claim
import GoSem.ClaimJoined
import GoSem.ClaimMapViews
import Derived.JoinedTies
import Derived.KernelRfl
namespace Go.Proofs.Ytppfmnbedihfcaa
/- THE CELL 'sum', in the pinned program and in every row, IS THE sha256 OF THE DUMP (.gsa) THAT YtppfmnbedihfcaaProg.lean LOADS. Nothing in Lean hashes anything: it is a label: what it is worth is what the hold of that sum in a sandbox is worth. -/
noncomputable def Try.pinned : Pinned := { name := "ytppfmnbedihfcaa", sum := "5a185f7ba1722c83ac8dd1873162204233507da41dd9120615c5bbd8b54a58bd", checked := Try.checked }
namespace Rows
def none {H : Type} : Left H := { results := [], args := [] }

/-- 'carillonlaw03.PairExchanges': WHATEVER THE INPUT: true; the input reads as it did. -/
def pairExchangesSpec : ChangeSpec := { name := "pairExchanges", fn := fun _ => fun
  | [d1, d2, d3, d4] => { results := [.lit (.bool true)], args := [d1, d2, d3, d4] }
  | _ => none }
def pairExchangesRow : OpenClaim := { program := "ytppfmnbedihfcaa", sum := "5a185f7ba1722c83ac8dd1873162204233507da41dd9120615c5bbd8b54a58bd", func := "carillon/carillonlaw03.PairExchanges", spec := "pairExchanges", inPlace := ["math.archTrunc", "math.Float64bits", "math.Float64frombits"], apart := false }
def PairExchangesSaid : Prop := pairExchangesRow.holds Try.pinned (OpenSpec.ofChange pairExchangesSpec)

/-- ITS FALSE NEIGHBOUR: 'it returns false'. Refute it at one input. -/
def pairExchangesWrong : ChangeSpec := { name := "pairExchanges", fn := fun _ => fun
  | [d1, d2, d3, d4] => { results := [.lit (.bool false)], args := [d1, d2, d3, d4] }
  | _ => none }
def PairExchangesWrongFalsely : Prop := pairExchangesRow.holds Try.pinned (OpenSpec.ofChange pairExchangesWrong)

/-- 'carillonlaw03.PairTurns': WHATEVER THE INPUT: true; the input reads as it did. -/
def pairTurnsSpec : ChangeSpec := { name := "pairTurns", fn := fun _ => fun
  | [d1, d2] => { results := [.lit (.bool true)], args := [d1, d2] }
  | _ => none }
def pairTurnsRow : OpenClaim := { program := "ytppfmnbedihfcaa", sum := "5a185f7ba1722c83ac8dd1873162204233507da41dd9120615c5bbd8b54a58bd", func := "carillon/carillonlaw03.PairTurns", spec := "pairTurns", inPlace := ["math.archTrunc", "math.Float64bits", "math.Float64frombits"], apart := false }
def PairTurnsSaid : Prop := pairTurnsRow.holds Try.pinned (OpenSpec.ofChange pairTurnsSpec)

/-- ITS FALSE NEIGHBOUR: 'it returns false'. Refute it at one input. -/
def pairTurnsWrong : ChangeSpec := { name := "pairTurns", fn := fun _ => fun
  | [d1, d2] => { results := [.lit (.bool false)], args := [d1, d2] }
  | _ => none }
def PairTurnsWrongFalsely : Prop := pairTurnsRow.holds Try.pinned (OpenSpec.ofChange pairTurnsWrong)

/-- 'carillonlaw03.PairShift': WHATEVER THE INPUT: true; the input reads as it did. -/
def pairShiftSpec : ChangeSpec := { name := "pairShift", fn := fun _ => fun
  | [d1, d2, d3, d4] => { results := [.lit (.bool true)], args := [d1, d2, d3, d4] }
  | _ => none }
def pairShiftRow : OpenClaim := { program := "ytppfmnbedihfcaa", sum := "5a185f7ba1722c83ac8dd1873162204233507da41dd9120615c5bbd8b54a58bd", func := "carillon/carillonlaw03.PairShift", spec := "pairShift", inPlace := ["math.archTrunc", "math.Float64bits", "math.Float64frombits"], apart := false }
def PairShiftSaid : Prop := pairShiftRow.holds Try.pinned (OpenSpec.ofChange pairShiftSpec)

/-- ITS FALSE NEIGHBOUR: 'it returns false'. Refute it at one input. -/
def pairShiftWrong : ChangeSpec := { name := "pairShift", fn := fun _ => fun
  | [d1, d2, d3, d4] => { results := [.lit (.bool false)], args := [d1, d2, d3, d4] }
  | _ => none }
def PairShiftWrongFalsely : Prop := pairShiftRow.holds Try.pinned (OpenSpec.ofChange pairShiftWrong)

/-- 'carillonlaw03.PairEven': WHATEVER THE INPUT: true; the input reads as it did. -/
def pairEvenSpec : ChangeSpec := { name := "pairEven", fn := fun _ => fun
  | [d1, d2, d3] => { results := [.lit (.bool true)], args := [d1, d2, d3] }
  | _ => none }
def pairEvenRow : OpenClaim := { program := "ytppfmnbedihfcaa", sum := "5a185f7ba1722c83ac8dd1873162204233507da41dd9120615c5bbd8b54a58bd", func := "carillon/carillonlaw03.PairEven", spec := "pairEven", inPlace := ["math.archTrunc", "math.Float64bits", "math.Float64frombits"], apart := false }
def PairEvenSaid : Prop := pairEvenRow.holds Try.pinned (OpenSpec.ofChange pairEvenSpec)

/-- ITS FALSE NEIGHBOUR: 'it returns false'. Refute it at one input. -/
def pairEvenWrong : ChangeSpec := { name := "pairEven", fn := fun _ => fun
  | [d1, d2, d3] => { results := [.lit (.bool false)], args := [d1, d2, d3] }
  | _ => none }
def PairEvenWrongFalsely : Prop := pairEvenRow.holds Try.pinned (OpenSpec.ofChange pairEvenWrong)

/-- 'carillonlaw03.PairSames': WHATEVER THE INPUT: true; the input reads as it did. -/
def pairSamesSpec : ChangeSpec := { name := "pairSames", fn := fun _ => fun
  | [d1, d2, d3, d4, d5] => { results := [.lit (.bool true)], args := [d1, d2, d3, d4, d5] }
  | _ => none }
def pairSamesRow : OpenClaim := { program := "ytppfmnbedihfcaa", sum := "5a185f7ba1722c83ac8dd1873162204233507da41dd9120615c5bbd8b54a58bd", func := "carillon/carillonlaw03.PairSames", spec := "pairSames", inPlace := ["math.archTrunc", "math.Float64bits", "math.Float64frombits"], unfollowed := true, recurses := true, apart := false }
def PairSamesSaid : Prop := pairSamesRow.holds Try.pinned (OpenSpec.ofChange pairSamesSpec)

/-- ITS FALSE NEIGHBOUR: 'it returns false'. Refute it at one input. -/
def pairSamesWrong : ChangeSpec := { name := "pairSames", fn := fun _ => fun
  | [d1, d2, d3, d4, d5] => { results := [.lit (.bool false)], args := [d1, d2, d3, d4, d5] }
  | _ => none }
def PairSamesWrongFalsely : Prop := pairSamesRow.holds Try.pinned (OpenSpec.ofChange pairSamesWrong)

/- THE SECOND FORM. 'bulk': how many values and letters a reading holds, each counted each time it is reached (what is shared counts as often as it is met; a slice's spare places count too). A statement '..UptoSaid' is the law's where the arguments, and the package variables that the reading takes, are together of bulk at most 1048576: NARROWER than '..Said'. Prove '..Said' where nothing that the law and all that it calls make is longer than what came in: it says more and counts as full. Else prove '..UptoSaid'. A law counts once. -/
mutual
def uptoBulk {H : Type} : DataW H → Nat
  | .lit (.string bytes) => bytes.length + 1
  | .lit _ => 1
  | .nil => 1
  | .ptr d => uptoBulk d + 1
  | .slice elems spare => uptoBulkAll elems + uptoBulkAll spare + 1
  | .agg parts => uptoBulkAll parts + 1
  | .iface _ d => uptoBulk d + 1
  | .map entries => uptoBulkEntries entries + 1
  | .held _ => 1
def uptoBulkAll {H : Type} : List (DataW H) → Nat
  | [] => 0
  | d :: r => uptoBulk d + uptoBulkAll r
def uptoBulkEntries {H : Type} : List (Lit × DataW H) → Nat
  | [] => 0
  | x :: r => uptoBulkEntry x + uptoBulkEntries r
def uptoBulkEntry {H : Type} : Lit × DataW H → Nat
  | (.string bytes, d) => bytes.length + uptoBulk d + 1
  | (_, d) => uptoBulk d + 1
 end
def uptoSmall : (H : Type) → List (DataW H) → Bool := fun _ ds => decide (uptoBulkAll ds ≤ 1048576)
def OpenSpec.upto (s : _root_.Go.ChangeSpec) : _root_.Go.OpenSpec := { _root_.Go.OpenSpec.ofChange s with cond := some uptoSmall }

/-- 'carillonlaw03.PairExchanges', WHERE WHAT IT READS IS OF BULK AT MOST 1048576: true; the input reads as it did. -/
def pairExchangesUptoRow : OpenClaim := { program := "ytppfmnbedihfcaa", sum := "5a185f7ba1722c83ac8dd1873162204233507da41dd9120615c5bbd8b54a58bd", func := "carillon/carillonlaw03.PairExchanges", spec := "pairExchanges", inPlace := ["math.archTrunc", "math.Float64bits", "math.Float64frombits"], apart := false, narrowed := true }
def PairExchangesUptoSaid : Prop := pairExchangesUptoRow.holds Try.pinned (OpenSpec.upto pairExchangesSpec)

/-- 'carillonlaw03.PairTurns', WHERE WHAT IT READS IS OF BULK AT MOST 1048576: true; the input reads as it did. -/
def pairTurnsUptoRow : OpenClaim := { program := "ytppfmnbedihfcaa", sum := "5a185f7ba1722c83ac8dd1873162204233507da41dd9120615c5bbd8b54a58bd", func := "carillon/carillonlaw03.PairTurns", spec := "pairTurns", inPlace := ["math.archTrunc", "math.Float64bits", "math.Float64frombits"], apart := false, narrowed := true }
def PairTurnsUptoSaid : Prop := pairTurnsUptoRow.holds Try.pinned (OpenSpec.upto pairTurnsSpec)

/-- 'carillonlaw03.PairShift', WHERE WHAT IT READS IS OF BULK AT MOST 1048576: true; the input reads as it did. -/
def pairShiftUptoRow : OpenClaim := { program := "ytppfmnbedihfcaa", sum := "5a185f7ba1722c83ac8dd1873162204233507da41dd9120615c5bbd8b54a58bd", func := "carillon/carillonlaw03.PairShift", spec := "pairShift", inPlace := ["math.archTrunc", "math.Float64bits", "math.Float64frombits"], apart := false, narrowed := true }
def PairShiftUptoSaid : Prop := pairShiftUptoRow.holds Try.pinned (OpenSpec.upto pairShiftSpec)

/-- 'carillonlaw03.PairEven', WHERE WHAT IT READS IS OF BULK AT MOST 1048576: true; the input reads as it did. -/
def pairEvenUptoRow : OpenClaim := { program := "ytppfmnbedihfcaa", sum := "5a185f7ba1722c83ac8dd1873162204233507da41dd9120615c5bbd8b54a58bd", func := "carillon/carillonlaw03.PairEven", spec := "pairEven", inPlace := ["math.archTrunc", "math.Float64bits", "math.Float64frombits"], apart := false, narrowed := true }
def PairEvenUptoSaid : Prop := pairEvenUptoRow.holds Try.pinned (OpenSpec.upto pairEvenSpec)

/-- 'carillonlaw03.PairSames', WHERE WHAT IT READS IS OF BULK AT MOST 1048576: true; the input reads as it did. -/
def pairSamesUptoRow : OpenClaim := { program := "ytppfmnbedihfcaa", sum := "5a185f7ba1722c83ac8dd1873162204233507da41dd9120615c5bbd8b54a58bd", func := "carillon/carillonlaw03.PairSames", spec := "pairSames", inPlace := ["math.archTrunc", "math.Float64bits", "math.Float64frombits"], unfollowed := true, recurses := true, apart := false, narrowed := true }
def PairSamesUptoSaid : Prop := pairSamesUptoRow.holds Try.pinned (OpenSpec.upto pairSamesSpec)

end Rows
end Go.Proofs.Ytppfmnbedihfcaa
