/-
  No cell of these rows narrows 'for every input' (looked for: loops, veiled, ifaces, maps, wideKeys, modest, calm, conditions, laid).
  DERIVED. THE GIVEN ROWS OF THIS SEAT. 7 by the template 'for every input the law returns true; each argument reads behind the call as it read before'; 0 by the template 'total and deterministic' (their statements: YtabibaamlhchbaaTotals.lean).
  GIVEN WITH THE SEED: the statements are not yours to turn. If you find one false, say at which input.
  Laid BY PROGRAM, IN A SANDBOX (cutbox-rows.mjs): the forced cells as the released guide's own fill.sh prints them over the translation 7050758af7697a1f… (all of the seat's roots in one cut). By AI agents, Wed Nov 11 2026. No macro, syntax, notation, axiom, sorry.
-/
import Derived.Test.YtabibaamlhchbaaChecked
import GoSem.Claim
import GoSem.ClaimJoined
import GoSem.ClaimMapViews
import Derived.JoinedTies
import Derived.KernelRfl
namespace Go.Proofs.Ytabibaamlhchbaa
/- THE CELL 'sum', in the pinned program and in every row, IS THE sha256 OF THE DUMP (.gsa) THAT YtabibaamlhchbaaProg.lean LOADS. Nothing in Lean hashes anything: it is a label: what it is worth is what the hold of that sum in a sandbox is worth. -/
noncomputable def Try.pinned : Pinned := { name := "ytabibaamlhchbaa", sum := "7050758af7697a1f62b6c700328e5ecdbab302d5cd1d0ab2fa1705331646dccf", checked := Try.checked }
namespace Rows
def none {H : Type} : Left H := { results := [], args := [] }

/-- 'carillonlaw15.TimerMany': WHATEVER THE INPUT: true; the input reads as it did. -/
def timerManySpec : ChangeSpec := { name := "timerMany", fn := fun _ => fun
  | [d] => { results := [.lit (.bool true)], args := [d] }
  | _ => none }
def timerManyRow : OpenClaim := { program := "ytabibaamlhchbaa", sum := "7050758af7697a1f62b6c700328e5ecdbab302d5cd1d0ab2fa1705331646dccf", func := "carillon/carillonlaw15.TimerMany", spec := "timerMany", apart := false }
def TimerManySaid : Prop := timerManyRow.holds Try.pinned (OpenSpec.ofChange timerManySpec)

/-- ITS FALSE NEIGHBOUR: 'it returns false'. Refute it at one input. -/
def timerManyWrong : ChangeSpec := { name := "timerMany", fn := fun _ => fun
  | [d] => { results := [.lit (.bool false)], args := [d] }
  | _ => none }
def TimerManyWrongFalsely : Prop := timerManyRow.holds Try.pinned (OpenSpec.ofChange timerManyWrong)

/-- 'carillonlaw14.UpdateAll': WHATEVER THE INPUT: true; the input reads as it did. -/
def updateAllSpec : ChangeSpec := { name := "updateAll", fn := fun _ => fun
  | [d1, d2, d3, d4, d5, d6] => { results := [.lit (.bool true)], args := [d1, d2, d3, d4, d5, d6] }
  | _ => none }
def updateAllRow : OpenClaim := { program := "ytabibaamlhchbaa", sum := "7050758af7697a1f62b6c700328e5ecdbab302d5cd1d0ab2fa1705331646dccf", func := "carillon/carillonlaw14.UpdateAll", spec := "updateAll", apart := false }
def UpdateAllSaid : Prop := updateAllRow.holds Try.pinned (OpenSpec.ofChange updateAllSpec)

/-- ITS FALSE NEIGHBOUR: 'it returns false'. Refute it at one input. -/
def updateAllWrong : ChangeSpec := { name := "updateAll", fn := fun _ => fun
  | [d1, d2, d3, d4, d5, d6] => { results := [.lit (.bool false)], args := [d1, d2, d3, d4, d5, d6] }
  | _ => none }
def UpdateAllWrongFalsely : Prop := updateAllRow.holds Try.pinned (OpenSpec.ofChange updateAllWrong)

/-- 'carillonlaw14.UpdateSays': WHATEVER THE INPUT: true; the input reads as it did. -/
def updateSaysSpec : ChangeSpec := { name := "updateSays", fn := fun _ => fun
  | [d1, d2, d3, d4, d5] => { results := [.lit (.bool true)], args := [d1, d2, d3, d4, d5] }
  | _ => none }
def updateSaysRow : OpenClaim := { program := "ytabibaamlhchbaa", sum := "7050758af7697a1f62b6c700328e5ecdbab302d5cd1d0ab2fa1705331646dccf", func := "carillon/carillonlaw14.UpdateSays", spec := "updateSays", apart := false }
def UpdateSaysSaid : Prop := updateSaysRow.holds Try.pinned (OpenSpec.ofChange updateSaysSpec)

/-- ITS FALSE NEIGHBOUR: 'it returns false'. Refute it at one input. -/
def updateSaysWrong : ChangeSpec := { name := "updateSays", fn := fun _ => fun
  | [d1, d2, d3, d4, d5] => { results := [.lit (.bool false)], args := [d1, d2, d3, d4, d5] }
  | _ => none }
def UpdateSaysWrongFalsely : Prop := updateSaysRow.holds Try.pinned (OpenSpec.ofChange updateSaysWrong)

/-- 'carillonlaw14.UpdateLine': WHATEVER THE INPUT: true; the input reads as it did. -/
def updateLineSpec : ChangeSpec := { name := "updateLine", fn := fun _ => fun
  | [d1, d2] => { results := [.lit (.bool true)], args := [d1, d2] }
  | _ => none }
def updateLineRow : OpenClaim := { program := "ytabibaamlhchbaa", sum := "7050758af7697a1f62b6c700328e5ecdbab302d5cd1d0ab2fa1705331646dccf", func := "carillon/carillonlaw14.UpdateLine", spec := "updateLine", apart := false }
def UpdateLineSaid : Prop := updateLineRow.holds Try.pinned (OpenSpec.ofChange updateLineSpec)

/-- ITS FALSE NEIGHBOUR: 'it returns false'. Refute it at one input. -/
def updateLineWrong : ChangeSpec := { name := "updateLine", fn := fun _ => fun
  | [d1, d2] => { results := [.lit (.bool false)], args := [d1, d2] }
  | _ => none }
def UpdateLineWrongFalsely : Prop := updateLineRow.holds Try.pinned (OpenSpec.ofChange updateLineWrong)

/-- 'carillonlaw15.TimerOnce': WHATEVER THE INPUT: true; the input reads as it did. -/
def timerOnceSpec : ChangeSpec := { name := "timerOnce", fn := fun _ => fun
  | [d1, d2] => { results := [.lit (.bool true)], args := [d1, d2] }
  | _ => none }
def timerOnceRow : OpenClaim := { program := "ytabibaamlhchbaa", sum := "7050758af7697a1f62b6c700328e5ecdbab302d5cd1d0ab2fa1705331646dccf", func := "carillon/carillonlaw15.TimerOnce", spec := "timerOnce", apart := false }
def TimerOnceSaid : Prop := timerOnceRow.holds Try.pinned (OpenSpec.ofChange timerOnceSpec)

/-- ITS FALSE NEIGHBOUR: 'it returns false'. Refute it at one input. -/
def timerOnceWrong : ChangeSpec := { name := "timerOnce", fn := fun _ => fun
  | [d1, d2] => { results := [.lit (.bool false)], args := [d1, d2] }
  | _ => none }
def TimerOnceWrongFalsely : Prop := timerOnceRow.holds Try.pinned (OpenSpec.ofChange timerOnceWrong)

/-- 'carillonlaw15.TimerPlays': WHATEVER THE INPUT: true; the input reads as it did. -/
def timerPlaysSpec : ChangeSpec := { name := "timerPlays", fn := fun _ => fun
  | [d1, d2] => { results := [.lit (.bool true)], args := [d1, d2] }
  | _ => none }
def timerPlaysRow : OpenClaim := { program := "ytabibaamlhchbaa", sum := "7050758af7697a1f62b6c700328e5ecdbab302d5cd1d0ab2fa1705331646dccf", func := "carillon/carillonlaw15.TimerPlays", spec := "timerPlays", apart := false }
def TimerPlaysSaid : Prop := timerPlaysRow.holds Try.pinned (OpenSpec.ofChange timerPlaysSpec)

/-- ITS FALSE NEIGHBOUR: 'it returns false'. Refute it at one input. -/
def timerPlaysWrong : ChangeSpec := { name := "timerPlays", fn := fun _ => fun
  | [d1, d2] => { results := [.lit (.bool false)], args := [d1, d2] }
  | _ => none }
def TimerPlaysWrongFalsely : Prop := timerPlaysRow.holds Try.pinned (OpenSpec.ofChange timerPlaysWrong)

/-- 'carillonlaw15.TimerStops': WHATEVER THE INPUT: true; the input reads as it did. -/
def timerStopsSpec : ChangeSpec := { name := "timerStops", fn := fun _ => fun
  | [d1, d2, d3] => { results := [.lit (.bool true)], args := [d1, d2, d3] }
  | _ => none }
def timerStopsRow : OpenClaim := { program := "ytabibaamlhchbaa", sum := "7050758af7697a1f62b6c700328e5ecdbab302d5cd1d0ab2fa1705331646dccf", func := "carillon/carillonlaw15.TimerStops", spec := "timerStops", apart := false }
def TimerStopsSaid : Prop := timerStopsRow.holds Try.pinned (OpenSpec.ofChange timerStopsSpec)

/-- ITS FALSE NEIGHBOUR: 'it returns false'. Refute it at one input. -/
def timerStopsWrong : ChangeSpec := { name := "timerStops", fn := fun _ => fun
  | [d1, d2, d3] => { results := [.lit (.bool false)], args := [d1, d2, d3] }
  | _ => none }
def TimerStopsWrongFalsely : Prop := timerStopsRow.holds Try.pinned (OpenSpec.ofChange timerStopsWrong)

/- THE SECOND FORM. 'bulk': how many values and letters a reading holds, each counted each time it is reached (what is shared counts as often as it is met; a slice's spare places count too). A statement '..UptoSaid' is the law's where the arguments, and the package variables that the reading takes, are together of bulk at most 1048576: NARROWER than '..Said'. Prove '..Said' where nothing that the law and all that it calls make is longer than what came in: it says more and counts as full. Else prove '..UptoSaid'. A law counts once. -/
mutual
def uptoBulk {H : Type} : DataW H → Nat
  | .lit (.string bytes) => bytes.length + 1
  | .lit _ => 1
  | .nil => 1
  | .ptr d => uptoBulk d + 1
  | .slice elems spare => uptoBulkAll elems + uptoBulkAll spare + 1
  | .agg parts => uptoBulkAll parts + 1
  | .iface _ d => uptoBulk d + 1
  | .map entries => uptoBulkEntries entries + 1
  | .held _ => 1
def uptoBulkAll {H : Type} : List (DataW H) → Nat
  | [] => 0
  | d :: r => uptoBulk d + uptoBulkAll r
def uptoBulkEntries {H : Type} : List (Lit × DataW H) → Nat
  | [] => 0
  | x :: r => uptoBulkEntry x + uptoBulkEntries r
def uptoBulkEntry {H : Type} : Lit × DataW H → Nat
  | (.string bytes, d) => bytes.length + uptoBulk d + 1
  | (_, d) => uptoBulk d + 1
 end
def uptoSmall : (H : Type) → List (DataW H) → Bool := fun _ ds => decide (uptoBulkAll ds ≤ 1048576)
def OpenSpec.upto (s : _root_.Go.ChangeSpec) : _root_.Go.OpenSpec := { _root_.Go.OpenSpec.ofChange s with cond := some uptoSmall }

/-- 'carillonlaw15.TimerMany', WHERE WHAT IT READS IS OF BULK AT MOST 1048576: true; the input reads as it did. -/
def timerManyUptoRow : OpenClaim := { program := "ytabibaamlhchbaa", sum := "7050758af7697a1f62b6c700328e5ecdbab302d5cd1d0ab2fa1705331646dccf", func := "carillon/carillonlaw15.TimerMany", spec := "timerMany", apart := false, narrowed := true }
def TimerManyUptoSaid : Prop := timerManyUptoRow.holds Try.pinned (OpenSpec.upto timerManySpec)

/-- 'carillonlaw14.UpdateAll', WHERE WHAT IT READS IS OF BULK AT MOST 1048576: true; the input reads as it did. -/
def updateAllUptoRow : OpenClaim := { program := "ytabibaamlhchbaa", sum := "7050758af7697a1f62b6c700328e5ecdbab302d5cd1d0ab2fa1705331646dccf", func := "carillon/carillonlaw14.UpdateAll", spec := "updateAll", apart := false, narrowed := true }
def UpdateAllUptoSaid : Prop := updateAllUptoRow.holds Try.pinned (OpenSpec.upto updateAllSpec)

/-- 'carillonlaw14.UpdateSays', WHERE WHAT IT READS IS OF BULK AT MOST 1048576: true; the input reads as it did. -/
def updateSaysUptoRow : OpenClaim := { program := "ytabibaamlhchbaa", sum := "7050758af7697a1f62b6c700328e5ecdbab302d5cd1d0ab2fa1705331646dccf", func := "carillon/carillonlaw14.UpdateSays", spec := "updateSays", apart := false, narrowed := true }
def UpdateSaysUptoSaid : Prop := updateSaysUptoRow.holds Try.pinned (OpenSpec.upto updateSaysSpec)

/-- 'carillonlaw14.UpdateLine', WHERE WHAT IT READS IS OF BULK AT MOST 1048576: true; the input reads as it did. -/
def updateLineUptoRow : OpenClaim := { program := "ytabibaamlhchbaa", sum := "7050758af7697a1f62b6c700328e5ecdbab302d5cd1d0ab2fa1705331646dccf", func := "carillon/carillonlaw14.UpdateLine", spec := "updateLine", apart := false, narrowed := true }
def UpdateLineUptoSaid : Prop := updateLineUptoRow.holds Try.pinned (OpenSpec.upto updateLineSpec)

/-- 'carillonlaw15.TimerOnce', WHERE WHAT IT READS IS OF BULK AT MOST 1048576: true; the input reads as it did. -/
def timerOnceUptoRow : OpenClaim := { program := "ytabibaamlhchbaa", sum := "7050758af7697a1f62b6c700328e5ecdbab302d5cd1d0ab2fa1705331646dccf", func := "carillon/carillonlaw15.TimerOnce", spec := "timerOnce", apart := false, narrowed := true }
def TimerOnceUptoSaid : Prop := timerOnceUptoRow.holds Try.pinned (OpenSpec.upto timerOnceSpec)

/-- 'carillonlaw15.TimerPlays', WHERE WHAT IT READS IS OF BULK AT MOST 1048576: true; the input reads as it did. -/
def timerPlaysUptoRow : OpenClaim := { program := "ytabibaamlhchbaa", sum := "7050758af7697a1f62b6c700328e5ecdbab302d5cd1d0ab2fa1705331646dccf", func := "carillon/carillonlaw15.TimerPlays", spec := "timerPlays", apart := false, narrowed := true }
def TimerPlaysUptoSaid : Prop := timerPlaysUptoRow.holds Try.pinned (OpenSpec.upto timerPlaysSpec)

/-- 'carillonlaw15.TimerStops', WHERE WHAT IT READS IS OF BULK AT MOST 1048576: true; the input reads as it did. -/
def timerStopsUptoRow : OpenClaim := { program := "ytabibaamlhchbaa", sum := "7050758af7697a1f62b6c700328e5ecdbab302d5cd1d0ab2fa1705331646dccf", func := "carillon/carillonlaw15.TimerStops", spec := "timerStops", apart := false, narrowed := true }
def TimerStopsUptoSaid : Prop := timerStopsUptoRow.holds Try.pinned (OpenSpec.upto timerStopsSpec)

end Rows
end Go.Proofs.Ytabibaamlhchbaa
