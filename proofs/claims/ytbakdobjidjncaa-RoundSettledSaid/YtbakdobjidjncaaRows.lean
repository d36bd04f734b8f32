/-
  No cell of these rows narrows 'for every input' (looked for: loops, veiled, ifaces, maps, wideKeys, modest, calm, conditions, laid).
  DERIVED. THE GIVEN ROWS OF THIS SEAT. 10 by the template 'for every input the law returns true; each argument reads behind the call as it read before'; 0 by the template 'total and deterministic' (their statements: YtbakdobjidjncaaTotals.lean).
  GIVEN WITH THE SEED: the statements are not yours to turn. If you find one false, say at which input.
  Laid BY PROGRAM, IN A SANDBOX (cutbox-rows.mjs): the forced cells as the released guide's own fill.sh prints them over the translation 6c330aee7aeadfff… (all of the seat's roots in one cut). By AI agents, Wed Nov 11 2026. No macro, syntax, notation, axiom, sorry.
-/
import Derived.Test.YtbakdobjidjncaaChecked
import GoSem.Claim
import GoSem.ClaimJoined
import GoSem.ClaimMapViews
import Derived.JoinedTies
import Derived.KernelRfl
namespace Go.Proofs.Ytbakdobjidjncaa
/- THE CELL 'sum', in the pinned program and in every row, IS THE sha256 OF THE DUMP (.gsa) THAT YtbakdobjidjncaaProg.lean LOADS. Nothing in Lean hashes anything: it is a label: what it is worth is what the hold of that sum in a sandbox is worth. -/
noncomputable def Try.pinned : Pinned := { name := "ytbakdobjidjncaa", sum := "6c330aee7aeadfff265921482eac3bb816f17d9966895429bcaa78fcf6299ee3", checked := Try.checked }
namespace Rows
def none {H : Type} : Left H := { results := [], args := [] }

/-- 'roundellaw12.RoundTurns': WHATEVER THE INPUT: true; the input reads as it did. -/
def roundTurnsSpec : ChangeSpec := { name := "roundTurns", fn := fun _ => fun
  | [d1, d2] => { results := [.lit (.bool true)], args := [d1, d2] }
  | _ => none }
def roundTurnsRow : OpenClaim := { program := "ytbakdobjidjncaa", sum := "6c330aee7aeadfff265921482eac3bb816f17d9966895429bcaa78fcf6299ee3", func := "roundel/roundellaw12.RoundTurns", spec := "roundTurns", recurses := true, apart := false }
def RoundTurnsSaid : Prop := roundTurnsRow.holds Try.pinned (OpenSpec.ofChange roundTurnsSpec)

/-- ITS FALSE NEIGHBOUR: 'it returns false'. Refute it at one input. -/
def roundTurnsWrong : ChangeSpec := { name := "roundTurns", fn := fun _ => fun
  | [d1, d2] => { results := [.lit (.bool false)], args := [d1, d2] }
  | _ => none }
def RoundTurnsWrongFalsely : Prop := roundTurnsRow.holds Try.pinned (OpenSpec.ofChange roundTurnsWrong)

/-- 'roundellaw12.RoundLate': WHATEVER THE INPUT: true; the input reads as it did. -/
def roundLateSpec : ChangeSpec := { name := "roundLate", fn := fun _ => fun
  | [d1, d2, d3] => { results := [.lit (.bool true)], args := [d1, d2, d3] }
  | _ => none }
def roundLateRow : OpenClaim := { program := "ytbakdobjidjncaa", sum := "6c330aee7aeadfff265921482eac3bb816f17d9966895429bcaa78fcf6299ee3", func := "roundel/roundellaw12.RoundLate", spec := "roundLate", recurses := true, apart := false }
def RoundLateSaid : Prop := roundLateRow.holds Try.pinned (OpenSpec.ofChange roundLateSpec)

/-- ITS FALSE NEIGHBOUR: 'it returns false'. Refute it at one input. -/
def roundLateWrong : ChangeSpec := { name := "roundLate", fn := fun _ => fun
  | [d1, d2, d3] => { results := [.lit (.bool false)], args := [d1, d2, d3] }
  | _ => none }
def RoundLateWrongFalsely : Prop := roundLateRow.holds Try.pinned (OpenSpec.ofChange roundLateWrong)

/-- 'roundellaw12.RoundResizes': WHATEVER THE INPUT: true; the input reads as it did. -/
def roundResizesSpec : ChangeSpec := { name := "roundResizes", fn := fun _ => fun
  | [d1, d2, d3] => { results := [.lit (.bool true)], args := [d1, d2, d3] }
  | _ => none }
def roundResizesRow : OpenClaim := { program := "ytbakdobjidjncaa", sum := "6c330aee7aeadfff265921482eac3bb816f17d9966895429bcaa78fcf6299ee3", func := "roundel/roundellaw12.RoundResizes", spec := "roundResizes", recurses := true, apart := false }
def RoundResizesSaid : Prop := roundResizesRow.holds Try.pinned (OpenSpec.ofChange roundResizesSpec)

/-- ITS FALSE NEIGHBOUR: 'it returns false'. Refute it at one input. -/
def roundResizesWrong : ChangeSpec := { name := "roundResizes", fn := fun _ => fun
  | [d1, d2, d3] => { results := [.lit (.bool false)], args := [d1, d2, d3] }
  | _ => none }
def RoundResizesWrongFalsely : Prop := roundResizesRow.holds Try.pinned (OpenSpec.ofChange roundResizesWrong)

/-- 'roundellaw12.RoundSettled': WHATEVER THE INPUT: true; the input reads as it did. -/
def roundSettledSpec : ChangeSpec := { name := "roundSettled", fn := fun _ => fun
  | [d] => { results := [.lit (.bool true)], args := [d] }
  | _ => none }
def roundSettledRow : OpenClaim := { program := "ytbakdobjidjncaa", sum := "6c330aee7aeadfff265921482eac3bb816f17d9966895429bcaa78fcf6299ee3", func := "roundel/roundellaw12.RoundSettled", spec := "roundSettled", unfollowed := true, recurses := true, apart := false }
def RoundSettledSaid : Prop := roundSettledRow.holds Try.pinned (OpenSpec.ofChange roundSettledSpec)

/-- ITS FALSE NEIGHBOUR: 'it returns false'. Refute it at one input. -/
def roundSettledWrong : ChangeSpec := { name := "roundSettled", fn := fun _ => fun
  | [d] => { results := [.lit (.bool false)], args := [d] }
  | _ => none }
def RoundSettledWrongFalsely : Prop := roundSettledRow.holds Try.pinned (OpenSpec.ofChange roundSettledWrong)

/-- 'roundellaw12.RoundPlays': WHATEVER THE INPUT: true; the input reads as it did. -/
def roundPlaysSpec : ChangeSpec := { name := "roundPlays", fn := fun _ => fun
  | [d1, d2] => { results := [.lit (.bool true)], args := [d1, d2] }
  | _ => none }
def roundPlaysRow : OpenClaim := { program := "ytbakdobjidjncaa", sum := "6c330aee7aeadfff265921482eac3bb816f17d9966895429bcaa78fcf6299ee3", func := "roundel/roundellaw12.RoundPlays", spec := "roundPlays", unfollowed := true, recurses := true, apart := false }
def RoundPlaysSaid : Prop := roundPlaysRow.holds Try.pinned (OpenSpec.ofChange roundPlaysSpec)

/-- ITS FALSE NEIGHBOUR: 'it returns false'. Refute it at one input. -/
def roundPlaysWrong : ChangeSpec := { name := "roundPlays", fn := fun _ => fun
  | [d1, d2] => { results := [.lit (.bool false)], args := [d1, d2] }
  | _ => none }
def RoundPlaysWrongFalsely : Prop := roundPlaysRow.holds Try.pinned (OpenSpec.ofChange roundPlaysWrong)

/-- 'roundellaw12.RoundBack': WHATEVER THE INPUT: true; the input reads as it did. -/
def roundBackSpec : ChangeSpec := { name := "roundBack", fn := fun _ => fun
  | [d1, d2] => { results := [.lit (.bool true)], args := [d1, d2] }
  | _ => none }
def roundBackRow : OpenClaim := { program := "ytbakdobjidjncaa", sum := "6c330aee7aeadfff265921482eac3bb816f17d9966895429bcaa78fcf6299ee3", func := "roundel/roundellaw12.RoundBack", spec := "roundBack", unfollowed := true, recurses := true, apart := false }
def RoundBackSaid : Prop := roundBackRow.holds Try.pinned (OpenSpec.ofChange roundBackSpec)

/-- ITS FALSE NEIGHBOUR: 'it returns false'. Refute it at one input. -/
def roundBackWrong : ChangeSpec := { name := "roundBack", fn := fun _ => fun
  | [d1, d2] => { results := [.lit (.bool false)], args := [d1, d2] }
  | _ => none }
def RoundBackWrongFalsely : Prop := roundBackRow.holds Try.pinned (OpenSpec.ofChange roundBackWrong)

/-- 'roundellaw06.TableFills': WHATEVER THE INPUT: true; the input reads as it did. -/
def tableFillsSpec : ChangeSpec := { name := "tableFills", fn := fun _ => fun
  | [d1, d2] => { results := [.lit (.bool true)], args := [d1, d2] }
  | _ => none }
def tableFillsRow : OpenClaim := { program := "ytbakdobjidjncaa", sum := "6c330aee7aeadfff265921482eac3bb816f17d9966895429bcaa78fcf6299ee3", func := "roundel/roundellaw06.TableFills", spec := "tableFills", unfollowed := true, recurses := true, apart := false }
def TableFillsSaid : Prop := tableFillsRow.holds Try.pinned (OpenSpec.ofChange tableFillsSpec)

/-- ITS FALSE NEIGHBOUR: 'it returns false'. Refute it at one input. -/
def tableFillsWrong : ChangeSpec := { name := "tableFills", fn := fun _ => fun
  | [d1, d2] => { results := [.lit (.bool false)], args := [d1, d2] }
  | _ => none }
def TableFillsWrongFalsely : Prop := tableFillsRow.holds Try.pinned (OpenSpec.ofChange tableFillsWrong)

/-- 'roundellaw06.TableOnce': WHATEVER THE INPUT: true; the input reads as it did. -/
def tableOnceSpec : ChangeSpec := { name := "tableOnce", fn := fun _ => fun
  | [d1, d2] => { results := [.lit (.bool true)], args := [d1, d2] }
  | _ => none }
def tableOnceRow : OpenClaim := { program := "ytbakdobjidjncaa", sum := "6c330aee7aeadfff265921482eac3bb816f17d9966895429bcaa78fcf6299ee3", func := "roundel/roundellaw06.TableOnce", spec := "tableOnce", unfollowed := true, recurses := true, apart := false }
def TableOnceSaid : Prop := tableOnceRow.holds Try.pinned (OpenSpec.ofChange tableOnceSpec)

/-- ITS FALSE NEIGHBOUR: 'it returns false'. Refute it at one input. -/
def tableOnceWrong : ChangeSpec := { name := "tableOnce", fn := fun _ => fun
  | [d1, d2] => { results := [.lit (.bool false)], args := [d1, d2] }
  | _ => none }
def TableOnceWrongFalsely : Prop := tableOnceRow.holds Try.pinned (OpenSpec.ofChange tableOnceWrong)

/-- 'roundellaw06.TableEnds': WHATEVER THE INPUT: true; the input reads as it did. -/
def tableEndsSpec : ChangeSpec := { name := "tableEnds", fn := fun _ => fun
  | [d] => { results := [.lit (.bool true)], args := [d] }
  | _ => none }
def tableEndsRow : OpenClaim := { program := "ytbakdobjidjncaa", sum := "6c330aee7aeadfff265921482eac3bb816f17d9966895429bcaa78fcf6299ee3", func := "roundel/roundellaw06.TableEnds", spec := "tableEnds", unfollowed := true, recurses := true, apart := false }
def TableEndsSaid : Prop := tableEndsRow.holds Try.pinned (OpenSpec.ofChange tableEndsSpec)

/-- ITS FALSE NEIGHBOUR: 'it returns false'. Refute it at one input. -/
def tableEndsWrong : ChangeSpec := { name := "tableEnds", fn := fun _ => fun
  | [d] => { results := [.lit (.bool false)], args := [d] }
  | _ => none }
def TableEndsWrongFalsely : Prop := tableEndsRow.holds Try.pinned (OpenSpec.ofChange tableEndsWrong)

/-- 'roundellaw06.TableSlots': WHATEVER THE INPUT: true; the input reads as it did. -/
def tableSlotsSpec : ChangeSpec := { name := "tableSlots", fn := fun _ => fun
  | [d1, d2] => { results := [.lit (.bool true)], args := [d1, d2] }
  | _ => none }
def tableSlotsRow : OpenClaim := { program := "ytbakdobjidjncaa", sum := "6c330aee7aeadfff265921482eac3bb816f17d9966895429bcaa78fcf6299ee3", func := "roundel/roundellaw06.TableSlots", spec := "tableSlots", unfollowed := true, recurses := true, apart := false }
def TableSlotsSaid : Prop := tableSlotsRow.holds Try.pinned (OpenSpec.ofChange tableSlotsSpec)

/-- ITS FALSE NEIGHBOUR: 'it returns false'. Refute it at one input. -/
def tableSlotsWrong : ChangeSpec := { name := "tableSlots", fn := fun _ => fun
  | [d1, d2] => { results := [.lit (.bool false)], args := [d1, d2] }
  | _ => none }
def TableSlotsWrongFalsely : Prop := tableSlotsRow.holds Try.pinned (OpenSpec.ofChange tableSlotsWrong)

/- THE SECOND FORM. 'bulk': how many values and letters a reading holds, each counted each time it is reached (what is shared counts as often as it is met; a slice's spare places count too). A statement '..UptoSaid' is the law's where the arguments, and the package variables that the reading takes, are together of bulk at most 1048576: NARROWER than '..Said'. Prove '..Said' where nothing that the law and all that it calls make is longer than what came in: it says more and counts as full. Else prove '..UptoSaid'. A law counts once. -/
mutual
def uptoBulk {H : Type} : DataW H → Nat
  | .lit (.string bytes) => bytes.length + 1
  | .lit _ => 1
  | .nil => 1
  | .ptr d => uptoBulk d + 1
  | .slice elems spare => uptoBulkAll elems + uptoBulkAll spare + 1
  | .agg parts => uptoBulkAll parts + 1
  | .iface _ d => uptoBulk d + 1
  | .map entries => uptoBulkEntries entries + 1
  | .held _ => 1
def uptoBulkAll {H : Type} : List (DataW H) → Nat
  | [] => 0
  | d :: r => uptoBulk d + uptoBulkAll r
def uptoBulkEntries {H : Type} : List (Lit × DataW H) → Nat
  | [] => 0
  | x :: r => uptoBulkEntry x + uptoBulkEntries r
def uptoBulkEntry {H : Type} : Lit × DataW H → Nat
  | (.string bytes, d) => bytes.length + uptoBulk d + 1
  | (_, d) => uptoBulk d + 1
 end
def uptoSmall : (H : Type) → List (DataW H) → Bool := fun _ ds => decide (uptoBulkAll ds ≤ 1048576)
def OpenSpec.upto (s : _root_.Go.ChangeSpec) : _root_.Go.OpenSpec := { _root_.Go.OpenSpec.ofChange s with cond := some uptoSmall }

/-- 'roundellaw12.RoundTurns', WHERE WHAT IT READS IS OF BULK AT MOST 1048576: true; the input reads as it did. -/
def roundTurnsUptoRow : OpenClaim := { program := "ytbakdobjidjncaa", sum := "6c330aee7aeadfff265921482eac3bb816f17d9966895429bcaa78fcf6299ee3", func := "roundel/roundellaw12.RoundTurns", spec := "roundTurns", recurses := true, apart := false, narrowed := true }
def RoundTurnsUptoSaid : Prop := roundTurnsUptoRow.holds Try.pinned (OpenSpec.upto roundTurnsSpec)

/-- 'roundellaw12.RoundLate', WHERE WHAT IT READS IS OF BULK AT MOST 1048576: true; the input reads as it did. -/
def roundLateUptoRow : OpenClaim := { program := "ytbakdobjidjncaa", sum := "6c330aee7aeadfff265921482eac3bb816f17d9966895429bcaa78fcf6299ee3", func := "roundel/roundellaw12.RoundLate", spec := "roundLate", recurses := true, apart := false, narrowed := true }
def RoundLateUptoSaid : Prop := roundLateUptoRow.holds Try.pinned (OpenSpec.upto roundLateSpec)

/-- 'roundellaw12.RoundResizes', WHERE WHAT IT READS IS OF BULK AT MOST 1048576: true; the input reads as it did. -/
def roundResizesUptoRow : OpenClaim := { program := "ytbakdobjidjncaa", sum := "6c330aee7aeadfff265921482eac3bb816f17d9966895429bcaa78fcf6299ee3", func := "roundel/roundellaw12.RoundResizes", spec := "roundResizes", recurses := true, apart := false, narrowed := true }
def RoundResizesUptoSaid : Prop := roundResizesUptoRow.holds Try.pinned (OpenSpec.upto roundResizesSpec)

/-- 'roundellaw12.RoundSettled', WHERE WHAT IT READS IS OF BULK AT MOST 1048576: true; the input reads as it did. -/
def roundSettledUptoRow : OpenClaim := { program := "ytbakdobjidjncaa", sum := "6c330aee7aeadfff265921482eac3bb816f17d9966895429bcaa78fcf6299ee3", func := "roundel/roundellaw12.RoundSettled", spec := "roundSettled", unfollowed := true, recurses := true, apart := false, narrowed := true }
def RoundSettledUptoSaid : Prop := roundSettledUptoRow.holds Try.pinned (OpenSpec.upto roundSettledSpec)

/-- 'roundellaw12.RoundPlays', WHERE WHAT IT READS IS OF BULK AT MOST 1048576: true; the input reads as it did. -/
def roundPlaysUptoRow : OpenClaim := { program := "ytbakdobjidjncaa", sum := "6c330aee7aeadfff265921482eac3bb816f17d9966895429bcaa78fcf6299ee3", func := "roundel/roundellaw12.RoundPlays", spec := "roundPlays", unfollowed := true, recurses := true, apart := false, narrowed := true }
def RoundPlaysUptoSaid : Prop := roundPlaysUptoRow.holds Try.pinned (OpenSpec.upto roundPlaysSpec)

/-- 'roundellaw12.RoundBack', WHERE WHAT IT READS IS OF BULK AT MOST 1048576: true; the input reads as it did. -/
def roundBackUptoRow : OpenClaim := { program := "ytbakdobjidjncaa", sum := "6c330aee7aeadfff265921482eac3bb816f17d9966895429bcaa78fcf6299ee3", func := "roundel/roundellaw12.RoundBack", spec := "roundBack", unfollowed := true, recurses := true, apart := false, narrowed := true }
def RoundBackUptoSaid : Prop := roundBackUptoRow.holds Try.pinned (OpenSpec.upto roundBackSpec)

/-- 'roundellaw06.TableFills', WHERE WHAT IT READS IS OF BULK AT MOST 1048576: true; the input reads as it did. -/
def tableFillsUptoRow : OpenClaim := { program := "ytbakdobjidjncaa", sum := "6c330aee7aeadfff265921482eac3bb816f17d9966895429bcaa78fcf6299ee3", func := "roundel/roundellaw06.TableFills", spec := "tableFills", unfollowed := true, recurses := true, apart := false, narrowed := true }
def TableFillsUptoSaid : Prop := tableFillsUptoRow.holds Try.pinned (OpenSpec.upto tableFillsSpec)

/-- 'roundellaw06.TableOnce', WHERE WHAT IT READS IS OF BULK AT MOST 1048576: true; the input reads as it did. -/
def tableOnceUptoRow : OpenClaim := { program := "ytbakdobjidjncaa", sum := "6c330aee7aeadfff265921482eac3bb816f17d9966895429bcaa78fcf6299ee3", func := "roundel/roundellaw06.TableOnce", spec := "tableOnce", unfollowed := true, recurses := true, apart := false, narrowed := true }
def TableOnceUptoSaid : Prop := tableOnceUptoRow.holds Try.pinned (OpenSpec.upto tableOnceSpec)

/-- 'roundellaw06.TableEnds', WHERE WHAT IT READS IS OF BULK AT MOST 1048576: true; the input reads as it did. -/
def tableEndsUptoRow : OpenClaim := { program := "ytbakdobjidjncaa", sum := "6c330aee7aeadfff265921482eac3bb816f17d9966895429bcaa78fcf6299ee3", func := "roundel/roundellaw06.TableEnds", spec := "tableEnds", unfollowed := true, recurses := true, apart := false, narrowed := true }
def TableEndsUptoSaid : Prop := tableEndsUptoRow.holds Try.pinned (OpenSpec.upto tableEndsSpec)

/-- 'roundellaw06.TableSlots', WHERE WHAT IT READS IS OF BULK AT MOST 1048576: true; the input reads as it did. -/
def tableSlotsUptoRow : OpenClaim := { program := "ytbakdobjidjncaa", sum := "6c330aee7aeadfff265921482eac3bb816f17d9966895429bcaa78fcf6299ee3", func := "roundel/roundellaw06.TableSlots", spec := "tableSlots", unfollowed := true, recurses := true, apart := false, narrowed := true }
def TableSlotsUptoSaid : Prop := tableSlotsUptoRow.holds Try.pinned (OpenSpec.upto tableSlotsSpec)

end Rows
end Go.Proofs.Ytbakdobjidjncaa
