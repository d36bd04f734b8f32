/-
  NARROWER THAN 'FOR EVERY INPUT', by the rows' own cells (each row's printed sentence says how): FillCaps: laid · FillOrder: laid · FillScales: laid · FillShares: laid · FillMore: laid · ShareAlike: laid · ShareMore: laid · ShareFew: laid · ShareRates: laid · ShareSums: laid · ShareGroups: laid.
  DERIVED. THE GIVEN ROWS OF THIS SEAT. 11 by the template 'for every input the law returns true; each argument reads behind the call as it read before'; 0 by the template 'total and deterministic' (their statements: YthiicmanfpmipaaGreatDoorTotals.lean).
  GIVEN WITH THE SEED: the statements are not yours to turn. If you find one false, say at which input.
  Laid BY PROGRAM, IN A SANDBOX (cutbox-rows.mjs): the forced cells as the released guide's own fill.sh prints them over the translation c39b819c6b3625a3… (all of the seat's roots in one cut). By AI agents, Wed Nov 11 2026. No macro, syntax, notation, axiom, sorry.
-/
import Derived.Test.YthiicmanfpmipaaGreatDoorChecked
import GoSem.Claim
import GoSem.ClaimJoined
import GoSem.ClaimMapViews
import Derived.JoinedTies
import Derived.KernelRfl
namespace Go.Proofs.YthiicmanfpmipaaGreatDoor
/- THE CELL 'sum', in the pinned program and in every row, IS THE sha256 OF THE DUMP (.gsa) THAT YthiicmanfpmipaaGreatDoorProg.lean LOADS. Nothing in Lean hashes anything: it is a label: what it is worth is what the hold of that sum in a sandbox is worth. -/
noncomputable def Tryz.pinned : Pinned := { name := "ythiicmanfpmipaagreatdoor", sum := "c39b819c6b3625a37a70ba2ecdb30ee5b0c794c01350cfb15598dc46cb420e38", checked := Tryz.checked }
namespace Rows
def none {H : Type} : Left H := { results := [], args := [] }

/- WHAT THE LISTED PACKAGE-LEVEL VARIABLES READ AS WHEN THE CALL BEGINS. Each datum BY PROGRAM (the guide's laid-datum.mjs) off the statement by which the dump's own 'gosem.cut.vars' lays the variable. In a bare row this is a premise. The card (YthiicmanfpmipaaGreatDoorCards.lean) ties it to the program's text. -/
def laid_math_bits_deBruijn32tab {H : Type} : DataW H := .agg [.lit (.int .u8 0), .lit (.int .u8 1), .lit (.int .u8 28), .lit (.int .u8 2), .lit (.int .u8 29), .lit (.int .u8 14), .lit (.int .u8 24), .lit (.int .u8 3), .lit (.int .u8 30), .lit (.int .u8 22), .lit (.int .u8 20), .lit (.int .u8 15), .lit (.int .u8 25), .lit (.int .u8 17), .lit (.int .u8 4), .lit (.int .u8 8), .lit (.int .u8 31), .lit (.int .u8 27), .lit (.int .u8 13), .lit (.int .u8 23), .lit (.int .u8 21), .lit (.int .u8 19), .lit (.int .u8 16), .lit (.int .u8 7), .lit (.int .u8 26), .lit (.int .u8 12), .lit (.int .u8 18), .lit (.int .u8 6), .lit (.int .u8 11), .lit (.int .u8 5), .lit (.int .u8 10), .lit (.int .u8 9)]
def laid_math_bits_deBruijn64tab {H : Type} : DataW H := .agg [.lit (.int .u8 0), .lit (.int .u8 1), .lit (.int .u8 56), .lit (.int .u8 2), .lit (.int .u8 57), .lit (.int .u8 49), .lit (.int .u8 28), .lit (.int .u8 3), .lit (.int .u8 61), .lit (.int .u8 58), .lit (.int .u8 42), .lit (.int .u8 50), .lit (.int .u8 38), .lit (.int .u8 29), .lit (.int .u8 17), .lit (.int .u8 4), .lit (.int .u8 62), .lit (.int .u8 47), .lit (.int .u8 59), .lit (.int .u8 36), .lit (.int .u8 45), .lit (.int .u8 43), .lit (.int .u8 51), .lit (.int .u8 22), .lit (.int .u8 53), .lit (.int .u8 39), .lit (.int .u8 33), .lit (.int .u8 30), .lit (.int .u8 24), .lit (.int .u8 18), .lit (.int .u8 12), .lit (.int .u8 5), .lit (.int .u8 63), .lit (.int .u8 55), .lit (.int .u8 48), .lit (.int .u8 27), .lit (.int .u8 60), .lit (.int .u8 41), .lit (.int .u8 37), .lit (.int .u8 16), .lit (.int .u8 46), .lit (.int .u8 35), .lit (.int .u8 44), .lit (.int .u8 21), .lit (.int .u8 52), .lit (.int .u8 32), .lit (.int .u8 23), .lit (.int .u8 11), .lit (.int .u8 54), .lit (.int .u8 26), .lit (.int .u8 40), .lit (.int .u8 15), .lit (.int .u8 34), .lit (.int .u8 20), .lit (.int .u8 31), .lit (.int .u8 10), .lit (.int .u8 25), .lit (.int .u8 14), .lit (.int .u8 19), .lit (.int .u8 9), .lit (.int .u8 13), .lit (.int .u8 8), .lit (.int .u8 7), .lit (.int .u8 6)]
def laid_internal_strconv_uint64pow10 {H : Type} : DataW H := .agg [.lit (.int .u64 1), .lit (.int .u64 10), .lit (.int .u64 100), .lit (.int .u64 1000), .lit (.int .u64 10000), .lit (.int .u64 100000), .lit (.int .u64 1000000), .lit (.int .u64 10000000), .lit (.int .u64 100000000), .lit (.int .u64 1000000000), .lit (.int .u64 10000000000), .lit (.int .u64 100000000000), .lit (.int .u64 1000000000000), .lit (.int .u64 10000000000000), .lit (.int .u64 100000000000000), .lit (.int .u64 1000000000000000), .lit (.int .u64 10000000000000000), .lit (.int .u64 100000000000000000), .lit (.int .u64 1000000000000000000), .lit (.int .u64 10000000000000000000)]

/-- 'roundellaw04.FillCaps': WHATEVER THE INPUT: true; the input reads as it did. -/
def fillCapsSpec : ChangeSpec := { name := "fillCaps", fn := fun _ => fun
  | [d1, d2, d3] => { results := [.lit (.bool true)], args := [d1, d2, d3] }
  | _ => none }
def fillCapsRow : OpenClaim := { program := "ythiicmanfpmipaagreatdoor", sum := "c39b819c6b3625a37a70ba2ecdb30ee5b0c794c01350cfb15598dc46cb420e38", func := "roundel/roundellaw04.FillCaps", spec := "fillCaps", inPlace := ["math/bits.Sub64", "math/bits.Add64", "internal/abi.NoEscape", "internal/bytealg.MakeNoZero"], unfollowed := true, recurses := true, named := ["math/bits.divideError", "math/bits.overflowError", "internal/strconv.uint64pow10", "math/bits.deBruijn32tab", "math/bits.deBruijn64tab"], apart := false, laid := [("math/bits.deBruijn32tab", laid_math_bits_deBruijn32tab), ("math/bits.deBruijn64tab", laid_math_bits_deBruijn64tab), ("internal/strconv.uint64pow10", laid_internal_strconv_uint64pow10)] }
def FillCapsSaid : Prop := fillCapsRow.holds Tryz.pinned (OpenSpec.ofChange fillCapsSpec)

/-- ITS FALSE NEIGHBOUR: 'it returns false'. Refute it at one input. -/
def fillCapsWrong : ChangeSpec := { name := "fillCaps", fn := fun _ => fun
  | [d1, d2, d3] => { results := [.lit (.bool false)], args := [d1, d2, d3] }
  | _ => none }
def FillCapsWrongFalsely : Prop := fillCapsRow.holds Tryz.pinned (OpenSpec.ofChange fillCapsWrong)

/-- 'roundellaw04.FillOrder': WHATEVER THE INPUT: true; the input reads as it did. -/
def fillOrderSpec : ChangeSpec := { name := "fillOrder", fn := fun _ => fun
  | [d1, d2, d3] => { results := [.lit (.bool true)], args := [d1, d2, d3] }
  | _ => none }
def fillOrderRow : OpenClaim := { program := "ythiicmanfpmipaagreatdoor", sum := "c39b819c6b3625a37a70ba2ecdb30ee5b0c794c01350cfb15598dc46cb420e38", func := "roundel/roundellaw04.FillOrder", spec := "fillOrder", inPlace := ["math/bits.Sub64", "math/bits.Add64", "internal/abi.NoEscape", "internal/bytealg.MakeNoZero"], unfollowed := true, recurses := true, named := ["math/bits.divideError", "math/bits.overflowError", "internal/strconv.uint64pow10", "math/bits.deBruijn32tab", "math/bits.deBruijn64tab"], apart := false, laid := [("math/bits.deBruijn32tab", laid_math_bits_deBruijn32tab), ("math/bits.deBruijn64tab", laid_math_bits_deBruijn64tab), ("internal/strconv.uint64pow10", laid_internal_strconv_uint64pow10)] }
def FillOrderSaid : Prop := fillOrderRow.holds Tryz.pinned (OpenSpec.ofChange fillOrderSpec)

/-- ITS FALSE NEIGHBOUR: 'it returns false'. Refute it at one input. -/
def fillOrderWrong : ChangeSpec := { name := "fillOrder", fn := fun _ => fun
  | [d1, d2, d3] => { results := [.lit (.bool false)], args := [d1, d2, d3] }
  | _ => none }
def FillOrderWrongFalsely : Prop := fillOrderRow.holds Tryz.pinned (OpenSpec.ofChange fillOrderWrong)

/-- 'roundellaw04.FillScales': WHATEVER THE INPUT: true; the input reads as it did. -/
def fillScalesSpec : ChangeSpec := { name := "fillScales", fn := fun _ => fun
  | [d1, d2, d3] => { results := [.lit (.bool true)], args := [d1, d2, d3] }
  | _ => none }
def fillScalesRow : OpenClaim := { program := "ythiicmanfpmipaagreatdoor", sum := "c39b819c6b3625a37a70ba2ecdb30ee5b0c794c01350cfb15598dc46cb420e38", func := "roundel/roundellaw04.FillScales", spec := "fillScales", inPlace := ["math/bits.Sub64", "math/bits.Add64", "internal/abi.NoEscape", "internal/bytealg.MakeNoZero"], unfollowed := true, recurses := true, named := ["math/bits.divideError", "math/bits.overflowError", "internal/strconv.uint64pow10", "math/bits.deBruijn32tab", "math/bits.deBruijn64tab"], apart := false, laid := [("math/bits.deBruijn32tab", laid_math_bits_deBruijn32tab), ("math/bits.deBruijn64tab", laid_math_bits_deBruijn64tab), ("internal/strconv.uint64pow10", laid_internal_strconv_uint64pow10)] }
def FillScalesSaid : Prop := fillScalesRow.holds Tryz.pinned (OpenSpec.ofChange fillScalesSpec)

/-- ITS FALSE NEIGHBOUR: 'it returns false'. Refute it at one input. -/
def fillScalesWrong : ChangeSpec := { name := "fillScales", fn := fun _ => fun
  | [d1, d2, d3] => { results := [.lit (.bool false)], args := [d1, d2, d3] }
  | _ => none }
def FillScalesWrongFalsely : Prop := fillScalesRow.holds Tryz.pinned (OpenSpec.ofChange fillScalesWrong)

/-- 'roundellaw04.FillShares': WHATEVER THE INPUT: true; the input reads as it did. -/
def fillSharesSpec : ChangeSpec := { name := "fillShares", fn := fun _ => fun
  | [d1, d2, d3] => { results := [.lit (.bool true)], args := [d1, d2, d3] }
  | _ => none }
def fillSharesRow : OpenClaim := { program := "ythiicmanfpmipaagreatdoor", sum := "c39b819c6b3625a37a70ba2ecdb30ee5b0c794c01350cfb15598dc46cb420e38", func := "roundel/roundellaw04.FillShares", spec := "fillShares", inPlace := ["math/bits.Sub64", "math/bits.Add64", "internal/abi.NoEscape", "internal/bytealg.MakeNoZero"], unfollowed := true, recurses := true, named := ["math/bits.divideError", "math/bits.overflowError", "internal/strconv.uint64pow10", "math/bits.deBruijn32tab", "math/bits.deBruijn64tab"], apart := false, laid := [("math/bits.deBruijn32tab", laid_math_bits_deBruijn32tab), ("math/bits.deBruijn64tab", laid_math_bits_deBruijn64tab), ("internal/strconv.uint64pow10", laid_internal_strconv_uint64pow10)] }
def FillSharesSaid : Prop := fillSharesRow.holds Tryz.pinned (OpenSpec.ofChange fillSharesSpec)

/-- ITS FALSE NEIGHBOUR: 'it returns false'. Refute it at one input. -/
def fillSharesWrong : ChangeSpec := { name := "fillShares", fn := fun _ => fun
  | [d1, d2, d3] => { results := [.lit (.bool false)], args := [d1, d2, d3] }
  | _ => none }
def FillSharesWrongFalsely : Prop := fillSharesRow.holds Tryz.pinned (OpenSpec.ofChange fillSharesWrong)

/-- 'roundellaw04.FillMore': WHATEVER THE INPUT: true; the input reads as it did. -/
def fillMoreSpec : ChangeSpec := { name := "fillMore", fn := fun _ => fun
  | [d1, d2, d3] => { results := [.lit (.bool true)], args := [d1, d2, d3] }
  | _ => none }
def fillMoreRow : OpenClaim := { program := "ythiicmanfpmipaagreatdoor", sum := "c39b819c6b3625a37a70ba2ecdb30ee5b0c794c01350cfb15598dc46cb420e38", func := "roundel/roundellaw04.FillMore", spec := "fillMore", inPlace := ["math/bits.Sub64", "math/bits.Add64", "internal/abi.NoEscape", "internal/bytealg.MakeNoZero"], unfollowed := true, recurses := true, named := ["math/bits.divideError", "math/bits.overflowError", "internal/strconv.uint64pow10", "math/bits.deBruijn32tab", "math/bits.deBruijn64tab"], apart := false, laid := [("math/bits.deBruijn32tab", laid_math_bits_deBruijn32tab), ("math/bits.deBruijn64tab", laid_math_bits_deBruijn64tab), ("internal/strconv.uint64pow10", laid_internal_strconv_uint64pow10)] }
def FillMoreSaid : Prop := fillMoreRow.holds Tryz.pinned (OpenSpec.ofChange fillMoreSpec)

/-- ITS FALSE NEIGHBOUR: 'it returns false'. Refute it at one input. -/
def fillMoreWrong : ChangeSpec := { name := "fillMore", fn := fun _ => fun
  | [d1, d2, d3] => { results := [.lit (.bool false)], args := [d1, d2, d3] }
  | _ => none }
def FillMoreWrongFalsely : Prop := fillMoreRow.holds Tryz.pinned (OpenSpec.ofChange fillMoreWrong)

/-- 'roundellaw09.ShareAlike': WHATEVER THE INPUT: true; the input reads as it did. -/
def shareAlikeSpec : ChangeSpec := { name := "shareAlike", fn := fun _ => fun
  | [d] => { results := [.lit (.bool true)], args := [d] }
  | _ => none }
def shareAlikeRow : OpenClaim := { program := "ythiicmanfpmipaagreatdoor", sum := "c39b819c6b3625a37a70ba2ecdb30ee5b0c794c01350cfb15598dc46cb420e38", func := "roundel/roundellaw09.ShareAlike", spec := "shareAlike", inPlace := ["math/bits.Sub64", "math/bits.Add64", "internal/abi.NoEscape", "internal/bytealg.MakeNoZero"], unfollowed := true, recurses := true, named := ["math/bits.divideError", "math/bits.overflowError", "internal/strconv.uint64pow10", "math/bits.deBruijn32tab", "math/bits.deBruijn64tab"], apart := false, laid := [("math/bits.deBruijn32tab", laid_math_bits_deBruijn32tab), ("math/bits.deBruijn64tab", laid_math_bits_deBruijn64tab), ("internal/strconv.uint64pow10", laid_internal_strconv_uint64pow10)] }
def ShareAlikeSaid : Prop := shareAlikeRow.holds Tryz.pinned (OpenSpec.ofChange shareAlikeSpec)

/-- ITS FALSE NEIGHBOUR: 'it returns false'. Refute it at one input. -/
def shareAlikeWrong : ChangeSpec := { name := "shareAlike", fn := fun _ => fun
  | [d] => { results := [.lit (.bool false)], args := [d] }
  | _ => none }
def ShareAlikeWrongFalsely : Prop := shareAlikeRow.holds Tryz.pinned (OpenSpec.ofChange shareAlikeWrong)

/-- 'roundellaw09.ShareMore': WHATEVER THE INPUT: true; the input reads as it did. -/
def shareMoreSpec : ChangeSpec := { name := "shareMore", fn := fun _ => fun
  | [d] => { results := [.lit (.bool true)], args := [d] }
  | _ => none }
def shareMoreRow : OpenClaim := { program := "ythiicmanfpmipaagreatdoor", sum := "c39b819c6b3625a37a70ba2ecdb30ee5b0c794c01350cfb15598dc46cb420e38", func := "roundel/roundellaw09.ShareMore", spec := "shareMore", inPlace := ["math/bits.Sub64", "math/bits.Add64", "internal/abi.NoEscape", "internal/bytealg.MakeNoZero"], unfollowed := true, recurses := true, named := ["math/bits.divideError", "math/bits.overflowError", "internal/strconv.uint64pow10", "math/bits.deBruijn32tab", "math/bits.deBruijn64tab"], apart := false, laid := [("math/bits.deBruijn32tab", laid_math_bits_deBruijn32tab), ("math/bits.deBruijn64tab", laid_math_bits_deBruijn64tab), ("internal/strconv.uint64pow10", laid_internal_strconv_uint64pow10)] }
def ShareMoreSaid : Prop := shareMoreRow.holds Tryz.pinned (OpenSpec.ofChange shareMoreSpec)

/-- ITS FALSE NEIGHBOUR: 'it returns false'. Refute it at one input. -/
def shareMoreWrong : ChangeSpec := { name := "shareMore", fn := fun _ => fun
  | [d] => { results := [.lit (.bool false)], args := [d] }
  | _ => none }
def ShareMoreWrongFalsely : Prop := shareMoreRow.holds Tryz.pinned (OpenSpec.ofChange shareMoreWrong)

/-- 'roundellaw09.ShareFew': WHATEVER THE INPUT: true; the input reads as it did. -/
def shareFewSpec : ChangeSpec := { name := "shareFew", fn := fun _ => fun
  | [d] => { results := [.lit (.bool true)], args := [d] }
  | _ => none }
def shareFewRow : OpenClaim := { program := "ythiicmanfpmipaagreatdoor", sum := "c39b819c6b3625a37a70ba2ecdb30ee5b0c794c01350cfb15598dc46cb420e38", func := "roundel/roundellaw09.ShareFew", spec := "shareFew", inPlace := ["math/bits.Sub64", "math/bits.Add64", "internal/abi.NoEscape", "internal/bytealg.MakeNoZero"], unfollowed := true, recurses := true, named := ["math/bits.divideError", "math/bits.overflowError", "internal/strconv.uint64pow10", "math/bits.deBruijn32tab", "math/bits.deBruijn64tab"], apart := false, laid := [("math/bits.deBruijn32tab", laid_math_bits_deBruijn32tab), ("math/bits.deBruijn64tab", laid_math_bits_deBruijn64tab), ("internal/strconv.uint64pow10", laid_internal_strconv_uint64pow10)] }
def ShareFewSaid : Prop := shareFewRow.holds Tryz.pinned (OpenSpec.ofChange shareFewSpec)

/-- ITS FALSE NEIGHBOUR: 'it returns false'. Refute it at one input. -/
def shareFewWrong : ChangeSpec := { name := "shareFew", fn := fun _ => fun
  | [d] => { results := [.lit (.bool false)], args := [d] }
  | _ => none }
def ShareFewWrongFalsely : Prop := shareFewRow.holds Tryz.pinned (OpenSpec.ofChange shareFewWrong)

/-- 'roundellaw09.ShareRates': WHATEVER THE INPUT: true; the input reads as it did. -/
def shareRatesSpec : ChangeSpec := { name := "shareRates", fn := fun _ => fun
  | [d] => { results := [.lit (.bool true)], args := [d] }
  | _ => none }
def shareRatesRow : OpenClaim := { program := "ythiicmanfpmipaagreatdoor", sum := "c39b819c6b3625a37a70ba2ecdb30ee5b0c794c01350cfb15598dc46cb420e38", func := "roundel/roundellaw09.ShareRates", spec := "shareRates", inPlace := ["math/bits.Sub64", "math/bits.Add64", "internal/abi.NoEscape", "internal/bytealg.MakeNoZero"], unfollowed := true, recurses := true, named := ["math/bits.divideError", "math/bits.overflowError", "internal/strconv.uint64pow10", "math/bits.deBruijn32tab", "math/bits.deBruijn64tab"], apart := false, laid := [("math/bits.deBruijn32tab", laid_math_bits_deBruijn32tab), ("math/bits.deBruijn64tab", laid_math_bits_deBruijn64tab), ("internal/strconv.uint64pow10", laid_internal_strconv_uint64pow10)] }
def ShareRatesSaid : Prop := shareRatesRow.holds Tryz.pinned (OpenSpec.ofChange shareRatesSpec)

/-- ITS FALSE NEIGHBOUR: 'it returns false'. Refute it at one input. -/
def shareRatesWrong : ChangeSpec := { name := "shareRates", fn := fun _ => fun
  | [d] => { results := [.lit (.bool false)], args := [d] }
  | _ => none }
def ShareRatesWrongFalsely : Prop := shareRatesRow.holds Tryz.pinned (OpenSpec.ofChange shareRatesWrong)

/-- 'roundellaw09.ShareSums': WHATEVER THE INPUT: true; the input reads as it did. -/
def shareSumsSpec : ChangeSpec := { name := "shareSums", fn := fun _ => fun
  | [d] => { results := [.lit (.bool true)], args := [d] }
  | _ => none }
def shareSumsRow : OpenClaim := { program := "ythiicmanfpmipaagreatdoor", sum := "c39b819c6b3625a37a70ba2ecdb30ee5b0c794c01350cfb15598dc46cb420e38", func := "roundel/roundellaw09.ShareSums", spec := "shareSums", inPlace := ["math/bits.Sub64", "math/bits.Add64", "internal/abi.NoEscape", "internal/bytealg.MakeNoZero"], unfollowed := true, recurses := true, named := ["math/bits.divideError", "math/bits.overflowError", "internal/strconv.uint64pow10", "math/bits.deBruijn32tab", "math/bits.deBruijn64tab"], apart := false, laid := [("math/bits.deBruijn32tab", laid_math_bits_deBruijn32tab), ("math/bits.deBruijn64tab", laid_math_bits_deBruijn64tab), ("internal/strconv.uint64pow10", laid_internal_strconv_uint64pow10)] }
def ShareSumsSaid : Prop := shareSumsRow.holds Tryz.pinned (OpenSpec.ofChange shareSumsSpec)

/-- ITS FALSE NEIGHBOUR: 'it returns false'. Refute it at one input. -/
def shareSumsWrong : ChangeSpec := { name := "shareSums", fn := fun _ => fun
  | [d] => { results := [.lit (.bool false)], args := [d] }
  | _ => none }
def ShareSumsWrongFalsely : Prop := shareSumsRow.holds Tryz.pinned (OpenSpec.ofChange shareSumsWrong)

/-- 'roundellaw09.ShareGroups': WHATEVER THE INPUT: true; the input reads as it did. -/
def shareGroupsSpec : ChangeSpec := { name := "shareGroups", fn := fun _ => fun
  | [d] => { results := [.lit (.bool true)], args := [d] }
  | _ => none }
def shareGroupsRow : OpenClaim := { program := "ythiicmanfpmipaagreatdoor", sum := "c39b819c6b3625a37a70ba2ecdb30ee5b0c794c01350cfb15598dc46cb420e38", func := "roundel/roundellaw09.ShareGroups", spec := "shareGroups", inPlace := ["math/bits.Sub64", "math/bits.Add64", "internal/abi.NoEscape", "internal/bytealg.MakeNoZero"], unfollowed := true, recurses := true, named := ["math/bits.divideError", "math/bits.overflowError", "internal/strconv.uint64pow10", "math/bits.deBruijn32tab", "math/bits.deBruijn64tab"], apart := false, laid := [("math/bits.deBruijn32tab", laid_math_bits_deBruijn32tab), ("math/bits.deBruijn64tab", laid_math_bits_deBruijn64tab), ("internal/strconv.uint64pow10", laid_internal_strconv_uint64pow10)] }
def ShareGroupsSaid : Prop := shareGroupsRow.holds Tryz.pinned (OpenSpec.ofChange shareGroupsSpec)

/-- ITS FALSE NEIGHBOUR: 'it returns false'. Refute it at one input. -/
def shareGroupsWrong : ChangeSpec := { name := "shareGroups", fn := fun _ => fun
  | [d] => { results := [.lit (.bool false)], args := [d] }
  | _ => none }
def ShareGroupsWrongFalsely : Prop := shareGroupsRow.holds Tryz.pinned (OpenSpec.ofChange shareGroupsWrong)

/- THE SECOND FORM. 'bulk': how many values and letters a reading holds, each counted each time it is reached (what is shared counts as often as it is met; a slice's spare places count too). A statement '..UptoSaid' is the law's where the arguments, and the package variables that the reading takes, are together of bulk at most 1048576: NARROWER than '..Said'. Prove '..Said' where nothing that the law and all that it calls make is longer than what came in: it says more and counts as full. Else prove '..UptoSaid'. A law counts once. -/
mutual
def uptoBulk {H : Type} : DataW H → Nat
  | .lit (.string bytes) => bytes.length + 1
  | .lit _ => 1
  | .nil => 1
  | .ptr d => uptoBulk d + 1
  | .slice elems spare => uptoBulkAll elems + uptoBulkAll spare + 1
  | .agg parts => uptoBulkAll parts + 1
  | .iface _ d => uptoBulk d + 1
  | .map entries => uptoBulkEntries entries + 1
  | .held _ => 1
def uptoBulkAll {H : Type} : List (DataW H) → Nat
  | [] => 0
  | d :: r => uptoBulk d + uptoBulkAll r
def uptoBulkEntries {H : Type} : List (Lit × DataW H) → Nat
  | [] => 0
  | x :: r => uptoBulkEntry x + uptoBulkEntries r
def uptoBulkEntry {H : Type} : Lit × DataW H → Nat
  | (.string bytes, d) => bytes.length + uptoBulk d + 1
  | (_, d) => uptoBulk d + 1
 end
def uptoSmall : (H : Type) → List (DataW H) → Bool := fun _ ds => decide (uptoBulkAll ds ≤ 1048576)
def OpenSpec.upto (s : _root_.Go.ChangeSpec) : _root_.Go.OpenSpec := { _root_.Go.OpenSpec.ofChange s with cond := some uptoSmall }

/-- 'roundellaw04.FillCaps', WHERE WHAT IT READS IS OF BULK AT MOST 1048576: true; the input reads as it did. -/
def fillCapsUptoRow : OpenClaim := { program := "ythiicmanfpmipaagreatdoor", sum := "c39b819c6b3625a37a70ba2ecdb30ee5b0c794c01350cfb15598dc46cb420e38", func := "roundel/roundellaw04.FillCaps", spec := "fillCaps", inPlace := ["math/bits.Sub64", "math/bits.Add64", "internal/abi.NoEscape", "internal/bytealg.MakeNoZero"], unfollowed := true, recurses := true, named := ["math/bits.divideError", "math/bits.overflowError", "internal/strconv.uint64pow10", "math/bits.deBruijn32tab", "math/bits.deBruijn64tab"], apart := false, laid := [("math/bits.deBruijn32tab", laid_math_bits_deBruijn32tab), ("math/bits.deBruijn64tab", laid_math_bits_deBruijn64tab), ("internal/strconv.uint64pow10", laid_internal_strconv_uint64pow10)], narrowed := true }
def FillCapsUptoSaid : Prop := fillCapsUptoRow.holds Tryz.pinned (OpenSpec.upto fillCapsSpec)

/-- 'roundellaw04.FillOrder', WHERE WHAT IT READS IS OF BULK AT MOST 1048576: true; the input reads as it did. -/
def fillOrderUptoRow : OpenClaim := { program := "ythiicmanfpmipaagreatdoor", sum := "c39b819c6b3625a37a70ba2ecdb30ee5b0c794c01350cfb15598dc46cb420e38", func := "roundel/roundellaw04.FillOrder", spec := "fillOrder", inPlace := ["math/bits.Sub64", "math/bits.Add64", "internal/abi.NoEscape", "internal/bytealg.MakeNoZero"], unfollowed := true, recurses := true, named := ["math/bits.divideError", "math/bits.overflowError", "internal/strconv.uint64pow10", "math/bits.deBruijn32tab", "math/bits.deBruijn64tab"], apart := false, laid := [("math/bits.deBruijn32tab", laid_math_bits_deBruijn32tab), ("math/bits.deBruijn64tab", laid_math_bits_deBruijn64tab), ("internal/strconv.uint64pow10", laid_internal_strconv_uint64pow10)], narrowed := true }
def FillOrderUptoSaid : Prop := fillOrderUptoRow.holds Tryz.pinned (OpenSpec.upto fillOrderSpec)

/-- 'roundellaw04.FillScales', WHERE WHAT IT READS IS OF BULK AT MOST 1048576: true; the input reads as it did. -/
def fillScalesUptoRow : OpenClaim := { program := "ythiicmanfpmipaagreatdoor", sum := "c39b819c6b3625a37a70ba2ecdb30ee5b0c794c01350cfb15598dc46cb420e38", func := "roundel/roundellaw04.FillScales", spec := "fillScales", inPlace := ["math/bits.Sub64", "math/bits.Add64", "internal/abi.NoEscape", "internal/bytealg.MakeNoZero"], unfollowed := true, recurses := true, named := ["math/bits.divideError", "math/bits.overflowError", "internal/strconv.uint64pow10", "math/bits.deBruijn32tab", "math/bits.deBruijn64tab"], apart := false, laid := [("math/bits.deBruijn32tab", laid_math_bits_deBruijn32tab), ("math/bits.deBruijn64tab", laid_math_bits_deBruijn64tab), ("internal/strconv.uint64pow10", laid_internal_strconv_uint64pow10)], narrowed := true }
def FillScalesUptoSaid : Prop := fillScalesUptoRow.holds Tryz.pinned (OpenSpec.upto fillScalesSpec)

/-- 'roundellaw04.FillShares', WHERE WHAT IT READS IS OF BULK AT MOST 1048576: true; the input reads as it did. -/
def fillSharesUptoRow : OpenClaim := { program := "ythiicmanfpmipaagreatdoor", sum := "c39b819c6b3625a37a70ba2ecdb30ee5b0c794c01350cfb15598dc46cb420e38", func := "roundel/roundellaw04.FillShares", spec := "fillShares", inPlace := ["math/bits.Sub64", "math/bits.Add64", "internal/abi.NoEscape", "internal/bytealg.MakeNoZero"], unfollowed := true, recurses := true, named := ["math/bits.divideError", "math/bits.overflowError", "internal/strconv.uint64pow10", "math/bits.deBruijn32tab", "math/bits.deBruijn64tab"], apart := false, laid := [("math/bits.deBruijn32tab", laid_math_bits_deBruijn32tab), ("math/bits.deBruijn64tab", laid_math_bits_deBruijn64tab), ("internal/strconv.uint64pow10", laid_internal_strconv_uint64pow10)], narrowed := true }
def FillSharesUptoSaid : Prop := fillSharesUptoRow.holds Tryz.pinned (OpenSpec.upto fillSharesSpec)

/-- 'roundellaw04.FillMore', WHERE WHAT IT READS IS OF BULK AT MOST 1048576: true; the input reads as it did. -/
def fillMoreUptoRow : OpenClaim := { program := "ythiicmanfpmipaagreatdoor", sum := "c39b819c6b3625a37a70ba2ecdb30ee5b0c794c01350cfb15598dc46cb420e38", func := "roundel/roundellaw04.FillMore", spec := "fillMore", inPlace := ["math/bits.Sub64", "math/bits.Add64", "internal/abi.NoEscape", "internal/bytealg.MakeNoZero"], unfollowed := true, recurses := true, named := ["math/bits.divideError", "math/bits.overflowError", "internal/strconv.uint64pow10", "math/bits.deBruijn32tab", "math/bits.deBruijn64tab"], apart := false, laid := [("math/bits.deBruijn32tab", laid_math_bits_deBruijn32tab), ("math/bits.deBruijn64tab", laid_math_bits_deBruijn64tab), ("internal/strconv.uint64pow10", laid_internal_strconv_uint64pow10)], narrowed := true }
def FillMoreUptoSaid : Prop := fillMoreUptoRow.holds Tryz.pinned (OpenSpec.upto fillMoreSpec)

/-- 'roundellaw09.ShareAlike', WHERE WHAT IT READS IS OF BULK AT MOST 1048576: true; the input reads as it did. -/
def shareAlikeUptoRow : OpenClaim := { program := "ythiicmanfpmipaagreatdoor", sum := "c39b819c6b3625a37a70ba2ecdb30ee5b0c794c01350cfb15598dc46cb420e38", func := "roundel/roundellaw09.ShareAlike", spec := "shareAlike", inPlace := ["math/bits.Sub64", "math/bits.Add64", "internal/abi.NoEscape", "internal/bytealg.MakeNoZero"], unfollowed := true, recurses := true, named := ["math/bits.divideError", "math/bits.overflowError", "internal/strconv.uint64pow10", "math/bits.deBruijn32tab", "math/bits.deBruijn64tab"], apart := false, laid := [("math/bits.deBruijn32tab", laid_math_bits_deBruijn32tab), ("math/bits.deBruijn64tab", laid_math_bits_deBruijn64tab), ("internal/strconv.uint64pow10", laid_internal_strconv_uint64pow10)], narrowed := true }
def ShareAlikeUptoSaid : Prop := shareAlikeUptoRow.holds Tryz.pinned (OpenSpec.upto shareAlikeSpec)

/-- 'roundellaw09.ShareMore', WHERE WHAT IT READS IS OF BULK AT MOST 1048576: true; the input reads as it did. -/
def shareMoreUptoRow : OpenClaim := { program := "ythiicmanfpmipaagreatdoor", sum := "c39b819c6b3625a37a70ba2ecdb30ee5b0c794c01350cfb15598dc46cb420e38", func := "roundel/roundellaw09.ShareMore", spec := "shareMore", inPlace := ["math/bits.Sub64", "math/bits.Add64", "internal/abi.NoEscape", "internal/bytealg.MakeNoZero"], unfollowed := true, recurses := true, named := ["math/bits.divideError", "math/bits.overflowError", "internal/strconv.uint64pow10", "math/bits.deBruijn32tab", "math/bits.deBruijn64tab"], apart := false, laid := [("math/bits.deBruijn32tab", laid_math_bits_deBruijn32tab), ("math/bits.deBruijn64tab", laid_math_bits_deBruijn64tab), ("internal/strconv.uint64pow10", laid_internal_strconv_uint64pow10)], narrowed := true }
def ShareMoreUptoSaid : Prop := shareMoreUptoRow.holds Tryz.pinned (OpenSpec.upto shareMoreSpec)

/-- 'roundellaw09.ShareFew', WHERE WHAT IT READS IS OF BULK AT MOST 1048576: true; the input reads as it did. -/
def shareFewUptoRow : OpenClaim := { program := "ythiicmanfpmipaagreatdoor", sum := "c39b819c6b3625a37a70ba2ecdb30ee5b0c794c01350cfb15598dc46cb420e38", func := "roundel/roundellaw09.ShareFew", spec := "shareFew", inPlace := ["math/bits.Sub64", "math/bits.Add64", "internal/abi.NoEscape", "internal/bytealg.MakeNoZero"], unfollowed := true, recurses := true, named := ["math/bits.divideError", "math/bits.overflowError", "internal/strconv.uint64pow10", "math/bits.deBruijn32tab", "math/bits.deBruijn64tab"], apart := false, laid := [("math/bits.deBruijn32tab", laid_math_bits_deBruijn32tab), ("math/bits.deBruijn64tab", laid_math_bits_deBruijn64tab), ("internal/strconv.uint64pow10", laid_internal_strconv_uint64pow10)], narrowed := true }
def ShareFewUptoSaid : Prop := shareFewUptoRow.holds Tryz.pinned (OpenSpec.upto shareFewSpec)

/-- 'roundellaw09.ShareRates', WHERE WHAT IT READS IS OF BULK AT MOST 1048576: true; the input reads as it did. -/
def shareRatesUptoRow : OpenClaim := { program := "ythiicmanfpmipaagreatdoor", sum := "c39b819c6b3625a37a70ba2ecdb30ee5b0c794c01350cfb15598dc46cb420e38", func := "roundel/roundellaw09.ShareRates", spec := "shareRates", inPlace := ["math/bits.Sub64", "math/bits.Add64", "internal/abi.NoEscape", "internal/bytealg.MakeNoZero"], unfollowed := true, recurses := true, named := ["math/bits.divideError", "math/bits.overflowError", "internal/strconv.uint64pow10", "math/bits.deBruijn32tab", "math/bits.deBruijn64tab"], apart := false, laid := [("math/bits.deBruijn32tab", laid_math_bits_deBruijn32tab), ("math/bits.deBruijn64tab", laid_math_bits_deBruijn64tab), ("internal/strconv.uint64pow10", laid_internal_strconv_uint64pow10)], narrowed := true }
def ShareRatesUptoSaid : Prop := shareRatesUptoRow.holds Tryz.pinned (OpenSpec.upto shareRatesSpec)

/-- 'roundellaw09.ShareSums', WHERE WHAT IT READS IS OF BULK AT MOST 1048576: true; the input reads as it did. -/
def shareSumsUptoRow : OpenClaim := { program := "ythiicmanfpmipaagreatdoor", sum := "c39b819c6b3625a37a70ba2ecdb30ee5b0c794c01350cfb15598dc46cb420e38", func := "roundel/roundellaw09.ShareSums", spec := "shareSums", inPlace := ["math/bits.Sub64", "math/bits.Add64", "internal/abi.NoEscape", "internal/bytealg.MakeNoZero"], unfollowed := true, recurses := true, named := ["math/bits.divideError", "math/bits.overflowError", "internal/strconv.uint64pow10", "math/bits.deBruijn32tab", "math/bits.deBruijn64tab"], apart := false, laid := [("math/bits.deBruijn32tab", laid_math_bits_deBruijn32tab), ("math/bits.deBruijn64tab", laid_math_bits_deBruijn64tab), ("internal/strconv.uint64pow10", laid_internal_strconv_uint64pow10)], narrowed := true }
def ShareSumsUptoSaid : Prop := shareSumsUptoRow.holds Tryz.pinned (OpenSpec.upto shareSumsSpec)

/-- 'roundellaw09.ShareGroups', WHERE WHAT IT READS IS OF BULK AT MOST 1048576: true; the input reads as it did. -/
def shareGroupsUptoRow : OpenClaim := { program := "ythiicmanfpmipaagreatdoor", sum := "c39b819c6b3625a37a70ba2ecdb30ee5b0c794c01350cfb15598dc46cb420e38", func := "roundel/roundellaw09.ShareGroups", spec := "shareGroups", inPlace := ["math/bits.Sub64", "math/bits.Add64", "internal/abi.NoEscape", "internal/bytealg.MakeNoZero"], unfollowed := true, recurses := true, named := ["math/bits.divideError", "math/bits.overflowError", "internal/strconv.uint64pow10", "math/bits.deBruijn32tab", "math/bits.deBruijn64tab"], apart := false, laid := [("math/bits.deBruijn32tab", laid_math_bits_deBruijn32tab), ("math/bits.deBruijn64tab", laid_math_bits_deBruijn64tab), ("internal/strconv.uint64pow10", laid_internal_strconv_uint64pow10)], narrowed := true }
def ShareGroupsUptoSaid : Prop := shareGroupsUptoRow.holds Tryz.pinned (OpenSpec.upto shareGroupsSpec)

end Rows
end Go.Proofs.YthiicmanfpmipaaGreatDoor
