/-
  No cell of these rows narrows 'for every input' (looked for: loops, veiled, ifaces, maps, wideKeys, modest, calm, conditions, laid).
  DERIVED. THE GIVEN ROWS OF THIS SEAT. 17 by the template 'for every input the law returns true; each argument reads behind the call as it read before'; 0 by the template 'total and deterministic' (their statements: YtfklojheogidpaaTotals.lean).
  GIVEN WITH THE SEED: the statements are not yours to turn. If you find one false, say at which input.
  Laid BY PROGRAM, IN A SANDBOX (cutbox-rows.mjs): the forced cells as the released guide's own fill.sh prints them over the translation 53be7ca4419636f4… (all of the seat's roots in one cut). By AI agents, Wed Nov 11 2026. No macro, syntax, notation, axiom, sorry.
-/
import Derived.Test.YtfklojheogidpaaChecked
import GoSem.Claim
import GoSem.ClaimJoined
import GoSem.ClaimMapViews
import Derived.JoinedTies
import Derived.KernelRfl
namespace Go.Proofs.Ytfklojheogidpaa
/- THE CELL 'sum', in the pinned program and in every row, IS THE sha256 OF THE DUMP (.gsa) THAT YtfklojheogidpaaProg.lean LOADS. Nothing in Lean hashes anything: it is a label: what it is worth is what the hold of that sum in a sandbox is worth. -/
noncomputable def Try.pinned : Pinned := { name := "ytfklojheogidpaa", sum := "53be7ca4419636f463d76328b9436161e287981a150eb4190bbd6362aae90f10", checked := Try.checked }
namespace Rows
def none {H : Type} : Left H := { results := [], args := [] }

/-- 'redanlaw05.FieldCodes': WHATEVER THE INPUT: true; the input reads as it did. -/
def fieldCodesSpec : ChangeSpec := { name := "fieldCodes", fn := fun _ => fun
  | [d1, d2] => { results := [.lit (.bool true)], args := [d1, d2] }
  | _ => none }
def fieldCodesRow : OpenClaim := { program := "ytfklojheogidpaa", sum := "53be7ca4419636f463d76328b9436161e287981a150eb4190bbd6362aae90f10", func := "redan/redanlaw05.FieldCodes", spec := "fieldCodes", inPlace := ["math/bits.Add64", "math/bits.Sub64"], apart := false }
def FieldCodesSaid : Prop := fieldCodesRow.holds Try.pinned (OpenSpec.ofChange fieldCodesSpec)

/-- ITS FALSE NEIGHBOUR: 'it returns false'. Refute it at one input. -/
def fieldCodesWrong : ChangeSpec := { name := "fieldCodes", fn := fun _ => fun
  | [d1, d2] => { results := [.lit (.bool false)], args := [d1, d2] }
  | _ => none }
def FieldCodesWrongFalsely : Prop := fieldCodesRow.holds Try.pinned (OpenSpec.ofChange fieldCodesWrong)

/-- 'redanlaw05.FieldAdds': WHATEVER THE INPUT: true; the input reads as it did. -/
def fieldAddsSpec : ChangeSpec := { name := "fieldAdds", fn := fun _ => fun
  | [d1, d2] => { results := [.lit (.bool true)], args := [d1, d2] }
  | _ => none }
def fieldAddsRow : OpenClaim := { program := "ytfklojheogidpaa", sum := "53be7ca4419636f463d76328b9436161e287981a150eb4190bbd6362aae90f10", func := "redan/redanlaw05.FieldAdds", spec := "fieldAdds", inPlace := ["math/bits.Add64", "math/bits.Sub64"], apart := false }
def FieldAddsSaid : Prop := fieldAddsRow.holds Try.pinned (OpenSpec.ofChange fieldAddsSpec)

/-- ITS FALSE NEIGHBOUR: 'it returns false'. Refute it at one input. -/
def fieldAddsWrong : ChangeSpec := { name := "fieldAdds", fn := fun _ => fun
  | [d1, d2] => { results := [.lit (.bool false)], args := [d1, d2] }
  | _ => none }
def FieldAddsWrongFalsely : Prop := fieldAddsRow.holds Try.pinned (OpenSpec.ofChange fieldAddsWrong)

/-- 'redanlaw05.FieldMuls': WHATEVER THE INPUT: true; the input reads as it did. -/
def fieldMulsSpec : ChangeSpec := { name := "fieldMuls", fn := fun _ => fun
  | [d1, d2] => { results := [.lit (.bool true)], args := [d1, d2] }
  | _ => none }
def fieldMulsRow : OpenClaim := { program := "ytfklojheogidpaa", sum := "53be7ca4419636f463d76328b9436161e287981a150eb4190bbd6362aae90f10", func := "redan/redanlaw05.FieldMuls", spec := "fieldMuls", inPlace := ["math/bits.Add64", "math/bits.Sub64"], apart := false }
def FieldMulsSaid : Prop := fieldMulsRow.holds Try.pinned (OpenSpec.ofChange fieldMulsSpec)

/-- ITS FALSE NEIGHBOUR: 'it returns false'. Refute it at one input. -/
def fieldMulsWrong : ChangeSpec := { name := "fieldMuls", fn := fun _ => fun
  | [d1, d2] => { results := [.lit (.bool false)], args := [d1, d2] }
  | _ => none }
def FieldMulsWrongFalsely : Prop := fieldMulsRow.holds Try.pinned (OpenSpec.ofChange fieldMulsWrong)

/-- 'redanlaw05.FieldTimes': WHATEVER THE INPUT: true; the input reads as it did. -/
def fieldTimesSpec : ChangeSpec := { name := "fieldTimes", fn := fun _ => fun
  | [d1, d2] => { results := [.lit (.bool true)], args := [d1, d2] }
  | _ => none }
def fieldTimesRow : OpenClaim := { program := "ytfklojheogidpaa", sum := "53be7ca4419636f463d76328b9436161e287981a150eb4190bbd6362aae90f10", func := "redan/redanlaw05.FieldTimes", spec := "fieldTimes", inPlace := ["math/bits.Add64", "math/bits.Sub64"], apart := false }
def FieldTimesSaid : Prop := fieldTimesRow.holds Try.pinned (OpenSpec.ofChange fieldTimesSpec)

/-- ITS FALSE NEIGHBOUR: 'it returns false'. Refute it at one input. -/
def fieldTimesWrong : ChangeSpec := { name := "fieldTimes", fn := fun _ => fun
  | [d1, d2] => { results := [.lit (.bool false)], args := [d1, d2] }
  | _ => none }
def FieldTimesWrongFalsely : Prop := fieldTimesRow.holds Try.pinned (OpenSpec.ofChange fieldTimesWrong)

/-- 'redanlaw05.FieldInverts': WHATEVER THE INPUT: true; the input reads as it did. -/
def fieldInvertsSpec : ChangeSpec := { name := "fieldInverts", fn := fun _ => fun
  | [d] => { results := [.lit (.bool true)], args := [d] }
  | _ => none }
def fieldInvertsRow : OpenClaim := { program := "ytfklojheogidpaa", sum := "53be7ca4419636f463d76328b9436161e287981a150eb4190bbd6362aae90f10", func := "redan/redanlaw05.FieldInverts", spec := "fieldInverts", inPlace := ["math/bits.Add64", "math/bits.Sub64"], apart := false }
def FieldInvertsSaid : Prop := fieldInvertsRow.holds Try.pinned (OpenSpec.ofChange fieldInvertsSpec)

/-- ITS FALSE NEIGHBOUR: 'it returns false'. Refute it at one input. -/
def fieldInvertsWrong : ChangeSpec := { name := "fieldInverts", fn := fun _ => fun
  | [d] => { results := [.lit (.bool false)], args := [d] }
  | _ => none }
def FieldInvertsWrongFalsely : Prop := fieldInvertsRow.holds Try.pinned (OpenSpec.ofChange fieldInvertsWrong)

/-- 'redanlaw05.FieldSame': WHATEVER THE INPUT: true; the input reads as it did. -/
def fieldSameSpec : ChangeSpec := { name := "fieldSame", fn := fun _ => fun
  | [d1, d2, d3] => { results := [.lit (.bool true)], args := [d1, d2, d3] }
  | _ => none }
def fieldSameRow : OpenClaim := { program := "ytfklojheogidpaa", sum := "53be7ca4419636f463d76328b9436161e287981a150eb4190bbd6362aae90f10", func := "redan/redanlaw05.FieldSame", spec := "fieldSame", inPlace := ["math/bits.Add64", "math/bits.Sub64"], apart := false }
def FieldSameSaid : Prop := fieldSameRow.holds Try.pinned (OpenSpec.ofChange fieldSameSpec)

/-- ITS FALSE NEIGHBOUR: 'it returns false'. Refute it at one input. -/
def fieldSameWrong : ChangeSpec := { name := "fieldSame", fn := fun _ => fun
  | [d1, d2, d3] => { results := [.lit (.bool false)], args := [d1, d2, d3] }
  | _ => none }
def FieldSameWrongFalsely : Prop := fieldSameRow.holds Try.pinned (OpenSpec.ofChange fieldSameWrong)

/-- 'redanlaw05.FieldLaws': WHATEVER THE INPUT: true; the input reads as it did. -/
def fieldLawsSpec : ChangeSpec := { name := "fieldLaws", fn := fun _ => fun
  | [d1, d2, d3] => { results := [.lit (.bool true)], args := [d1, d2, d3] }
  | _ => none }
def fieldLawsRow : OpenClaim := { program := "ytfklojheogidpaa", sum := "53be7ca4419636f463d76328b9436161e287981a150eb4190bbd6362aae90f10", func := "redan/redanlaw05.FieldLaws", spec := "fieldLaws", inPlace := ["math/bits.Add64", "math/bits.Sub64"], apart := false }
def FieldLawsSaid : Prop := fieldLawsRow.holds Try.pinned (OpenSpec.ofChange fieldLawsSpec)

/-- ITS FALSE NEIGHBOUR: 'it returns false'. Refute it at one input. -/
def fieldLawsWrong : ChangeSpec := { name := "fieldLaws", fn := fun _ => fun
  | [d1, d2, d3] => { results := [.lit (.bool false)], args := [d1, d2, d3] }
  | _ => none }
def FieldLawsWrongFalsely : Prop := fieldLawsRow.holds Try.pinned (OpenSpec.ofChange fieldLawsWrong)

/-- 'redanlaw05.FieldSubs': WHATEVER THE INPUT: true; the input reads as it did. -/
def fieldSubsSpec : ChangeSpec := { name := "fieldSubs", fn := fun _ => fun
  | [d1, d2] => { results := [.lit (.bool true)], args := [d1, d2] }
  | _ => none }
def fieldSubsRow : OpenClaim := { program := "ytfklojheogidpaa", sum := "53be7ca4419636f463d76328b9436161e287981a150eb4190bbd6362aae90f10", func := "redan/redanlaw05.FieldSubs", spec := "fieldSubs", inPlace := ["math/bits.Add64", "math/bits.Sub64"], apart := false }
def FieldSubsSaid : Prop := fieldSubsRow.holds Try.pinned (OpenSpec.ofChange fieldSubsSpec)

/-- ITS FALSE NEIGHBOUR: 'it returns false'. Refute it at one input. -/
def fieldSubsWrong : ChangeSpec := { name := "fieldSubs", fn := fun _ => fun
  | [d1, d2] => { results := [.lit (.bool false)], args := [d1, d2] }
  | _ => none }
def FieldSubsWrongFalsely : Prop := fieldSubsRow.holds Try.pinned (OpenSpec.ofChange fieldSubsWrong)

/-- 'redanlaw05.FieldSquares': WHATEVER THE INPUT: true; the input reads as it did. -/
def fieldSquaresSpec : ChangeSpec := { name := "fieldSquares", fn := fun _ => fun
  | [d1, d2] => { results := [.lit (.bool true)], args := [d1, d2] }
  | _ => none }
def fieldSquaresRow : OpenClaim := { program := "ytfklojheogidpaa", sum := "53be7ca4419636f463d76328b9436161e287981a150eb4190bbd6362aae90f10", func := "redan/redanlaw05.FieldSquares", spec := "fieldSquares", inPlace := ["math/bits.Add64", "math/bits.Sub64"], apart := false }
def FieldSquaresSaid : Prop := fieldSquaresRow.holds Try.pinned (OpenSpec.ofChange fieldSquaresSpec)

/-- ITS FALSE NEIGHBOUR: 'it returns false'. Refute it at one input. -/
def fieldSquaresWrong : ChangeSpec := { name := "fieldSquares", fn := fun _ => fun
  | [d1, d2] => { results := [.lit (.bool false)], args := [d1, d2] }
  | _ => none }
def FieldSquaresWrongFalsely : Prop := fieldSquaresRow.holds Try.pinned (OpenSpec.ofChange fieldSquaresWrong)

/-- 'redanlaw05.FieldBytes': WHATEVER THE INPUT: true; the input reads as it did. -/
def fieldBytesSpec : ChangeSpec := { name := "fieldBytes", fn := fun _ => fun
  | [d1, d2] => { results := [.lit (.bool true)], args := [d1, d2] }
  | _ => none }
def fieldBytesRow : OpenClaim := { program := "ytfklojheogidpaa", sum := "53be7ca4419636f463d76328b9436161e287981a150eb4190bbd6362aae90f10", func := "redan/redanlaw05.FieldBytes", spec := "fieldBytes", inPlace := ["math/bits.Add64", "math/bits.Sub64"], apart := false }
def FieldBytesSaid : Prop := fieldBytesRow.holds Try.pinned (OpenSpec.ofChange fieldBytesSpec)

/-- ITS FALSE NEIGHBOUR: 'it returns false'. Refute it at one input. -/
def fieldBytesWrong : ChangeSpec := { name := "fieldBytes", fn := fun _ => fun
  | [d1, d2] => { results := [.lit (.bool false)], args := [d1, d2] }
  | _ => none }
def FieldBytesWrongFalsely : Prop := fieldBytesRow.holds Try.pinned (OpenSpec.ofChange fieldBytesWrong)

/-- 'redanlaw06.CurveScalars': WHATEVER THE INPUT: true; the input reads as it did. -/
def curveScalarsSpec : ChangeSpec := { name := "curveScalars", fn := fun _ => fun
  | [d1, d2] => { results := [.lit (.bool true)], args := [d1, d2] }
  | _ => none }
def curveScalarsRow : OpenClaim := { program := "ytfklojheogidpaa", sum := "53be7ca4419636f463d76328b9436161e287981a150eb4190bbd6362aae90f10", func := "redan/redanlaw06.CurveScalars", spec := "curveScalars", inPlace := ["math/bits.Add64", "math/bits.Sub64"], apart := false }
def CurveScalarsSaid : Prop := curveScalarsRow.holds Try.pinned (OpenSpec.ofChange curveScalarsSpec)

/-- ITS FALSE NEIGHBOUR: 'it returns false'. Refute it at one input. -/
def curveScalarsWrong : ChangeSpec := { name := "curveScalars", fn := fun _ => fun
  | [d1, d2] => { results := [.lit (.bool false)], args := [d1, d2] }
  | _ => none }
def CurveScalarsWrongFalsely : Prop := curveScalarsRow.holds Try.pinned (OpenSpec.ofChange curveScalarsWrong)

/-- 'redanlaw06.CurveShares': WHATEVER THE INPUT: true; the input reads as it did. -/
def curveSharesSpec : ChangeSpec := { name := "curveShares", fn := fun _ => fun
  | [d1, d2] => { results := [.lit (.bool true)], args := [d1, d2] }
  | _ => none }
def curveSharesRow : OpenClaim := { program := "ytfklojheogidpaa", sum := "53be7ca4419636f463d76328b9436161e287981a150eb4190bbd6362aae90f10", func := "redan/redanlaw06.CurveShares", spec := "curveShares", inPlace := ["math/bits.Add64", "math/bits.Sub64"], apart := false }
def CurveSharesSaid : Prop := curveSharesRow.holds Try.pinned (OpenSpec.ofChange curveSharesSpec)

/-- ITS FALSE NEIGHBOUR: 'it returns false'. Refute it at one input. -/
def curveSharesWrong : ChangeSpec := { name := "curveShares", fn := fun _ => fun
  | [d1, d2] => { results := [.lit (.bool false)], args := [d1, d2] }
  | _ => none }
def CurveSharesWrongFalsely : Prop := curveSharesRow.holds Try.pinned (OpenSpec.ofChange curveSharesWrong)

/-- 'redanlaw06.CurveClamps': WHATEVER THE INPUT: true; the input reads as it did. -/
def curveClampsSpec : ChangeSpec := { name := "curveClamps", fn := fun _ => fun
  | [d] => { results := [.lit (.bool true)], args := [d] }
  | _ => none }
def curveClampsRow : OpenClaim := { program := "ytfklojheogidpaa", sum := "53be7ca4419636f463d76328b9436161e287981a150eb4190bbd6362aae90f10", func := "redan/redanlaw06.CurveClamps", spec := "curveClamps", inPlace := ["math/bits.Add64", "math/bits.Sub64"], apart := false }
def CurveClampsSaid : Prop := curveClampsRow.holds Try.pinned (OpenSpec.ofChange curveClampsSpec)

/-- ITS FALSE NEIGHBOUR: 'it returns false'. Refute it at one input. -/
def curveClampsWrong : ChangeSpec := { name := "curveClamps", fn := fun _ => fun
  | [d] => { results := [.lit (.bool false)], args := [d] }
  | _ => none }
def CurveClampsWrongFalsely : Prop := curveClampsRow.holds Try.pinned (OpenSpec.ofChange curveClampsWrong)

/-- 'redanlaw06.CurveAgrees': WHATEVER THE INPUT: true; the input reads as it did. -/
def curveAgreesSpec : ChangeSpec := { name := "curveAgrees", fn := fun _ => fun
  | [d1, d2] => { results := [.lit (.bool true)], args := [d1, d2] }
  | _ => none }
def curveAgreesRow : OpenClaim := { program := "ytfklojheogidpaa", sum := "53be7ca4419636f463d76328b9436161e287981a150eb4190bbd6362aae90f10", func := "redan/redanlaw06.CurveAgrees", spec := "curveAgrees", inPlace := ["math/bits.Add64", "math/bits.Sub64"], apart := false }
def CurveAgreesSaid : Prop := curveAgreesRow.holds Try.pinned (OpenSpec.ofChange curveAgreesSpec)

/-- ITS FALSE NEIGHBOUR: 'it returns false'. Refute it at one input. -/
def curveAgreesWrong : ChangeSpec := { name := "curveAgrees", fn := fun _ => fun
  | [d1, d2] => { results := [.lit (.bool false)], args := [d1, d2] }
  | _ => none }
def CurveAgreesWrongFalsely : Prop := curveAgreesRow.holds Try.pinned (OpenSpec.ofChange curveAgreesWrong)

/-- 'redanlaw06.CurveTop': WHATEVER THE INPUT: true; the input reads as it did. -/
def curveTopSpec : ChangeSpec := { name := "curveTop", fn := fun _ => fun
  | [d1, d2, d3] => { results := [.lit (.bool true)], args := [d1, d2, d3] }
  | _ => none }
def curveTopRow : OpenClaim := { program := "ytfklojheogidpaa", sum := "53be7ca4419636f463d76328b9436161e287981a150eb4190bbd6362aae90f10", func := "redan/redanlaw06.CurveTop", spec := "curveTop", inPlace := ["math/bits.Add64", "math/bits.Sub64"], apart := false }
def CurveTopSaid : Prop := curveTopRow.holds Try.pinned (OpenSpec.ofChange curveTopSpec)

/-- ITS FALSE NEIGHBOUR: 'it returns false'. Refute it at one input. -/
def curveTopWrong : ChangeSpec := { name := "curveTop", fn := fun _ => fun
  | [d1, d2, d3] => { results := [.lit (.bool false)], args := [d1, d2, d3] }
  | _ => none }
def CurveTopWrongFalsely : Prop := curveTopRow.holds Try.pinned (OpenSpec.ofChange curveTopWrong)

/-- 'redanlaw06.CurvePublic': WHATEVER THE INPUT: true; the input reads as it did. -/
def curvePublicSpec : ChangeSpec := { name := "curvePublic", fn := fun _ => fun
  | [d] => { results := [.lit (.bool true)], args := [d] }
  | _ => none }
def curvePublicRow : OpenClaim := { program := "ytfklojheogidpaa", sum := "53be7ca4419636f463d76328b9436161e287981a150eb4190bbd6362aae90f10", func := "redan/redanlaw06.CurvePublic", spec := "curvePublic", inPlace := ["math/bits.Add64", "math/bits.Sub64"], apart := false }
def CurvePublicSaid : Prop := curvePublicRow.holds Try.pinned (OpenSpec.ofChange curvePublicSpec)

/-- ITS FALSE NEIGHBOUR: 'it returns false'. Refute it at one input. -/
def curvePublicWrong : ChangeSpec := { name := "curvePublic", fn := fun _ => fun
  | [d] => { results := [.lit (.bool false)], args := [d] }
  | _ => none }
def CurvePublicWrongFalsely : Prop := curvePublicRow.holds Try.pinned (OpenSpec.ofChange curvePublicWrong)

/-- 'redanlaw06.CurveSmall': WHATEVER THE INPUT: true; the input reads as it did. -/
def curveSmallSpec : ChangeSpec := { name := "curveSmall", fn := fun _ => fun
  | [d1, d2, d3] => { results := [.lit (.bool true)], args := [d1, d2, d3] }
  | _ => none }
def curveSmallRow : OpenClaim := { program := "ytfklojheogidpaa", sum := "53be7ca4419636f463d76328b9436161e287981a150eb4190bbd6362aae90f10", func := "redan/redanlaw06.CurveSmall", spec := "curveSmall", inPlace := ["math/bits.Add64", "math/bits.Sub64"], apart := false }
def CurveSmallSaid : Prop := curveSmallRow.holds Try.pinned (OpenSpec.ofChange curveSmallSpec)

/-- ITS FALSE NEIGHBOUR: 'it returns false'. Refute it at one input. -/
def curveSmallWrong : ChangeSpec := { name := "curveSmall", fn := fun _ => fun
  | [d1, d2, d3] => { results := [.lit (.bool false)], args := [d1, d2, d3] }
  | _ => none }
def CurveSmallWrongFalsely : Prop := curveSmallRow.holds Try.pinned (OpenSpec.ofChange curveSmallWrong)

/- THE SECOND FORM. 'bulk': how many values and letters a reading holds, each counted each time it is reached (what is shared counts as often as it is met; a slice's spare places count too). A statement '..UptoSaid' is the law's where the arguments, and the package variables that the reading takes, are together of bulk at most 1048576: NARROWER than '..Said'. Prove '..Said' where nothing that the law and all that it calls make is longer than what came in: it says more and counts as full. Else prove '..UptoSaid'. A law counts once. -/
mutual
def uptoBulk {H : Type} : DataW H → Nat
  | .lit (.string bytes) => bytes.length + 1
  | .lit _ => 1
  | .nil => 1
  | .ptr d => uptoBulk d + 1
  | .slice elems spare => uptoBulkAll elems + uptoBulkAll spare + 1
  | .agg parts => uptoBulkAll parts + 1
  | .iface _ d => uptoBulk d + 1
  | .map entries => uptoBulkEntries entries + 1
  | .held _ => 1
def uptoBulkAll {H : Type} : List (DataW H) → Nat
  | [] => 0
  | d :: r => uptoBulk d + uptoBulkAll r
def uptoBulkEntries {H : Type} : List (Lit × DataW H) → Nat
  | [] => 0
  | x :: r => uptoBulkEntry x + uptoBulkEntries r
def uptoBulkEntry {H : Type} : Lit × DataW H → Nat
  | (.string bytes, d) => bytes.length + uptoBulk d + 1
  | (_, d) => uptoBulk d + 1
 end
def uptoSmall : (H : Type) → List (DataW H) → Bool := fun _ ds => decide (uptoBulkAll ds ≤ 1048576)
def OpenSpec.upto (s : _root_.Go.ChangeSpec) : _root_.Go.OpenSpec := { _root_.Go.OpenSpec.ofChange s with cond := some uptoSmall }

/-- 'redanlaw05.FieldCodes', WHERE WHAT IT READS IS OF BULK AT MOST 1048576: true; the input reads as it did. -/
def fieldCodesUptoRow : OpenClaim := { program := "ytfklojheogidpaa", sum := "53be7ca4419636f463d76328b9436161e287981a150eb4190bbd6362aae90f10", func := "redan/redanlaw05.FieldCodes", spec := "fieldCodes", inPlace := ["math/bits.Add64", "math/bits.Sub64"], apart := false, narrowed := true }
def FieldCodesUptoSaid : Prop := fieldCodesUptoRow.holds Try.pinned (OpenSpec.upto fieldCodesSpec)

/-- 'redanlaw05.FieldAdds', WHERE WHAT IT READS IS OF BULK AT MOST 1048576: true; the input reads as it did. -/
def fieldAddsUptoRow : OpenClaim := { program := "ytfklojheogidpaa", sum := "53be7ca4419636f463d76328b9436161e287981a150eb4190bbd6362aae90f10", func := "redan/redanlaw05.FieldAdds", spec := "fieldAdds", inPlace := ["math/bits.Add64", "math/bits.Sub64"], apart := false, narrowed := true }
def FieldAddsUptoSaid : Prop := fieldAddsUptoRow.holds Try.pinned (OpenSpec.upto fieldAddsSpec)

/-- 'redanlaw05.FieldMuls', WHERE WHAT IT READS IS OF BULK AT MOST 1048576: true; the input reads as it did. -/
def fieldMulsUptoRow : OpenClaim := { program := "ytfklojheogidpaa", sum := "53be7ca4419636f463d76328b9436161e287981a150eb4190bbd6362aae90f10", func := "redan/redanlaw05.FieldMuls", spec := "fieldMuls", inPlace := ["math/bits.Add64", "math/bits.Sub64"], apart := false, narrowed := true }
def FieldMulsUptoSaid : Prop := fieldMulsUptoRow.holds Try.pinned (OpenSpec.upto fieldMulsSpec)

/-- 'redanlaw05.FieldTimes', WHERE WHAT IT READS IS OF BULK AT MOST 1048576: true; the input reads as it did. -/
def fieldTimesUptoRow : OpenClaim := { program := "ytfklojheogidpaa", sum := "53be7ca4419636f463d76328b9436161e287981a150eb4190bbd6362aae90f10", func := "redan/redanlaw05.FieldTimes", spec := "fieldTimes", inPlace := ["math/bits.Add64", "math/bits.Sub64"], apart := false, narrowed := true }
def FieldTimesUptoSaid : Prop := fieldTimesUptoRow.holds Try.pinned (OpenSpec.upto fieldTimesSpec)

/-- 'redanlaw05.FieldInverts', WHERE WHAT IT READS IS OF BULK AT MOST 1048576: true; the input reads as it did. -/
def fieldInvertsUptoRow : OpenClaim := { program := "ytfklojheogidpaa", sum := "53be7ca4419636f463d76328b9436161e287981a150eb4190bbd6362aae90f10", func := "redan/redanlaw05.FieldInverts", spec := "fieldInverts", inPlace := ["math/bits.Add64", "math/bits.Sub64"], apart := false, narrowed := true }
def FieldInvertsUptoSaid : Prop := fieldInvertsUptoRow.holds Try.pinned (OpenSpec.upto fieldInvertsSpec)

/-- 'redanlaw05.FieldSame', WHERE WHAT IT READS IS OF BULK AT MOST 1048576: true; the input reads as it did. -/
def fieldSameUptoRow : OpenClaim := { program := "ytfklojheogidpaa", sum := "53be7ca4419636f463d76328b9436161e287981a150eb4190bbd6362aae90f10", func := "redan/redanlaw05.FieldSame", spec := "fieldSame", inPlace := ["math/bits.Add64", "math/bits.Sub64"], apart := false, narrowed := true }
def FieldSameUptoSaid : Prop := fieldSameUptoRow.holds Try.pinned (OpenSpec.upto fieldSameSpec)

/-- 'redanlaw05.FieldLaws', WHERE WHAT IT READS IS OF BULK AT MOST 1048576: true; the input reads as it did. -/
def fieldLawsUptoRow : OpenClaim := { program := "ytfklojheogidpaa", sum := "53be7ca4419636f463d76328b9436161e287981a150eb4190bbd6362aae90f10", func := "redan/redanlaw05.FieldLaws", spec := "fieldLaws", inPlace := ["math/bits.Add64", "math/bits.Sub64"], apart := false, narrowed := true }
def FieldLawsUptoSaid : Prop := fieldLawsUptoRow.holds Try.pinned (OpenSpec.upto fieldLawsSpec)

/-- 'redanlaw05.FieldSubs', WHERE WHAT IT READS IS OF BULK AT MOST 1048576: true; the input reads as it did. -/
def fieldSubsUptoRow : OpenClaim := { program := "ytfklojheogidpaa", sum := "53be7ca4419636f463d76328b9436161e287981a150eb4190bbd6362aae90f10", func := "redan/redanlaw05.FieldSubs", spec := "fieldSubs", inPlace := ["math/bits.Add64", "math/bits.Sub64"], apart := false, narrowed := true }
def FieldSubsUptoSaid : Prop := fieldSubsUptoRow.holds Try.pinned (OpenSpec.upto fieldSubsSpec)

/-- 'redanlaw05.FieldSquares', WHERE WHAT IT READS IS OF BULK AT MOST 1048576: true; the input reads as it did. -/
def fieldSquaresUptoRow : OpenClaim := { program := "ytfklojheogidpaa", sum := "53be7ca4419636f463d76328b9436161e287981a150eb4190bbd6362aae90f10", func := "redan/redanlaw05.FieldSquares", spec := "fieldSquares", inPlace := ["math/bits.Add64", "math/bits.Sub64"], apart := false, narrowed := true }
def FieldSquaresUptoSaid : Prop := fieldSquaresUptoRow.holds Try.pinned (OpenSpec.upto fieldSquaresSpec)

/-- 'redanlaw05.FieldBytes', WHERE WHAT IT READS IS OF BULK AT MOST 1048576: true; the input reads as it did. -/
def fieldBytesUptoRow : OpenClaim := { program := "ytfklojheogidpaa", sum := "53be7ca4419636f463d76328b9436161e287981a150eb4190bbd6362aae90f10", func := "redan/redanlaw05.FieldBytes", spec := "fieldBytes", inPlace := ["math/bits.Add64", "math/bits.Sub64"], apart := false, narrowed := true }
def FieldBytesUptoSaid : Prop := fieldBytesUptoRow.holds Try.pinned (OpenSpec.upto fieldBytesSpec)

/-- 'redanlaw06.CurveScalars', WHERE WHAT IT READS IS OF BULK AT MOST 1048576: true; the input reads as it did. -/
def curveScalarsUptoRow : OpenClaim := { program := "ytfklojheogidpaa", sum := "53be7ca4419636f463d76328b9436161e287981a150eb4190bbd6362aae90f10", func := "redan/redanlaw06.CurveScalars", spec := "curveScalars", inPlace := ["math/bits.Add64", "math/bits.Sub64"], apart := false, narrowed := true }
def CurveScalarsUptoSaid : Prop := curveScalarsUptoRow.holds Try.pinned (OpenSpec.upto curveScalarsSpec)

/-- 'redanlaw06.CurveShares', WHERE WHAT IT READS IS OF BULK AT MOST 1048576: true; the input reads as it did. -/
def curveSharesUptoRow : OpenClaim := { program := "ytfklojheogidpaa", sum := "53be7ca4419636f463d76328b9436161e287981a150eb4190bbd6362aae90f10", func := "redan/redanlaw06.CurveShares", spec := "curveShares", inPlace := ["math/bits.Add64", "math/bits.Sub64"], apart := false, narrowed := true }
def CurveSharesUptoSaid : Prop := curveSharesUptoRow.holds Try.pinned (OpenSpec.upto curveSharesSpec)

/-- 'redanlaw06.CurveClamps', WHERE WHAT IT READS IS OF BULK AT MOST 1048576: true; the input reads as it did. -/
def curveClampsUptoRow : OpenClaim := { program := "ytfklojheogidpaa", sum := "53be7ca4419636f463d76328b9436161e287981a150eb4190bbd6362aae90f10", func := "redan/redanlaw06.CurveClamps", spec := "curveClamps", inPlace := ["math/bits.Add64", "math/bits.Sub64"], apart := false, narrowed := true }
def CurveClampsUptoSaid : Prop := curveClampsUptoRow.holds Try.pinned (OpenSpec.upto curveClampsSpec)

/-- 'redanlaw06.CurveAgrees', WHERE WHAT IT READS IS OF BULK AT MOST 1048576: true; the input reads as it did. -/
def curveAgreesUptoRow : OpenClaim := { program := "ytfklojheogidpaa", sum := "53be7ca4419636f463d76328b9436161e287981a150eb4190bbd6362aae90f10", func := "redan/redanlaw06.CurveAgrees", spec := "curveAgrees", inPlace := ["math/bits.Add64", "math/bits.Sub64"], apart := false, narrowed := true }
def CurveAgreesUptoSaid : Prop := curveAgreesUptoRow.holds Try.pinned (OpenSpec.upto curveAgreesSpec)

/-- 'redanlaw06.CurveTop', WHERE WHAT IT READS IS OF BULK AT MOST 1048576: true; the input reads as it did. -/
def curveTopUptoRow : OpenClaim := { program := "ytfklojheogidpaa", sum := "53be7ca4419636f463d76328b9436161e287981a150eb4190bbd6362aae90f10", func := "redan/redanlaw06.CurveTop", spec := "curveTop", inPlace := ["math/bits.Add64", "math/bits.Sub64"], apart := false, narrowed := true }
def CurveTopUptoSaid : Prop := curveTopUptoRow.holds Try.pinned (OpenSpec.upto curveTopSpec)

/-- 'redanlaw06.CurvePublic', WHERE WHAT IT READS IS OF BULK AT MOST 1048576: true; the input reads as it did. -/
def curvePublicUptoRow : OpenClaim := { program := "ytfklojheogidpaa", sum := "53be7ca4419636f463d76328b9436161e287981a150eb4190bbd6362aae90f10", func := "redan/redanlaw06.CurvePublic", spec := "curvePublic", inPlace := ["math/bits.Add64", "math/bits.Sub64"], apart := false, narrowed := true }
def CurvePublicUptoSaid : Prop := curvePublicUptoRow.holds Try.pinned (OpenSpec.upto curvePublicSpec)

/-- 'redanlaw06.CurveSmall', WHERE WHAT IT READS IS OF BULK AT MOST 1048576: true; the input reads as it did. -/
def curveSmallUptoRow : OpenClaim := { program := "ytfklojheogidpaa", sum := "53be7ca4419636f463d76328b9436161e287981a150eb4190bbd6362aae90f10", func := "redan/redanlaw06.CurveSmall", spec := "curveSmall", inPlace := ["math/bits.Add64", "math/bits.Sub64"], apart := false, narrowed := true }
def CurveSmallUptoSaid : Prop := curveSmallUptoRow.holds Try.pinned (OpenSpec.upto curveSmallSpec)

end Rows
end Go.Proofs.Ytfklojheogidpaa
