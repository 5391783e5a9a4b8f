/-
  No cell of these rows narrows 'for every input' (looked for: loops, veiled, ifaces, maps, wideKeys, modest, calm, conditions, laid).
  DERIVED. THE GIVEN ROWS OF THIS SEAT. 8 by the template 'for every input the law returns true; each argument reads behind the call as it read before'; 0 by the template 'total and deterministic' (their statements: YtkcjgkfgjbhfnaaTotals.lean).
  GIVEN WITH THE SEED: the statements are not yours to turn. If you find one false, say at which input.
  Laid BY PROGRAM, IN A SANDBOX (cutbox-rows.mjs): the forced cells as the released guide's own fill.sh prints them over the translation 77a4f9ffef572731… (all of the seat's roots in one cut). By AI agents, Wed Nov 11 2026. No macro, syntax, notation, axiom, sorry.
-/
import Derived.Test.YtkcjgkfgjbhfnaaChecked
import GoSem.Claim
import GoSem.ClaimJoined
import GoSem.ClaimMapViews
import Derived.JoinedTies
import Derived.KernelRfl
namespace Go.Proofs.Ytkcjgkfgjbhfnaa
/- THE CELL 'sum', in the pinned program and in every row, IS THE sha256 OF THE DUMP (.gsa) THAT YtkcjgkfgjbhfnaaProg.lean LOADS. Nothing in Lean hashes anything: it is a label: what it is worth is what the hold of that sum in a sandbox is worth. -/
noncomputable def Try.pinned : Pinned := { name := "ytkcjgkfgjbhfnaa", sum := "77a4f9ffef57273100aba05bb168c5a92498f4ddde5fc65c250fc89347a7c6bc", checked := Try.checked }
namespace Rows
def none {H : Type} : Left H := { results := [], args := [] }

/-- 'redanlaw20.WindowPlays': WHATEVER THE INPUT: true; the input reads as it did. -/
def windowPlaysSpec : ChangeSpec := { name := "windowPlays", fn := fun _ => fun
  | [d1, d2] => { results := [.lit (.bool true)], args := [d1, d2] }
  | _ => none }
def windowPlaysRow : OpenClaim := { program := "ytkcjgkfgjbhfnaa", sum := "77a4f9ffef57273100aba05bb168c5a92498f4ddde5fc65c250fc89347a7c6bc", func := "redan/redanlaw20.WindowPlays", spec := "windowPlays", apart := false }
def WindowPlaysSaid : Prop := windowPlaysRow.holds Try.pinned (OpenSpec.ofChange windowPlaysSpec)

/-- ITS FALSE NEIGHBOUR: 'it returns false'. Refute it at one input. -/
def windowPlaysWrong : ChangeSpec := { name := "windowPlays", fn := fun _ => fun
  | [d1, d2] => { results := [.lit (.bool false)], args := [d1, d2] }
  | _ => none }
def WindowPlaysWrongFalsely : Prop := windowPlaysRow.holds Try.pinned (OpenSpec.ofChange windowPlaysWrong)

/-- 'redanlaw20.WindowNear': WHATEVER THE INPUT: true; the input reads as it did. -/
def windowNearSpec : ChangeSpec := { name := "windowNear", fn := fun _ => fun
  | [d1, d2] => { results := [.lit (.bool true)], args := [d1, d2] }
  | _ => none }
def windowNearRow : OpenClaim := { program := "ytkcjgkfgjbhfnaa", sum := "77a4f9ffef57273100aba05bb168c5a92498f4ddde5fc65c250fc89347a7c6bc", func := "redan/redanlaw20.WindowNear", spec := "windowNear", apart := false }
def WindowNearSaid : Prop := windowNearRow.holds Try.pinned (OpenSpec.ofChange windowNearSpec)

/-- ITS FALSE NEIGHBOUR: 'it returns false'. Refute it at one input. -/
def windowNearWrong : ChangeSpec := { name := "windowNear", fn := fun _ => fun
  | [d1, d2] => { results := [.lit (.bool false)], args := [d1, d2] }
  | _ => none }
def WindowNearWrongFalsely : Prop := windowNearRow.holds Try.pinned (OpenSpec.ofChange windowNearWrong)

/-- 'redanlaw20.WindowNone': WHATEVER THE INPUT: true; the input reads as it did. -/
def windowNoneSpec : ChangeSpec := { name := "windowNone", fn := fun _ => fun
  | [d] => { results := [.lit (.bool true)], args := [d] }
  | _ => none }
def windowNoneRow : OpenClaim := { program := "ytkcjgkfgjbhfnaa", sum := "77a4f9ffef57273100aba05bb168c5a92498f4ddde5fc65c250fc89347a7c6bc", func := "redan/redanlaw20.WindowNone", spec := "windowNone", apart := false }
def WindowNoneSaid : Prop := windowNoneRow.holds Try.pinned (OpenSpec.ofChange windowNoneSpec)

/-- ITS FALSE NEIGHBOUR: 'it returns false'. Refute it at one input. -/
def windowNoneWrong : ChangeSpec := { name := "windowNone", fn := fun _ => fun
  | [d] => { results := [.lit (.bool false)], args := [d] }
  | _ => none }
def WindowNoneWrongFalsely : Prop := windowNoneRow.holds Try.pinned (OpenSpec.ofChange windowNoneWrong)

/-- 'redanlaw20.WindowRows': WHATEVER THE INPUT: true; the input reads as it did. -/
def windowRowsSpec : ChangeSpec := { name := "windowRows", fn := fun _ => fun
  | [d1, d2, d3] => { results := [.lit (.bool true)], args := [d1, d2, d3] }
  | _ => none }
def windowRowsRow : OpenClaim := { program := "ytkcjgkfgjbhfnaa", sum := "77a4f9ffef57273100aba05bb168c5a92498f4ddde5fc65c250fc89347a7c6bc", func := "redan/redanlaw20.WindowRows", spec := "windowRows", apart := false }
def WindowRowsSaid : Prop := windowRowsRow.holds Try.pinned (OpenSpec.ofChange windowRowsSpec)

/-- ITS FALSE NEIGHBOUR: 'it returns false'. Refute it at one input. -/
def windowRowsWrong : ChangeSpec := { name := "windowRows", fn := fun _ => fun
  | [d1, d2, d3] => { results := [.lit (.bool false)], args := [d1, d2, d3] }
  | _ => none }
def WindowRowsWrongFalsely : Prop := windowRowsRow.holds Try.pinned (OpenSpec.ofChange windowRowsWrong)

/-- 'redanlaw18.WirePuts': WHATEVER THE INPUT: true; the input reads as it did. -/
def wirePutsSpec : ChangeSpec := { name := "wirePuts", fn := fun _ => fun
  | [d] => { results := [.lit (.bool true)], args := [d] }
  | _ => none }
def wirePutsRow : OpenClaim := { program := "ytkcjgkfgjbhfnaa", sum := "77a4f9ffef57273100aba05bb168c5a92498f4ddde5fc65c250fc89347a7c6bc", func := "redan/redanlaw18.WirePuts", spec := "wirePuts", unfollowed := true, recurses := true, apart := false }
def WirePutsSaid : Prop := wirePutsRow.holds Try.pinned (OpenSpec.ofChange wirePutsSpec)

/-- ITS FALSE NEIGHBOUR: 'it returns false'. Refute it at one input. -/
def wirePutsWrong : ChangeSpec := { name := "wirePuts", fn := fun _ => fun
  | [d] => { results := [.lit (.bool false)], args := [d] }
  | _ => none }
def WirePutsWrongFalsely : Prop := wirePutsRow.holds Try.pinned (OpenSpec.ofChange wirePutsWrong)

/-- 'redanlaw18.WireGets': WHATEVER THE INPUT: true; the input reads as it did. -/
def wireGetsSpec : ChangeSpec := { name := "wireGets", fn := fun _ => fun
  | [d] => { results := [.lit (.bool true)], args := [d] }
  | _ => none }
def wireGetsRow : OpenClaim := { program := "ytkcjgkfgjbhfnaa", sum := "77a4f9ffef57273100aba05bb168c5a92498f4ddde5fc65c250fc89347a7c6bc", func := "redan/redanlaw18.WireGets", spec := "wireGets", unfollowed := true, recurses := true, apart := false }
def WireGetsSaid : Prop := wireGetsRow.holds Try.pinned (OpenSpec.ofChange wireGetsSpec)

/-- ITS FALSE NEIGHBOUR: 'it returns false'. Refute it at one input. -/
def wireGetsWrong : ChangeSpec := { name := "wireGets", fn := fun _ => fun
  | [d] => { results := [.lit (.bool false)], args := [d] }
  | _ => none }
def WireGetsWrongFalsely : Prop := wireGetsRow.holds Try.pinned (OpenSpec.ofChange wireGetsWrong)

/-- 'redanlaw18.WireBack': WHATEVER THE INPUT: true; the input reads as it did. -/
def wireBackSpec : ChangeSpec := { name := "wireBack", fn := fun _ => fun
  | [d1, d2] => { results := [.lit (.bool true)], args := [d1, d2] }
  | _ => none }
def wireBackRow : OpenClaim := { program := "ytkcjgkfgjbhfnaa", sum := "77a4f9ffef57273100aba05bb168c5a92498f4ddde5fc65c250fc89347a7c6bc", func := "redan/redanlaw18.WireBack", spec := "wireBack", unfollowed := true, recurses := true, apart := false }
def WireBackSaid : Prop := wireBackRow.holds Try.pinned (OpenSpec.ofChange wireBackSpec)

/-- ITS FALSE NEIGHBOUR: 'it returns false'. Refute it at one input. -/
def wireBackWrong : ChangeSpec := { name := "wireBack", fn := fun _ => fun
  | [d1, d2] => { results := [.lit (.bool false)], args := [d1, d2] }
  | _ => none }
def WireBackWrongFalsely : Prop := wireBackRow.holds Try.pinned (OpenSpec.ofChange wireBackWrong)

/-- 'redanlaw18.WireHeads': WHATEVER THE INPUT: true; the input reads as it did. -/
def wireHeadsSpec : ChangeSpec := { name := "wireHeads", fn := fun _ => fun
  | [d1, d2, d3] => { results := [.lit (.bool true)], args := [d1, d2, d3] }
  | _ => none }
def wireHeadsRow : OpenClaim := { program := "ytkcjgkfgjbhfnaa", sum := "77a4f9ffef57273100aba05bb168c5a92498f4ddde5fc65c250fc89347a7c6bc", func := "redan/redanlaw18.WireHeads", spec := "wireHeads", unfollowed := true, recurses := true, apart := false }
def WireHeadsSaid : Prop := wireHeadsRow.holds Try.pinned (OpenSpec.ofChange wireHeadsSpec)

/-- ITS FALSE NEIGHBOUR: 'it returns false'. Refute it at one input. -/
def wireHeadsWrong : ChangeSpec := { name := "wireHeads", fn := fun _ => fun
  | [d1, d2, d3] => { results := [.lit (.bool false)], args := [d1, d2, d3] }
  | _ => none }
def WireHeadsWrongFalsely : Prop := wireHeadsRow.holds Try.pinned (OpenSpec.ofChange wireHeadsWrong)

/- THE SECOND FORM. 'bulk': how many values and letters a reading holds, each counted each time it is reached (what is shared counts as often as it is met; a slice's spare places count too). A statement '..UptoSaid' is the law's where the arguments, and the package variables that the reading takes, are together of bulk at most 1048576: NARROWER than '..Said'. Prove '..Said' where nothing that the law and all that it calls make is longer than what came in: it says more and counts as full. Else prove '..UptoSaid'. A law counts once. -/
mutual
def uptoBulk {H : Type} : DataW H → Nat
  | .lit (.string bytes) => bytes.length + 1
  | .lit _ => 1
  | .nil => 1
  | .ptr d => uptoBulk d + 1
  | .slice elems spare => uptoBulkAll elems + uptoBulkAll spare + 1
  | .agg parts => uptoBulkAll parts + 1
  | .iface _ d => uptoBulk d + 1
  | .map entries => uptoBulkEntries entries + 1
  | .held _ => 1
def uptoBulkAll {H : Type} : List (DataW H) → Nat
  | [] => 0
  | d :: r => uptoBulk d + uptoBulkAll r
def uptoBulkEntries {H : Type} : List (Lit × DataW H) → Nat
  | [] => 0
  | x :: r => uptoBulkEntry x + uptoBulkEntries r
def uptoBulkEntry {H : Type} : Lit × DataW H → Nat
  | (.string bytes, d) => bytes.length + uptoBulk d + 1
  | (_, d) => uptoBulk d + 1
 end
def uptoSmall : (H : Type) → List (DataW H) → Bool := fun _ ds => decide (uptoBulkAll ds ≤ 1048576)
def OpenSpec.upto (s : _root_.Go.ChangeSpec) : _root_.Go.OpenSpec := { _root_.Go.OpenSpec.ofChange s with cond := some uptoSmall }

/-- 'redanlaw20.WindowPlays', WHERE WHAT IT READS IS OF BULK AT MOST 1048576: true; the input reads as it did. -/
def windowPlaysUptoRow : OpenClaim := { program := "ytkcjgkfgjbhfnaa", sum := "77a4f9ffef57273100aba05bb168c5a92498f4ddde5fc65c250fc89347a7c6bc", func := "redan/redanlaw20.WindowPlays", spec := "windowPlays", apart := false, narrowed := true }
def WindowPlaysUptoSaid : Prop := windowPlaysUptoRow.holds Try.pinned (OpenSpec.upto windowPlaysSpec)

/-- 'redanlaw20.WindowNear', WHERE WHAT IT READS IS OF BULK AT MOST 1048576: true; the input reads as it did. -/
def windowNearUptoRow : OpenClaim := { program := "ytkcjgkfgjbhfnaa", sum := "77a4f9ffef57273100aba05bb168c5a92498f4ddde5fc65c250fc89347a7c6bc", func := "redan/redanlaw20.WindowNear", spec := "windowNear", apart := false, narrowed := true }
def WindowNearUptoSaid : Prop := windowNearUptoRow.holds Try.pinned (OpenSpec.upto windowNearSpec)

/-- 'redanlaw20.WindowNone', WHERE WHAT IT READS IS OF BULK AT MOST 1048576: true; the input reads as it did. -/
def windowNoneUptoRow : OpenClaim := { program := "ytkcjgkfgjbhfnaa", sum := "77a4f9ffef57273100aba05bb168c5a92498f4ddde5fc65c250fc89347a7c6bc", func := "redan/redanlaw20.WindowNone", spec := "windowNone", apart := false, narrowed := true }
def WindowNoneUptoSaid : Prop := windowNoneUptoRow.holds Try.pinned (OpenSpec.upto windowNoneSpec)

/-- 'redanlaw20.WindowRows', WHERE WHAT IT READS IS OF BULK AT MOST 1048576: true; the input reads as it did. -/
def windowRowsUptoRow : OpenClaim := { program := "ytkcjgkfgjbhfnaa", sum := "77a4f9ffef57273100aba05bb168c5a92498f4ddde5fc65c250fc89347a7c6bc", func := "redan/redanlaw20.WindowRows", spec := "windowRows", apart := false, narrowed := true }
def WindowRowsUptoSaid : Prop := windowRowsUptoRow.holds Try.pinned (OpenSpec.upto windowRowsSpec)

/-- 'redanlaw18.WirePuts', WHERE WHAT IT READS IS OF BULK AT MOST 1048576: true; the input reads as it did. -/
def wirePutsUptoRow : OpenClaim := { program := "ytkcjgkfgjbhfnaa", sum := "77a4f9ffef57273100aba05bb168c5a92498f4ddde5fc65c250fc89347a7c6bc", func := "redan/redanlaw18.WirePuts", spec := "wirePuts", unfollowed := true, recurses := true, apart := false, narrowed := true }
def WirePutsUptoSaid : Prop := wirePutsUptoRow.holds Try.pinned (OpenSpec.upto wirePutsSpec)

/-- 'redanlaw18.WireGets', WHERE WHAT IT READS IS OF BULK AT MOST 1048576: true; the input reads as it did. -/
def wireGetsUptoRow : OpenClaim := { program := "ytkcjgkfgjbhfnaa", sum := "77a4f9ffef57273100aba05bb168c5a92498f4ddde5fc65c250fc89347a7c6bc", func := "redan/redanlaw18.WireGets", spec := "wireGets", unfollowed := true, recurses := true, apart := false, narrowed := true }
def WireGetsUptoSaid : Prop := wireGetsUptoRow.holds Try.pinned (OpenSpec.upto wireGetsSpec)

/-- 'redanlaw18.WireBack', WHERE WHAT IT READS IS OF BULK AT MOST 1048576: true; the input reads as it did. -/
def wireBackUptoRow : OpenClaim := { program := "ytkcjgkfgjbhfnaa", sum := "77a4f9ffef57273100aba05bb168c5a92498f4ddde5fc65c250fc89347a7c6bc", func := "redan/redanlaw18.WireBack", spec := "wireBack", unfollowed := true, recurses := true, apart := false, narrowed := true }
def WireBackUptoSaid : Prop := wireBackUptoRow.holds Try.pinned (OpenSpec.upto wireBackSpec)

/-- 'redanlaw18.WireHeads', WHERE WHAT IT READS IS OF BULK AT MOST 1048576: true; the input reads as it did. -/
def wireHeadsUptoRow : OpenClaim := { program := "ytkcjgkfgjbhfnaa", sum := "77a4f9ffef57273100aba05bb168c5a92498f4ddde5fc65c250fc89347a7c6bc", func := "redan/redanlaw18.WireHeads", spec := "wireHeads", unfollowed := true, recurses := true, apart := false, narrowed := true }
def WireHeadsUptoSaid : Prop := wireHeadsUptoRow.holds Try.pinned (OpenSpec.upto wireHeadsSpec)

end Rows
end Go.Proofs.Ytkcjgkfgjbhfnaa
