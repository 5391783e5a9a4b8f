-- PRINTED BY print.sh 35421559b90ae4d0a3588c463048766b98c2df88dd9212a6774a882060cdf62d: not written by this session
import Derived.Test.YtkcjgkfgjbhfnaaProg
import Derived.Below
import Derived.Deep.Draws
import Derived.Deep.AppendLies
import Derived.Maps.AppendAt
import Derived.OwnWalk
import Derived.Laws.BytesArg
import Derived.Laws.MakeOwn
import Derived.Laws.OwnMore
import Derived.Deep.OwnRows
import Derived.Tactics
import Derived.Lib.ConvBytes
import Derived.Laws.Slices
import Derived.WalkKit
import Derived.KernelRfl
import Derived.RowKit3
import Derived.Deep.LoopGhost
import Derived.Deep.QuietTactic
import Derived.BigQuiet
import Derived.WideLaws
import Derived.Deep.DeepCutAuto
import Derived.Deep.CutBlock
import Derived.Deep.RegionHeld3
import Derived.Laws.Rows
import Derived.Lib.AppendStr
import Derived.ArgAppend
import Derived.Laws.IdiomCopy
import Derived.OrdersHeld
import Derived.Laws.BitsLemmas
import Derived.RowKit
import Derived.Test.YtkcjgkfgjbhfnaaWWords
import Derived.Test.YtkcjgkfgjbhfnaaWLast
import Derived.Test.YtkcjgkfgjbhfnaaWTab
import Derived.Test.YtkcjgkfgjbhfnaaWFour
import Derived.Test.YtkcjgkfgjbhfnaaWQPut
import Derived.Test.YtkcjgkfgjbhfnaaWApart
import Derived.Test.YtkcjgkfgjbhfnaaWArr
import Derived.Test.YtkcjgkfgjbhfnaaWZeros
import Derived.Test.YtkcjgkfgjbhfnaaWFoot
import Derived.Test.YtkcjgkfgjbhfnaaWKept
import Derived.Test.YtkcjgkfgjbhfnaaWShare
import Derived.Test.YtkcjgkfgjbhfnaaWN
import Derived.Test.YtkcjgkfgjbhfnaaWFootNe
import Derived.Test.YtkcjgkfgjbhfnaaWAt
import Derived.Test.YtkcjgkfgjbhfnaaWEqStruct
import Derived.Test.YtkcjgkfgjbhfnaaWRepsOne
import Derived.Test.YtkcjgkfgjbhfnaaWInv
import Derived.Test.YtkcjgkfgjbhfnaaWInvWords
import Derived.Test.YtkcjgkfgjbhfnaaWGuard
import Derived.Test.YtkcjgkfgjbhfnaaWNEv
import Derived.Test.YtkcjgkfgjbhfnaaWMore
namespace Go.Proofs.Ytkcjgkfgjbhfnaa.PWindowPlays
open Go.RowKit Go.Proofs.YtkcjgkfgjbhfnaaW.PrintWords Go.Proofs.YtkcjgkfgjbhfnaaW.PrintLast Go.Proofs.YtkcjgkfgjbhfnaaW.PrintMore
attribute [local go_sem] max2_int min2_int max_two min_two max_three min_three max_four min_four   -- for this text's walks alone
set_option linter.unusedVariables false
set_option linter.unusedSimpArgs false



def errW : Option Int → Value
  | none => .nilIface
  | some c => .iface 0 (.int .i64 c)
theorem errW_none : errW none = .nilIface := rfl
theorem errW_some (c : Int) : errW (some c) = .iface 0 (.int .i64 c) := rfl

theorem info24 : (Try.prog.info? 24).map (fun i => (i.zero, i.size, i.bytes)) = some (some (.int .u64 0), 1, 8) := by kernel_rfl
-- the values' own types

end Go.Proofs.Ytkcjgkfgjbhfnaa.PWindowPlays
