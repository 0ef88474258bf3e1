-- PRINTED BY print.sh 35421559b90ae4d0a3588c463048766b98c2df88dd9212a6774a882060cdf62d: not written by this session
import Derived.Test.YtbcgihkmgmbomaaProg
import Derived.Below
import Derived.Deep.Draws
import Derived.Deep.AppendLies
import Derived.Maps.AppendAt
import Derived.OwnWalk
import Derived.Laws.BytesArg
import Derived.Laws.MakeOwn
import Derived.Laws.OwnMore
import Derived.Deep.OwnRows
import Derived.Tactics
import Derived.Lib.ConvBytes
import Derived.Laws.Slices
import Derived.WalkKit
import Derived.KernelRfl
import Derived.RowKit3
import Derived.Deep.LoopGhost
import Derived.Deep.QuietTactic
import Derived.BigQuiet
import Derived.WideLaws
import Derived.Deep.DeepCutAuto
import Derived.Deep.CutBlock
import Derived.Deep.RegionHeld3
import Derived.Laws.Rows
import Derived.Lib.AppendStr
import Derived.ArgAppend
import Derived.Laws.IdiomCopy
import Derived.OrdersHeld
import Derived.Laws.BitsLemmas
import Derived.RowKit
import Derived.Test.YtbcgihkmgmbomaaWWords
import Derived.Test.YtbcgihkmgmbomaaWLast
import Derived.Test.YtbcgihkmgmbomaaWTab
import Derived.Test.YtbcgihkmgmbomaaWFour
import Derived.Test.YtbcgihkmgmbomaaWQPut
import Derived.Test.YtbcgihkmgmbomaaWApart
import Derived.Test.YtbcgihkmgmbomaaWArr
import Derived.Test.YtbcgihkmgmbomaaWZeros
import Derived.Test.YtbcgihkmgmbomaaWFoot
import Derived.Test.YtbcgihkmgmbomaaWKept
import Derived.Test.YtbcgihkmgmbomaaWShare
import Derived.Test.YtbcgihkmgmbomaaWN
import Derived.Test.YtbcgihkmgmbomaaWFootNe
import Derived.Test.YtbcgihkmgmbomaaWAt
import Derived.Test.YtbcgihkmgmbomaaWEqStruct
import Derived.Test.YtbcgihkmgmbomaaWRepsOne
import Derived.Test.YtbcgihkmgmbomaaWInv
import Derived.Test.YtbcgihkmgmbomaaWInvWords
import Derived.Test.YtbcgihkmgmbomaaWGuard
import Derived.Test.YtbcgihkmgmbomaaWNEv
import Derived.Test.YtbcgihkmgmbomaaWMore
namespace Go.Proofs.Ytbcgihkmgmbomaa.PBoundGrows
open Go.RowKit Go.Proofs.YtbcgihkmgmbomaaW.PrintWords Go.Proofs.YtbcgihkmgmbomaaW.PrintLast Go.Proofs.YtbcgihkmgmbomaaW.PrintMore
attribute [local go_sem] max2_int min2_int max_two min_two max_three min_three max_four min_four   -- for this text's walks alone
set_option linter.unusedVariables false
set_option linter.unusedSimpArgs false



def errW : Option Int → Value
  | none => .nilIface
  | some c => .iface 0 (.int .i64 c)
theorem errW_none : errW none = .nilIface := rfl
theorem errW_some (c : Int) : errW (some c) = .iface 0 (.int .i64 c) := rfl

-- the values' own types

end Go.Proofs.Ytbcgihkmgmbomaa.PBoundGrows
