-- PRINTED BY print.sh 35421559b90ae4d0a3588c463048766b98c2df88dd9212a6774a882060cdf62d: not written by this session
import Derived.Test.YtdlfjibbkcglpaaProg
import Derived.Below
import Derived.Deep.Draws
import Derived.Deep.AppendLies
import Derived.Maps.AppendAt
import Derived.OwnWalk
import Derived.Laws.BytesArg
import Derived.Laws.MakeOwn
import Derived.Laws.OwnMore
import Derived.Deep.OwnRows
import Derived.Tactics
import Derived.Lib.ConvBytes
import Derived.Laws.Slices
import Derived.WalkKit
import Derived.KernelRfl
import Derived.RowKit3
import Derived.Deep.LoopGhost
import Derived.Deep.QuietTactic
import Derived.BigQuiet
import Derived.WideLaws
import Derived.Deep.DeepCutAuto
import Derived.Deep.CutBlock
import Derived.Deep.RegionHeld3
import Derived.Laws.Rows
import Derived.Lib.AppendStr
import Derived.ArgAppend
import Derived.Laws.IdiomCopy
import Derived.OrdersHeld
import Derived.Laws.BitsLemmas
import Derived.RowKit
import Derived.Test.YtdlfjibbkcglpaaWWords
import Derived.Test.YtdlfjibbkcglpaaWLast
import Derived.Test.YtdlfjibbkcglpaaWTab
import Derived.Test.YtdlfjibbkcglpaaWFour
import Derived.Test.YtdlfjibbkcglpaaWQPut
import Derived.Test.YtdlfjibbkcglpaaWApart
import Derived.Test.YtdlfjibbkcglpaaWArr
import Derived.Test.YtdlfjibbkcglpaaWZeros
import Derived.Test.YtdlfjibbkcglpaaWFoot
import Derived.Test.YtdlfjibbkcglpaaWKept
import Derived.Test.YtdlfjibbkcglpaaWShare
import Derived.Test.YtdlfjibbkcglpaaWN
import Derived.Test.YtdlfjibbkcglpaaWFootNe
import Derived.Test.YtdlfjibbkcglpaaWAt
import Derived.Test.YtdlfjibbkcglpaaWEqStruct
import Derived.Test.YtdlfjibbkcglpaaWRepsOne
import Derived.Test.YtdlfjibbkcglpaaWInv
import Derived.Test.YtdlfjibbkcglpaaWInvWords
import Derived.Test.YtdlfjibbkcglpaaWGuard
import Derived.Test.YtdlfjibbkcglpaaWNEv
import Derived.Test.YtdlfjibbkcglpaaWMore
namespace Go.Proofs.Ytdlfjibbkcglpaa.PRequestTells
open Go.RowKit Go.Proofs.YtdlfjibbkcglpaaW.PrintWords Go.Proofs.YtdlfjibbkcglpaaW.PrintLast Go.Proofs.YtdlfjibbkcglpaaW.PrintMore
attribute [local go_sem] max2_int min2_int max_two min_two max_three min_three max_four min_four   -- for this text's walks alone
set_option linter.unusedVariables false
set_option linter.unusedSimpArgs false



def errW : Option Int → Value
  | none => .nilIface
  | some c => .iface 0 (.int .i64 c)
theorem errW_none : errW none = .nilIface := rfl
theorem errW_some (c : Int) : errW (some c) = .iface 0 (.int .i64 c) := rfl

-- the values' own types

end Go.Proofs.Ytdlfjibbkcglpaa.PRequestTells
