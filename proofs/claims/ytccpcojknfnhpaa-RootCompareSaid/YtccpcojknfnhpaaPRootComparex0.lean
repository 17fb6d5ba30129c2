-- PRINTED BY print.sh 35421559b90ae4d0a3588c463048766b98c2df88dd9212a6774a882060cdf62d: not written by this session
import Derived.Test.YtccpcojknfnhpaaProg
import Derived.Below
import Derived.Deep.Draws
import Derived.Deep.AppendLies
import Derived.Maps.AppendAt
import Derived.OwnWalk
import Derived.Laws.BytesArg
import Derived.Laws.MakeOwn
import Derived.Laws.OwnMore
import Derived.Deep.OwnRows
import Derived.Tactics
import Derived.Lib.ConvBytes
import Derived.Laws.Slices
import Derived.WalkKit
import Derived.KernelRfl
import Derived.RowKit3
import Derived.Deep.LoopGhost
import Derived.Deep.QuietTactic
import Derived.BigQuiet
import Derived.WideLaws
import Derived.Deep.DeepCutAuto
import Derived.Deep.CutBlock
import Derived.Deep.RegionHeld3
import Derived.Laws.Rows
import Derived.Lib.AppendStr
import Derived.ArgAppend
import Derived.Laws.IdiomCopy
import Derived.OrdersHeld
import Derived.Laws.BitsLemmas
import Derived.RowKit
import Derived.Test.YtccpcojknfnhpaaWWords
import Derived.Test.YtccpcojknfnhpaaWLast
import Derived.Test.YtccpcojknfnhpaaWTab
import Derived.Test.YtccpcojknfnhpaaWFour
import Derived.Test.YtccpcojknfnhpaaWQPut
import Derived.Test.YtccpcojknfnhpaaWApart
import Derived.Test.YtccpcojknfnhpaaWArr
import Derived.Test.YtccpcojknfnhpaaWZeros
import Derived.Test.YtccpcojknfnhpaaWFoot
import Derived.Test.YtccpcojknfnhpaaWKept
import Derived.Test.YtccpcojknfnhpaaWShare
import Derived.Test.YtccpcojknfnhpaaWN
import Derived.Test.YtccpcojknfnhpaaWFootNe
import Derived.Test.YtccpcojknfnhpaaWAt
import Derived.Test.YtccpcojknfnhpaaWEqStruct
import Derived.Test.YtccpcojknfnhpaaWRepsOne
import Derived.Test.YtccpcojknfnhpaaWInv
import Derived.Test.YtccpcojknfnhpaaWInvWords
import Derived.Test.YtccpcojknfnhpaaWGuard
import Derived.Test.YtccpcojknfnhpaaWNEv
import Derived.Test.YtccpcojknfnhpaaWMore
namespace Go.Proofs.Ytccpcojknfnhpaa.PRootCompare
open Go.RowKit Go.Proofs.YtccpcojknfnhpaaW.PrintWords Go.Proofs.YtccpcojknfnhpaaW.PrintLast Go.Proofs.YtccpcojknfnhpaaW.PrintMore
attribute [local go_sem] max2_int min2_int max_two min_two max_three min_three max_four min_four   -- for this text's walks alone
set_option linter.unusedVariables false
set_option linter.unusedSimpArgs false



def errW : Option Int → Value
  | none => .nilIface
  | some c => .iface 0 (.int .i64 c)
theorem errW_none : errW none = .nilIface := rfl
theorem errW_some (c : Int) : errW (some c) = .iface 0 (.int .i64 c) := rfl

-- the values' own types

end Go.Proofs.Ytccpcojknfnhpaa.PRootCompare
