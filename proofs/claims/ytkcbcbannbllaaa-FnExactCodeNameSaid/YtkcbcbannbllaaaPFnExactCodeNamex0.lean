-- PRINTED BY print.sh 35421559b90ae4d0a3588c463048766b98c2df88dd9212a6774a882060cdf62d: not written by this session
import Derived.Test.YtkcbcbannbllaaaProg
import Derived.Below
import Derived.Deep.Draws
import Derived.Deep.AppendLies
import Derived.Maps.AppendAt
import Derived.OwnWalk
import Derived.Laws.BytesArg
import Derived.Laws.MakeOwn
import Derived.Laws.OwnMore
import Derived.Deep.OwnRows
import Derived.Tactics
import Derived.Lib.ConvBytes
import Derived.Laws.Slices
import Derived.WalkKit
import Derived.KernelRfl
import Derived.RowKit3
import Derived.Deep.LoopGhost
import Derived.Deep.QuietTactic
import Derived.BigQuiet
import Derived.WideLaws
import Derived.Deep.DeepCutAuto
import Derived.Deep.CutBlock
import Derived.Deep.RegionHeld3
import Derived.Laws.Rows
import Derived.Lib.AppendStr
import Derived.ArgAppend
import Derived.Laws.IdiomCopy
import Derived.OrdersHeld
import Derived.Laws.BitsLemmas
import Derived.RowKit
import Derived.Test.YtkcbcbannbllaaaWWords
import Derived.Test.YtkcbcbannbllaaaWLast
import Derived.Test.YtkcbcbannbllaaaWTab
import Derived.Test.YtkcbcbannbllaaaWFour
import Derived.Test.YtkcbcbannbllaaaWQPut
import Derived.Test.YtkcbcbannbllaaaWApart
import Derived.Test.YtkcbcbannbllaaaWArr
import Derived.Test.YtkcbcbannbllaaaWZeros
import Derived.Test.YtkcbcbannbllaaaWFoot
import Derived.Test.YtkcbcbannbllaaaWKept
import Derived.Test.YtkcbcbannbllaaaWShare
import Derived.Test.YtkcbcbannbllaaaWN
import Derived.Test.YtkcbcbannbllaaaWFootNe
import Derived.Test.YtkcbcbannbllaaaWAt
import Derived.Test.YtkcbcbannbllaaaWEqStruct
import Derived.Test.YtkcbcbannbllaaaWRepsOne
import Derived.Test.YtkcbcbannbllaaaWInv
import Derived.Test.YtkcbcbannbllaaaWInvWords
import Derived.Test.YtkcbcbannbllaaaWGuard
import Derived.Test.YtkcbcbannbllaaaWNEv
import Derived.Test.YtkcbcbannbllaaaWMore
namespace Go.Proofs.Ytkcbcbannbllaaa.PFnExactCodeName
open Go.RowKit Go.Proofs.YtkcbcbannbllaaaW.PrintWords Go.Proofs.YtkcbcbannbllaaaW.PrintLast Go.Proofs.YtkcbcbannbllaaaW.PrintMore
attribute [local go_sem] max2_int min2_int max_two min_two max_three min_three max_four min_four   -- for this text's walks alone
set_option linter.unusedVariables false
set_option linter.unusedSimpArgs false



def errW : Option Int → Value
  | none => .nilIface
  | some c => .iface 0 (.int .i64 c)
theorem errW_none : errW none = .nilIface := rfl
theorem errW_some (c : Int) : errW (some c) = .iface 0 (.int .i64 c) := rfl

theorem info9 : (Try.prog.info? 9).map (fun i => (i.zero, i.size, i.bytes)) = some (some (.string ⟨#[]⟩), 1, 16) := by kernel_rfl
-- the values' own types

end Go.Proofs.Ytkcbcbannbllaaa.PFnExactCodeName
