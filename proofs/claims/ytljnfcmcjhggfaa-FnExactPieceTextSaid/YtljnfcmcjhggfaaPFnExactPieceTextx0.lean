-- Written by wip/fix.py (a program of this session) out of the print of this claim.
import Derived.Test.YtljnfcmcjhggfaaProg
import Derived.Below
import Derived.Deep.Draws
import Derived.Deep.AppendLies
import Derived.Maps.AppendAt
import Derived.OwnWalk
import Derived.Laws.BytesArg
import Derived.Laws.MakeOwn
import Derived.Laws.OwnMore
import Derived.Deep.OwnRows
import Derived.Tactics
import Derived.Lib.ConvBytes
import Derived.Laws.Slices
import Derived.WalkKit
import Derived.KernelRfl
import Derived.RowKit3
import Derived.Deep.LoopGhost
import Derived.Deep.QuietTactic
import Derived.BigQuiet
import Derived.WideLaws
import Derived.Deep.DeepCutAuto
import Derived.Deep.CutBlock
import Derived.Deep.RegionHeld3
import Derived.Laws.Rows
import Derived.Lib.AppendStr
import Derived.ArgAppend
import Derived.Laws.IdiomCopy
import Derived.OrdersHeld
import Derived.Laws.BitsLemmas
import Derived.RowKit
import Derived.Test.YtljnfcmcjhggfaaWWords
import Derived.Test.YtljnfcmcjhggfaaWLast
import Derived.Test.YtljnfcmcjhggfaaWTab
import Derived.Test.YtljnfcmcjhggfaaWFour
import Derived.Test.YtljnfcmcjhggfaaWQPut
import Derived.Test.YtljnfcmcjhggfaaWApart
import Derived.Test.YtljnfcmcjhggfaaWArr
import Derived.Test.YtljnfcmcjhggfaaWZeros
import Derived.Test.YtljnfcmcjhggfaaWFoot
import Derived.Test.YtljnfcmcjhggfaaWKept
import Derived.Test.YtljnfcmcjhggfaaWShare
import Derived.Test.YtljnfcmcjhggfaaWN
import Derived.Test.YtljnfcmcjhggfaaWFootNe
import Derived.Test.YtljnfcmcjhggfaaWAt
import Derived.Test.YtljnfcmcjhggfaaWEqStruct
import Derived.Test.YtljnfcmcjhggfaaWRepsOne
import Derived.Test.YtljnfcmcjhggfaaWInv
import Derived.Test.YtljnfcmcjhggfaaWInvWords
import Derived.Test.YtljnfcmcjhggfaaWGuard
import Derived.Test.YtljnfcmcjhggfaaWNEv
import Derived.Test.YtljnfcmcjhggfaaWMore
namespace Go.Proofs.Ytljnfcmcjhggfaa.PFnExactPieceText
open Go.RowKit Go.Proofs.YtljnfcmcjhggfaaW.PrintWords Go.Proofs.YtljnfcmcjhggfaaW.PrintLast Go.Proofs.YtljnfcmcjhggfaaW.PrintMore
attribute [local go_sem] max2_int min2_int max_two min_two max_three min_three max_four min_four   -- for this text's walks alone
set_option linter.unusedVariables false
set_option linter.unusedSimpArgs false



def errW : Option Int → Value
  | none => .nilIface
  | some c => .iface 0 (.int .i64 c)
theorem errW_none : errW none = .nilIface := rfl
theorem errW_some (c : Int) : errW (some c) = .iface 0 (.int .i64 c) := rfl

theorem info5 : (Try.prog.info? 5).map (fun i => (i.zero, i.size, i.bytes)) = some (some (.int .u8 0), 1, 1) := by kernel_rfl
-- the values' own types

end Go.Proofs.Ytljnfcmcjhggfaa.PFnExactPieceText
