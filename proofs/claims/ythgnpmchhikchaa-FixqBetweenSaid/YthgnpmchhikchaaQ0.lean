-- written by myprint.py (wip/tools) out of the translation
import Derived.Test.YthgnpmchhikchaaProg
import Derived.Below
import Derived.Deep.Draws
import Derived.Deep.AppendLies
import Derived.Maps.AppendAt
import Derived.OwnWalk
import Derived.Laws.BytesArg
import Derived.Laws.MakeOwn
import Derived.Laws.OwnMore
import Derived.Deep.OwnRows
import Derived.Tactics
import Derived.Lib.ConvBytes
import Derived.Laws.Slices
import Derived.WalkKit
import Derived.KernelRfl
import Derived.RowKit3
import Derived.Deep.LoopGhost
import Derived.Deep.QuietTactic
import Derived.BigQuiet
import Derived.WideLaws
import Derived.Deep.DeepCutAuto
import Derived.Deep.CutBlock
import Derived.Deep.RegionHeld3
import Derived.Laws.Rows
import Derived.Lib.AppendStr
import Derived.ArgAppend
import Derived.Laws.IdiomCopy
import Derived.OrdersHeld
import Derived.Laws.BitsLemmas
import Derived.RowKit
import Derived.Test.YthgnpmchhikchaaWWords
import Derived.Test.YthgnpmchhikchaaWLast
import Derived.Test.YthgnpmchhikchaaWTab
import Derived.Test.YthgnpmchhikchaaWFour
import Derived.Test.YthgnpmchhikchaaWQPut
import Derived.Test.YthgnpmchhikchaaWApart
import Derived.Test.YthgnpmchhikchaaWArr
import Derived.Test.YthgnpmchhikchaaWZeros
import Derived.Test.YthgnpmchhikchaaWFoot
import Derived.Test.YthgnpmchhikchaaWKept
import Derived.Test.YthgnpmchhikchaaWShare
import Derived.Test.YthgnpmchhikchaaWN
import Derived.Test.YthgnpmchhikchaaWFootNe
import Derived.Test.YthgnpmchhikchaaWAt
import Derived.Test.YthgnpmchhikchaaWEqStruct
import Derived.Test.YthgnpmchhikchaaWRepsOne
import Derived.Test.YthgnpmchhikchaaWInv
import Derived.Test.YthgnpmchhikchaaWInvWords
import Derived.Test.YthgnpmchhikchaaWGuard
import Derived.Test.YthgnpmchhikchaaWNEv
import Derived.Test.YthgnpmchhikchaaWMore
namespace Go.Proofs.Ythgnpmchhikchaa.Q
open Go.RowKit Go.Proofs.YthgnpmchhikchaaW.PrintWords Go.Proofs.YthgnpmchhikchaaW.PrintLast Go.Proofs.YthgnpmchhikchaaW.PrintMore
attribute [local go_sem] max2_int min2_int max_two min_two max_three min_three max_four min_four   -- for this text's walks alone
set_option linter.unusedVariables false
set_option linter.unusedSimpArgs false



def errW : Option Int → Value
  | none => .nilIface
  | some c => .iface 0 (.int .i64 c)
theorem errW_none : errW none = .nilIface := rfl
theorem errW_some (c : Int) : errW (some c) = .iface 0 (.int .i64 c) := rfl

theorem info3 : (Try.prog.info? 3).map (fun i => (i.zero, i.size, i.bytes)) = some (some (.int .i64 0), 1, 8) := by kernel_rfl
theorem info4 : (Try.prog.info? 4).map (fun i => (i.zero, i.size, i.bytes)) = some (some (.bool false), 1, 1) := by kernel_rfl
-- the values' own types

end Go.Proofs.Ythgnpmchhikchaa.Q
