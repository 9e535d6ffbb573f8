/- Turned out by a program of this session (wip/tools/prt.py). -/
import Derived.Test.YtnkopggkapdceaaProg
import Derived.Below
import Derived.Deep.Draws
import Derived.Deep.AppendLies
import Derived.Maps.AppendAt
import Derived.OwnWalk
import Derived.Laws.BytesArg
import Derived.Laws.MakeOwn
import Derived.Laws.OwnMore
import Derived.Deep.OwnRows
import Derived.Tactics
import Derived.Lib.ConvBytes
import Derived.Laws.Slices
import Derived.WalkKit
import Derived.KernelRfl
import Derived.RowKit3
import Derived.Deep.LoopGhost
import Derived.Deep.QuietTactic
import Derived.BigQuiet
import Derived.WideLaws
import Derived.Deep.DeepCutAuto
import Derived.Deep.CutBlock
import Derived.Deep.RegionHeld3
import Derived.Laws.Rows
import Derived.Lib.AppendStr
import Derived.ArgAppend
import Derived.Laws.IdiomCopy
import Derived.OrdersHeld
import Derived.Laws.BitsLemmas
import Derived.RowKit
import Derived.Test.YtnkopggkapdceaaWWords
import Derived.Test.YtnkopggkapdceaaWLast
import Derived.Test.YtnkopggkapdceaaWTab
import Derived.Test.YtnkopggkapdceaaWFour
import Derived.Test.YtnkopggkapdceaaWQPut
import Derived.Test.YtnkopggkapdceaaWApart
import Derived.Test.YtnkopggkapdceaaWArr
import Derived.Test.YtnkopggkapdceaaWZeros
import Derived.Test.YtnkopggkapdceaaWFoot
import Derived.Test.YtnkopggkapdceaaWKept
import Derived.Test.YtnkopggkapdceaaWShare
import Derived.Test.YtnkopggkapdceaaWN
import Derived.Test.YtnkopggkapdceaaWFootNe
import Derived.Test.YtnkopggkapdceaaWAt
import Derived.Test.YtnkopggkapdceaaWEqStruct
import Derived.Test.YtnkopggkapdceaaWRepsOne
import Derived.Test.YtnkopggkapdceaaWInv
import Derived.Test.YtnkopggkapdceaaWInvWords
import Derived.Test.YtnkopggkapdceaaWGuard
import Derived.Test.YtnkopggkapdceaaWNEv
import Derived.Test.YtnkopggkapdceaaWMore
namespace Go.Proofs.Ytnkopggkapdceaa.Ino
open Go.RowKit Go.Proofs.YtnkopggkapdceaaW.PrintWords Go.Proofs.YtnkopggkapdceaaW.PrintLast Go.Proofs.YtnkopggkapdceaaW.PrintMore
attribute [local go_sem] max2_int min2_int max_two min_two max_three min_three max_four min_four   -- for this text's walks alone
set_option linter.unusedVariables false
set_option linter.unusedSimpArgs false



def errW : Option Int → Value
 | none => .nilIface
 | some c => .iface 0 (.int .i64 c)
theorem errW_none : errW none = .nilIface := rfl
theorem errW_some (c : Int) : errW (some c) = .iface 0 (.int .i64 c) := rfl

theorem info3 : (Try.prog.info? 3).map (fun i => (i.zero, i.size, i.bytes)) = some (some (.int .i64 0), 1, 8) := by kernel_rfl
theorem info4 : (Try.prog.info? 4).map (fun i => (i.zero, i.size, i.bytes)) = some (some (.bool false), 1, 1) := by kernel_rfl
theorem info5 : (Try.prog.info? 5).map (fun i => (i.zero, i.size, i.bytes)) = some (some (.int .u8 0), 1, 1) := by kernel_rfl
-- the values' own types

end Go.Proofs.Ytnkopggkapdceaa.Ino
