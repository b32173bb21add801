/- Functions that the law reaches, each as a plain Lean function with the proof that the call does what it says. Conditions: none beyond those that each theorem states. Written by a program for this claim. -/
import Derived.Test.YtphdjpfdelpecaaGreatDoorProg
import Derived.Test.YtphdjpfdelpecaaGreatDoorXW
import Derived.Below
import Derived.Deep.Draws
import Derived.Deep.AppendLies
import Derived.Maps.AppendAt
import Derived.OwnWalk
import Derived.Laws.BytesArg
import Derived.Laws.MakeOwn
import Derived.Laws.OwnMore
import Derived.Deep.OwnRows
import Derived.Tactics
import Derived.Lib.ConvBytes
import Derived.Laws.Slices
import Derived.WalkKit
import Derived.KernelRfl
import Derived.RowKit3
import Derived.Deep.LoopGhost
import Derived.Deep.QuietTactic
import Derived.BigQuiet
import Derived.WideLaws
import Derived.Deep.DeepCutAuto
import Derived.Deep.CutBlock
import Derived.Deep.RegionHeld3
import Derived.Laws.Rows
import Derived.Lib.AppendStr
import Derived.ArgAppend
import Derived.Laws.IdiomCopy
import Derived.OrdersHeld
import Derived.Laws.BitsLemmas
import Derived.RowKit
import Derived.Test.YtphdjpfdelpecaaGreatDoorCrcA
import Derived.Test.YtphdjpfdelpecaaGreatDoorWWords
import Derived.Test.YtphdjpfdelpecaaGreatDoorWLast
import Derived.Test.YtphdjpfdelpecaaGreatDoorWTab
import Derived.Test.YtphdjpfdelpecaaGreatDoorWFour
import Derived.Test.YtphdjpfdelpecaaGreatDoorWQPut
import Derived.Test.YtphdjpfdelpecaaGreatDoorWApart
import Derived.Test.YtphdjpfdelpecaaGreatDoorWArr
import Derived.Test.YtphdjpfdelpecaaGreatDoorWZeros
import Derived.Test.YtphdjpfdelpecaaGreatDoorWFoot
import Derived.Test.YtphdjpfdelpecaaGreatDoorWKept
import Derived.Test.YtphdjpfdelpecaaGreatDoorWShare
import Derived.Test.YtphdjpfdelpecaaGreatDoorWN
import Derived.Test.YtphdjpfdelpecaaGreatDoorWFootNe
import Derived.Test.YtphdjpfdelpecaaGreatDoorWAt
import Derived.Test.YtphdjpfdelpecaaGreatDoorWEqStruct
import Derived.Test.YtphdjpfdelpecaaGreatDoorWRepsOne
import Derived.Test.YtphdjpfdelpecaaGreatDoorWInv
import Derived.Test.YtphdjpfdelpecaaGreatDoorWInvWords
import Derived.Test.YtphdjpfdelpecaaGreatDoorWGuard
import Derived.Test.YtphdjpfdelpecaaGreatDoorWNEv
import Derived.Test.YtphdjpfdelpecaaGreatDoorWMore
namespace Go.Proofs.YtphdjpfdelpecaaGreatDoor.PTopf
open Go.RowKit Go.Proofs.YtphdjpfdelpecaaGreatDoorW.PrintWords Go.Proofs.YtphdjpfdelpecaaGreatDoorW.PrintLast Go.Proofs.YtphdjpfdelpecaaGreatDoorW.PrintMore
attribute [local go_sem] max2_int min2_int max_two min_two max_three min_three max_four min_four   -- for this text's walks alone
set_option linter.unusedVariables false
set_option linter.unusedSimpArgs false
def errW : Option Int → Value
 | none => .nilIface
 | some c => .iface 0 (.int .i64 c)
theorem errW_none : errW none = .nilIface := rfl
theorem errW_some (c : Int) : errW (some c) = .iface 0 (.int .i64 c) := rfl
theorem info3 : (Tryz.prog.info? 3).map (fun i => (i.zero, i.size, i.bytes)) = some (some (.int .i64 0), 1, 8) := by kernel_rfl
theorem info5 : (Tryz.prog.info? 5).map (fun i => (i.zero, i.size, i.bytes)) = some (some (.int .u8 0), 1, 1) := by kernel_rfl
end Go.Proofs.YtphdjpfdelpecaaGreatDoor.PTopf
