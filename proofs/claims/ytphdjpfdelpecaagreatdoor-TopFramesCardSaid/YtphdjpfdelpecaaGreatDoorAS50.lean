/- The run of works, whole. Conditions: none beyond those that each theorem states. -/
import Derived.Test.YtphdjpfdelpecaaGreatDoorAS46
import Derived.Test.YtphdjpfdelpecaaGreatDoorAS47
namespace Go.Proofs.YtphdjpfdelpecaaGreatDoor.AI
open Go Go.RowKit
set_option linter.unusedVariables false
set_option maxRecDepth 100000
noncomputable section
theorem works_of (ok : HookOk Tryz.prog hooks) (hm : Tryz.prog.follows .mixedOrders = true) (w : World) : Calls Tryz.prog 5 #[] w fun e w' => e = .returned (.bool true) ∧ Below w.heap.size w w' :=
 calls_first ok hm run_s1 (Ends.pieces ok hm run_f (Ends.piece ok hm run_a2 (Ends.atEnd (v := .b true) (u := .bool true) ok hm (fun _ _ h => h) run_ae)) (Ends.piece ok hm run_b2 (Ends.atEnd (v := .b true) (u := .bool true) ok hm (fun _ _ h => h) run_be))) w
end
end Go.Proofs.YtphdjpfdelpecaaGreatDoor.AI
