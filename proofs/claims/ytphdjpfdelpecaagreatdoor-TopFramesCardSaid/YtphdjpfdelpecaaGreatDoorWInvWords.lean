/- Words that a printed proof uses. Conditions: none beyond those that each theorem states. -/
import Derived.Test.YtphdjpfdelpecaaGreatDoorWInv
import Derived.Test.YtphdjpfdelpecaaGreatDoorWFootNe
namespace Go.Proofs.YtphdjpfdelpecaaGreatDoorW.PrintWords
open Go.RowKit
end Go.Proofs.YtphdjpfdelpecaaGreatDoorW.PrintWords
namespace Go.Proofs.YtphdjpfdelpecaaGreatDoorW.PrintLast
section
variable {ops : Array Oper} {a : Act} {o og : Oper} {g : Nat} {t : Tmp} {u : Bool}
end
end Go.Proofs.YtphdjpfdelpecaaGreatDoorW.PrintLast
