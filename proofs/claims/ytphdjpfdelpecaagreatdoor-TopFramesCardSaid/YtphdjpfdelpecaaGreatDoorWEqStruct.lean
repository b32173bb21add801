/- Words that a printed proof uses. Conditions: none beyond those that each theorem states. -/
import Derived.Test.YtphdjpfdelpecaaGreatDoorWWords
import Derived.Laws.StructEq
namespace Go.Proofs.YtphdjpfdelpecaaGreatDoorW.PrintWords
open Go.RowKit
section
variable {P : Program} {d : Nat} {xs ys : Array Value} {f : Field} {fs : List Field} {a b : Value} {r s : Bool} {w : World}
end
end Go.Proofs.YtphdjpfdelpecaaGreatDoorW.PrintWords
