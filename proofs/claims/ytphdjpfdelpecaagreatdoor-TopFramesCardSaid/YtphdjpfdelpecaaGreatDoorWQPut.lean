/- Words that a printed proof uses. Conditions: none beyond those that each theorem states. -/
import Derived.Test.YtphdjpfdelpecaaGreatDoorWWords
import Derived.Test.YtphdjpfdelpecaaGreatDoorWLast
namespace Go.Proofs.YtphdjpfdelpecaaGreatDoorW.PrintWords
open Go.RowKit
namespace Kd
section
variable {α : Type} {d : Kd α} {e base g o n cap : Nat} {ok okp : Nat → Prop} {w W : World} {v : Value} {xs : List α}
end
section
variable {α : Type} {enc : α → Value} {h1 : ∀ x, (enc x).oneCell' = true} {e base g o n cap : Nat} {ok : Nat → Prop} {W : World} {xs : List α}
end
end Kd
end Go.Proofs.YtphdjpfdelpecaaGreatDoorW.PrintWords
