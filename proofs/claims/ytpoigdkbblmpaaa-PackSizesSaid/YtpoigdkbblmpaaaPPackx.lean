/- Functions that the law reaches, each as a plain Lean function with the proof that the call does what it says. Conditions: none beyond those that each theorem states. Written by a program for this claim. -/
import Derived.Test.YtpoigdkbblmpaaaPPackx0
import Derived.Test.YtpoigdkbblmpaaaPPackx1
import Derived.Test.YtpoigdkbblmpaaaPPackx2
import Derived.Test.YtpoigdkbblmpaaaPPackx3
import Derived.Test.YtpoigdkbblmpaaaPPackx4
import Derived.Test.YtpoigdkbblmpaaaPPackx5
import Derived.Test.YtpoigdkbblmpaaaPPackx6
namespace Go.Proofs.Ytpoigdkbblmpaaa.PPack
open Go.RowKit Go.Proofs.YtpoigdkbblmpaaaW.PrintWords Go.Proofs.YtpoigdkbblmpaaaW.PrintLast Go.Proofs.YtpoigdkbblmpaaaW.PrintMore
attribute [local go_sem] max2_int min2_int max_two min_two max_three min_three max_four min_four   -- for this text's walks alone
set_option linter.unusedVariables false
set_option linter.unusedSimpArgs false

end Go.Proofs.Ytpoigdkbblmpaaa.PPack
