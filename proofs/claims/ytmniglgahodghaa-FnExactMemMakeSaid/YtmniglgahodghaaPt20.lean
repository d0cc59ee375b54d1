import Derived.Test.YtmniglgahodghaaPt19
import Derived.Test.YtmniglgahodghaaPt15
namespace Go.Proofs.YtmniglgahodghaaW.PrintWords
open Go.RowKit
end Go.Proofs.YtmniglgahodghaaW.PrintWords
namespace Go.Proofs.YtmniglgahodghaaW.PrintLast
section
variable {ops : Array Oper} {a : Act} {o og : Oper} {g : Nat} {t : Tmp} {u : Bool}
end
end Go.Proofs.YtmniglgahodghaaW.PrintLast
