import Derived.Test.YtjnbilfhpdkcbaaPm19
import Derived.Test.YtjnbilfhpdkcbaaPm15
namespace Go.Proofs.YtjnbilfhpdkcbaaW.PrintWords
open Go.RowKit
end Go.Proofs.YtjnbilfhpdkcbaaW.PrintWords
namespace Go.Proofs.YtjnbilfhpdkcbaaW.PrintLast
section
variable {ops : Array Oper} {a : Act} {o og : Oper} {g : Nat} {t : Tmp} {u : Bool}
end
end Go.Proofs.YtjnbilfhpdkcbaaW.PrintLast
