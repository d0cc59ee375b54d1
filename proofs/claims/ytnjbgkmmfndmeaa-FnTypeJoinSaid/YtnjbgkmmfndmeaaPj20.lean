import Derived.Test.YtnjbgkmmfndmeaaPj19
import Derived.Test.YtnjbgkmmfndmeaaPj15
namespace Go.Proofs.YtnjbgkmmfndmeaaW.PrintWords
open Go.RowKit
end Go.Proofs.YtnjbgkmmfndmeaaW.PrintWords
namespace Go.Proofs.YtnjbgkmmfndmeaaW.PrintLast
section
variable {ops : Array Oper} {a : Act} {o og : Oper} {g : Nat} {t : Tmp} {u : Bool}
end
end Go.Proofs.YtnjbgkmmfndmeaaW.PrintLast
