import Derived.Test.YtfbkpjjnhengfaaPw19
import Derived.Test.YtfbkpjjnhengfaaPw15
namespace Go.Proofs.YtfbkpjjnhengfaaW.PrintWords
open Go.RowKit
end Go.Proofs.YtfbkpjjnhengfaaW.PrintWords
namespace Go.Proofs.YtfbkpjjnhengfaaW.PrintLast
section
variable {ops : Array Oper} {a : Act} {o og : Oper} {g : Nat} {t : Tmp} {u : Bool}
end
end Go.Proofs.YtfbkpjjnhengfaaW.PrintLast
