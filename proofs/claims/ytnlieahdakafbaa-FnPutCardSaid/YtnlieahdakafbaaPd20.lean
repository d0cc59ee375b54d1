import Derived.Test.YtnlieahdakafbaaPd19
import Derived.Test.YtnlieahdakafbaaPd15
namespace Go.Proofs.YtnlieahdakafbaaW.PrintWords
open Go.RowKit
end Go.Proofs.YtnlieahdakafbaaW.PrintWords
namespace Go.Proofs.YtnlieahdakafbaaW.PrintLast
section
variable {ops:Array Oper} {a:Act} {o og:Oper} {g:Nat} {t:Tmp} {u:Bool}
end
end Go.Proofs.YtnlieahdakafbaaW.PrintLast
