import Derived.Test.YtbaklikaoleplaaPh19
import Derived.Test.YtbaklikaoleplaaPh15
namespace Go.Proofs.YtbaklikaoleplaaW.PrintWords
open Go.RowKit
end Go.Proofs.YtbaklikaoleplaaW.PrintWords
namespace Go.Proofs.YtbaklikaoleplaaW.PrintLast
section
variable {ops:Array Oper} {a:Act} {o og:Oper} {g:Nat} {t:Tmp} {u:Bool}
end
end Go.Proofs.YtbaklikaoleplaaW.PrintLast
