import Derived.Test.YtbaklikaoleplaaGreatPl19
import Derived.Test.YtbaklikaoleplaaGreatPl15
namespace Go.Proofs.YtbaklikaoleplaaGreatW.PrintWords
open Go.RowKit
end Go.Proofs.YtbaklikaoleplaaGreatW.PrintWords
namespace Go.Proofs.YtbaklikaoleplaaGreatW.PrintLast
section
variable {ops:Array Oper} {a:Act} {o og:Oper} {g:Nat} {t:Tmp} {u:Bool}
end
end Go.Proofs.YtbaklikaoleplaaGreatW.PrintLast
