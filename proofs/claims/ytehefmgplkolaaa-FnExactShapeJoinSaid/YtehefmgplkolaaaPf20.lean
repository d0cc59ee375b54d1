import Derived.Test.YtehefmgplkolaaaPf19
import Derived.Test.YtehefmgplkolaaaPf15
namespace Go.Proofs.YtehefmgplkolaaaW.PrintWords
open Go.RowKit
end Go.Proofs.YtehefmgplkolaaaW.PrintWords
namespace Go.Proofs.YtehefmgplkolaaaW.PrintLast
section
variable {ops:Array Oper} {a:Act} {o og:Oper} {g:Nat} {t:Tmp} {u:Bool}
end
end Go.Proofs.YtehefmgplkolaaaW.PrintLast
