import Derived.Test.YtbaklikaoleplaaPh8
import Derived.Test.YtbaklikaoleplaaPh9
namespace Go.Proofs.YtbaklikaoleplaaW.PrintWords
open Go.RowKit
namespace Kd
section
variable {α:Type} {d:Kd α} {e base g n c:Nat} {ok:Nat→Prop} {w w0 W:World} {A:Option Addr} {xs:List α}
end
end Kd
end Go.Proofs.YtbaklikaoleplaaW.PrintWords
