import Derived.Test.YtmniglgahodghaaPs8
import Derived.Test.YtmniglgahodghaaPs9
namespace Go.Proofs.YtmniglgahodghaaW.PrintWords
open Go.RowKit
namespace Kd
section
variable {α : Type} {d : Kd α} {e base g n c : Nat} {ok : Nat → Prop} {w w0 W : World} {A : Option Addr} {xs : List α}
end
end Kd
end Go.Proofs.YtmniglgahodghaaW.PrintWords
