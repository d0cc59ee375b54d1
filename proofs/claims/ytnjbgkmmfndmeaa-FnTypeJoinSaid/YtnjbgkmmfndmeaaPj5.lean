import Derived.Test.YtnjbgkmmfndmeaaPj4
import Derived.Test.YtnjbgkmmfndmeaaPj3
namespace Go.Proofs.YtnjbgkmmfndmeaaW.PrintLast
open Go.Proofs.YtnjbgkmmfndmeaaW.PrintWords (Aside0)
section
variable {md : Region.Mode} {ops : Array Oper} {T : Bool × List (List Nat × List Nat)} {l l' li lj lk : Array Bool} {ds : List Nat} {i j k : Nat}
end
end Go.Proofs.YtnjbgkmmfndmeaaW.PrintLast
