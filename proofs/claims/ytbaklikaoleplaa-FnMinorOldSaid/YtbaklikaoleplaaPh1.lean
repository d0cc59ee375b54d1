import Derived.Test.YtbaklikaoleplaaRows
import Derived.WalkKit
import Derived.ProofKit
import Derived.SizedLaws
namespace Go.Proofs.Ytbaklikaoleplaa.Seat
open Go.ChangeShapes Go.WideShapes Go.ChangeAt Go.RowKit
theorem laid1:laidOutB Try.pinned.checked.prog=true:=by kernel_rfl
theorem rowed1:mapsRowed Try.pinned.checked.prog=true:=by kernel_rfl
theorem heard1:(Try.pinned.checked.prog).stopsHeard=true:=by kernel_rfl
end Go.Proofs.Ytbaklikaoleplaa.Seat
