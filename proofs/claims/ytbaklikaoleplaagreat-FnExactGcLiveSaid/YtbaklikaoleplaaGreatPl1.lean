import Derived.Test.YtbaklikaoleplaaGreatRows
import Derived.WalkKit
import Derived.ProofKit
import Derived.SizedLaws
namespace Go.Proofs.YtbaklikaoleplaaGreat.Seat
open Go.ChangeShapes Go.WideShapes Go.ChangeAt Go.RowKit
theorem laid1:laidOutB Tryz.pinned.checked.prog=true:=by kernel_rfl
theorem rowed1:mapsRowed Tryz.pinned.checked.prog=true:=by kernel_rfl
theorem heard1:(Tryz.pinned.checked.prog).stopsHeard=true:=by kernel_rfl
end Go.Proofs.YtbaklikaoleplaaGreat.Seat
