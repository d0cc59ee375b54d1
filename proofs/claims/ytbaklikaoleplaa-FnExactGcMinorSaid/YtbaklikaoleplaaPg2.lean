import Derived.Test.YtbaklikaoleplaaRows
import Derived.WalkKit
import Derived.ProofKit
import Derived.SizedLaws
namespace Go.Proofs.Ytbaklikaoleplaa.fnExactGcMinor
open Go.ChangeShapes Go.WideShapes Go.ChangeAt Go.RowKit
theorem c1:(Rows.fnExactGcMinorRow.inPlace==(Try.pinned.checked.prog).inPlace 3)=true:=by kernel_rfl
theorem c2:(Rows.fnExactGcMinorRow.unfollowed==(Try.pinned.checked.prog).unfollowed 3)=true:=by kernel_rfl
theorem c3:(Rows.fnExactGcMinorRow.recurses==(Try.pinned.checked.prog).recurses 3)=true:=by kernel_rfl
theorem c4:(Rows.fnExactGcMinorRow.named==(Try.pinned.checked.prog).varsNamed 3)=true:=by kernel_rfl
end Go.Proofs.Ytbaklikaoleplaa.fnExactGcMinor
