import Derived.Test.YtbaklikaoleplaaGreatRows
import Derived.WalkKit
import Derived.ProofKit
import Derived.SizedLaws
namespace Go.Proofs.YtbaklikaoleplaaGreat.fnExactGcLive
open Go.ChangeShapes Go.WideShapes Go.ChangeAt Go.RowKit
theorem c1:(Rows.fnExactGcLiveRow.inPlace==(Tryz.pinned.checked.prog).inPlace 4)=true:=by kernel_rfl
theorem c2:(Rows.fnExactGcLiveRow.unfollowed==(Tryz.pinned.checked.prog).unfollowed 4)=true:=by kernel_rfl
theorem c3:(Rows.fnExactGcLiveRow.recurses==(Tryz.pinned.checked.prog).recurses 4)=true:=by kernel_rfl
theorem c4:(Rows.fnExactGcLiveRow.named==(Tryz.pinned.checked.prog).varsNamed 4)=true:=by kernel_rfl
end Go.Proofs.YtbaklikaoleplaaGreat.fnExactGcLive
