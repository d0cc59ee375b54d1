import Derived.Test.YtbaklikaoleplaaRows
import Derived.WalkKit
import Derived.ProofKit
import Derived.SizedLaws
namespace Go.Proofs.Ytbaklikaoleplaa.fnMinorOld
open Go.ChangeShapes Go.WideShapes Go.ChangeAt Go.RowKit
theorem c1:(Rows.fnMinorOldRow.inPlace==(Try.pinned.checked.prog).inPlace 4)=true:=by kernel_rfl
theorem c2:(Rows.fnMinorOldRow.unfollowed==(Try.pinned.checked.prog).unfollowed 4)=true:=by kernel_rfl
theorem c3:(Rows.fnMinorOldRow.recurses==(Try.pinned.checked.prog).recurses 4)=true:=by kernel_rfl
theorem c4:(Rows.fnMinorOldRow.named==(Try.pinned.checked.prog).varsNamed 4)=true:=by kernel_rfl
end Go.Proofs.Ytbaklikaoleplaa.fnMinorOld
