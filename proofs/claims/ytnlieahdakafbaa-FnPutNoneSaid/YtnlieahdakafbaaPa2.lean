import Derived.Test.YtnlieahdakafbaaRows
import Derived.WalkKit
import Derived.ProofKit
import Derived.SizedLaws
namespace Go.Proofs.Ytnlieahdakafbaa.fnPutNone
open Go.ChangeShapes Go.WideShapes Go.ChangeAt Go.RowKit
theorem c1:(Rows.fnPutNoneRow.inPlace==(Try.pinned.checked.prog).inPlace 3)=true:=by kernel_rfl
theorem c2:(Rows.fnPutNoneRow.unfollowed==(Try.pinned.checked.prog).unfollowed 3)=true:=by kernel_rfl
theorem c3:(Rows.fnPutNoneRow.recurses==(Try.pinned.checked.prog).recurses 3)=true:=by kernel_rfl
theorem c4:(Rows.fnPutNoneRow.named==(Try.pinned.checked.prog).varsNamed 3)=true:=by kernel_rfl
end Go.Proofs.Ytnlieahdakafbaa.fnPutNone
