import Derived.Test.YtnlieahdakafbaaRows
import Derived.WalkKit
import Derived.ProofKit
import Derived.SizedLaws
namespace Go.Proofs.Ytnlieahdakafbaa.fnObjsGet
open Go.ChangeShapes Go.WideShapes Go.ChangeAt Go.RowKit
theorem c1:(Rows.fnObjsGetRow.inPlace==(Try.pinned.checked.prog).inPlace 4)=true:=by kernel_rfl
theorem c2:(Rows.fnObjsGetRow.unfollowed==(Try.pinned.checked.prog).unfollowed 4)=true:=by kernel_rfl
theorem c3:(Rows.fnObjsGetRow.recurses==(Try.pinned.checked.prog).recurses 4)=true:=by kernel_rfl
theorem c4:(Rows.fnObjsGetRow.named==(Try.pinned.checked.prog).varsNamed 4)=true:=by kernel_rfl
end Go.Proofs.Ytnlieahdakafbaa.fnObjsGet
