import Derived.Test.YtnlieahdakafbaaRows
import Derived.WalkKit
import Derived.ProofKit
import Derived.SizedLaws
namespace Go.Proofs.Ytnlieahdakafbaa.fnGetPut
open Go.ChangeShapes Go.WideShapes Go.ChangeAt Go.RowKit
theorem c1:(Rows.fnGetPutRow.inPlace==(Try.pinned.checked.prog).inPlace 6)=true:=by kernel_rfl
theorem c2:(Rows.fnGetPutRow.unfollowed==(Try.pinned.checked.prog).unfollowed 6)=true:=by kernel_rfl
theorem c3:(Rows.fnGetPutRow.recurses==(Try.pinned.checked.prog).recurses 6)=true:=by kernel_rfl
theorem c4:(Rows.fnGetPutRow.named==(Try.pinned.checked.prog).varsNamed 6)=true:=by kernel_rfl
end Go.Proofs.Ytnlieahdakafbaa.fnGetPut
