import Derived.Test.YtnlieahdakafbaaRows
import Derived.WalkKit
import Derived.ProofKit
import Derived.SizedLaws
namespace Go.Proofs.Ytnlieahdakafbaa.fnPutWalk
open Go.ChangeShapes Go.WideShapes Go.ChangeAt Go.RowKit
theorem c1:(Rows.fnPutWalkRow.inPlace==(Try.pinned.checked.prog).inPlace 5)=true:=by kernel_rfl
theorem c2:(Rows.fnPutWalkRow.unfollowed==(Try.pinned.checked.prog).unfollowed 5)=true:=by kernel_rfl
theorem c3:(Rows.fnPutWalkRow.recurses==(Try.pinned.checked.prog).recurses 5)=true:=by kernel_rfl
theorem c4:(Rows.fnPutWalkRow.named==(Try.pinned.checked.prog).varsNamed 5)=true:=by kernel_rfl
end Go.Proofs.Ytnlieahdakafbaa.fnPutWalk
