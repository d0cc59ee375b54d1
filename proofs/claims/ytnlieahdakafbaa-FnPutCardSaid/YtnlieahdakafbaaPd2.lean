import Derived.Test.YtnlieahdakafbaaRows
import Derived.WalkKit
import Derived.ProofKit
import Derived.SizedLaws
namespace Go.Proofs.Ytnlieahdakafbaa.fnPutCard
open Go.ChangeShapes Go.WideShapes Go.ChangeAt Go.RowKit
theorem c1:(Rows.fnPutCardRow.inPlace==(Try.pinned.checked.prog).inPlace 7)=true:=by kernel_rfl
theorem c2:(Rows.fnPutCardRow.unfollowed==(Try.pinned.checked.prog).unfollowed 7)=true:=by kernel_rfl
theorem c3:(Rows.fnPutCardRow.recurses==(Try.pinned.checked.prog).recurses 7)=true:=by kernel_rfl
theorem c4:(Rows.fnPutCardRow.named==(Try.pinned.checked.prog).varsNamed 7)=true:=by kernel_rfl
end Go.Proofs.Ytnlieahdakafbaa.fnPutCard
