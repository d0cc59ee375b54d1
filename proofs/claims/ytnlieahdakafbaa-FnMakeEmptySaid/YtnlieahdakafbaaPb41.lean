import Derived.Test.YtnlieahdakafbaaRows
import Derived.WalkKit
import Derived.ProofKit
import Derived.SizedLaws
namespace Go.Proofs.Ytnlieahdakafbaa.fnMakeEmpty
open Go.ChangeShapes Go.WideShapes Go.ChangeAt Go.RowKit
theorem c1:(Rows.fnMakeEmptyRow.inPlace==(Try.pinned.checked.prog).inPlace 9)=true:=by kernel_rfl
theorem c2:(Rows.fnMakeEmptyRow.unfollowed==(Try.pinned.checked.prog).unfollowed 9)=true:=by kernel_rfl
theorem c3:(Rows.fnMakeEmptyRow.recurses==(Try.pinned.checked.prog).recurses 9)=true:=by kernel_rfl
theorem c4:(Rows.fnMakeEmptyRow.named==(Try.pinned.checked.prog).varsNamed 9)=true:=by kernel_rfl
end Go.Proofs.Ytnlieahdakafbaa.fnMakeEmpty
