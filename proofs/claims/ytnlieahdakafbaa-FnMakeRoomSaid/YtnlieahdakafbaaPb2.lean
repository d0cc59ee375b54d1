import Derived.Test.YtnlieahdakafbaaRows
import Derived.WalkKit
import Derived.ProofKit
import Derived.SizedLaws
namespace Go.Proofs.Ytnlieahdakafbaa.fnMakeRoom
open Go.ChangeShapes Go.WideShapes Go.ChangeAt Go.RowKit
theorem c1:(Rows.fnMakeRoomRow.inPlace==(Try.pinned.checked.prog).inPlace 8)=true:=by kernel_rfl
theorem c2:(Rows.fnMakeRoomRow.unfollowed==(Try.pinned.checked.prog).unfollowed 8)=true:=by kernel_rfl
theorem c3:(Rows.fnMakeRoomRow.recurses==(Try.pinned.checked.prog).recurses 8)=true:=by kernel_rfl
theorem c4:(Rows.fnMakeRoomRow.named==(Try.pinned.checked.prog).varsNamed 8)=true:=by kernel_rfl
end Go.Proofs.Ytnlieahdakafbaa.fnMakeRoom
