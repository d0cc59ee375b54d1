import Derived.Test.YtehefmgplkolaaaRows
import Derived.WalkKit
import Derived.ProofKit
import Derived.SizedLaws
namespace Go.Proofs.Ytehefmgplkolaaa.fnShapeJoin
open Go.ChangeShapes Go.WideShapes Go.ChangeAt Go.RowKit
theorem c1:(Rows.fnShapeJoinRow.inPlace==(Try.pinned.checked.prog).inPlace 4)=true:=by kernel_rfl
theorem c2:(Rows.fnShapeJoinRow.unfollowed==(Try.pinned.checked.prog).unfollowed 4)=true:=by kernel_rfl
theorem c3:(Rows.fnShapeJoinRow.recurses==(Try.pinned.checked.prog).recurses 4)=true:=by kernel_rfl
theorem c4:(Rows.fnShapeJoinRow.named==(Try.pinned.checked.prog).varsNamed 4)=true:=by kernel_rfl
end Go.Proofs.Ytehefmgplkolaaa.fnShapeJoin
