import Derived.Test.YtehefmgplkolaaaRows
import Derived.WalkKit
import Derived.ProofKit
import Derived.SizedLaws
namespace Go.Proofs.Ytehefmgplkolaaa.fnExactShapeJoin
open Go.ChangeShapes Go.WideShapes Go.ChangeAt Go.RowKit
theorem c1:(Rows.fnExactShapeJoinRow.inPlace==(Try.pinned.checked.prog).inPlace 3)=true:=by kernel_rfl
theorem c2:(Rows.fnExactShapeJoinRow.unfollowed==(Try.pinned.checked.prog).unfollowed 3)=true:=by kernel_rfl
theorem c3:(Rows.fnExactShapeJoinRow.recurses==(Try.pinned.checked.prog).recurses 3)=true:=by kernel_rfl
theorem c4:(Rows.fnExactShapeJoinRow.named==(Try.pinned.checked.prog).varsNamed 3)=true:=by kernel_rfl
end Go.Proofs.Ytehefmgplkolaaa.fnExactShapeJoin
