import Derived.Test.YtnjbgkmmfndmeaaRows
import Derived.WalkKit
import Derived.ProofKit
import Derived.SizedLaws
namespace Go.Proofs.Ytnjbgkmmfndmeaa.fnTypeJoin
open Go.ChangeShapes Go.WideShapes Go.ChangeAt Go.RowKit
theorem c1 : (Rows.fnTypeJoinRow.inPlace == (Try.pinned.checked.prog).inPlace 3) = true := by kernel_rfl
theorem c2 : (Rows.fnTypeJoinRow.unfollowed == (Try.pinned.checked.prog).unfollowed 3) = true := by kernel_rfl
theorem c3 : (Rows.fnTypeJoinRow.recurses == (Try.pinned.checked.prog).recurses 3) = true := by kernel_rfl
theorem c4 : (Rows.fnTypeJoinRow.named == (Try.pinned.checked.prog).varsNamed 3) = true := by kernel_rfl
end Go.Proofs.Ytnjbgkmmfndmeaa.fnTypeJoin
