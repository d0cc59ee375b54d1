import Derived.Test.YtfcbeodndplenaaRows
import Derived.WalkKit
import Derived.ProofKit
import Derived.SizedLaws

/- Closed facts of the statement FnExactTypeJoin. -/
namespace Go.Proofs.Ytfcbeodndplenaa.fnExactTypeJoin
open Go.ChangeShapes Go.WideShapes Go.ChangeAt Go.RowKit
theorem c1 : (Rows.fnExactTypeJoinRow.inPlace == (Try.pinned.checked.prog).inPlace 5) = true := by kernel_rfl
theorem c2 : (Rows.fnExactTypeJoinRow.unfollowed == (Try.pinned.checked.prog).unfollowed 5) = true := by kernel_rfl
theorem c3 : (Rows.fnExactTypeJoinRow.recurses == (Try.pinned.checked.prog).recurses 5) = true := by kernel_rfl
theorem c4 : (Rows.fnExactTypeJoinRow.named == (Try.pinned.checked.prog).varsNamed 5) = true := by kernel_rfl
end Go.Proofs.Ytfcbeodndplenaa.fnExactTypeJoin
