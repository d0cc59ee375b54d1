import Derived.Test.YtjnbilfhpdkcbaaRows
import Derived.WalkKit
import Derived.ProofKit
import Derived.SizedLaws
namespace Go.Proofs.Ytjnbilfhpdkcbaa.fnExactMemOk
open Go.ChangeShapes Go.WideShapes Go.ChangeAt Go.RowKit
theorem c1 : (Rows.fnExactMemOkRow.inPlace == (Try.pinned.checked.prog).inPlace 4) = true := by kernel_rfl
theorem c2 : (Rows.fnExactMemOkRow.unfollowed == (Try.pinned.checked.prog).unfollowed 4) = true := by kernel_rfl
theorem c3 : (Rows.fnExactMemOkRow.recurses == (Try.pinned.checked.prog).recurses 4) = true := by kernel_rfl
theorem c4 : (Rows.fnExactMemOkRow.named == (Try.pinned.checked.prog).varsNamed 4) = true := by kernel_rfl
end Go.Proofs.Ytjnbilfhpdkcbaa.fnExactMemOk
