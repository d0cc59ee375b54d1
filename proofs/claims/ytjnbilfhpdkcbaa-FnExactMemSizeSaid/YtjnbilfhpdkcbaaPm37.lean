import Derived.Test.YtjnbilfhpdkcbaaRows
import Derived.WalkKit
import Derived.ProofKit
import Derived.SizedLaws
namespace Go.Proofs.Ytjnbilfhpdkcbaa.fnExactMemSize
open Go.ChangeShapes Go.WideShapes Go.ChangeAt Go.RowKit
theorem c1 : (Rows.fnExactMemSizeRow.inPlace == (Try.pinned.checked.prog).inPlace 5) = true := by kernel_rfl
theorem c2 : (Rows.fnExactMemSizeRow.unfollowed == (Try.pinned.checked.prog).unfollowed 5) = true := by kernel_rfl
theorem c3 : (Rows.fnExactMemSizeRow.recurses == (Try.pinned.checked.prog).recurses 5) = true := by kernel_rfl
theorem c4 : (Rows.fnExactMemSizeRow.named == (Try.pinned.checked.prog).varsNamed 5) = true := by kernel_rfl
end Go.Proofs.Ytjnbilfhpdkcbaa.fnExactMemSize
