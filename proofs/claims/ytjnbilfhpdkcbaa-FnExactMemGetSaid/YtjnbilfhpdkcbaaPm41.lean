import Derived.Test.YtjnbilfhpdkcbaaRows
import Derived.WalkKit
import Derived.ProofKit
import Derived.SizedLaws
namespace Go.Proofs.Ytjnbilfhpdkcbaa.fnExactMemGet
open Go.ChangeShapes Go.WideShapes Go.ChangeAt Go.RowKit
theorem c1 : (Rows.fnExactMemGetRow.inPlace == (Try.pinned.checked.prog).inPlace 6) = true := by kernel_rfl
theorem c2 : (Rows.fnExactMemGetRow.unfollowed == (Try.pinned.checked.prog).unfollowed 6) = true := by kernel_rfl
theorem c3 : (Rows.fnExactMemGetRow.recurses == (Try.pinned.checked.prog).recurses 6) = true := by kernel_rfl
theorem c4 : (Rows.fnExactMemGetRow.named == (Try.pinned.checked.prog).varsNamed 6) = true := by kernel_rfl
end Go.Proofs.Ytjnbilfhpdkcbaa.fnExactMemGet
