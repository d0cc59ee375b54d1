import Derived.Test.YtjnbilfhpdkcbaaRows
import Derived.WalkKit
import Derived.ProofKit
import Derived.SizedLaws
namespace Go.Proofs.Ytjnbilfhpdkcbaa.fnMemNew
open Go.ChangeShapes Go.WideShapes Go.ChangeAt Go.RowKit
theorem c1 : (Rows.fnMemNewRow.inPlace == (Try.pinned.checked.prog).inPlace 3) = true := by kernel_rfl
theorem c2 : (Rows.fnMemNewRow.unfollowed == (Try.pinned.checked.prog).unfollowed 3) = true := by kernel_rfl
theorem c3 : (Rows.fnMemNewRow.recurses == (Try.pinned.checked.prog).recurses 3) = true := by kernel_rfl
theorem c4 : (Rows.fnMemNewRow.named == (Try.pinned.checked.prog).varsNamed 3) = true := by kernel_rfl
end Go.Proofs.Ytjnbilfhpdkcbaa.fnMemNew
