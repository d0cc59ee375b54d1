import Derived.Test.YtjnbilfhpdkcbaaPw1
import Derived.Test.YtjnbilfhpdkcbaaPw2
import Derived.Test.YtjnbilfhpdkcbaaPw3
import Derived.Test.YtjnbilfhpdkcbaaRows
import Derived.WalkKit
import Derived.ProofKit
import Derived.SizedLaws
namespace Go.Proofs.Ytjnbilfhpdkcbaa.fnExactMemWalk
open Go.ChangeShapes Go.WideShapes Go.ChangeAt Go.RowKit
theorem c1 : (Rows.fnExactMemWalkRow.inPlace == (Try.pinned.checked.prog).inPlace 7) = true := by kernel_rfl
theorem c2 : (Rows.fnExactMemWalkRow.unfollowed == (Try.pinned.checked.prog).unfollowed 7) = true := by kernel_rfl
theorem c3 : (Rows.fnExactMemWalkRow.recurses == (Try.pinned.checked.prog).recurses 7) = true := by kernel_rfl
theorem c4 : (Rows.fnExactMemWalkRow.named == (Try.pinned.checked.prog).varsNamed 7) = true := by kernel_rfl
end Go.Proofs.Ytjnbilfhpdkcbaa.fnExactMemWalk
