import Derived.Test.YtfbkpjjnhengfaaRows
import Derived.WalkKit
import Derived.ProofKit
import Derived.SizedLaws
namespace Go.Proofs.Ytfbkpjjnhengfaa.fnSizeSum
open Go.ChangeShapes Go.WideShapes Go.ChangeAt Go.RowKit
theorem c1 : (Rows.fnSizeSumRow.inPlace == (Try.pinned.checked.prog).inPlace 4) = true := by kernel_rfl
theorem c2 : (Rows.fnSizeSumRow.unfollowed == (Try.pinned.checked.prog).unfollowed 4) = true := by kernel_rfl
theorem c3 : (Rows.fnSizeSumRow.recurses == (Try.pinned.checked.prog).recurses 4) = true := by kernel_rfl
theorem c4 : (Rows.fnSizeSumRow.named == (Try.pinned.checked.prog).varsNamed 4) = true := by kernel_rfl
end Go.Proofs.Ytfbkpjjnhengfaa.fnSizeSum
