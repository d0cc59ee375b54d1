import Derived.Test.YtfbkpjjnhengfaaRows
import Derived.WalkKit
import Derived.ProofKit
import Derived.SizedLaws
namespace Go.Proofs.Ytfbkpjjnhengfaa.fnWalkTile
open Go.ChangeShapes Go.WideShapes Go.ChangeAt Go.RowKit
theorem c1 : (Rows.fnWalkTileRow.inPlace == (Try.pinned.checked.prog).inPlace 3) = true := by kernel_rfl
theorem c2 : (Rows.fnWalkTileRow.unfollowed == (Try.pinned.checked.prog).unfollowed 3) = true := by kernel_rfl
theorem c3 : (Rows.fnWalkTileRow.recurses == (Try.pinned.checked.prog).recurses 3) = true := by kernel_rfl
theorem c4 : (Rows.fnWalkTileRow.named == (Try.pinned.checked.prog).varsNamed 3) = true := by kernel_rfl
end Go.Proofs.Ytfbkpjjnhengfaa.fnWalkTile
