import Derived.Test.YtmniglgahodghaaRows
import Derived.WalkKit
import Derived.ProofKit
import Derived.SizedLaws
namespace Go.Proofs.Ytmniglgahodghaa.fnExactMemMake
open Go.ChangeShapes Go.WideShapes Go.ChangeAt Go.RowKit
theorem c1 : (Rows.fnExactMemMakeRow.inPlace == (Try.pinned.checked.prog).inPlace 5) = true := by kernel_rfl
theorem c2 : (Rows.fnExactMemMakeRow.unfollowed == (Try.pinned.checked.prog).unfollowed 5) = true := by kernel_rfl
theorem c3 : (Rows.fnExactMemMakeRow.recurses == (Try.pinned.checked.prog).recurses 5) = true := by kernel_rfl
theorem c4 : (Rows.fnExactMemMakeRow.named == (Try.pinned.checked.prog).varsNamed 5) = true := by kernel_rfl
end Go.Proofs.Ytmniglgahodghaa.fnExactMemMake
