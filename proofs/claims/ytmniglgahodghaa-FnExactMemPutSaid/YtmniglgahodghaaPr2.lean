import Derived.Test.YtmniglgahodghaaRows
import Derived.WalkKit
import Derived.ProofKit
import Derived.SizedLaws
namespace Go.Proofs.Ytmniglgahodghaa.fnExactMemPut
open Go.ChangeShapes Go.WideShapes Go.ChangeAt Go.RowKit
theorem c1 : (Rows.fnExactMemPutRow.inPlace == (Try.pinned.checked.prog).inPlace 3) = true := by kernel_rfl
theorem c2 : (Rows.fnExactMemPutRow.unfollowed == (Try.pinned.checked.prog).unfollowed 3) = true := by kernel_rfl
theorem c3 : (Rows.fnExactMemPutRow.recurses == (Try.pinned.checked.prog).recurses 3) = true := by kernel_rfl
theorem c4 : (Rows.fnExactMemPutRow.named == (Try.pinned.checked.prog).varsNamed 3) = true := by kernel_rfl
end Go.Proofs.Ytmniglgahodghaa.fnExactMemPut
