import Derived.Test.YtmniglgahodghaaRows
import Derived.WalkKit
import Derived.ProofKit
import Derived.SizedLaws
namespace Go.Proofs.Ytmniglgahodghaa.fnExactMemObjs
open Go.ChangeShapes Go.WideShapes Go.ChangeAt Go.RowKit
theorem c1 : (Rows.fnExactMemObjsRow.inPlace == (Try.pinned.checked.prog).inPlace 4) = true := by kernel_rfl
theorem c2 : (Rows.fnExactMemObjsRow.unfollowed == (Try.pinned.checked.prog).unfollowed 4) = true := by kernel_rfl
theorem c3 : (Rows.fnExactMemObjsRow.recurses == (Try.pinned.checked.prog).recurses 4) = true := by kernel_rfl
theorem c4 : (Rows.fnExactMemObjsRow.named == (Try.pinned.checked.prog).varsNamed 4) = true := by kernel_rfl
end Go.Proofs.Ytmniglgahodghaa.fnExactMemObjs
