/- Function 69, impl_cardsOf: what it answers, and the walk. (Printed or laid by this session's program wip/pr.py.) -/
import Derived.Test.YtfcbeodndplenaaK0
namespace Go.Proofs.Ytfcbeodndplenaa.K
open Go.RowKit Go.Proofs.YtfcbeodndplenaaW.PrintWords Go.Proofs.YtfcbeodndplenaaW.PrintLast Go.Proofs.YtfcbeodndplenaaW.PrintMore
attribute [local go_sem] max2_int min2_int max_two min_two max_three min_three max_four min_four
set_option linter.unusedVariables false
set_option linter.unusedSimpArgs false

/-! ### impl_cardsOf: function 69 -/
def impl_cardsOf.f (a0 : Int) : Option (Int) := some (wrap64 (Int.tdiv (wrap64 ((wrap64 (a0 + 4)) - 1)) 4))
set_option maxHeartbeats 8000000 in
set_option maxRecDepth 100000 in
theorem impl_cardsOf.calls (a0 : Int) (r : Int) (w : World) (h : impl_cardsOf.f a0 = some r) :
    Calls Try.prog 69 #[.int .i64 a0] w fun e w' => e = .returned (.int .i64 r) ∧ Drawn0 w w' := by
  have H : (some (wrap64 (Int.tdiv (wrap64 ((wrap64 (a0 + 4)) - 1)) 4))) = some r := h
  clear h
  obtain rfl := Option.some.inj H
  go_enter Try.func69, Try.ntmps69
  go_wp2
  go_ret
  exact ⟨by first | rfl | (simp; done) | (simp [*]; done), by repeat (first | exact Drawn0.refl _ | apply Drawn0.step)⟩

end Go.Proofs.Ytfcbeodndplenaa.K
