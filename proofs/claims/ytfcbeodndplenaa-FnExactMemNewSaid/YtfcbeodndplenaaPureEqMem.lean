/- Plain laws of the statements' comparers and markers of memories. -/
import Derived.Test.YtfcbeodndplenaaK0
import Derived.Test.YtfcbeodndplenaaKf11
import Derived.Test.YtfcbeodndplenaaKf12
import Derived.Test.YtfcbeodndplenaaKf13
import Derived.Test.YtfcbeodndplenaaPureEq
namespace Go.Proofs.Ytfcbeodndplenaa.Pure
open Go.RowKit Go.Proofs.Ytfcbeodndplenaa.K Go.Proofs.YtfcbeodndplenaaW.PrintWords Go.Proofs.YtfcbeodndplenaaW.PrintLast Go.Proofs.YtfcbeodndplenaaW.PrintMore
set_option linter.unusedVariables false
set_option linter.unusedSimpArgs false
theorem eqMem_ev (x0 : List Int) (x1 x2 x3 : Int) (x4 : List Bool) (y0 : List Int) (y1 y2 y3 : Int) (y4 : List Bool) (h0 : x0.length ≤ 140737488355328) (h4 : x4.length ≤ 140737488355328) :
    Ev (fun k => laws_eqMem.f k x0 x1 x2 x3 x4 y0 y1 y2 y3 y4) (decide (x0 = y0 ∧ x1 = y1 ∧ x2 = y2 ∧ x3 = y3 ∧ x4 = y4)) := by
  simp only [laws_eqMem.f]
  refine (eqIntS_ev x0 y0 h0).bind ?_
  by_cases e0 : x0 = y0
  · simp only [e0, decide_true, if_true, true_and]
    by_cases e1 : x1 = y1
    · simp only [e1, if_true, true_and]
      by_cases e2 : x2 = y2
      · simp only [e2, if_true, true_and]
        by_cases e3 : x3 = y3
        · simp only [e3, if_true, true_and]
          refine (eqBoolS_ev x4 y4 h4).bind ?_
          by_cases e4 : x4 = y4
          · simp only [e4, decide_true, if_true]; exact Ev.now _
          · simp only [e4, decide_false, if_false, Bool.false_eq_true]; exact Ev.now _
        · simp only [e3, if_false, false_and, decide_false]; exact Ev.now _
      · simp only [e2, if_false, false_and, decide_false]; exact Ev.now _
    · simp only [e1, if_false, false_and, decide_false]; exact Ev.now _
  · simp only [e0, decide_false, if_false, Bool.false_eq_true, false_and]; exact Ev.now _

theorem markMem_ev (x0 : List Int) (x1 x2 x3 : Int) (x4 : List Bool) (a : Int) (ha : 0 ≤ a) (hb : a + x0.length + x4.length ≤ 4611686018427387904) (h0 : x0.length ≤ 140737488355328) (h4 : x4.length ≤ 140737488355328) :
    Ev (fun k => laws_markMem.f k x0 x1 x2 x3 x4 a) (a + x0.length + x4.length, marksI x0.length a, marksB x4.length (a + x0.length)) := by
  simp only [laws_markMem.f]
  refine (markIntS_ev x0 a ha (by omega) h0).bind ?_
  refine (markBoolS_ev x4 (a + x0.length) (by omega) (by omega) h4).bind ?_
  exact Ev.now _

theorem heldMem_ev (n m : Nat) (x1 x2 x3 : Int) (a : Int) (ha : 0 ≤ a) (hb : a + n + m ≤ 4611686018427387904) (h0 : n ≤ 140737488355328) (h4 : m ≤ 140737488355328) :
    Ev (fun k => laws_heldMem.f k (marksI n a) x1 x2 x3 (marksB m (a + n)) a) (a + n + m) := by
  simp only [laws_heldMem.f]
  refine (heldIntS_ev n a ha (by omega) h0).bind ?_
  refine evn (by omega) ?_
  refine (heldBoolS_ev m (a + n) (by omega) (by omega) h4).bind ?_
  refine evn (by omega) ?_
  exact Ev.now _

end Go.Proofs.Ytfcbeodndplenaa.Pure
