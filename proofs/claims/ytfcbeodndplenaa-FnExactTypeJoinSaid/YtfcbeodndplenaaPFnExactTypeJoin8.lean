import Derived.Test.YtfcbeodndplenaaPFnExactTypeJoin3
import Derived.Test.YtfcbeodndplenaaPFnExactTypeJoin7

/- Plain law: the program's TypeJoin answers as the specification's, for all classes and two numbers. -/
namespace Go.Proofs.Ytfcbeodndplenaa.Pure
open Go.RowKit Go.Proofs.Ytfcbeodndplenaa.K Go.Proofs.YtfcbeodndplenaaW.PrintWords Go.Proofs.YtfcbeodndplenaaW.PrintLast Go.Proofs.YtfcbeodndplenaaW.PrintMore
set_option linter.unusedVariables false
set_option linter.unusedSimpArgs false
theorem spec_TypeOk_eq {cs : Cs} (hf : fewF cs) (t : Int) (k : Nat) (hk : 2000000 ≤ k) : spec_TypeOk.f k cs t = some (csOk cs && decide (tOk cs t)) := by
  unfold spec_TypeOk.f
  rw [spec_ClassesOk_eq hf k hk]
  simp only [Option.bind_some]
  cases hc : csOk cs with
  | false => simp
  | true =>
    have hl := csOk_len hc
    simp only [if_true, Bool.true_and]
    by_cases c0 : t = 0
    · rw [if_pos c0, decide_eq_true (by unfold tOk; omega)]
    rw [if_neg c0]
    by_cases c2 : t = 2
    · rw [if_pos c2, decide_eq_true (by unfold tOk; omega)]
    rw [if_neg c2, spec_l2Field_eq cs t (by omega)]
    simp only [Option.bind_some, Option.some.injEq]
    unfold fldOk
    by_cases z : tOk cs t
    · rw [decide_eq_true z]
      have z' : (0 ≤ t ∧ t ≤ 4) ∨ (8 ≤ t ∧ t < 8 + (cs.length : Int)) := z
      have y : t = 1 ∨ t = 3 ∨ t = 4 ∨ (8 ≤ t ∧ t < 8 + (cs.length : Int)) := by omega
      exact decide_eq_true y
    · rw [decide_eq_false z]
      have z' : ¬ ((0 ≤ t ∧ t ≤ 4) ∨ (8 ≤ t ∧ t < 8 + (cs.length : Int))) := z
      have y : ¬ (t = 1 ∨ t = 3 ∨ t = 4 ∨ (8 ≤ t ∧ t < 8 + (cs.length : Int))) := by omega
      exact decide_eq_false y
theorem TypeJoin_eq {cs : Cs} (hf : fewF cs) (a b : Int) (k : Nat) (hk : 2000000 ≤ k) : ∃ m, impl_TypeJoin.f k cs a b = some m ∧ spec_TypeJoin.f k cs a b = some m := by
  unfold impl_TypeJoin.f spec_TypeJoin.f
  rw [impl_ClassesOk_eq cs k (by omega), spec_TypeOk_eq hf a k hk, spec_TypeOk_eq hf b k hk]
  simp only [Option.bind_some]
  cases hc : csOk cs with
  | false => exact ⟨0, by simp, by simp⟩
  | true =>
    obtain ⟨m, h1, h2, h3⟩ := typeJoin_eq hc a b
    refine ⟨m, by simp [h1], ?_⟩
    simp only [Bool.true_and]
    by_cases ha : tOk cs a
    · by_cases hb : tOk cs b
      · rw [decide_eq_true ha, decide_eq_true hb, if_pos rfl, if_pos rfl, h2 ha hb k (by omega)]; rfl
      · rw [decide_eq_true ha, decide_eq_false hb, if_pos rfl, if_neg (by simp), h3 (fun z => hb z.2)]
    · rw [decide_eq_false ha, if_neg (by simp), h3 (fun z => ha z.1)]
theorem FnExactTypeJoin : laws_FnExactTypeJoin.Pure := by
  intro l a b hg _ _
  refine ⟨5000000, ?_⟩
  obtain ⟨r, hr, h1, h2⟩ := szClassS_eq l hg 5000000 (by omega)
  unfold laws_FnExactTypeJoin.f
  rw [hr]
  simp only [Option.bind_some]
  by_cases q : r < 0
  · rw [if_pos q]
  rw [if_neg q]
  obtain ⟨hl, hf⟩ := h2 (by omega)
  have hF := fewF_of hf
  obtain ⟨m, hm1, hm2⟩ := TypeJoin_eq hF a b 5000000 (by omega)
  rw [toClassS_eq l hf hl 5000000 (by omega)]
  simp only [Option.bind_some]
  rw [hm2]
  simp only [Option.bind_some]
  rw [hm1]
  simp only [Option.bind_some, if_true]
  rw [eqClassS_self (toCs l) hF (by unfold toCs; rw [List.length_map]; exact hl) 5000000 (by omega)]
  rfl

end Go.Proofs.Ytfcbeodndplenaa.Pure
