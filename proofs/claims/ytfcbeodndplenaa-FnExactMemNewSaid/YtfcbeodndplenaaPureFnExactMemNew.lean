/- Plain law: the program's MemNew answers as the specification's, for all two numbers. -/
import Derived.Test.YtfcbeodndplenaaK0
import Derived.Test.YtfcbeodndplenaaKf10
import Derived.Test.YtfcbeodndplenaaKf3
import Derived.Test.YtfcbeodndplenaaKf37
import Derived.Test.YtfcbeodndplenaaKf38
import Derived.Test.YtfcbeodndplenaaKf39
import Derived.Test.YtfcbeodndplenaaKf68
import Derived.Test.YtfcbeodndplenaaKf69
import Derived.Test.YtfcbeodndplenaaKf9
import Derived.Test.YtfcbeodndplenaaPureEq
import Derived.Test.YtfcbeodndplenaaPureEqMem
namespace Go.Proofs.Ytfcbeodndplenaa.Pure
open Go.RowKit Go.Proofs.Ytfcbeodndplenaa.K Go.Proofs.YtfcbeodndplenaaW.PrintWords Go.Proofs.YtfcbeodndplenaaW.PrintLast Go.Proofs.YtfcbeodndplenaaW.PrintMore
set_option linter.unusedVariables false
set_option linter.unusedSimpArgs false
def memNewR (a0 a1 : Int) : List Int × Int × Int × Int × List Bool :=
  if (0 ≤ a0 ∧ a0 ≤ 40) ∧ (14 ≤ a1 ∧ a1 ≤ 120) then (List.replicate (a0 + a1).toNat 0, a0, 0, a0, List.replicate ((a1 + 3) / 4).toNat false) else ([], 0, 0, 0, [])

theorem spec_l6In_eq (a b c : Int) : spec_l6In.f a b c = some (decide (b ≤ a ∧ a ≤ c)) := by
  unfold spec_l6In.f
  by_cases h : a ≥ b
  · rw [if_pos h]; simp [show b ≤ a from h]
  · rw [if_neg h]; simp [show ¬ b ≤ a from h]
theorem impl_within_eq (a b c : Int) : impl_within.f a b c = some (decide (a ≤ b ∧ b ≤ c)) := by
  unfold impl_within.f
  by_cases h : a ≤ b
  · rw [if_pos h]; simp [h]
  · rw [if_neg h]; simp [h]
theorem wrap64_of {n : Int} (h : -9223372036854775808 ≤ n) (h' : n ≤ 9223372036854775807) : wrap64 n = n := by unfold wrap64; omega
theorem spec_l21Cards_eq (a : Int) (h0 : 0 ≤ a) (h : a ≤ 1000000) : spec_l21Cards.f a = some ((a + 3) / 4) := by
  unfold spec_l21Cards.f
  rw [wrap64_of (n := a + 4) (by omega) (by omega), wrap64_of (n := a + 4 - 1) (by omega) (by omega), Int.tdiv_eq_ediv_of_nonneg (by omega), show a + 4 - 1 = a + 3 from by omega, wrap64_of (by omega) (by omega)]
theorem impl_cardsOf_eq (a : Int) (h0 : 0 ≤ a) (h : a ≤ 1000000) : impl_cardsOf.f a = some ((a + 3) / 4) := by
  have := spec_l21Cards_eq a h0 h
  unfold spec_l21Cards.f at this
  unfold impl_cardsOf.f
  exact this

theorem spec_MemNew_eq (a0 a1 : Int) : spec_MemNew.f a0 a1 = some (memNewR a0 a1) := by
  unfold spec_MemNew.f memNewR
  rw [spec_l6In_eq, spec_l6In_eq]
  simp only [Option.bind_some, decide_eq_true_eq]
  by_cases h1 : 0 ≤ a0 ∧ a0 ≤ 40
  · rw [if_pos h1]
    by_cases h2 : 14 ≤ a1 ∧ a1 ≤ 120
    · rw [if_pos h2, if_pos (show (0 ≤ a0 ∧ a0 ≤ 40) ∧ (14 ≤ a1 ∧ a1 ≤ 120) from ⟨h1, h2⟩), wrap64_of (n := a0 + a1) (by omega) (by omega), if_pos (by omega), if_pos (by omega), spec_l21Cards_eq a1 (by omega) (by omega)]
      simp only [Option.bind_some]
      rw [if_pos (by omega), if_pos (by omega)]
    · rw [if_neg h2, if_neg (fun h => h2 h.2)]
  · rw [if_neg h1, if_neg (fun h => h1 h.1)]

theorem impl_memNew_eq (a0 a1 : Int) : impl_memNew.f a0 a1 = some ((memNewR a0 a1).1, (memNewR a0 a1).2.1, (memNewR a0 a1).2.2.1, (memNewR a0 a1).2.2.2.1, (memNewR a0 a1).2.2.2.2, decide ((0 ≤ a0 ∧ a0 ≤ 40) ∧ (14 ≤ a1 ∧ a1 ≤ 120))) := by
  unfold impl_memNew.f memNewR
  rw [impl_within_eq, impl_within_eq]
  simp only [Option.bind_some, decide_eq_true_eq]
  by_cases h1 : 0 ≤ a0 ∧ a0 ≤ 40
  · rw [if_pos h1]
    by_cases h2 : 14 ≤ a1 ∧ a1 ≤ 120
    · rw [if_pos h2, if_pos (show (0 ≤ a0 ∧ a0 ≤ 40) ∧ (14 ≤ a1 ∧ a1 ≤ 120) from ⟨h1, h2⟩), wrap64_of (n := a0 + a1) (by omega) (by omega), if_pos (by omega), if_pos (by omega), impl_cardsOf_eq a1 (by omega) (by omega)]
      simp only [Option.bind_some]
      rw [if_pos (by omega), if_pos (by omega)]
      simp [h1, h2]
    · rw [if_neg h2, if_neg (fun h => h2 h.2)]
      simp [h2]
  · rw [if_neg h1, if_neg (fun h => h1 h.1)]
    simp [h1]

theorem impl_MemNew_eq (a0 a1 : Int) : impl_MemNew.f a0 a1 = some (memNewR a0 a1) := by
  unfold impl_MemNew.f
  rw [impl_memNew_eq]
  rfl

theorem memNewR_len (a0 a1 : Int) : (memNewR a0 a1).1.length ≤ 160 ∧ (memNewR a0 a1).2.2.2.2.length ≤ 31 := by
  unfold memNewR
  split
  · simp only [List.length_replicate]; omega
  · simp

theorem FnExactMemNew : laws_FnExactMemNew.Pure := by
  intro a0 a1 w0 w1
  refine Ev.rounds ?_
  simp only [laws_FnExactMemNew.f]
  rw [spec_MemNew_eq, impl_MemNew_eq]
  obtain ⟨hl0, hl4⟩ := memNewR_len a0 a1
  generalize memNewR a0 a1 = R at *
  obtain ⟨r0, r1, r2, r3, r4⟩ := R
  simp only [Option.bind_some] at *
  refine (eqMem_ev r0 r1 r2 r3 r4 r0 r1 r2 r3 r4 (by omega) (by omega)).bind ?_
  simp only [and_self, decide_true, if_true]
  refine (markMem_ev r0 r1 r2 r3 r4 1 (by omega) (by omega) (by omega) (by omega)).bind ?_
  simp only []
  refine (heldMem_ev r0.length r4.length r1 r2 r3 1 (by omega) (by omega) (by omega) (by omega)).bind ?_
  refine evn (by omega) (evp rfl ?_)
  refine (eqMem_ev r0 r1 r2 r3 r4 r0 r1 r2 r3 r4 (by omega) (by omega)).bind ?_
  simp only [and_self, decide_true, if_true]
  refine (heldMem_ev r0.length r4.length r1 r2 r3 1 (by omega) (by omega) (by omega) (by omega)).bind ?_
  refine evn (by omega) (evp rfl ?_)
  exact Ev.now _

end Go.Proofs.Ytfcbeodndplenaa.Pure
