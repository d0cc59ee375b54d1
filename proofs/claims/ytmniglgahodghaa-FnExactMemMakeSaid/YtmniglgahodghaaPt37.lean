import Derived.Test.YtmniglgahodghaaPt24
import Derived.Test.YtmniglgahodghaaPt35
import Derived.Test.YtmniglgahodghaaPt29
import Derived.Test.YtmniglgahodghaaPt34
import Derived.Test.YtmniglgahodghaaPt32
import Derived.Test.YtmniglgahodghaaPt36
namespace Go.Proofs.Ytmniglgahodghaa.Pure
open Go.RowKit Go.Proofs.Ytmniglgahodghaa.K Go.Proofs.YtmniglgahodghaaW.PrintWords Go.Proofs.YtmniglgahodghaaW.PrintLast Go.Proofs.YtmniglgahodghaaW.PrintMore
set_option linter.unusedVariables false
set_option linter.unusedSimpArgs false
theorem MemMake_eq {cs : Cs} (hf : fewF cs) {ws : List Int} {y t o : Int} {cards : List Bool} (hn : ws.length ≤ 1048576) (hc : cards.length ≤ 1048576) (a b : Int) (v : Bool) :
  ∃ s : List Int × Int × Int × Int × List Bool × Int, s.1.length ≤ 1048576 ∧ s.2.2.2.2.1.length ≤ 1048576 ∧ (∀ k, 4000000 ≤ k → impl_MemMake.f k cs ws y t o cards a b v = some s) ∧ ∀ k, 4000000 ≤ k → spec_MemMake.f k cs ws y t o cards a b v = some s := by
 obtain ⟨r, h1, h2, h3⟩ := open_eq2 (cs := cs) hf (ws := ws) (y := y) (t := t) (o := o) (cards := cards) hn hc
 have hj : ∀ k, 1 ≤ k → spec_MemMake.j0 k cs a b v true ws y t o cards = some ([], 0, 0, 0, [], 0) := fun k hk => by
  obtain ⟨k, rfl⟩ : ∃ m, k = m + 1 := ⟨k - 1, by omega⟩
  rw [spec_MemMake.j0, if_pos rfl]
 cases r with
 | none => exact ⟨([], 0, 0, 0, [], 0), by simp, by simp, fun k hk => by unfold impl_MemMake.f; rw [h1 k hk]; rfl, fun k hk => by unfold spec_MemMake.f; rw [h2 k hk, Option.bind_some, if_neg (by simp), hj k (by omega)]⟩
 | some m =>
  obtain ⟨W, hb, hw, hm, hk, hp, _, _⟩ := h3 m rfl
  have hI : ∀ k, 4000000 ≤ k → impl_MemMake.f k cs ws y t o cards a b v = makeOf k a b v (some m) := fun k hk2 => by
   unfold impl_MemMake.f; rw [h1 k hk2, Option.bind_some]
  have hS : ∀ k, 4000000 ≤ k → spec_MemMake.f k cs ws y t o cards a b v = spec_MemMake.j0 k cs a b v (measN (allF cs) a b == 0) ws y t o cards := fun k hk2 => by
   unfold spec_MemMake.f
   rw [h2 k hk2, Option.bind_some, if_pos (by simp), want_eq hb.ok a b k (by omega), Option.bind_some]
  have hmF : m.fields = allF cs := by rw [hm]
  by_cases c0 : measN (allF cs) a b = 0
  ·refine ⟨([], 0, 0, 0, [], 0), by simp, by simp, fun k hk2 => ?_, fun k hk2 => ?_⟩
   ·rw [hI k hk2]
    unfold makeOf
    dsimp only
    rw [hmF, if_pos (allF_few hb.ok), if_pos c0]
   ·rw [hS k hk2, beq_iff_eq.mpr c0, hj k (by omega)]
  ·have e := tryM_len ws y t o cards a b (measN (allF cs) a b) v
   obtain ⟨p, _, _, _, hmk⟩ := make_eq hb hw m hm a b v c0
   refine ⟨tryM ws y t o cards a b (measN (allF cs) a b) v, by rw [e.1]; exact hn, by rw [e.2]; exact hc, fun k hk2 => ?_, fun k hk2 => ?_⟩
   ·rw [hI k hk2]
    unfold makeOf
    dsimp only
    rw [hmF, if_pos (allF_few hb.ok), if_neg c0, hmk k (by omega), Option.bind_some, hm]
    unfold tryM mkTop Mm.setB Mm.setOld Mm.setTop mkAt
    cases v <;> dsimp only <;> split <;> rfl
   ·rw [hS k hk2, beq_eq_false_iff_ne.mpr c0]
    obtain ⟨k, rfl⟩ : ∃ m, k = m + 1 := ⟨k - 1, by omega⟩
    rw [spec_MemMake.j0, if_neg (by simp), l21Copy_eq ws y t o cards hn hc, Option.bind_some]
    dsimp only
    rw [l21Try_eq hb a b v c0 k (by omega), Option.bind_some]
theorem FnExactMemMake : laws_FnExactMemMake.Pure := by
 intro l M a b v hl hM _ _ _
 refine Ev.rounds ?_
 simp only [laws_FnExactMemMake.f]
 refine small_ev l M hl hM (fun q1 q2 q3 q4 => ?_)
 have hF := fewF_of q2
 have hL : (toCs l).length ≤ 1048576 := by unfold toCs; rw [List.length_map]; exact q1
 obtain ⟨⟨s0, s1, s2, s3, s4, s5⟩, b0, b4, h1, h2⟩ := MemMake_eq (cs := toCs l) hF (ws := M.f0) (y := M.f1) (t := M.f2) (o := M.f3) (cards := M.f4) q3 q4 a b v
 dsimp only at b0 b4
 refine (toClassS_ev l q2 q1).bind ?_
 refine (toMem_ev M q3 q4).bind ?_
 refine evp ⟨rfl, hL⟩ ?_
 refine (ev_from 4000000 h2).bind ?_
 refine (ev_from 4000000 h1).bind ?_
 have hse := eqMem_ev s0 s1 s2 s3 s4 s0 s1 s2 s3 s4 (by omega) (by omega)
 simp only [and_self, decide_true] at hse
 refine hse.bind ?_
 refine (eqClassS_ev l q2 q1).bind ?_
 refine (eqMem_self M q3 q4).bind ?_
 obtain ⟨c, e, c0, c1⟩ := mcs_ev (toCs l) 1 (by omega) (fun c hc => by
  obtain ⟨c', hc', rfl⟩ := List.mem_map.mp hc
  exact q2 c' hc') (by omega)
 refine e.bind ?_
 refine (markMem_ev M.f0 M.f1 M.f2 M.f3 M.f4 c c0 (by omega) (by omega) (by omega)).bind ?_
 refine (markMem_ev s0 s1 s2 s3 s4 1 (by omega) (by omega) (by omega) (by omega)).bind ?_
 refine (heldMem_ev s0.length s4.length s1 s2 s3 1 (by omega) (by omega) (by omega) (by omega)).bind ?_
 exact evp ⟨rfl, ⟨rfl, rfl, rfl⟩, by show 0 ≤ c + (M.f0.length : Int) + M.f4.length; omega, rfl, by omega⟩ (Ev.now _)
end Go.Proofs.Ytmniglgahodghaa.Pure
