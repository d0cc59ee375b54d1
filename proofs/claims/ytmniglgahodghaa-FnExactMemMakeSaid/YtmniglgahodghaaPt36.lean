import Derived.Test.YtmniglgahodghaaPt24
import Derived.Test.YtmniglgahodghaaPt26
import Derived.Test.YtmniglgahodghaaPt29
import Derived.Test.YtmniglgahodghaaPt30
import Derived.Test.YtmniglgahodghaaPt35
import Derived.Test.YtmniglgahodghaaPt28
import Derived.Test.YtmniglgahodghaaPt25
import Derived.Test.YtmniglgahodghaaPt34
import Derived.Test.YtmniglgahodghaaPt32
import Derived.Laws.Bits64
import Derived.Test.YtmniglgahodghaaPt27
import Derived.Test.YtmniglgahodghaaPt33
import Derived.Test.YtmniglgahodghaaPt31
namespace Go.Proofs.Ytmniglgahodghaa.Pure
open Go.RowKit Go.Proofs.Ytmniglgahodghaa.K Go.Proofs.YtmniglgahodghaaW.PrintWords Go.Proofs.YtmniglgahodghaaW.PrintLast Go.Proofs.YtmniglgahodghaaW.PrintMore
set_option linter.unusedVariables false
set_option linter.unusedSimpArgs false
theorem all_drop (fs : List Int) (P : Int → Bool) (i : Nat) (h : i < fs.length) : (fs.drop i).all P = (P (fs.getD i 0) && (fs.drop (i + 1)).all P) := by
  rw [drop_getD fs i 0 h, List.all_cons]
theorem spec_l2Field_eq (cs : Cs) (t : Int) (hl : cs.length ≤ 1000) : spec_l2Field.f cs t = some (fldOk cs.length t) := by
 unfold spec_l2Field.f fldOk
 by_cases c1 : t = 1
 ·rw [if_pos c1]; simp [c1]
 rw [if_neg c1]
 by_cases c2 : t = 3
 ·rw [if_pos c2]; simp [c2]
 rw [if_neg c2]
 by_cases c3 : t = 4
 ·rw [if_pos c3]; simp [c3]
 rw [if_neg c3, wrap64_of (n := 8 + (cs.length : Int)) (by omega) (by omega), wrap64_of (by omega) (by omega), spec_l6In_eq]
 simp only [Option.bind_some, Option.some.injEq]
 rw [Bool.eq_iff_iff]; simp only [decide_eq_true_eq]; omega
def clsTail (cs : Cs) (i su : Int) (fs : List Int) : Bool :=
  if i = 0 then decide (su = -1 ∧ fs = []) else if i = 1 then decide (su = 0 ∧ fs = [1]) else decide ((0 ≤ su ∧ su < i) ∧ fs.length ≤ 2)
theorem len_nil (fs : List Int) : ((fs.length : Int) == 0) = decide (fs = []) := by cases fs <;> simp; omega
theorem spec_l2Class_l0 (cs : Cs) (c su : Int) (fs : List Int) (hl : cs.length ≤ 1000) (hf : fs.length ≤ 140737488355328) (hc : 0 ≤ c ∧ c < 1000) (d : Nat) : ∀ (k i : Nat), i ≤ fs.length → fs.length - i = d → d < k →
  spec_l2Class.l0 k cs c i su fs = some ((fs.drop i).all (fldOk cs.length) && clsTail cs c su fs) := by
 induction d with
 | zero =>
  intro k i hi hd hk
  obtain ⟨k, rfl⟩ : ∃ m, k = m + 1 := ⟨k - 1, by omega⟩
  have : i = fs.length := by omega
  subst this
  simp only [spec_l2Class.l0]
  rw [if_neg (by omega), List.drop_length]
  simp only [List.all_nil, Bool.true_and]
  unfold clsTail
  by_cases c0 : c = 0
  ·rw [if_pos c0, if_pos c0]
   by_cases s0 : su = -1
   ·rw [if_pos s0, len_nil]; simp [s0]
   ·rw [if_neg s0]; simp [s0]
  rw [if_neg c0, if_neg c0]
  by_cases c1 : c = 1
  ·rw [if_pos c1, if_pos c1]
   by_cases s0 : su = 0
   ·rw [if_pos s0]
    by_cases l1 : (fs.length : Int) = 1
    ·rw [if_pos l1, if_pos (by omega)]
     obtain ⟨x, rfl⟩ := List.length_eq_one_iff.1 (show fs.length = 1 by omega)
     by_cases e : x = 1
     ·simp [rd, s0, e]
     ·simp [rd, s0, e]
    ·rw [if_neg l1]
     have : fs ≠ [1] := fun e => l1 (by rw [e]; rfl)
     simp [this]
   ·rw [if_neg s0]; simp [s0]
  rw [if_neg c1, if_neg c1, wrap64_of (by omega) (by omega), spec_l6In_eq]
  simp only [Option.bind_some, decide_eq_true_eq]
  by_cases z : 0 ≤ su ∧ su ≤ c - 1
  ·rw [if_pos z]
   congr 1
   rw [Bool.eq_iff_iff]; simp only [decide_eq_true_eq]; omega
  ·rw [if_neg z]
   congr 1
   rw [Bool.eq_iff_iff]; simp only [decide_eq_true_eq, Bool.false_eq_true, false_iff]; omega
 | succ d ih =>
  intro k i hi hd hk
  obtain ⟨k, rfl⟩ : ∃ m, k = m + 1 := ⟨k - 1, by omega⟩
  simp only [spec_l2Class.l0]
  rw [if_pos (by omega), if_pos (by omega), spec_l2Field_eq cs _ hl, rd_cast, all_drop fs _ i (by omega)]
  simp only [Option.bind_some]
  cases hq : fldOk cs.length (fs.getD i 0) with
  | false => simp
  | true =>
   simp only [if_true, Bool.true_and]
   rw [wrap_inc (n := fs.length) (by omega) (by omega) (by omega), show ((i : Int) + 1) = ((i + 1 : Nat) : Int) from by omega]
   exact ih k (i + 1) (by omega) (by omega) (by omega)
def fewF (cs : Cs) : Prop := ∀ i : Int, (flds cs i).length ≤ 1048576
theorem spec_l2Class_eq {cs : Cs} (hl : cs.length ≤ 1000) (hf : fewF cs) {i : Int} (h0 : 0 ≤ i) (h1 : i < cs.length) (k : Nat) (hk : 1048577 ≤ k) : spec_l2Class.f k cs i = some (clsOk cs i) := by
 unfold spec_l2Class.f
 rw [if_pos h0, if_pos h1]
 have := hf i
 have e := spec_l2Class_l0 cs i (sup cs i) (flds cs i) hl (by omega) ⟨h0, by omega⟩ (flds cs i).length k 0 (by omega) (by omega) (by omega)
 have e2 : spec_l2Class.l0 k cs i 0 (sup cs i) (flds cs i) = some (clsOk cs i) := by
  rw [show ((0 : Nat) : Int) = 0 from rfl] at e
  rw [e, List.drop_zero]
  unfold clsOk clsTail
  by_cases c0 : i = 0
  ·subst c0; rfl
  by_cases c1 : i = 1
  ·subst c1; rfl
  rw [if_neg c0, if_neg c1, if_neg c0, if_neg c1]
 exact e2
theorem range_all_drop (n i : Nat) (P : Nat → Bool) (h : i < n) : ((List.range n).drop i).all P = (P i && ((List.range n).drop (i + 1)).all P) := by
  rw [List.drop_eq_getElem_cons (by simpa using h), List.all_cons]; simp
theorem spec_ClassesOk_l0 {cs : Cs} (hl : cs.length ≤ 1000) (hf : fewF cs) (d : Nat) : ∀ (k i : Nat), i ≤ cs.length → cs.length - i = d → d + 1048577 ≤ k →
  spec_ClassesOk.l0 k cs i = some (((List.range cs.length).drop i).all (fun j : Nat => clsOk cs j)) := by
 induction d with
 | zero =>
  intro k i hi hd hk
  obtain ⟨k, rfl⟩ : ∃ m, k = m + 1 := ⟨k - 1, by omega⟩
  have : i = cs.length := by omega
  subst this
  simp only [spec_ClassesOk.l0]
  rw [if_neg (by omega), List.drop_of_length_le (by simp)]
  rfl
 | succ d ih =>
  intro k i hi hd hk
  obtain ⟨k, rfl⟩ : ∃ m, k = m + 1 := ⟨k - 1, by omega⟩
  simp only [spec_ClassesOk.l0]
  rw [if_pos (by omega), spec_l2Class_eq hl hf (by omega) (by omega) k (by omega), range_all_drop _ _ _ (by omega)]
  simp only [Option.bind_some]
  cases hq : clsOk cs i with
  | false => simp
  | true =>
   simp only [if_true, Bool.true_and]
   rw [wrap_inc (n := cs.length) (by omega) (by omega) (by omega), show ((i : Int) + 1) = ((i + 1 : Nat) : Int) from by omega]
   exact ih k (i + 1) (by omega) (by omega) (by omega)
theorem spec_ClassesOk_eq {cs : Cs} (hf : fewF cs) (k : Nat) (hk : 2000000 ≤ k) : spec_ClassesOk.f k cs = some (csOk cs) := by
 unfold spec_ClassesOk.f csOk
 rw [spec_l6In_eq]
 simp only [Option.bind_some, decide_eq_true_eq]
 by_cases hl : (2 : Int) ≤ cs.length ∧ (cs.length : Int) ≤ 5
 ·rw [if_pos hl, show decide (2 ≤ cs.length ∧ cs.length ≤ 5) = true from decide_eq_true (by omega)]
  have := spec_ClassesOk_l0 (cs := cs) (by omega) hf cs.length k 0 (by omega) (by omega) (by omega)
  rw [show ((0 : Nat) : Int) = 0 from rfl] at this
  rw [this, List.drop_zero, Bool.true_and]
 ·rw [if_neg hl, show decide (2 ≤ cs.length ∧ cs.length ≤ 5) = false from decide_eq_false (by omega), Bool.false_and]
theorem impl_fieldType_eq (cs : Cs) (t : Int) (hl : cs.length ≤ 1000) : impl_fieldType.f cs.length t = some (fldOk cs.length t) := by
 unfold impl_fieldType.f kOk fldOk
 rw [if_pos (by omega)]
 congr 1
 rw [Bool.eq_iff_iff]; simp only [Bool.and_eq_true, decide_eq_true_eq]; omega
def clsQ (cs : Cs) (i : Int) : Bool := (decide (i ≤ 1) || decide (0 ≤ sup cs i ∧ sup cs i < i)) && (decide ((flds cs i).length ≤ 2) && (flds cs i).all (fldOk cs.length))
theorem impl_ClassesOk_l1 (cs : Cs) (hl : cs.length ≤ 1000) (i : Nat) (hi : i < 1000) (fs : List Int) (hf : fs.length ≤ 2) (R : Bool) (K : Nat) (hR : ∀ k, K ≤ k → impl_ClassesOk.l0 k cs cs cs.length ((i + 1 : Nat) : Int) = some R) (d : Nat) : ∀ (k j : Nat), j ≤ fs.length → fs.length - j = d → K + d + 1 ≤ k →
  impl_ClassesOk.l1 k cs cs cs.length i fs fs.length j = some ((fs.drop j).all (fldOk cs.length) && R) := by
 induction d with
 | zero =>
  intro k j hj hd hk
  obtain ⟨k, rfl⟩ : ∃ m, k = m + 1 := ⟨k - 1, by omega⟩
  have : j = fs.length := by omega
  subst this
  simp only [impl_ClassesOk.l1]
  rw [if_neg (by omega), List.drop_length, wrap_inc (n := 1000) (by omega) (by omega) (by omega), show ((i : Int) + 1) = ((i + 1 : Nat) : Int) from by omega, hR k (by omega)]
  simp
 | succ d ih =>
  intro k j hj hd hk
  obtain ⟨k, rfl⟩ : ∃ m, k = m + 1 := ⟨k - 1, by omega⟩
  simp only [impl_ClassesOk.l1]
  rw [if_pos (by omega), if_pos (by omega), if_pos (by omega), rd_cast, impl_fieldType_eq cs _ hl, all_drop fs _ j (by omega)]
  simp only [Option.bind_some]
  cases hq : fldOk cs.length (fs.getD j 0) with
  | false => simp
  | true =>
   simp only [if_true, Bool.true_and]
   rw [wrap_inc (n := fs.length) (by omega) (by omega) (by omega), show ((j : Int) + 1) = ((j + 1 : Nat) : Int) from by omega]
   exact ih k (j + 1) (by omega) (by omega) (by omega)
theorem impl_ClassesOk_l0 (cs : Cs) (hl : cs.length ≤ 5) (d : Nat) : ∀ (i : Nat), i ≤ cs.length → cs.length - i = d → ∀ k, 10 * d + 10 ≤ k →
  impl_ClassesOk.l0 k cs cs cs.length i = some (((List.range cs.length).drop i).all (fun j : Nat => clsQ cs j)) := by
 induction d with
 | zero =>
  intro i hi hd k hk
  obtain ⟨k, rfl⟩ : ∃ m, k = m + 1 := ⟨k - 1, by omega⟩
  have : i = cs.length := by omega
  subst this
  simp only [impl_ClassesOk.l0]
  rw [if_neg (by omega), List.drop_of_length_le (by simp)]
  rfl
 | succ d ih =>
  intro i hi hd k hk
  obtain ⟨k, rfl⟩ : ∃ m, k = m + 1 := ⟨k - 1, by omega⟩
  obtain ⟨k, rfl⟩ : ∃ m, k = m + 1 := ⟨k - 1, by omega⟩
  rw [range_all_drop _ _ _ (by omega)]
  have hj : impl_ClassesOk.j4 (k + 1) cs cs cs.length i false (sup cs i) (flds cs i) = some (decide ((flds cs i).length ≤ 2) && ((flds cs i).all (fldOk cs.length) && ((List.range cs.length).drop (i + 1)).all (fun j : Nat => clsQ cs j))) := by
   simp only [impl_ClassesOk.j4]
   rw [if_neg (by simp)]
   by_cases h2 : ((flds cs i).length : Int) > 2
   ·rw [if_pos h2, decide_eq_false (by omega)]; rfl
   ·rw [if_neg h2, decide_eq_true (show (flds cs i).length ≤ 2 by omega), Bool.true_and]
    have := impl_ClassesOk_l1 cs (by omega) i (by omega) (flds cs i) (by omega) _ (10 * d + 10) (fun k hk => ih (i + 1) (by omega) (by omega) k hk) (flds cs i).length k 0 (by omega) (by omega) (by omega)
    rw [show ((0 : Nat) : Int) = 0 from rfl, List.drop_zero] at this
    exact this
  have hjt : impl_ClassesOk.j4 (k + 1) cs cs cs.length i true (sup cs i) (flds cs i) = some false := by simp [impl_ClassesOk.j4]
  simp only [impl_ClassesOk.l0]
  rw [if_pos (by omega), if_pos (by omega), if_pos (by omega)]
  rw [show (rd_T69 cs (i : Int)).f0 = sup cs i from rfl, show (rd_T69 cs (i : Int)).f1 = flds cs i from rfl]
  have hQ : clsQ cs i = ((decide ((i : Int) ≤ 1) || decide (0 ≤ sup cs i ∧ sup cs i < i)) && (decide ((flds cs i).length ≤ 2) && (flds cs i).all (fldOk cs.length))) := rfl
  rw [hQ]
  generalize ((List.range cs.length).drop (i + 1)).all (fun j : Nat => clsQ cs j) = T at *
  by_cases h1 : (i : Int) > 1
  ·rw [if_pos h1]
   by_cases hs : sup cs i < 0
   ·rw [if_pos hs, hjt, decide_eq_false (show ¬ (i : Int) ≤ 1 by omega), decide_eq_false (show ¬ (0 ≤ sup cs i ∧ sup cs i < i) by omega)]; rfl
   ·rw [if_neg hs]
    by_cases hs2 : sup cs i ≥ i
    ·rw [decide_eq_true hs2, hjt, decide_eq_false (show ¬ (i : Int) ≤ 1 by omega), decide_eq_false (show ¬ (0 ≤ sup cs i ∧ sup cs i < i) by omega)]; rfl
    ·rw [decide_eq_false hs2, hj, decide_eq_true (show (0 ≤ sup cs i ∧ sup cs i < i) by omega)]
     simp [Bool.and_assoc]
  ·rw [if_neg h1, hj, decide_eq_true (show (i : Int) ≤ 1 by omega)]
   simp [Bool.and_assoc]
theorem impl_ClassesOk_eq (cs : Cs) (k : Nat) (hk : 1000 ≤ k) : impl_ClassesOk.f k cs = some (csOk cs) := by
 obtain ⟨k, rfl⟩ : ∃ m, k = m + 1 := ⟨k - 1, by omega⟩
 obtain ⟨k, rfl⟩ : ∃ m, k = m + 1 := ⟨k - 1, by omega⟩
 obtain ⟨k, rfl⟩ : ∃ m, k = m + 1 := ⟨k - 1, by omega⟩
 unfold impl_ClassesOk.f
 by_cases h2 : (cs.length : Int) < 2
 ·rw [if_pos h2]
  simp only [impl_ClassesOk.j0, if_true]
  unfold csOk
  rw [decide_eq_false (by omega), Bool.false_and]
 rw [if_neg h2]
 by_cases h5 : (cs.length : Int) > 5
 ·rw [decide_eq_true h5]
  simp only [impl_ClassesOk.j0, if_true]
  unfold csOk
  rw [decide_eq_false (by omega), Bool.false_and]
 rw [decide_eq_false h5]
 have no : ∀ i : Int, 0 ≤ i → i < cs.length → clsOk cs i = false → csOk cs = false := by
  intro i h0 h1 hc
  cases hq : csOk cs with
  | false => rfl
  | true => rw [csOk_at hq h0 h1] at hc; cases hc
 simp only [impl_ClassesOk.j0, Bool.false_eq_true, if_false]
 rw [if_pos (by omega)]
 rw [show (rd_T69 cs 0).f0 = sup cs 0 from rfl, show (rd_T69 cs 0).f1 = flds cs 0 from rfl]
 by_cases r0 : sup cs 0 = -1
 case neg =>
  rw [if_neg r0]
  simp only [impl_ClassesOk.j1, if_true]
  rw [no 0 (by omega) (by omega) (by unfold clsOk; simp [r0])]
 rw [if_pos r0]
 by_cases f0 : flds cs 0 = []
 case neg =>
  have : (((flds cs 0).length : Int) != 0) = true := by
   cases hq : flds cs 0 with
   | nil => exact absurd hq f0
   | cons x t => simp; omega
  rw [this]
  simp only [impl_ClassesOk.j1, if_true]
  rw [no 0 (by omega) (by omega) (by unfold clsOk; simp [f0])]
 rw [show (((flds cs 0).length : Int) != 0) = false by rw [f0]; rfl]
 simp only [impl_ClassesOk.j1, Bool.false_eq_true, if_false]
 rw [if_pos (by omega)]
 rw [show (rd_T69 cs 1).f0 = sup cs 1 from rfl, show (rd_T69 cs 1).f1 = flds cs 1 from rfl]
 have n1 : ¬ (sup cs 1 = 0 ∧ flds cs 1 = [1]) → csOk cs = false := fun z => no 1 (by omega) (by omega) (by unfold clsOk; rw [if_neg (by omega), if_pos rfl, decide_eq_false z, Bool.and_false])
 by_cases r1 : sup cs 1 = 0
 case neg =>
  rw [if_neg r1]
  simp only [impl_ClassesOk.j2, if_true]
  rw [n1 (fun z => r1 z.1)]
 rw [if_pos r1]
 by_cases l1 : ((flds cs 1).length : Int) = 1
 case neg =>
  rw [if_neg l1]
  simp only [impl_ClassesOk.j2, if_true]
  rw [n1 (fun z => l1 (by rw [z.2]; rfl))]
 rw [if_pos l1, if_pos (by omega)]
 obtain ⟨x, hx⟩ := List.length_eq_one_iff.1 (show (flds cs 1).length = 1 by omega)
 by_cases e1 : x = 1
 case neg =>
  rw [show (rd (flds cs 1) 0 != 1) = true by rw [hx]; simp [rd, e1]]
  simp only [impl_ClassesOk.j2, if_true]
  rw [n1 (fun z => e1 (by rw [hx] at z; simpa using z.2))]
 rw [show (rd (flds cs 1) 0 != 1) = false by rw [hx]; simp [rd, e1]]
 simp only [impl_ClassesOk.j2, Bool.false_eq_true, if_false]
 have := impl_ClassesOk_l0 cs (by omega) cs.length 0 (by omega) (by omega) k (by omega)
 rw [show ((0 : Nat) : Int) = 0 from rfl, List.drop_zero] at this
 rw [this]
 congr 1
 unfold csOk
 rw [decide_eq_true (show 2 ≤ cs.length ∧ cs.length ≤ 5 by omega), Bool.true_and, Bool.eq_iff_iff]
 simp only [List.all_eq_true, List.mem_range]
 refine forall_congr' fun i => forall_congr' fun hi => ?_
 unfold clsQ clsOk
 simp only [Bool.and_eq_true, Bool.or_eq_true, decide_eq_true_eq]
 by_cases i0 : (i : Int) = 0
 ·rw [i0, if_pos rfl, decide_eq_true_eq, r0, f0]; simp
 by_cases i1 : (i : Int) = 1
 ·rw [i1, if_neg (by omega), if_pos rfl, decide_eq_true_eq, r1, hx, e1]; simp
 rw [if_neg i0, if_neg i1, decide_eq_true_eq]
 constructor
 ·rintro ⟨h1 | h1, h3, h4⟩
  ·omega
  ·exact ⟨h4, h1, h3⟩
 ·rintro ⟨h4, h1, h3⟩
  exact ⟨Or.inr h1, h3, h4⟩
end Go.Proofs.Ytmniglgahodghaa.Pure
namespace Go.Proofs.Ytmniglgahodghaa.Pure
open Go.RowKit Go.Proofs.Ytmniglgahodghaa.K Go.Proofs.YtmniglgahodghaaW.PrintWords Go.Proofs.YtmniglgahodghaaW.PrintLast Go.Proofs.YtmniglgahodghaaW.PrintMore
set_option linter.unusedVariables false
set_option linter.unusedSimpArgs false
theorem l21Copy_eq (ws : List Int) (y t o : Int) (cards : List Bool) (h0 : ws.length ≤ 1048576) (h4 : cards.length ≤ 1048576) : spec_l21Copy.f ws y t o cards = some (ws, y, t, o, cards) := by
 unfold spec_l21Copy.f
 rw [Option.bind_some, if_pos (by simp; omega), Option.bind_some, if_pos (by simp; omega)]
 simp
end Go.Proofs.Ytmniglgahodghaa.Pure
namespace Go.Proofs.Ytmniglgahodghaa.Pure
open Go.RowKit Go.Proofs.Ytmniglgahodghaa.K Go.Proofs.YtmniglgahodghaaW.PrintWords Go.Proofs.YtmniglgahodghaaW.PrintLast Go.Proofs.YtmniglgahodghaaW.PrintMore
set_option linter.unusedVariables false
set_option linter.unusedSimpArgs false
theorem rdB_cast (xs : List Bool) (i : Nat) : rdOf false xs (i : Int) = xs.getD i false := by simp [rdOf]
theorem eqBoolS_l0 (xs ys : List Bool) (hl : xs.length = ys.length) (hb : xs.length ≤ 140737488355328) (d : Nat) : ∀ (k : Nat) (i : Nat), i ≤ xs.length → xs.length - i = d → d < k →
  laws_eqBoolS.l0 k xs ys i = some (decide (xs.drop i = ys.drop i)) := by
 induction d with
 | zero =>
  intro k i hi hd hk
  obtain ⟨k, rfl⟩ : ∃ m, k = m + 1 := ⟨k - 1, by omega⟩
  have : i = xs.length := by omega
  subst this
  simp only [laws_eqBoolS.l0]
  rw [if_neg (by omega)]
  simp [hl]
 | succ d ih =>
  intro k i hi hd hk
  obtain ⟨k, rfl⟩ : ∃ m, k = m + 1 := ⟨k - 1, by omega⟩
  simp only [laws_eqBoolS.l0]
  rw [if_pos (by omega), if_pos (by omega), if_pos (by omega), wrap_inc (n := xs.length) (by omega) (by omega) (by omega), rdB_cast, rdB_cast, drop_getD xs i false (by omega), drop_getD ys i false (by omega)]
  by_cases h : xs.getD i false = ys.getD i false
  ·rw [if_neg (by rw [h]; simp)]
   have := ih k (i + 1) (by omega) (by omega) (by omega)
   rw [show ((i : Int) + 1) = ((i + 1 : Nat) : Int) from by omega, this]
   simp only [List.cons.injEq, h, true_and]
  ·rw [if_pos (by simpa using h)]
   simp only [List.cons.injEq, h, false_and, decide_false]
theorem eqBoolS_ev (xs ys : List Bool) (hb : xs.length ≤ 140737488355328) : Ev (fun k => laws_eqBoolS.f k xs ys) (decide (xs = ys)) := by
 by_cases hl : xs.length = ys.length
 ·refine Ev.of (k := xs.length + 1) (laws_eqBoolS.mono xs ys) ?_
  simp only [laws_eqBoolS.f]
  rw [if_pos (by omega)]
  have := eqBoolS_l0 xs ys hl hb xs.length (xs.length + 1) 0 (by omega) (by omega) (by omega)
  simpa using this
 ·refine Ev.of (k := 0) (laws_eqBoolS.mono xs ys) ?_
  simp only [laws_eqBoolS.f]
  rw [if_neg (by omega)]
  have : xs ≠ ys := fun h => hl (by rw [h])
  simp [this]
end Go.Proofs.Ytmniglgahodghaa.Pure
namespace Go.Proofs.Ytmniglgahodghaa.Pure
open Go.RowKit Go.Proofs.Ytmniglgahodghaa.K Go.Proofs.YtmniglgahodghaaW.PrintWords Go.Proofs.YtmniglgahodghaaW.PrintLast Go.Proofs.YtmniglgahodghaaW.PrintMore
set_option linter.unusedVariables false
set_option linter.unusedSimpArgs false
theorem eqIntS_l0 (xs ys : List Int) (hl : xs.length = ys.length) (hb : xs.length ≤ 140737488355328) (d : Nat) : ∀ (k : Nat) (i : Nat), i ≤ xs.length → xs.length - i = d → d < k →
  laws_eqIntS.l0 k xs ys i = some (decide (xs.drop i = ys.drop i)) := by
 induction d with
 | zero =>
  intro k i hi hd hk
  obtain ⟨k, rfl⟩ : ∃ m, k = m + 1 := ⟨k - 1, by omega⟩
  have : i = xs.length := by omega
  subst this
  simp only [laws_eqIntS.l0]
  rw [if_neg (by omega)]
  simp [hl]
 | succ d ih =>
  intro k i hi hd hk
  obtain ⟨k, rfl⟩ : ∃ m, k = m + 1 := ⟨k - 1, by omega⟩
  simp only [laws_eqIntS.l0]
  rw [if_pos (by omega), if_pos (by omega), if_pos (by omega), wrap_inc (n := xs.length) (by omega) (by omega) (by omega), rd_cast, rd_cast, drop_getD xs i 0 (by omega), drop_getD ys i 0 (by omega)]
  by_cases h : xs.getD i 0 = ys.getD i 0
  ·rw [if_pos h]
   have := ih k (i + 1) (by omega) (by omega) (by omega)
   rw [show ((i : Int) + 1) = ((i + 1 : Nat) : Int) from by omega, this]
   simp only [List.cons.injEq, h, true_and]
  ·rw [if_neg h]
   simp only [List.cons.injEq, h, false_and, decide_false]
theorem eqIntS_ev (xs ys : List Int) (hb : xs.length ≤ 140737488355328) : Ev (fun k => laws_eqIntS.f k xs ys) (decide (xs = ys)) := by
 by_cases hl : xs.length = ys.length
 ·refine Ev.of (k := xs.length + 1) (laws_eqIntS.mono xs ys) ?_
  simp only [laws_eqIntS.f]
  rw [if_pos (by omega)]
  have := eqIntS_l0 xs ys hl hb xs.length (xs.length + 1) 0 (by omega) (by omega) (by omega)
  simpa using this
 ·refine Ev.of (k := 0) (laws_eqIntS.mono xs ys) ?_
  simp only [laws_eqIntS.f]
  rw [if_neg (by omega)]
  have : xs ≠ ys := fun h => hl (by rw [h])
  simp [this]
end Go.Proofs.Ytmniglgahodghaa.Pure
namespace Go.Proofs.Ytmniglgahodghaa.Pure
open Go.RowKit Go.Proofs.Ytmniglgahodghaa.K Go.Proofs.YtmniglgahodghaaW.PrintWords Go.Proofs.YtmniglgahodghaaW.PrintLast Go.Proofs.YtmniglgahodghaaW.PrintMore
set_option linter.unusedVariables false
set_option linter.unusedSimpArgs false
theorem eqMem_ev (x0 : List Int) (x1 x2 x3 : Int) (x4 : List Bool) (y0 : List Int) (y1 y2 y3 : Int) (y4 : List Bool) (h0 : x0.length ≤ 140737488355328) (h4 : x4.length ≤ 140737488355328) :
  Ev (fun k => laws_eqMem.f k x0 x1 x2 x3 x4 y0 y1 y2 y3 y4) (decide (x0 = y0 ∧ x1 = y1 ∧ x2 = y2 ∧ x3 = y3 ∧ x4 = y4)) := by
 simp only [laws_eqMem.f]
 refine (eqIntS_ev x0 y0 h0).bind ?_
 by_cases e0 : x0 = y0
 ·simp only [e0, decide_true, if_true, true_and]
  by_cases e1 : x1 = y1
  ·simp only [e1, if_true, true_and]
   by_cases e2 : x2 = y2
   ·simp only [e2, if_true, true_and]
    by_cases e3 : x3 = y3
    ·simp only [e3, if_true, true_and]
     refine (eqBoolS_ev x4 y4 h4).bind ?_
     by_cases e4 : x4 = y4
     ·simp only [e4, decide_true, if_true]; exact Ev.now _
     ·simp only [e4, decide_false, if_false, Bool.false_eq_true]; exact Ev.now _
    ·simp only [e3, if_false, false_and, decide_false]; exact Ev.now _
   ·simp only [e2, if_false, false_and, decide_false]; exact Ev.now _
  ·simp only [e1, if_false, false_and, decide_false]; exact Ev.now _
 ·simp only [e0, decide_false, if_false, Bool.false_eq_true, false_and]; exact Ev.now _
end Go.Proofs.Ytmniglgahodghaa.Pure
namespace Go.Proofs.Ytmniglgahodghaa.Pure
open Go.RowKit Go.Proofs.Ytmniglgahodghaa.K Go.Proofs.YtmniglgahodghaaW.PrintWords Go.Proofs.YtmniglgahodghaaW.PrintLast Go.Proofs.YtmniglgahodghaaW.PrintMore
set_option linter.unusedVariables false
set_option linter.unusedSimpArgs false
def marksB : Nat → Int → List Bool
  | 0, _ => []
  | n + 1, a => (Int.tmod a 3 == 0) :: marksB n (a + 1)
theorem markBoolS_l0 (d : Nat) : ∀ (k : Nat) (pre post : List Bool) (a : Int), post.length = d → d < k → 0 ≤ a → a + d ≤ 4611686018427387904 → pre.length + d ≤ 140737488355328 →
  laws_markBoolS.l0 k (pre ++ post) a (pre.length : Int) = some (a + d, pre ++ marksB d a) := by
 induction d with
 | zero =>
  intro k pre post a hd hk ha hb hc
  obtain ⟨k, rfl⟩ : ∃ m, k = m + 1 := ⟨k - 1, by omega⟩
  obtain rfl : post = [] := List.eq_nil_of_length_eq_zero hd
  simp only [laws_markBoolS.l0]
  rw [if_neg (by simp)]
  simp [marksB]
 | succ d ih =>
  intro k pre post a hd hk ha hb hc
  obtain ⟨k, rfl⟩ : ∃ m, k = m + 1 := ⟨k - 1, by omega⟩
  obtain ⟨x, post, rfl⟩ : ∃ x t, post = x :: t := by cases post with | nil => simp at hd | cons x t => exact ⟨x, t, rfl⟩
  simp only [laws_markBoolS.l0]
  simp only [List.length_cons] at hd
  rw [if_pos (by simp only [List.length_append, List.length_cons]; omega), if_pos (by omega), wrap_inc (n := 4611686018427387904) ha (by omega) (by omega), wrap_inc (n := 4611686018427387904) (by omega) (by omega) (by omega)]
  have e : (pre ++ x :: post).set ((pre.length : Int).toNat) (Int.tmod a 3 == 0) = (pre ++ [Int.tmod a 3 == 0]) ++ post := by
   simp
  rw [e]
  have := ih k (pre ++ [Int.tmod a 3 == 0]) post (a + 1) (by omega) (by omega) (by omega) (by omega) (by simp; omega)
  rw [show ((pre.length : Int) + 1) = (((pre ++ [Int.tmod a 3 == 0]).length : Nat) : Int) from by simp, this]
  simp [marksB]
  omega
theorem markBoolS_ev (xs : List Bool) (a : Int) (ha : 0 ≤ a) (hb : a + xs.length ≤ 4611686018427387904) (hc : xs.length ≤ 140737488355328) :
  Ev (fun k => laws_markBoolS.f k xs a) (a + xs.length, marksB xs.length a) := by
 refine Ev.of (k := xs.length + 1) (laws_markBoolS.mono xs a) ?_
 have := markBoolS_l0 xs.length (xs.length + 1) [] xs a rfl (by omega) ha hb (by simpa using hc)
 simpa [laws_markBoolS.f] using this
end Go.Proofs.Ytmniglgahodghaa.Pure
namespace Go.Proofs.Ytmniglgahodghaa.Pure
open Go.RowKit Go.Proofs.Ytmniglgahodghaa.K Go.Proofs.YtmniglgahodghaaW.PrintWords Go.Proofs.YtmniglgahodghaaW.PrintLast Go.Proofs.YtmniglgahodghaaW.PrintMore
set_option linter.unusedVariables false
set_option linter.unusedSimpArgs false
theorem heldBoolS_l0 (d : Nat) : ∀ (k : Nat) (pre : List Bool) (a : Int), d < k → 0 ≤ a → a + d ≤ 4611686018427387904 → pre.length + d ≤ 140737488355328 →
  laws_heldBoolS.l0 k (pre ++ marksB d a) a (pre.length : Int) = some (a + d) := by
 induction d with
 | zero =>
  intro k pre a hk ha hb hc
  obtain ⟨k, rfl⟩ : ∃ m, k = m + 1 := ⟨k - 1, by omega⟩
  simp only [laws_heldBoolS.l0, marksB, List.append_nil]
  rw [if_neg (by omega)]
  simp
 | succ d ih =>
  intro k pre a hk ha hb hc
  obtain ⟨k, rfl⟩ : ∃ m, k = m + 1 := ⟨k - 1, by omega⟩
  show laws_heldBoolS.l0 (k + 1) (pre ++ ((Int.tmod a 3 == 0) :: marksB d (a + 1))) a (pre.length : Int) = _
  simp only [laws_heldBoolS.l0]
  rw [if_pos (by simp only [List.length_append, List.length_cons]; omega), if_pos (by omega), wrap_inc (n := 4611686018427387904) ha (by omega) (by omega), wrap_inc (n := 4611686018427387904) (by omega) (by omega) (by omega), rdB_cast, if_neg (by simp [List.getD_eq_getElem?_getD])]
  have := ih k (pre ++ [Int.tmod a 3 == 0]) (a + 1) (by omega) (by omega) (by omega) (by simp; omega)
  rw [show pre ++ (Int.tmod a 3 == 0) :: marksB d (a + 1) = (pre ++ [Int.tmod a 3 == 0]) ++ marksB d (a + 1) from by simp, show ((pre.length : Int) + 1) = (((pre ++ [Int.tmod a 3 == 0]).length : Nat) : Int) from by simp, this]
  simp; omega
theorem heldBoolS_ev (n : Nat) (a : Int) (ha : 0 ≤ a) (hb : a + n ≤ 4611686018427387904) (hc : n ≤ 140737488355328) :
  Ev (fun k => laws_heldBoolS.f k (marksB n a) a) (a + n) := by
 refine Ev.of (k := n + 1) (laws_heldBoolS.mono _ a) ?_
 have := heldBoolS_l0 n (n + 1) [] a (by omega) ha hb (by simpa using hc)
 simpa [laws_heldBoolS.f] using this
end Go.Proofs.Ytmniglgahodghaa.Pure
namespace Go.Proofs.Ytmniglgahodghaa.Pure
open Go.RowKit Go.Proofs.Ytmniglgahodghaa.K Go.Proofs.YtmniglgahodghaaW.PrintWords Go.Proofs.YtmniglgahodghaaW.PrintLast Go.Proofs.YtmniglgahodghaaW.PrintMore
set_option linter.unusedVariables false
set_option linter.unusedSimpArgs false
def marksI : Nat → Int → List Int
  | 0, _ => []
  | n + 1, a => a :: marksI n (a + 1)
theorem markIntS_l0 (d : Nat) : ∀ (k : Nat) (pre post : List Int) (a : Int), post.length = d → d < k → 0 ≤ a → a + d ≤ 4611686018427387904 → pre.length + d ≤ 140737488355328 →
  laws_markIntS.l0 k (pre ++ post) a (pre.length : Int) = some (a + d, pre ++ marksI d a) := by
 induction d with
 | zero =>
  intro k pre post a hd hk ha hb hc
  obtain ⟨k, rfl⟩ : ∃ m, k = m + 1 := ⟨k - 1, by omega⟩
  obtain rfl : post = [] := List.eq_nil_of_length_eq_zero hd
  simp only [laws_markIntS.l0]
  rw [if_neg (by simp)]
  simp [marksI]
 | succ d ih =>
  intro k pre post a hd hk ha hb hc
  obtain ⟨k, rfl⟩ : ∃ m, k = m + 1 := ⟨k - 1, by omega⟩
  obtain ⟨x, post, rfl⟩ : ∃ x t, post = x :: t := by cases post with | nil => simp at hd | cons x t => exact ⟨x, t, rfl⟩
  simp only [laws_markIntS.l0]
  simp only [List.length_cons] at hd
  rw [if_pos (by simp only [List.length_append, List.length_cons]; omega), if_pos (by omega), wrap_inc (n := 4611686018427387904) ha (by omega) (by omega), wrap_inc (n := 4611686018427387904) (by omega) (by omega) (by omega)]
  have e : (pre ++ x :: post).set ((pre.length : Int).toNat) a = (pre ++ [a]) ++ post := by
   simp
  rw [e]
  have := ih k (pre ++ [a]) post (a + 1) (by omega) (by omega) (by omega) (by omega) (by simp; omega)
  rw [show ((pre.length : Int) + 1) = (((pre ++ [a]).length : Nat) : Int) from by simp, this]
  simp [marksI]
  omega
theorem markIntS_ev (xs : List Int) (a : Int) (ha : 0 ≤ a) (hb : a + xs.length ≤ 4611686018427387904) (hc : xs.length ≤ 140737488355328) :
  Ev (fun k => laws_markIntS.f k xs a) (a + xs.length, marksI xs.length a) := by
 refine Ev.of (k := xs.length + 1) (laws_markIntS.mono xs a) ?_
 have := markIntS_l0 xs.length (xs.length + 1) [] xs a rfl (by omega) ha hb (by simpa using hc)
 simpa [laws_markIntS.f] using this
theorem heldIntS_l0 (d : Nat) : ∀ (k : Nat) (pre : List Int) (a : Int), d < k → 0 ≤ a → a + d ≤ 4611686018427387904 → pre.length + d ≤ 140737488355328 →
  laws_heldIntS.l0 k (pre ++ marksI d a) a (pre.length : Int) = some (a + d) := by
 induction d with
 | zero =>
  intro k pre a hk ha hb hc
  obtain ⟨k, rfl⟩ : ∃ m, k = m + 1 := ⟨k - 1, by omega⟩
  simp only [laws_heldIntS.l0, marksI, List.append_nil]
  rw [if_neg (by omega)]
  simp
 | succ d ih =>
  intro k pre a hk ha hb hc
  obtain ⟨k, rfl⟩ : ∃ m, k = m + 1 := ⟨k - 1, by omega⟩
  show laws_heldIntS.l0 (k + 1) (pre ++ (a :: marksI d (a + 1))) a (pre.length : Int) = _
  simp only [laws_heldIntS.l0]
  rw [if_pos (by simp only [List.length_append, List.length_cons]; omega), if_pos (by omega), wrap_inc (n := 4611686018427387904) ha (by omega) (by omega), wrap_inc (n := 4611686018427387904) (by omega) (by omega) (by omega), rd_cast, if_pos (by simp [List.getD_eq_getElem?_getD])]
  have := ih k (pre ++ [a]) (a + 1) (by omega) (by omega) (by omega) (by simp; omega)
  rw [show pre ++ a :: marksI d (a + 1) = (pre ++ [a]) ++ marksI d (a + 1) from by simp, show ((pre.length : Int) + 1) = (((pre ++ [a]).length : Nat) : Int) from by simp, this]
  simp; omega
theorem heldIntS_ev (n : Nat) (a : Int) (ha : 0 ≤ a) (hb : a + n ≤ 4611686018427387904) (hc : n ≤ 140737488355328) :
  Ev (fun k => laws_heldIntS.f k (marksI n a) a) (a + n) := by
 refine Ev.of (k := n + 1) (laws_heldIntS.mono _ a) ?_
 have := heldIntS_l0 n (n + 1) [] a (by omega) ha hb (by simpa using hc)
 simpa [laws_heldIntS.f] using this
end Go.Proofs.Ytmniglgahodghaa.Pure
namespace Go.Proofs.Ytmniglgahodghaa.Pure
open Go.RowKit Go.Proofs.Ytmniglgahodghaa.K Go.Proofs.YtmniglgahodghaaW.PrintWords Go.Proofs.YtmniglgahodghaaW.PrintLast Go.Proofs.YtmniglgahodghaaW.PrintMore
set_option linter.unusedVariables false
set_option linter.unusedSimpArgs false
theorem heldMem_ev (n m : Nat) (x1 x2 x3 : Int) (a : Int) (ha : 0 ≤ a) (hb : a + n + m ≤ 4611686018427387904) (h0 : n ≤ 140737488355328) (h4 : m ≤ 140737488355328) :
  Ev (fun k => laws_heldMem.f k (marksI n a) x1 x2 x3 (marksB m (a + n)) a) (a + n + m) := by
 simp only [laws_heldMem.f]
 refine (heldIntS_ev n a ha (by omega) h0).bind ?_
 refine evn (by omega) ?_
 refine (heldBoolS_ev m (a + n) (by omega) (by omega) h4).bind ?_
 refine evn (by omega) ?_
 exact Ev.now _
end Go.Proofs.Ytmniglgahodghaa.Pure
namespace Go.Proofs.Ytmniglgahodghaa.Pure
open Go.RowKit Go.Proofs.Ytmniglgahodghaa.K Go.Proofs.YtmniglgahodghaaW.PrintWords Go.Proofs.YtmniglgahodghaaW.PrintLast Go.Proofs.YtmniglgahodghaaW.PrintMore
set_option linter.unusedVariables false
set_option linter.unusedSimpArgs false
abbrev Ls := List S56
def toC (c : S56) : S69 := ⟨c.f0, c.f1⟩
def toCs (l : Ls) : Cs := l.map toC
theorem toIntS_l0 (d : Nat) : ∀ (k : Nat) (pre post : List Int) (xs : List Int), xs.length = pre.length + post.length → xs.take pre.length = pre → post.length = d → d < k → pre.length + d ≤ 140737488355328 →
  laws_toIntS.l0 k xs (pre ++ post) (pre.length : Int) = some xs := by
 induction d with
 | zero =>
  intro k pre post xs hl ht hd hk hc
  obtain ⟨k, rfl⟩ : ∃ m, k = m + 1 := ⟨k - 1, by omega⟩
  obtain rfl : post = [] := List.eq_nil_of_length_eq_zero hd
  simp only [laws_toIntS.l0]
  simp only [List.length_nil, Nat.add_zero] at hl
  rw [if_neg (by omega)]
  rw [← hl, List.take_length] at ht
  rw [ht]; simp
 | succ d ih =>
  intro k pre post xs hl ht hd hk hc
  obtain ⟨k, rfl⟩ : ∃ m, k = m + 1 := ⟨k - 1, by omega⟩
  obtain ⟨x, post, rfl⟩ : ∃ x t, post = x :: t := by cases post with | nil => simp at hd | cons x t => exact ⟨x, t, rfl⟩
  simp only [List.length_cons] at hl hd
  simp only [laws_toIntS.l0]
  rw [if_pos (by omega), if_pos (by omega), if_pos (by simp only [List.length_append, List.length_cons]; omega), wrap_inc (n := 4611686018427387904) (by omega) (by omega) (by omega)]
  have e : (pre ++ x :: post).set ((pre.length : Int).toNat) (rd xs pre.length) = (pre ++ [rd xs pre.length]) ++ post := by simp
  rw [e]
  have := ih k (pre ++ [rd xs pre.length]) post xs (by simp only [List.length_append, List.length_cons, List.length_nil]; omega) (by
   rw [List.length_append, List.length_singleton, List.take_succ_eq_append_getElem (by omega), ht, rd_cast]
   simp [List.getD_eq_getElem?_getD, show pre.length < xs.length by omega]) (by omega) (by omega) (by simp only [List.length_append, List.length_cons, List.length_nil]; omega)
  rw [show ((pre.length : Int) + 1) = (((pre ++ [rd xs pre.length]).length : Nat) : Int) from by simp, this]
theorem toIntS_eq (xs : List Int) (hx : xs.length ≤ 35184372088832) (k : Nat) (hk : xs.length < k) : laws_toIntS.f k xs = some xs := by
 unfold laws_toIntS.f
 rw [if_pos (by omega), if_pos (by omega), Int.toNat_natCast]
 have := toIntS_l0 xs.length k [] (List.replicate xs.length 0) xs (by simp) (by simp) (by simp) hk (by simp; omega)
 simpa using this
def fewL (l : Ls) : Prop := ∀ c ∈ l, c.f1.length ≤ 1048576
theorem toClassS_l0 (d : Nat) : ∀ (k : Nat) (l : Ls) (pre : Cs) (post : Cs), l.length = pre.length + post.length → (l.take pre.length).map toC = pre → post.length = d → d + 1048578 ≤ k → fewL l → pre.length + d ≤ 140737488355328 →
  laws_toClassS.l0 k l (pre ++ post) (pre.length : Int) = some (toCs l) := by
 induction d with
 | zero =>
  intro k l pre post hl ht hd hk hf hc
  obtain ⟨k, rfl⟩ : ∃ m, k = m + 1 := ⟨k - 1, by omega⟩
  obtain rfl : post = [] := List.eq_nil_of_length_eq_zero hd
  simp only [laws_toClassS.l0]
  simp only [List.length_nil, Nat.add_zero] at hl
  rw [if_neg (by omega)]
  rw [← hl, List.take_length] at ht
  unfold toCs
  rw [ht]; simp
 | succ d ih =>
  intro k l pre post hl ht hd hk hf hc
  obtain ⟨k, rfl⟩ : ∃ m, k = m + 1 := ⟨k - 1, by omega⟩
  obtain ⟨x, post, rfl⟩ : ∃ x t, post = x :: t := by cases post with | nil => simp at hd | cons x t => exact ⟨x, t, rfl⟩
  simp only [List.length_cons] at hl hd
  have hlt : pre.length < l.length := by omega
  have hrd : rd_T56 l pre.length = l[pre.length] := by simp [rd_T56, List.getD_eq_getElem?_getD, hlt]
  have hfl := hf l[pre.length] (List.getElem_mem _)
  simp only [laws_toClassS.l0, laws_toClass.f]
  rw [if_pos (by omega), if_pos (by omega), hrd, toIntS_eq _ (by omega) k (by omega)]
  simp only [Option.bind_some]
  rw [if_pos (by simp only [List.length_append, List.length_cons]; omega), wrap_inc (n := 4611686018427387904) (by omega) (by omega) (by omega)]
  have e : (pre ++ x :: post).set ((pre.length : Int).toNat) (toC l[pre.length]) = (pre ++ [toC l[pre.length]]) ++ post := by simp
  show laws_toClassS.l0 k l ((pre ++ x :: post).set ((pre.length : Int).toNat) (toC l[pre.length])) _ = _
  rw [e]
  have := ih k l (pre ++ [toC l[pre.length]]) post (by simp only [List.length_append, List.length_cons, List.length_nil]; omega) (by
   rw [List.length_append, List.length_singleton, List.take_succ_eq_append_getElem hlt, List.map_append, ht]; simp) (by omega) (by omega) hf (by simp only [List.length_append, List.length_cons, List.length_nil]; omega)
  rw [show ((pre.length : Int) + 1) = (((pre ++ [toC l[pre.length]]).length : Nat) : Int) from by simp, this]
theorem toClassS_eq (l : Ls) (hf : fewL l) (hl : l.length ≤ 1048576) (k : Nat) (hk : 4000000 ≤ k) : laws_toClassS.f k l = some (toCs l) := by
 unfold laws_toClassS.f
 rw [if_pos (by omega), if_pos (by omega), Int.toNat_natCast]
 have := toClassS_l0 l.length k l [] (List.replicate l.length z69) (by simp) (by simp) (by simp) (by omega) hf (by simp; omega)
 simpa using this
theorem szIntS_eq (xs : List Int) (a : Int) (h : xs.length ≤ 9223372036854775807) (ha : 0 ≤ a ∧ a ≤ 1048576) : laws_szIntS.f xs a = some (if (xs.length : Int) ≤ a then a - xs.length else -1) := by
 unfold laws_szIntS.f
 rw [wrap64_of (by omega) (by omega)]
 by_cases q : (xs.length : Int) ≤ a
 ·rw [if_neg (by omega), if_pos q]
 ·rw [if_pos (by omega), if_neg q]
theorem szClass_eq (s : Int) (xs : List Int) (a : Int) (h : xs.length ≤ 9223372036854775807) (ha : 0 ≤ a ∧ a ≤ 1048576) : laws_szClass.f s xs a = some (if (xs.length : Int) ≤ a then a - xs.length else -1) := by
 unfold laws_szClass.f
 rw [szIntS_eq xs a h ha]
 simp only [Option.bind_some]
 split
 ·rw [if_neg (by omega)]
 ·rw [if_pos (by omega)]
theorem szClassS_l0 (l : Ls) (hg : ∀ c ∈ l, c.f1.length ≤ 9223372036854775807) (hl : l.length ≤ 1048576) (d : Nat) : ∀ (i : Nat) (a : Int) (k : Nat), i ≤ l.length → l.length - i = d → 0 ≤ a ∧ a ≤ 1048576 → d < k →
  ∃ r, laws_szClassS.l0 k l a i = some r ∧ r ≤ 1048576 ∧ (0 ≤ r → ∀ j : Nat, i ≤ j → ∀ c, l[j]? = some c → c.f1.length ≤ 1048576) := by
 induction d with
 | zero =>
  intro i a k hi hd ha hk
  obtain ⟨k, rfl⟩ : ∃ m, k = m + 1 := ⟨k - 1, by omega⟩
  refine ⟨a, ?_, ha.2, fun _ j hj c hc => ?_⟩
  ·simp only [laws_szClassS.l0]; rw [if_neg (by omega)]
  ·have := (List.getElem?_eq_some_iff.1 hc).1; omega
 | succ d ih =>
  intro i a k hi hd ha hk
  obtain ⟨k, rfl⟩ : ∃ m, k = m + 1 := ⟨k - 1, by omega⟩
  have hlt : i < l.length := by omega
  have hrd : rd_T56 l i = l[i] := by simp [rd_T56, List.getD_eq_getElem?_getD, hlt]
  simp only [laws_szClassS.l0]
  rw [if_pos (by omega), if_pos (by omega), hrd, szClass_eq _ _ a (hg _ (List.getElem_mem _)) ha]
  simp only [Option.bind_some]
  by_cases q : (l[i].f1.length : Int) ≤ a
  ·rw [if_pos q, if_neg (by omega), wrap_inc (n := l.length) (by omega) (by omega) (by omega)]
   obtain ⟨r, h1, h2, h3⟩ := ih (i + 1) (a - l[i].f1.length) k (by omega) (by omega) (by omega) (by omega)
   refine ⟨r, by rw [show ((i : Int) + 1) = ((i + 1 : Nat) : Int) from by omega]; exact h1, h2, fun hr j hj c hc => ?_⟩
   by_cases e : j = i
   ·subst e
    rw [List.getElem?_eq_getElem hlt] at hc
    obtain rfl := Option.some.inj hc
    omega
   ·exact h3 hr j (by omega) c hc
  ·rw [if_neg q, if_pos (by omega)]
   exact ⟨-1, rfl, by omega, fun hr => by omega⟩
theorem szClassS_eq (l : Ls) (hg : GL G56 l) (k : Nat) (hk : 1048578 ≤ k) : ∃ r, laws_szClassS.f k l 1048576 = some r ∧ r ≤ 1048576 ∧ (0 ≤ r → l.length ≤ 1048576 ∧ fewL l) := by
 unfold laws_szClassS.f
 have h1 := hg.1
 rw [wrap64_of (by omega) (by omega)]
 by_cases q : (1048576 : Int) - l.length < 0
 ·rw [if_pos q]; exact ⟨-1, rfl, by omega, fun h => by omega⟩
 ·rw [if_neg q]
  obtain ⟨r, h2, h3, h4⟩ := szClassS_l0 l (fun c hc => (hg.2 c hc).2.1) (by omega) l.length 0 (1048576 - l.length) k (by omega) (by omega) (by omega) (by omega)
  refine ⟨r, h2, h3, fun hr => ⟨by omega, fun c hc => ?_⟩⟩
  obtain ⟨j, hj, rfl⟩ := List.getElem_of_mem hc
  exact h4 hr j (by omega) _ (List.getElem?_eq_getElem hj)
theorem fewF_of {l : Ls} (h : fewL l) : fewF (toCs l) := by
 intro i
 unfold flds rd_T69 toCs
 rw [List.getD_eq_getElem?_getD, List.getElem?_map]
 cases hq : l[i.toNat]? with
 | none => simp [z69]
 | some c => simpa [toC] using h c (List.mem_of_getElem? hq)
theorem eqClassS_l0 (cs : Cs) (hf : fewF cs) (hl : cs.length ≤ 1048576) (d : Nat) : ∀ (i k : Nat), i ≤ cs.length → cs.length - i = d → d + 1048578 ≤ k → laws_eqClassS.l0 k cs cs i = some true := by
 induction d with
 | zero =>
  intro i k hi hd hk
  obtain ⟨k, rfl⟩ : ∃ m, k = m + 1 := ⟨k - 1, by omega⟩
  simp only [laws_eqClassS.l0]; rw [if_neg (by omega)]
 | succ d ih =>
  intro i k hi hd hk
  obtain ⟨k, rfl⟩ : ∃ m, k = m + 1 := ⟨k - 1, by omega⟩
  simp only [laws_eqClassS.l0, laws_eqClass.f]
  have hq := hf i
  have e := eqIntS_l0 (flds cs i) (flds cs i) rfl (by omega) (flds cs i).length k 0 (by omega) (by omega) (by omega)
  have e2 : laws_eqIntS.f k (rd_T69 cs i).f1 (rd_T69 cs i).f1 = some true := by
   unfold laws_eqIntS.f
   rw [if_pos rfl]
   exact e.trans (by simp)
  rw [if_pos (by omega), if_pos (by omega), if_pos (by omega)]
  simp only [if_true, e2, Option.bind_some]
  rw [wrap_inc (n := cs.length) (by omega) (by omega) (by omega), show ((i : Int) + 1) = ((i + 1 : Nat) : Int) from by omega]
  exact ih (i + 1) k (by omega) (by omega) (by omega)
theorem eqClassS_self (cs : Cs) (hf : fewF cs) (hl : cs.length ≤ 1048576) (k : Nat) (hk : 4000000 ≤ k) : laws_eqClassS.f k cs cs = some true := by
 unfold laws_eqClassS.f
 rw [if_pos rfl]
 exact eqClassS_l0 cs hf hl cs.length 0 k (by omega) (by omega) (by omega)
end Go.Proofs.Ytmniglgahodghaa.Pure
namespace Go.Proofs.Ytmniglgahodghaa.Pure
open Go.RowKit Go.Proofs.Ytmniglgahodghaa.K Go.Proofs.YtmniglgahodghaaW.PrintWords Go.Proofs.YtmniglgahodghaaW.PrintLast Go.Proofs.YtmniglgahodghaaW.PrintMore
set_option linter.unusedVariables false
set_option linter.unusedSimpArgs false
theorem toBoolS_l0 (d : Nat) : ∀ (k : Nat) (pre post : List Bool) (xs : List Bool), xs.length = pre.length + post.length → xs.take pre.length = pre → post.length = d → d < k → pre.length + d ≤ 140737488355328 →
  laws_toBoolS.l0 k xs (pre ++ post) (pre.length : Int) = some xs := by
 induction d with
 | zero =>
  intro k pre post xs hl ht hd hk hc
  obtain ⟨k, rfl⟩ : ∃ m, k = m + 1 := ⟨k - 1, by omega⟩
  obtain rfl : post = [] := List.eq_nil_of_length_eq_zero hd
  simp only [laws_toBoolS.l0]
  simp only [List.length_nil, Nat.add_zero] at hl
  rw [if_neg (by omega)]
  rw [← hl, List.take_length] at ht
  rw [ht]; simp
 | succ d ih =>
  intro k pre post xs hl ht hd hk hc
  obtain ⟨k, rfl⟩ : ∃ m, k = m + 1 := ⟨k - 1, by omega⟩
  obtain ⟨x, post, rfl⟩ : ∃ x t, post = x :: t := by cases post with | nil => simp at hd | cons x t => exact ⟨x, t, rfl⟩
  simp only [List.length_cons] at hl hd
  simp only [laws_toBoolS.l0]
  rw [if_pos (by omega), if_pos (by omega), if_pos (by simp only [List.length_append, List.length_cons]; omega), wrap_inc (n := 4611686018427387904) (by omega) (by omega) (by omega)]
  have e : (pre ++ x :: post).set ((pre.length : Int).toNat) (rdOf false xs pre.length) = (pre ++ [rdOf false xs pre.length]) ++ post := by simp
  rw [e]
  have := ih k (pre ++ [rdOf false xs pre.length]) post xs (by simp only [List.length_append, List.length_cons, List.length_nil]; omega) (by
   rw [List.length_append, List.length_singleton, List.take_succ_eq_append_getElem (by omega), ht, rdB_cast]
   simp [List.getD_eq_getElem?_getD, show pre.length < xs.length by omega]) (by omega) (by omega) (by simp only [List.length_append, List.length_cons, List.length_nil]; omega)
  rw [show ((pre.length : Int) + 1) = (((pre ++ [rdOf false xs pre.length]).length : Nat) : Int) from by simp, this]
theorem toBoolS_eq (xs : List Bool) (hx : xs.length ≤ 35184372088832) (k : Nat) (hk : xs.length < k) : laws_toBoolS.f k xs = some xs := by
 unfold laws_toBoolS.f
 rw [if_pos (by omega), if_pos (by omega), Int.toNat_natCast]
 have := toBoolS_l0 xs.length k [] (List.replicate xs.length false) xs (by simp) (by simp) (by simp) hk (by simp; omega)
 simpa using this
theorem szBoolS_eq (xs : List Bool) (a : Int) (h : xs.length ≤ 9223372036854775807) (ha : 0 ≤ a ∧ a ≤ 1048576) : laws_szBoolS.f xs a = some (if (xs.length : Int) ≤ a then a - xs.length else -1) := by
 unfold laws_szBoolS.f
 rw [wrap64_of (by omega) (by omega)]
 by_cases c : (xs.length : Int) ≤ a
 ·rw [if_neg (by omega), if_pos c]
 ·rw [if_pos (by omega), if_neg c]
theorem ev_from {α : Type} {f : Nat → Option α} {r : α} (K : Nat) (h : ∀ k, K ≤ k → f k = some r) : Ev f r := ⟨K, h⟩
theorem ev_bind_some {α β : Type} {a : α} {f : α → Nat → Option β} {r : β} (h : Ev (f a) r) : Ev (fun k => (some a).bind fun x => f x k) r := h
abbrev Ms := S26
theorem toMem_ev (M : Ms) (h0 : M.f0.length ≤ 1048576) (h4 : M.f4.length ≤ 1048576) : Ev (fun k => laws_toMem.f k M.f0 M.f1 M.f2 M.f3 M.f4) (M.f0, M.f1, M.f2, M.f3, M.f4) := by
 refine ev_from 1048577 (fun k hk => ?_)
 unfold laws_toMem.f
 rw [toIntS_eq M.f0 (by omega) k (by omega), Option.bind_some, toBoolS_eq M.f4 (by omega) k (by omega), Option.bind_some]
theorem small_ev (l : Ls) (M : Ms) (hl : GL G56 l) (hM : G26 M) {f : Nat → Option Bool}
  (h : l.length ≤ 1048576 → fewL l → M.f0.length ≤ 1048576 → M.f4.length ≤ 1048576 → Ev f true) :
  Ev (fun k => (laws_szClassS.f k l 1048576).bind fun t => if t < 0 then some true else ((laws_szMem.f M.f0 M.f1 M.f2 M.f3 M.f4 t).bind fun t2 => if t2 < 0 then some true else f k)) true := by
 obtain ⟨r, hr, r1, r2⟩ := szClassS_eq l hl 1048578 (Nat.le_refl _)
 have e1 : ∀ k, 1048578 ≤ k → laws_szClassS.f k l 1048576 = some r := fun k hk => at_rounds (g := fun k => laws_szClassS.f k l 1048576) (fun k => laws_szClassS.mono l 1048576 k) hk hr
 refine (ev_from 1048578 e1).bind ?_
 by_cases c : r < 0
 ·exact evp c (Ev.now _)
 refine evn c ?_
 obtain ⟨q1, q2⟩ := r2 (by omega)
 have g0 := hM.1.1
 have g4 := hM.2.2.2.2.1
 have e2 : laws_szMem.f M.f0 M.f1 M.f2 M.f3 M.f4 r = some (if (M.f0.length : Int) ≤ r then (if (M.f4.length : Int) ≤ r - M.f0.length then r - M.f0.length - M.f4.length else -1) else -1) := by
  unfold laws_szMem.f
  rw [szIntS_eq M.f0 r g0 (by omega), Option.bind_some]
  by_cases c1 : (M.f0.length : Int) ≤ r
  ·rw [if_pos c1, if_pos c1, if_neg (by omega), szBoolS_eq M.f4 _ g4 (by omega), Option.bind_some]
   by_cases c2 : (M.f4.length : Int) ≤ r - M.f0.length
   ·rw [if_pos c2, if_neg (by omega)]
   ·rw [if_neg c2, if_pos (by omega)]
  ·rw [if_neg c1, if_neg c1, if_pos (by omega)]
 rw [e2]
 refine ev_bind_some ?_
 by_cases c1 : (M.f0.length : Int) ≤ r
 ·by_cases c2 : (M.f4.length : Int) ≤ r - M.f0.length
  ·rw [if_pos c1, if_pos c2]
   refine evn (by omega) ?_
   exact h q1 q2 (by omega) (by omega)
  ·rw [if_pos c1, if_neg c2]
   exact evp (by omega) (Ev.now _)
 ·rw [if_neg c1]
  exact evp (by omega) (Ev.now _)
theorem toClassS_ev (l : Ls) (hf : fewL l) (hl : l.length ≤ 1048576) : Ev (fun k => laws_toClassS.f k l) (toCs l) := ev_from 4000000 (fun k hk => toClassS_eq l hf hl k hk)
theorem eqClassS_ev (l : Ls) (hf : fewL l) (hl : l.length ≤ 1048576) : Ev (fun k => laws_eqClassS.f k (toCs l) (toCs l)) true := ev_from 4000000 (fun k hk => eqClassS_self (toCs l) (fewF_of hf) (by unfold toCs; rw [List.length_map]; exact hl) k hk)
theorem eqMem_self (M : Ms) (h0 : M.f0.length ≤ 1048576) (h4 : M.f4.length ≤ 1048576) : Ev (fun k => laws_eqMem.f k M.f0 M.f1 M.f2 M.f3 M.f4 M.f0 M.f1 M.f2 M.f3 M.f4) true := by
  have := eqMem_ev M.f0 M.f1 M.f2 M.f3 M.f4 M.f0 M.f1 M.f2 M.f3 M.f4 (by omega) (by omega)
  simpa using this
end Go.Proofs.Ytmniglgahodghaa.Pure
namespace Go.Proofs.Ytmniglgahodghaa.Pure
open Go.RowKit Go.Proofs.Ytmniglgahodghaa.K Go.Proofs.YtmniglgahodghaaW.PrintWords Go.Proofs.YtmniglgahodghaaW.PrintLast Go.Proofs.YtmniglgahodghaaW.PrintMore
set_option linter.unusedVariables false
set_option linter.unusedSimpArgs false
theorem mcs_ev : ∀ (cs : Cs) (a : Int), 0 ≤ a → (∀ c ∈ cs, c.f1.length ≤ 1048576) → a + cs.length * 1048577 ≤ 2305843009213693952 → ∃ b, Ev (fun k => mcs k cs a) b ∧ 0 ≤ b ∧ b ≤ a + cs.length * 1048577
 | [], a, ha, _, _ => ⟨a, Ev.now _, ha, by simp⟩
 | x :: r, a, ha, hx, hb => by
  have h1 := hx x (List.mem_cons_self ..)
  simp only [List.length_cons] at hb ⊢
  obtain ⟨b, e, b0, b1⟩ := mcs_ev r (a + 1 + x.f1.length) (by omega) (fun c hc => hx c (List.mem_cons_of_mem _ hc)) (by omega)
  refine ⟨b, ?_, b0, by omega⟩
  have w : wrap64 (a + 1) = a + 1 := wrap64_of (by omega) (by omega)
  have := (markIntS_ev x.f1 (a + 1) (by omega) (by omega) (by omega)).bind (f := fun k p => mcs k r p.1) e
  simpa only [mcs, w] using this
end Go.Proofs.Ytmniglgahodghaa.Pure
namespace Go.Proofs.Ytmniglgahodghaa.Pure
open Go.RowKit Go.Proofs.Ytmniglgahodghaa.K Go.Proofs.YtmniglgahodghaaW.PrintWords Go.Proofs.YtmniglgahodghaaW.PrintLast Go.Proofs.YtmniglgahodghaaW.PrintMore
set_option linter.unusedVariables false
set_option linter.unusedSimpArgs false
theorem markMem_ev (x0 : List Int) (x1 x2 x3 : Int) (x4 : List Bool) (a : Int) (ha : 0 ≤ a) (hb : a + x0.length + x4.length ≤ 4611686018427387904) (h0 : x0.length ≤ 140737488355328) (h4 : x4.length ≤ 140737488355328) :
  Ev (fun k => laws_markMem.f k x0 x1 x2 x3 x4 a) (a + x0.length + x4.length, marksI x0.length a, marksB x4.length (a + x0.length)) := by
 simp only [laws_markMem.f]
 refine (markIntS_ev x0 a ha (by omega) h0).bind ?_
 refine (markBoolS_ev x4 (a + x0.length) (by omega) (by omega) h4).bind ?_
 exact Ev.now _
end Go.Proofs.Ytmniglgahodghaa.Pure
namespace Go.Proofs.Ytmniglgahodghaa.Pure
open Go.RowKit Go.Proofs.Ytmniglgahodghaa.K Go.Proofs.YtmniglgahodghaaW.PrintWords Go.Proofs.YtmniglgahodghaaW.PrintLast Go.Proofs.YtmniglgahodghaaW.PrintMore
set_option linter.unusedVariables false
set_option linter.unusedSimpArgs false
def pw (ws : List Int) (F : List (List Int)) (e : Int) : Nat → Int → List Int × Bool
  | 0, _ => ([], true)
  | n + 1, i => if i < e then (if mstep ws F e i = 0 then ([], false) else (i :: (pw ws F e n (i + mstep ws F e i)).1, (pw ws F e n (i + mstep ws F e i)).2)) else ([], true)
theorem pw_mwalk (ws : List Int) (F : List (List Int)) (e : Int) : ∀ (n : Nat) (i : Int) (acc : List Int) (q : Nat), (e - i).toNat ≤ n → n < q → mwalk ws F e q i acc = some ((pw ws F e n i).2, acc ++ (pw ws F e n i).1.map (· + 1))
 | 0, i, acc, q, h, hq => by
  obtain ⟨q, rfl⟩ : ∃ m, q = m + 1 := ⟨q - 1, by omega⟩
  rw [mwalk, if_neg (by omega), pw]; simp
 | n + 1, i, acc, q, h, hq => by
  obtain ⟨q, rfl⟩ : ∃ m, q = m + 1 := ⟨q - 1, by omega⟩
  rw [mwalk, pw]
  by_cases c : i < e
  ·rw [if_pos c, if_pos c]
   by_cases c2 : mstep ws F e i = 0
   ·rw [if_pos c2, if_pos c2]; simp
   ·rw [if_neg c2, if_neg c2]
    have := mwalk_lt ws F e i
    rw [pw_mwalk ws F e n _ _ q (by omega) (by omega)]
    simp
  ·rw [if_neg c, if_neg c]; simp
theorem pw_len (ws : List Int) (F : List (List Int)) (e : Int) : ∀ (n : Nat) (i : Int), (pw ws F e n i).1.length ≤ n
 | 0, i => by simp [pw]
 | n + 1, i => by
  rw [pw]
  split
  ·split
   ·simp
   ·have := pw_len ws F e n (i + mstep ws F e i)
    simp only [List.length_cons]; omega
  ·simp
theorem pw_mem (ws : List Int) (F : List (List Int)) (e : Int) : ∀ (n : Nat) (i : Int), ∀ x ∈ (pw ws F e n i).1, i ≤ x ∧ x < e ∧ 0 < mstep ws F e x ∧ mstep ws F e x ≤ e - x
 | 0, i => by simp [pw]
 | n + 1, i => by
  rw [pw]
  intro x hx
  split at hx
  case isTrue c =>
   split at hx
   case isTrue c2 => simp at hx
   case isFalse c2 =>
    have hl := mwalk_lt ws F e i
    simp only [List.mem_cons] at hx
    rcases hx with rfl | hx
    ·omega
    ·have := pw_mem ws F e n _ x hx
     omega
  case isFalse c => simp at hx
theorem pw_sorted (ws : List Int) (F : List (List Int)) (e : Int) : ∀ (n : Nat) (i : Int), (pw ws F e n i).1.Pairwise (· < ·)
 | 0, i => by simp [pw]
 | n + 1, i => by
  rw [pw]
  split
  case isTrue c =>
   split
   case isTrue c2 => simp
   case isFalse c2 =>
    have hl := mwalk_lt ws F e i
    refine List.Pairwise.cons (fun x hx => ?_) (pw_sorted ws F e n _)
    have := pw_mem ws F e n _ x hx
    omega
  case isFalse c => simp
theorem pw_part {cs : Cs} (h : csOk cs = true) {ws : List Int} (hw : ws.length ≤ 1048576) {e : Int} (he : e ≤ ws.length) : ∀ (n : Nat) (i : Int) (acc : List Int) (k : Nat), 0 ≤ i → (e - i).toNat ≤ n → n + 21 ≤ k → acc.length + n < 17592186044416 →
  spec_l21Part.l0 k cs ws i e acc = some (acc ++ (pw ws (allF cs) e n i).1, (pw ws (allF cs) e n i).2)
 | 0, i, acc, k, h0, hn, hk, ha => by
  obtain ⟨k, rfl⟩ : ∃ m, k = m + 1 := ⟨k - 1, by omega⟩
  rw [spec_l21Part.l0, if_neg (by omega), pw]; simp
 | n + 1, i, acc, k, h0, hn, hk, ha => by
  obtain ⟨k, rfl⟩ : ∃ m, k = m + 1 := ⟨k - 1, by omega⟩
  rw [spec_l21Part.l0, pw]
  by_cases c : i < e
  ·rw [if_pos c, if_pos c, l21Size_eq h hw h0 he k (by omega), if_pos c]
   simp only [Option.bind_some]
   by_cases c2 : mstep ws (allF cs) e i = 0
   ·rw [if_pos c2, if_pos c2]; simp
   ·rw [if_neg c2, if_neg c2, if_pos (by omega)]
    have hl := mwalk_lt ws (allF cs) e i
    rw [wrap64_of (by omega) (by omega), pw_part h hw he n _ _ k (by omega) (by omega) (by omega) (by rw [List.length_append, List.length_singleton]; omega)]
    simp
  ·rw [if_neg c, if_neg c]; simp
theorem rd_mem {xs : List Int} {i : Nat} (h : i < xs.length) : rd xs (i : Int) = xs[i] := by
  rw [rd_cast, List.getD_eq_getElem?_getD, List.getElem?_eq_getElem h]; rfl
theorem sorted_lt {xs : List Int} (h : xs.Pairwise (· < ·)) {i j : Nat} (hi : i < j) (hj : j < xs.length) : xs[i]'(by omega) < xs[j] := List.pairwise_iff_getElem.mp h i j (by omega) hj hi
theorem cmp_Less_eq (a b : Int) : cmp_Less_int.f a b = some (decide (a < b)) := by
  unfold cmp_Less_int.f cmp_isNaN_int.f
  rw [Option.bind_some, show (a != a) = false from by simp, if_neg (by simp)]
theorem search_l0 {xs : List Int} (hs : xs.Pairwise (· < ·)) (hl : xs.length ≤ 1048576) (v : Int) (d : Nat) : ∀ (lo hi k : Nat), hi - lo ≤ d → lo ≤ hi → hi ≤ xs.length → d + 2 ≤ k → (∀ i (h : i < xs.length), i < lo → xs[i] < v) → (∀ i (h : i < xs.length), hi ≤ i → v ≤ xs[i]) →
  ∃ p : Nat, p ≤ xs.length ∧ slices_BinarySearch_int_int.l0 k xs v xs.length lo hi = some ((p : Int), decide (v ∈ xs)) ∧ (∀ i (h : i < xs.length), i < p → xs[i] < v) ∧ (∀ i (h : i < xs.length), p ≤ i → v ≤ xs[i]) := by
 induction d with
 | zero =>
  intro lo hi k hd hlh hhi hk h1 h2
  obtain ⟨k, rfl⟩ : ∃ m, k = m + 1 := ⟨k - 1, by omega⟩
  obtain rfl : lo = hi := by omega
  refine ⟨lo, hhi, ?_, h1, h2⟩
  rw [slices_BinarySearch_int_int.l0, if_neg (by omega)]
  by_cases c : lo < xs.length
  ·rw [if_pos (by omega), if_pos (by omega), if_pos (by omega), rd_mem c]
   by_cases c2 : xs[lo] = v
   ·rw [if_pos c2, decide_eq_true (by rw [← c2]; exact List.getElem_mem c)]
   ·have hv := h2 lo c (Nat.le_refl _)
    rw [if_neg c2]
    simp only [slices_isNaN_int.f, Option.bind_some]
    have nm : ¬ v ∈ xs := fun hm => by
     obtain ⟨j, hj, e⟩ := List.getElem_of_mem hm
     rcases Nat.lt_trichotomy j lo with q | q | q
     ·have := h1 j hj q; omega
     ·subst q; exact c2 e
     ·have := sorted_lt hs q hj; omega
    rw [decide_eq_false nm]
    simp
  ·rw [if_neg (by omega)]
   have nm : ¬ v ∈ xs := fun hm => by
    obtain ⟨j, hj, e⟩ := List.getElem_of_mem hm
    have := h1 j hj (by omega); omega
   rw [decide_eq_false nm]
 | succ d ih =>
  intro lo hi k hd hlh hhi hk h1 h2
  by_cases c : lo = hi
  ·subst c
   exact ih lo lo k (by omega) (by omega) hhi (by omega) h1 h2
  obtain ⟨k, rfl⟩ : ∃ m, k = m + 1 := ⟨k - 1, by omega⟩
  obtain ⟨m, hm⟩ : ∃ m, m = (lo + hi) / 2 := ⟨_, rfl⟩
  have hm2 : m < xs.length := by omega
  have hm3 : lo ≤ m := by omega
  have hm4 : m < hi := by omega
  have e1 : wrap64 ((lo : Int) + hi) = ((lo + hi : Nat) : Int) := by rw [wrap64_of (by omega) (by omega)]; omega
  have e2 : IntKind.u64.wrap ((lo + hi : Nat) : Int) = ((lo + hi : Nat) : Int) := by rw [IntKind.wrap_u64]; omega
  have e3 : wrap64 (((lo + hi : Nat) : Int) / 2) = (m : Int) := by
   have e4 : ((lo + hi : Nat) : Int) / 2 = (m : Int) := by rw [hm]; exact (Int.natCast_ediv (lo + hi) 2).symm
   rw [e4]
   exact wrap64_of (by omega) (by omega)
  clear hm
  rw [slices_BinarySearch_int_int.l0, if_pos (by omega), e1, e2, e3, if_pos (by omega), if_pos (by omega), rd_mem hm2]
  by_cases c2 : xs[m] < v
  ·have hc : cmp_Less_int.f xs[m] v = some true := by rw [cmp_Less_eq, decide_eq_true c2]
   rw [hc]
   simp only [Option.bind_some, if_true]
   rw [wrap_inc (n := 1048577) (by omega) (by omega) (by omega)]
   have := ih (m + 1) hi k (by omega) (by omega) hhi (by omega) (fun i h hi' => by
    rcases Nat.lt_or_ge i m with q | q
    ·have := sorted_lt hs q hm2; omega
    ·obtain rfl : i = m := by omega
     exact c2) h2
   rw [show ((m + 1 : Nat) : Int) = (m : Int) + 1 by omega] at this
   exact this
  ·have hc : cmp_Less_int.f xs[m] v = some false := by rw [cmp_Less_eq, decide_eq_false c2]
   rw [hc]
   simp only [Option.bind_some]
   rw [if_neg (by simp)]
   exact ih lo m k (by omega) (by omega) (by omega) (by omega) h1 (fun i h hi' => by
    rcases Nat.eq_or_lt_of_le hi' with q | q
    ·subst q; omega
    ·have := sorted_lt hs q h; omega)
theorem search_eq {xs : List Int} (hs : xs.Pairwise (· < ·)) (hl : xs.length ≤ 1048576) (v : Int) : ∃ p : Nat, p ≤ xs.length ∧ (∀ k, xs.length + 2 ≤ k → slices_BinarySearch_int_int.f k xs v = some ((p : Int), decide (v ∈ xs))) ∧ (∀ i (h : i < xs.length), i < p → xs[i] < v) ∧ (∀ i (h : i < xs.length), p ≤ i → v ≤ xs[i]) := by
 obtain ⟨p, hp, he, h1, h2⟩ := search_l0 hs hl v xs.length 0 xs.length (xs.length + 2) (by omega) (by omega) (by omega) (by omega) (fun i h hi => by omega) (fun i h hi => by omega)
 refine ⟨p, hp, fun k hk => ?_, h1, h2⟩
 have := at_rounds (g := fun k => slices_BinarySearch_int_int.f k xs v) (fun k => slices_BinarySearch_int_int.mono xs v k) hk (r := ((p : Int), decide (v ∈ xs))) (by unfold slices_BinarySearch_int_int.f; exact he)
 exact this
end Go.Proofs.Ytmniglgahodghaa.Pure
namespace Go.Proofs.Ytmniglgahodghaa.Pure
open Go.RowKit Go.Proofs.Ytmniglgahodghaa.K Go.Proofs.YtmniglgahodghaaW.PrintWords Go.Proofs.YtmniglgahodghaaW.PrintLast Go.Proofs.YtmniglgahodghaaW.PrintMore
set_option linter.unusedVariables false
set_option linter.unusedSimpArgs false
structure Bnd (cs : Cs) (ws : List Int) (y t o : Int) (cards : List Bool) : Prop where
 ok : csOk cs = true
 y0 : 0 ≤ y
 y1 : y ≤ 40
 n0 : 14 ≤ (ws.length : Int) - y
 n1 : (ws.length : Int) - y ≤ 120
 t0 : 0 ≤ t
 t1 : t ≤ y
 o0 : y ≤ o
 o1 : o ≤ ws.length
 cd : (cards.length : Int) = ((ws.length : Int) - y + 3) / 4
structure Wlk (cs : Cs) (ws : List Int) (W : List Int) : Prop where
 mem : ∀ x ∈ W, ∃ e : Int, e ≤ ws.length ∧ 0 ≤ x ∧ x < e ∧ 0 < mstep ws (allF cs) e x ∧ mstep ws (allF cs) e x ≤ e - x
 srt : W.Pairwise (· < ·)
 len : W.length ≤ 200
def startsL (W : List Int) (n : Nat) : List Bool := (List.range n).map (fun j : Nat => decide ((j : Int) ∈ W))
theorem startsL_len (W : List Int) (n : Nat) : (startsL W n).length = n := by simp [startsL]
theorem startsL_at (W : List Int) (n : Nat) {j : Int} (h0 : 0 ≤ j) (h1 : j < n) : rdOf false (startsL W n) j = decide (j ∈ W) := by
 unfold rdOf startsL
 rw [List.getD_eq_getElem?_getD, List.getElem?_map, List.getElem?_range (by omega)]
 show decide (((j.toNat : Nat) : Int) ∈ W) = _
 rw [Int.toNat_of_nonneg h0]
theorem starts_l0 (W : List Int) (n : Nat) (hW : ∀ x ∈ W, 0 ≤ x ∧ x < (n : Int)) (hl : W.length ≤ 1048576) (d : Nat) : ∀ (k i : Nat) (S : List Bool), i + d = W.length → d < k → S.length = n → (∀ j : Nat, j < n → S.getD j false = decide ((j : Int) ∈ W.take i)) →
  spec_l21Starts.l0 k W S i = some (startsL W n) := by
 induction d with
 | zero =>
  intro k i S hi hk hS hj
  obtain ⟨k, rfl⟩ : ∃ m, k = m + 1 := ⟨k - 1, by omega⟩
  rw [spec_l21Starts.l0, if_neg (by omega)]
  congr 1
  refine List.ext_getElem (by rw [hS, startsL_len]) (fun j h1 h2 => ?_)
  have := hj j (by omega)
  rw [List.getD_eq_getElem?_getD, List.getElem?_eq_getElem h1, show i = W.length by omega, List.take_length] at this
  have e2 : (startsL W n)[j] = decide ((j : Int) ∈ W) := by simp [startsL]
  rw [e2]; exact this
 | succ d ih =>
  intro k i S hi hk hS hj
  obtain ⟨k, rfl⟩ : ∃ m, k = m + 1 := ⟨k - 1, by omega⟩
  have hlt : i < W.length := by omega
  have hx := hW W[i] (List.getElem_mem hlt)
  rw [spec_l21Starts.l0, if_pos (by omega), if_pos (by omega), rd_mem hlt, if_pos hx.1, if_pos (by rw [hS]; exact hx.2), wrap_inc (n := 1048577) (by omega) (by omega) (by omega)]
  have := ih k (i + 1) (S.set W[i].toNat true) (by omega) (by omega) (by rw [List.length_set, hS]) (fun j hj2 => by
   have h3 := hj j hj2
   rw [List.take_succ_eq_append_getElem hlt]
   rw [List.getD_eq_getElem?_getD] at h3 ⊢
   rw [List.getElem?_set]
   by_cases q : W[i].toNat = j
   ·rw [if_pos q, if_pos (by omega)]
    have : (j : Int) ∈ W.take i ++ [W[i]] := by rw [List.mem_append, List.mem_singleton]; right; omega
    rw [decide_eq_true this]; rfl
   ·rw [if_neg q, h3]
    have : (j : Int) ∈ W.take i ++ [W[i]] ↔ (j : Int) ∈ W.take i := by
     rw [List.mem_append, List.mem_singleton]
     constructor
     ·rintro (z | z)
      ·exact z
      ·omega
     ·exact Or.inl
    simp only [this])
  rw [show ((i + 1 : Nat) : Int) = (i : Int) + 1 by omega] at this
  exact this
theorem starts_eq {W : List Int} {n : Nat} (hW : ∀ x ∈ W, 0 ≤ x ∧ x < (n : Int)) (hl : W.length ≤ 1000) (hn : n ≤ 1048576) (k : Nat) (hk : 1001 ≤ k) : spec_l21Starts.f k n W = some (startsL W n) := by
 unfold spec_l21Starts.f
 rw [if_pos (by omega), if_pos (by omega), Int.toNat_natCast]
 have := starts_l0 W n hW (by omega) W.length k 0 (List.replicate n false) (by omega) (by omega) (by simp) (fun j hj => by simp [List.getD_eq_getElem?_getD, hj])
 exact this
def ldB (cs : Cs) (c k : Int) : Bool := if c = -1 then false else if c = -2 then true else (rd (cfl cs c) k != 1)
theorem thing_facts {cs : Cs} {ws : List Int} {y t o : Int} {cards : List Bool} (hb : Bnd cs ws y t o cards) {W : List Int} (hw : Wlk cs ws W) (m : Mm) (hm : m = ⟨ws, y, t, o, cards, allF cs, W.map (· + 1)⟩) {x : Int} (hx : x ∈ W) :
    ∃ c hd cnt : Int, c = rd ws x ∧ 0 ≤ x ∧ (hd = 1 ∨ hd = 2) ∧ 0 ≤ cnt ∧ cnt ≤ 8 ∧ x + hd + cnt ≤ ws.length ∧ thing_count.f m (x + 1) = some cnt ∧ thing_first.f m (x + 1) = some (x + hd) ∧ spec_l21Head.f c = some hd ∧
      (∀ k, 20 ≤ k → spec_l21Size.f k cs ws x ws.length = some (hd + cnt)) ∧ (∀ k, 0 ≤ k → k < cnt → thing_leads.f m (x + 1) k = some (ldB cs c k)) ∧ (c = -1 ∨ c = -2 ∨ (0 ≤ c ∧ c < cs.length ∧ hd = 1 ∧ cnt = (cfl cs c).length)) := by
  obtain ⟨e, he, h0, h1, h2, h3⟩ := hw.mem x hx
  have n0 := hb.n0; have n1 := hb.n1; have y0 := hb.y0; have y1 := hb.y1
  have hl := csOk_len hb.ok
  have hc : thing_class.f m (x + 1) = some (rd ws x) := by
    unfold thing_class.f
    rw [hm]
    show (if 1 ≤ x + 1 ∧ x + 1 ≤ (ws.length : Int) ∧ ws.length ≤ 281474976710656 then some (rd ws (x + 1 - 1)) else none) = _
    rw [if_pos (by omega), show x + 1 - 1 = x by omega]
  obtain ⟨c, hcc⟩ : ∃ c, c = rd ws x := ⟨_, rfl⟩
  rw [← hcc] at hc
  have hsz : ∀ k, 20 ≤ k → spec_l21Size.f k cs ws x ws.length = some (mstep ws (allF cs) ws.length x) := fun k hk => by
    rw [l21Size_eq hb.ok (by omega) h0 (Int.le_refl _) k hk, if_pos (by omega)]
  by_cases c0 : c < 0
  · have hs : mstep ws (allF cs) e x = 2 + rd ws (x + 1) ∧ (c = -1 ∨ c = -2) ∧ x + 1 < e ∧ 0 ≤ rd ws (x + 1) ∧ rd ws (x + 1) ≤ 6 := by
      unfold mstep at h2 ⊢
      rw [← hcc] at h2 ⊢
      rw [if_pos c0] at h2 ⊢
      by_cases c1 : x + 1 < e
      · rw [if_pos c1] at h2 ⊢
        by_cases c2 : c = -1 ∨ c = -2
        · by_cases c3 : 0 ≤ rd ws (x + 1) ∧ rd ws (x + 1) ≤ 6
          · have m1 : measN (allF cs) c (rd ws (x + 1)) = 2 + rd ws (x + 1) := by unfold measN; rw [if_pos c2, if_pos c3]
            rw [m1] at h2 ⊢
            split at h2
            · rename_i z; rw [if_pos z]; exact ⟨rfl, c2, c1, c3.1, c3.2⟩
            · omega
          · have m1 : measN (allF cs) c (rd ws (x + 1)) = 0 := by unfold measN; rw [if_pos c2, if_neg c3]
            rw [m1] at h2
            split at h2 <;> omega
        · have m1 : measN (allF cs) c (rd ws (x + 1)) = 0 := by unfold measN; rw [if_neg c2, if_neg (by omega)]
          rw [m1] at h2
          split at h2 <;> omega
      · rw [if_neg c1] at h2; omega
    obtain ⟨s1, s2, s3, s4, s5⟩ := hs
    refine ⟨c, 2, rd ws (x + 1), hcc, h0, Or.inr rfl, s4, by omega, by omega, ?_, ?_, ?_, ?_, ?_, ?_⟩
    · unfold thing_count.f
      rw [hc, Option.bind_some, if_pos c0, hm]
      show (if x + 1 < (ws.length : Int) then some (rd ws (x + 1)) else none) = _
      rw [if_pos (by omega)]
    · unfold thing_first.f
      rw [hc, Option.bind_some, if_pos c0, show x + 1 + 1 = x + 2 by omega]
    · unfold spec_l21Head.f; rw [if_pos c0]
    · intro k hk
      rw [hsz k hk]
      unfold mstep
      rw [← hcc, if_pos c0, if_pos (by omega)]
      have m1 : measN (allF cs) c (rd ws (x + 1)) = 2 + rd ws (x + 1) := by unfold measN; rw [if_pos s2, if_pos ⟨s4, s5⟩]
      rw [m1, if_pos (by omega)]
    · intro k _ _
      unfold thing_leads.f ldB
      rw [hc, Option.bind_some]
      rcases s2 with z | z
      · rw [if_pos z, if_pos z]
      · rw [if_neg (by omega), if_pos z, if_neg (by omega), if_pos z]
    · rcases s2 with z | z
      · exact Or.inl z
      · exact Or.inr (Or.inl z)
  · have c1 : c < cs.length ∧ mstep ws (allF cs) e x = 1 + (cfl cs c).length := by
      unfold mstep at h2 ⊢
      rw [← hcc] at h2 ⊢
      rw [if_neg c0] at h2 ⊢
      by_cases z : c < (cs.length : Int)
      · rw [measN_c 0 (by omega) z] at h2 ⊢
        split at h2
        · rename_i q; rw [if_pos q]; exact ⟨z, rfl⟩
        · omega
      · have m1 : measN (allF cs) c 0 = 0 := by unfold measN; rw [if_neg (by omega), allF_len, if_neg (by omega)]
        rw [m1] at h2
        split at h2 <;> omega
    have hf := cfl_eq hb.ok (a := c) (by omega) c1.1
    refine ⟨c, 1, (cfl cs c).length, hcc, h0, Or.inl rfl, by omega, by omega, by omega, ?_, ?_, ?_, ?_, ?_, Or.inr (Or.inr ⟨by omega, c1.1, rfl, rfl⟩)⟩
    · unfold thing_count.f
      rw [hc, Option.bind_some, if_neg c0, hm]
      show (if c < ((allF cs).length : Int) ∧ (allF cs).length ≤ 281474976710656 then some (((rdL (allF cs) c).length : Nat) : Int) else none) = _
      rw [allF_len, if_pos ⟨c1.1, by omega⟩, allF_at cs (by omega) c1.1]
    · unfold thing_first.f
      rw [hc, Option.bind_some, if_neg c0]
    · unfold spec_l21Head.f; rw [if_neg c0]
    · intro k hk
      rw [hsz k hk]
      unfold mstep
      rw [← hcc, if_neg c0, measN_c 0 (by omega) c1.1, if_pos (by omega)]
    · intro k k0 k1
      unfold thing_leads.f ldB
      have q1 : ¬ c = -1 := by omega
      have q2 : ¬ c = -2 := by omega
      rw [hc, Option.bind_some]
      simp only [if_neg q1, if_neg q2]
      rw [hm]
      show (if 0 ≤ c ∧ c < ((allF cs).length : Int) ∧ 0 ≤ k ∧ k < ((rdL (allF cs) c).length : Int) then some (rd (rdL (allF cs) c) k != 1) else none) = _
      rw [allF_len, allF_at cs (by omega) c1.1, if_pos ⟨by omega, c1.1, k0, k1⟩]
def refsL (cs : Cs) (c hd s : Int) : List Bool := (List.range s.toNat).map (fun j : Nat => decide (hd ≤ j) && ldB cs c (j - hd))
theorem refsL_at (cs : Cs) (c hd s : Int) {j : Int} (h0 : hd ≤ j) (h00 : 0 ≤ j) (h1 : j < s) : rdOf false (refsL cs c hd s) j = ldB cs c (j - hd) := by
 unfold rdOf refsL
 rw [List.getD_eq_getElem?_getD, List.getElem?_map, List.getElem?_range (by omega)]
 show (decide (hd ≤ ((j.toNat : Nat) : Int)) && ldB cs c (((j.toNat : Nat) : Int) - hd)) = _
 rw [Int.toNat_of_nonneg h00, decide_eq_true h0, Bool.true_and]
theorem refs_l0 {cs : Cs} (h : csOk cs = true) {c hd : Int} {s : Nat} (hs : s ≤ 100) (hh : hd = 1 ∨ hd = 2) (hc : c = -1 ∨ c = -2 ∨ (0 ≤ c ∧ c < cs.length ∧ hd = 1 ∧ (s : Int) = 1 + (cfl cs c).length)) (d : Nat) : ∀ (k j : Nat) (R : List Bool), j + d = s → hd ≤ (j : Int) → d + 30 ≤ k → R.length = s → (∀ i : Nat, i < s → R.getD i false = (decide (hd ≤ (i : Int) ∧ i < j) && ldB cs c ((i : Int) - hd))) →
  spec_l21Refs.l0 k cs R c j = some (refsL cs c hd s) := by
 induction d with
 | zero =>
  intro k j R hj hj2 hk hR hi
  obtain ⟨k, rfl⟩ : ∃ m, k = m + 1 := ⟨k - 1, by omega⟩
  rw [spec_l21Refs.l0, if_neg (by omega)]
  congr 1
  refine List.ext_getElem (by rw [hR]; simp [refsL]) (fun i h1 h2 => ?_)
  have e1 := hi i (by omega)
  rw [List.getD_eq_getElem?_getD, List.getElem?_eq_getElem h1] at e1
  have e2 : (refsL cs c hd s)[i] = (decide (hd ≤ (i : Int)) && ldB cs c ((i : Int) - hd)) := by simp [refsL]
  rw [e2]
  have e3 : (hd ≤ (i : Int) ∧ i < j) ↔ hd ≤ (i : Int) := ⟨fun z => z.1, fun z => ⟨z, by omega⟩⟩
  simp only [e3] at e1
  exact e1
 | succ d ih =>
  intro k j R hj hj2 hk hR hi
  obtain ⟨k, rfl⟩ : ∃ m, k = m + 1 := ⟨k - 1, by omega⟩
  have step : ∀ b, b = ldB cs c ((j : Int) - hd) → spec_l21Refs.l0 k cs (R.set ((j : Int)).toNat b) c (wrap64 ((j : Int) + 1)) = some (refsL cs c hd s) := fun b hbb => by
   rw [wrap_inc (n := 1000) (by omega) (by omega) (by omega), Int.toNat_natCast]
   have := ih k (j + 1) (R.set j b) (by omega) (by omega) (by omega) (by rw [List.length_set, hR]) (fun i hi2 => by
    have h3 := hi i hi2
    rw [List.getD_eq_getElem?_getD] at h3 ⊢
    rw [List.getElem?_set]
    by_cases q : j = i
    ·rw [if_pos q, if_pos (by omega)]
     subst q
     rw [decide_eq_true (show hd ≤ (j : Int) ∧ j < j + 1 from ⟨hj2, by omega⟩), Bool.true_and, hbb]; rfl
    ·rw [if_neg q, h3]
     have : (hd ≤ (i : Int) ∧ i < j + 1) ↔ (hd ≤ (i : Int) ∧ i < j) := by omega
     simp only [this])
   rw [show ((j + 1 : Nat) : Int) = (j : Int) + 1 by omega] at this
   exact this
  rw [spec_l21Refs.l0, if_pos (by omega)]
  rcases hc with z | z | z
  ·rw [if_neg (by omega), if_neg (by omega), if_pos (by omega)]
   exact step _ (by unfold ldB; rw [if_pos z])
  ·rw [if_pos z, if_pos (by omega)]
   exact step _ (by unfold ldB; rw [if_neg (by omega), if_pos z])
  ·obtain ⟨z0, z1, z2, z3⟩ := z
   rw [if_neg (by omega), if_pos (by omega), fields_same, (cfl_eq h z0 z1).2 k (by omega)]
   simp only [Option.bind_some]
   rw [wrap64_of (n := (j : Int) - 1) (by omega) (by omega), if_pos (by omega), if_pos (by omega), if_pos (by omega)]
   exact step _ (by unfold ldB; rw [if_neg (by omega), if_neg (by omega), z2])
end Go.Proofs.Ytmniglgahodghaa.Pure
namespace Go.Proofs.Ytmniglgahodghaa.Pure
open Go.RowKit Go.Proofs.Ytmniglgahodghaa.K Go.Proofs.YtmniglgahodghaaW.PrintWords Go.Proofs.YtmniglgahodghaaW.PrintLast Go.Proofs.YtmniglgahodghaaW.PrintMore
set_option linter.unusedVariables false
set_option linter.unusedSimpArgs false
theorem mem_map1 (W : List Int) (v : Int) : v ∈ W.map (· + 1) ↔ v - 1 ∈ W := by
 rw [List.mem_map]
 constructor
 ·rintro ⟨a, ha, rfl⟩; rw [show a + 1 - 1 = a by omega]; exact ha
 ·intro h; exact ⟨v - 1, h, by omega⟩
theorem map1_sorted {W : List Int} (h : W.Pairwise (· < ·)) : (W.map (· + 1)).Pairwise (· < ·) := by
  rw [List.pairwise_map]; exact h.imp (fun hab => by omega)
theorem has_eq {cs : Cs} {ws W : List Int} (hw : Wlk cs ws W) (m : Mm) (hm : m.begins = W.map (· + 1)) (v : Int) : ∀ q, 300 ≤ q → memory_has.f q m v = some (decide (v - 1 ∈ W)) := by
 intro q hq
 have hl := hw.len
 obtain ⟨p, _, h, _, _⟩ := search_eq (map1_sorted hw.srt) (by rw [List.length_map]; omega) v
 unfold memory_has.f
 rw [hm, h q (by rw [List.length_map]; omega), Option.bind_some]
 simp only [mem_map1]
theorem wlk_range {cs : Cs} {ws W : List Int} (hw : Wlk cs ws W) {x : Int} (hx : x ∈ W) : 0 ≤ x ∧ x < ws.length := by
  obtain ⟨e, h1, h2, h3, _⟩ := hw.mem x hx
  omega
theorem lead_eq {cs : Cs} {ws W : List Int} (hw : Wlk cs ws W) (hn : ws.length ≤ 1048576) (v : Int) : spec_l21Lead.f (startsL W ws.length) v = some (decide (v = 0) || decide (v - 1 ∈ W)) := by
 unfold spec_l21Lead.f
 by_cases c0 : v = 0
 ·rw [if_pos c0, decide_eq_true c0]; rfl
 rw [if_neg c0, spec_l6In_eq, startsL_len, decide_eq_false c0, Bool.false_or]
 simp only [Option.bind_some, decide_eq_true_eq]
 by_cases c1 : 1 ≤ v ∧ v ≤ (ws.length : Int)
 ·rw [if_pos c1, wrap64_of (n := v - 1) (by omega) (by omega), if_pos (by omega), if_pos (by omega), startsL_at W ws.length (by omega) (by omega)]
 ·rw [if_neg c1, decide_eq_false (fun hv => c1 (by have := wlk_range hw hv; omega))]
theorem word_eq {cs : Cs} {ws : List Int} {y t o : Int} {cards : List Bool} (hb : Bnd cs ws y t o cards) {W : List Int} (hw : Wlk cs ws W) (m : Mm) (hm : m = ⟨ws, y, t, o, cards, allF cs, W.map (· + 1)⟩)
  {x hd cnt c : Int} (h0 : 0 ≤ x) (hhd : hd = 1 ∨ hd = 2) (hcn : 0 ≤ cnt) (hsz : x + hd + cnt ≤ ws.length) (hfi : thing_first.f m (x + 1) = some (x + hd)) (hle : ∀ k, 0 ≤ k → k < cnt → thing_leads.f m (x + 1) k = some (ldB cs c k))
  (R : List Bool) (hR : R = refsL cs c hd (hd + cnt)) {k : Int} (k0 : 0 ≤ k) (k1 : k < cnt) :
  ∃ b, (∀ q, 300 ≤ q → wordAt q m (x + 1) k = some b) ∧ ∀ κ : Nat, spec_l21Thing.l0 (κ + 2) (startsL W ws.length) x R (hd + k) ws y t o cards = if b = true then spec_l21Thing.l0 κ (startsL W ws.length) x R (hd + k + 1) ws y t o cards else some false := by
 have n0 := hb.n0; have n1 := hb.n1; have y0 := hb.y0; have y1 := hb.y1; have cd := hb.cd
 have hRl : (R.length : Int) = hd + cnt := by rw [hR]; unfold refsL; rw [List.length_map, List.length_range]; omega
 have hRk : rdOf false R (hd + k) = ldB cs c k := by rw [hR, refsL_at cs c hd (hd + cnt) (by omega) (by omega) (by omega), show hd + k - hd = k by omega]
 obtain ⟨v, hv⟩ : ∃ v, v = rd ws (x + (hd + k)) := ⟨_, rfl⟩
 have hmw : m.words = ws := by rw [hm]
 have hA : ∀ q, wordAt q m (x + 1) k = if ldB cs c k = true then (if v = 0 then some true else (memory_has.f q m v).bind fun h => if h = true then cardOk m (x + 1) v (x + (hd + k)) else some false) else impl_isWord.f v := fun q => by
  unfold wordAt
  rw [hfi, Option.bind_some, hmw, if_pos (by omega), hle k k0 k1, Option.bind_some, show x + hd + k = x + (hd + k) by omega, ← hv]
 have w1 : wrap64 (x + (hd + k)) = x + (hd + k) := wrap64_of (by omega) (by omega)
 have w2 : wrap64 (hd + k + 1) = hd + k + 1 := wrap64_of (by omega) (by omega)
 have hB : ∀ κ : Nat, spec_l21Thing.l0 (κ + 2) (startsL W ws.length) x R (hd + k) ws y t o cards = if ldB cs c k = true then spec_l21Thing.j1 (κ + 1) (startsL W ws.length) x R (hd + k) v (!(decide (v = 0) || decide (v - 1 ∈ W))) ws y t o cards else spec_l21Thing.j1 (κ + 1) (startsL W ws.length) x R (hd + k) v (!(decide (-128 ≤ v ∧ v ≤ 127))) ws y t o cards := fun κ => by
  rw [spec_l21Thing.l0, if_pos (by omega), w1, if_pos (by omega), if_pos (by omega), if_pos (by omega), hRk, ← hv, lead_eq hw (by omega)]
  simp only [Option.bind_some]
  by_cases c0 : ldB cs c k = true
  ·rw [if_pos c0, if_pos c0]
   cases (decide (v = 0) || decide (v - 1 ∈ W)) <;> rfl
  ·rw [if_neg c0, if_neg c0]
   unfold spec_l1Word.f
   rw [spec_l6In_eq]
   rfl
 have hJ : ∀ (κ : Nat) (bad : Bool), spec_l21Thing.j1 (κ + 1) (startsL W ws.length) x R (hd + k) v bad ws y t o cards = if bad = true then some false else (if ldB cs c k = true then (if x ≥ y then (if 1 ≤ v ∧ v ≤ y then (if rdOf false cards ((x + (hd + k) - y) / 4) = true then spec_l21Thing.l0 κ (startsL W ws.length) x R (hd + k + 1) ws y t o cards else some false) else spec_l21Thing.l0 κ (startsL W ws.length) x R (hd + k + 1) ws y t o cards) else spec_l21Thing.l0 κ (startsL W ws.length) x R (hd + k + 1) ws y t o cards) else spec_l21Thing.l0 κ (startsL W ws.length) x R (hd + k + 1) ws y t o cards) := fun κ bad => by
  rw [spec_l21Thing.j1, w2, w1]
  cases bad with
  | true => rw [if_pos rfl, if_pos rfl]
  | false =>
   simp only [Bool.false_eq_true, if_false]
   rw [if_pos (show 0 ≤ hd + k by omega), if_pos (show hd + k < (R.length : Int) by omega), hRk]
   by_cases c0 : ldB cs c k = true
   ·rw [if_pos c0, if_pos c0]
    by_cases c1 : x ≥ y
    ·rw [if_pos c1, if_pos c1, spec_l6In_eq]
     simp only [Option.bind_some, decide_eq_true_eq]
     by_cases c2 : 1 ≤ v ∧ v ≤ y
     ·rw [if_pos c2, if_pos c2, wrap64_of (n := x + (hd + k) - y) (by omega) (by omega), Int.tdiv_eq_ediv_of_nonneg (by omega), wrap64_of (n := (x + (hd + k) - y) / 4) (by omega) (by omega), if_pos (by omega), if_pos (by omega)]
     ·rw [if_neg c2, if_neg c2]
    ·rw [if_neg c1, if_neg c1]
   ·rw [if_neg c0, if_neg c0]
 by_cases c0 : ldB cs c k = true
 case neg =>
  refine ⟨decide (-128 ≤ v ∧ v ≤ 127), fun q hq => ?_, fun κ => ?_⟩
  ·rw [hA, if_neg c0]
   unfold impl_isWord.f
   by_cases z : v ≥ -128
   ·rw [if_pos z]; simp [show -128 ≤ v from z]
   ·rw [if_neg z]; simp [show ¬ -128 ≤ v from z]
  ·rw [hB, if_neg c0, hJ, if_neg c0]
   cases decide (-128 ≤ v ∧ v ≤ 127) <;> rfl
 case pos =>
 by_cases c1 : v = 0
 ·refine ⟨true, fun q hq => by rw [hA, if_pos c0, if_pos c1], fun κ => ?_⟩
  rw [hB, if_pos c0, hJ, decide_eq_true c1, if_pos c0]
  rw [if_neg (by simp), if_pos rfl]
  by_cases c2 : x ≥ y
  ·rw [if_pos c2, if_neg (by omega)]
  ·rw [if_neg c2]
 have hq0 := has_eq hw m (by rw [hm]) v
 by_cases c2 : v - 1 ∈ W
 case neg =>
  refine ⟨false, fun q hq => by rw [hA, if_pos c0, if_neg c1, hq0 q hq, decide_eq_false c2]; rfl, fun κ => ?_⟩
  rw [hB, if_pos c0, hJ, decide_eq_false c1, decide_eq_false c2]
  rfl
 case pos =>
 have hvr := wlk_range hw c2
 have hA2 : ∀ q, 300 ≤ q → wordAt q m (x + 1) k = cardOk m (x + 1) v (x + (hd + k)) := fun q hq => by
  rw [hA, if_pos c0, if_neg c1, hq0 q hq, decide_eq_true c2]; rfl
 have hB2 : ∀ κ : Nat, spec_l21Thing.l0 (κ + 2) (startsL W ws.length) x R (hd + k) ws y t o cards = (if x ≥ y then (if 1 ≤ v ∧ v ≤ y then (if rdOf false cards ((x + (hd + k) - y) / 4) = true then spec_l21Thing.l0 κ (startsL W ws.length) x R (hd + k + 1) ws y t o cards else some false) else spec_l21Thing.l0 κ (startsL W ws.length) x R (hd + k + 1) ws y t o cards) else spec_l21Thing.l0 κ (startsL W ws.length) x R (hd + k + 1) ws y t o cards) := fun κ => by
  rw [hB, if_pos c0, hJ, decide_eq_true c2, if_pos c0]
  rw [if_neg (by simp)]
 have hC : cardOk m (x + 1) v (x + (hd + k)) = if x ≥ y then (if 1 ≤ v ∧ v ≤ y then some (rdOf false cards ((x + (hd + k) - y) / 4)) else some true) else some true := by
  unfold cardOk
  rw [hm]
  show (if x + 1 > y then (if v > y then some true else (if 0 ≤ wrap64 (Int.tdiv (wrap64 (x + (hd + k) - y)) 4) ∧ wrap64 (Int.tdiv (wrap64 (x + (hd + k) - y)) 4) < (cards.length : Int) then some (rdOf false cards (wrap64 (Int.tdiv (wrap64 (x + (hd + k) - y)) 4))) else none)) else some true) = _
  by_cases z1 : x ≥ y
  ·rw [if_pos (show x + 1 > y by omega), if_pos z1]
   by_cases z2 : v > y
   ·rw [if_pos z2, if_neg (by omega)]
   ·rw [if_neg z2, if_pos (show 1 ≤ v ∧ v ≤ y by omega), wrap64_of (n := x + (hd + k) - y) (by omega) (by omega), Int.tdiv_eq_ediv_of_nonneg (by omega), wrap64_of (n := (x + (hd + k) - y) / 4) (by omega) (by omega), if_pos (by omega)]
  ·rw [if_neg (show ¬ x + 1 > y by omega), if_neg z1]
 by_cases z1 : x ≥ y
 ·by_cases z2 : 1 ≤ v ∧ v ≤ y
  ·refine ⟨rdOf false cards ((x + (hd + k) - y) / 4), fun q hq => by rw [hA2 q hq, hC, if_pos z1, if_pos z2], fun κ => by rw [hB2, if_pos z1, if_pos z2]⟩
  ·exact ⟨true, fun q hq => by rw [hA2 q hq, hC, if_pos z1, if_neg z2], fun κ => by rw [hB2, if_pos z1, if_neg z2, if_pos rfl]⟩
 ·exact ⟨true, fun q hq => by rw [hA2 q hq, hC, if_neg z1], fun κ => by rw [hB2, if_neg z1, if_pos rfl]⟩
theorem thing_eq {cs : Cs} {ws : List Int} {y t o : Int} {cards : List Bool} (hb : Bnd cs ws y t o cards) {W : List Int} (hw : Wlk cs ws W) (m : Mm) (hm : m = ⟨ws, y, t, o, cards, allF cs, W.map (· + 1)⟩) {x : Int} (hx : x ∈ W) :
  ∃ b, (∀ q, 300 ≤ q → wordsOk.f q m (x + 1) = some b) ∧ ∀ k, 200 ≤ k → spec_l21Thing.f k cs ws y t o cards (startsL W ws.length) x = some b := by
 obtain ⟨c, hd, cnt, hc, h0, hhd, hcn, hcn8, hsz, hco, hfi, hhe, hl21, hle, hcc⟩ := thing_facts hb hw m hm hx
 have n0 := hb.n0; have n1 := hb.n1; have y0 := hb.y0; have y1 := hb.y1
 have key : ∀ d : Nat, ∀ k : Int, 0 ≤ k → k + d = cnt → ∃ b, (∀ q, 300 ≤ q → ∀ j : Nat, d + 1 ≤ j → wordsOk.l q m (x + 1) cnt j k = some b) ∧ ∀ κ : Nat, 2 * d + 1 ≤ κ → spec_l21Thing.l0 κ (startsL W ws.length) x (refsL cs c hd (hd + cnt)) (hd + k) ws y t o cards = some b := by
  intro d
  induction d with
  | zero =>
   intro k k0 kd
   refine ⟨true, fun q hq j hj => ?_, fun κ hκ => ?_⟩
   ·obtain ⟨j, rfl⟩ : ∃ i, j = i + 1 := ⟨j - 1, by omega⟩
    rw [wordsOk.l, if_neg (by omega)]
   ·obtain ⟨κ, rfl⟩ : ∃ i, κ = i + 1 := ⟨κ - 1, by omega⟩
    have hRl : ((refsL cs c hd (hd + cnt)).length : Int) = hd + cnt := by unfold refsL; rw [List.length_map, List.length_range]; omega
    rw [spec_l21Thing.l0, if_neg (by omega)]
  | succ d ih =>
   intro k k0 kd
   obtain ⟨b, hb1, hb2⟩ := word_eq hb hw m hm h0 hhd hcn hsz hfi hle _ rfl k0 (show k < cnt by omega)
   obtain ⟨b', h1, h2⟩ := ih (k + 1) (by omega) (by omega)
   cases b with
   | true =>
    refine ⟨b', fun q hq j hj => ?_, fun κ hκ => ?_⟩
    ·obtain ⟨j, rfl⟩ : ∃ i, j = i + 1 := ⟨j - 1, by omega⟩
     rw [wordsOk.l, if_pos (by omega), hb1 q hq, Option.bind_some, if_pos rfl]
     exact h1 q hq j (by omega)
    ·obtain ⟨κ, rfl⟩ : ∃ i, κ = i + 2 := ⟨κ - 2, by omega⟩
     rw [hb2 κ, if_pos rfl, show hd + k + 1 = hd + (k + 1) by omega]
     exact h2 κ (by omega)
   | false =>
    refine ⟨false, fun q hq j hj => ?_, fun κ hκ => ?_⟩
    ·obtain ⟨j, rfl⟩ : ∃ i, j = i + 1 := ⟨j - 1, by omega⟩
     rw [wordsOk.l, if_pos (by omega), hb1 q hq, Option.bind_some, if_neg (by simp)]
    ·obtain ⟨κ, rfl⟩ : ∃ i, κ = i + 2 := ⟨κ - 2, by omega⟩
     rw [hb2 κ, if_neg (by simp)]
 obtain ⟨b, h1, h2⟩ := key cnt.toNat 0 (by omega) (by omega)
 refine ⟨b, fun q hq => ?_, fun k hk => ?_⟩
 ·unfold wordsOk.f
  rw [hco, Option.bind_some, if_pos (by omega)]
  exact h1 q hq _ (by omega)
 ·unfold spec_l21Thing.f spec_l21Refs.f
  rw [hl21 k (by omega)]
  simp only [Option.bind_some]
  rw [if_pos (by omega), if_pos (by omega), if_pos h0, if_pos (by omega), ← hc, hhe]
  simp only [Option.bind_some]
  have hr := refs_l0 (cs := cs) hb.ok (c := c) (hd := hd) (s := (hd + cnt).toNat) (by omega) hhd (by rcases hcc with z | z | z; exact Or.inl z; exact Or.inr (Or.inl z); exact Or.inr (Or.inr ⟨z.1, z.2.1, z.2.2.1, by omega⟩)) cnt.toNat k hd.toNat (List.replicate (hd + cnt).toNat false) (by omega) (by omega) (by omega) (by simp) (fun i hi => by
   rw [decide_eq_false (show ¬ (hd ≤ (i : Int) ∧ i < hd.toNat) by omega)]
   simp [List.getD_eq_getElem?_getD, hi])
  rw [show ((hd.toNat : Nat) : Int) = hd by omega] at hr
  rw [hr]
  simp only [Option.bind_some]
  rw [if_pos (by omega), if_pos (by omega)]
  have := h2 k (by omega)
  rw [show hd + 0 = hd by omega, show ((hd + cnt).toNat : Int) = hd + cnt by omega] at *
  exact this
end Go.Proofs.Ytmniglgahodghaa.Pure
namespace Go.Proofs.Ytmniglgahodghaa.Pure
open Go.RowKit Go.Proofs.Ytmniglgahodghaa.K Go.Proofs.YtmniglgahodghaaW.PrintWords Go.Proofs.YtmniglgahodghaaW.PrintLast Go.Proofs.YtmniglgahodghaaW.PrintMore
set_option linter.unusedVariables false
set_option linter.unusedSimpArgs false
theorem want_eq {cs : Cs} (h : csOk cs = true) (c n : Int) (k : Nat) (hk : 20 ≤ k) : spec_l21Want.f k cs c n = some (measN (allF cs) c n) := by
 have hl := csOk_len h
 unfold spec_l21Want.f
 rw [spec_l6In_eq, wrap64_of (n := (cs.length : Int) - 1) (by omega) (by omega)]
 simp only [Option.bind_some, decide_eq_true_eq]
 by_cases c1 : 0 ≤ c ∧ c ≤ (cs.length : Int) - 1
 ·have c1' : c < (cs.length : Int) := by omega
  obtain ⟨f1, f2⟩ := cfl_eq h c1.1 c1'
  rw [if_pos c1, fields_same, f2 k (by omega), measN_c n c1.1 c1', Option.bind_some, wrap64_of (n := 1 + ((cfl cs c).length : Int)) (by omega) (by omega)]
 ·rw [if_neg c1, spec_l6In_eq]
  unfold measN
  rw [allF_len]
  simp only [Option.bind_some, decide_eq_true_eq]
  by_cases e1 : c = -1
  ·rw [if_pos e1, if_pos (Or.inl e1)]
   by_cases z : 0 ≤ n ∧ n ≤ 6
   ·rw [if_pos z, if_pos z, wrap64_of (by omega) (by omega)]
   ·rw [if_neg z, if_neg z]
  ·rw [if_neg e1]
   by_cases e2 : c = -2
   ·rw [if_pos e2, if_pos (Or.inr e2)]
    by_cases z : 0 ≤ n ∧ n ≤ 6
    ·rw [if_pos z, if_pos z, wrap64_of (by omega) (by omega)]
    ·rw [if_neg z, if_neg z]
   ·rw [if_neg e2, if_neg (by omega), if_neg (by omega)]
theorem measN_size {cs : Cs} (h : csOk cs = true) (c n : Int) : 0 ≤ measN (allF cs) c n ∧ measN (allF cs) c n ≤ 9 ∧ (c < 0 → measN (allF cs) c n ≠ 0 → 2 ≤ measN (allF cs) c n) := by
 by_cases z : 0 ≤ c ∧ c < cs.length
 ·rw [measN_c n z.1 z.2]
  have := (cfl_eq h z.1 z.2).1
  omega
 ·unfold measN
  rw [allF_len, if_neg z]
  split
  ·split <;> omega
  ·omega
theorem allF_few {cs : Cs} (h : csOk cs = true) : ∀ r ∈ allF cs, r.length ≤ 1048576 := by
 intro r hr
 unfold allF at hr
 obtain ⟨i, hi, rfl⟩ := List.mem_map.mp hr
 have := List.mem_range.mp hi
 have := (cfl_eq h (a := (i : Int)) (by omega) (by omega)).1
 omega
def mkW (ws : List Int) (i c n : Int) : List Int := if c < 0 then (ws.set i.toNat c).set (i + 1).toNat n else ws.set i.toNat c
theorem mkW_len (ws : List Int) (i c n : Int) : (mkW ws i c n).length = ws.length := by
  unfold mkW; split <;> simp
theorem l21Make_eq {ws : List Int} {y t o : Int} {cards : List Bool} {i c n : Int} (hn : ws.length ≤ 1048576) (hi0 : 0 ≤ i) (hi : i < ws.length) (h2 : c < 0 → i + 1 < ws.length) :
  spec_l21Make.f ws y t o cards i c n = some (mkW ws i c n, y, t, o, cards, i + 1) := by
 have w : wrap64 (i + 1) = i + 1 := wrap64_of (by omega) (by omega)
 unfold spec_l21Make.f mkW
 rw [if_pos hi0, if_pos hi, Option.bind_some, w]
 by_cases z : c < 0
 ·have := h2 z
  rw [if_pos z, if_pos (by omega), if_pos (by omega), if_pos z]
 ·rw [if_neg z, if_neg z]
def tryB (ws : List Int) (y t o s : Int) (v : Bool) : Bool := match v with | true => decide (o + s ≤ (ws.length : Int)) | false => decide (t + s ≤ y)
def tryM (ws : List Int) (y t o : Int) (cards : List Bool) (c n s : Int) (v : Bool) : List Int × Int × Int × Int × List Bool × Int :=
  match v with
  | true => if tryB ws y t o s true = true then (mkW ws o c n, y, t, o + s, cards, o + 1) else (ws, y, t, o, cards, 0)
  | false => if tryB ws y t o s false = true then (mkW ws t c n, y, t + s, o, cards, t + 1) else (ws, y, t, o, cards, 0)
theorem tryM_len (ws : List Int) (y t o : Int) (cards : List Bool) (c n s : Int) (v : Bool) : (tryM ws y t o cards c n s v).1.length = ws.length ∧ (tryM ws y t o cards c n s v).2.2.2.2.1.length = cards.length := by
  unfold tryM
  cases v <;> dsimp only <;> split <;> simp [mkW_len]
theorem l21Try_eq {cs : Cs} {ws : List Int} {y t o : Int} {cards : List Bool} (hb : Bnd cs ws y t o cards) (c n : Int) (v : Bool) (h0 : measN (allF cs) c n ≠ 0) (k : Nat) (hk : 20 ≤ k) :
  spec_l21Try.f k cs ws y t o cards c n v = some (tryM ws y t o cards c n (measN (allF cs) c n) v) := by
 have n0 := hb.n0; have n1 := hb.n1; have y0 := hb.y0; have y1 := hb.y1; have t0 := hb.t0; have t1 := hb.t1; have o0 := hb.o0; have o1 := hb.o1
 have hz := measN_size hb.ok c n
 obtain ⟨s, hs⟩ : ∃ s, s = measN (allF cs) c n := ⟨_, rfl⟩
 rw [← hs] at hz h0
 unfold spec_l21Try.f
 rw [want_eq hb.ok c n k hk, ← hs, Option.bind_some]
 obtain ⟨k, rfl⟩ : ∃ m, k = m + 1 := ⟨k - 1, by omega⟩
 unfold tryM tryB
 have w1 : wrap64 (o + s) = o + s := wrap64_of (by omega) (by omega)
 have w2 : wrap64 (t + s) = t + s := wrap64_of (by omega) (by omega)
 have w3 : wrap64 (o + s - s) = o := (show wrap64 _ = _ by unfold wrap64; omega)
 have w4 : wrap64 (t + s - s) = t := (show wrap64 _ = _ by unfold wrap64; omega)
 cases v with
 | true =>
  rw [if_pos rfl, spec_l21Try.j0, w1, w3]
  dsimp only
  by_cases z : o + s ≤ (ws.length : Int)
  ·rw [decide_eq_true z, if_pos rfl, if_pos rfl, l21Make_eq (by omega) (by omega) (by omega) (fun q => by have := hz.2.2 q h0; omega), Option.bind_some]
  ·rw [decide_eq_false z, if_neg (by simp), if_pos rfl, if_neg (by simp)]
 | false =>
  rw [if_neg (by simp), spec_l21Try.j0, if_neg (by simp), if_neg (by simp), w2, w4]
  dsimp only
  by_cases z : t + s ≤ y
  ·rw [if_pos z, decide_eq_true z, if_pos rfl, l21Make_eq (by omega) (by omega) (by omega) (fun q => by have := hz.2.2 q h0; omega), Option.bind_some]
  ·rw [if_neg z, decide_eq_false z, if_neg (by simp)]
theorem make_eq {cs : Cs} {ws : List Int} {y t o : Int} {cards : List Bool} (hb : Bnd cs ws y t o cards) {W : List Int} (hw : Wlk cs ws W) (m : Mm) (hm : m = ⟨ws, y, t, o, cards, allF cs, W.map (· + 1)⟩) (c n : Int) (v : Bool) (h0 : measN (allF cs) c n ≠ 0) :
  ∃ p : Nat, p ≤ W.length ∧ (∀ i (h : i < (W.map (· + 1)).length), i < p → (W.map (· + 1))[i] < mkAt m v + 1) ∧ (∀ i (h : i < (W.map (· + 1)).length), p ≤ i → mkAt m v + 1 ≤ (W.map (· + 1))[i]) ∧
   ∀ k, 300 ≤ k → memory_make.f k m c n v = some (if tryB ws y t o (measN (allF cs) c n) v = true then
    (mkAt m v + 1, ((mkTop { m with words := mkW ws (mkAt m v) c n } v (mkAt m v + measN (allF cs) c n)).setB ((W.map (· + 1)).take p ++ (mkAt m v + 1) :: (W.map (· + 1)).drop p))) else (0, m)) := by
 have n0 := hb.n0; have n1 := hb.n1; have y0 := hb.y0; have y1 := hb.y1; have t0 := hb.t0; have t1 := hb.t1; have o0 := hb.o0; have o1 := hb.o1
 have hz := measN_size hb.ok c n
 have hl : (W.map (· + 1)).length ≤ 200 := by rw [List.length_map]; exact hw.len
 obtain ⟨s, hs⟩ : ∃ s, s = measN (allF cs) c n := ⟨_, rfl⟩
 obtain ⟨x, hx⟩ : ∃ x, x = mkAt m v := ⟨_, rfl⟩
 rw [← hs] at hz h0 ⊢
 rw [← hx]
 obtain ⟨p, hp, h, q1, q2⟩ := search_eq (map1_sorted hw.srt) (by omega) (x + 1)
 rw [List.length_map] at hp
 refine ⟨p, hp, q1, q2, fun k hk => ?_⟩
 have hroom : (s > mkRoom m v) ↔ ¬ tryB ws y t o s v = true := by
  rw [hm]; unfold mkRoom tryB
  cases v <;> dsimp only <;> rw [decide_eq_true_eq] <;> omega
 have hfit : tryB ws y t o s v = true → 0 ≤ x ∧ x < (ws.length : Int) ∧ (c < 0 → x + 1 < (ws.length : Int)) := by
  intro q; rw [hx, hm]; unfold tryB at q; unfold mkAt
  cases v <;> dsimp only at q ⊢ <;> rw [decide_eq_true_eq] at q <;> exact ⟨by omega, by omega, fun z => by have := hz.2.2 z h0; omega⟩
 have hbg : m.begins = W.map (· + 1) := by rw [hm]
 have hmw : m.words.length = ws.length := by rw [hm]
 have hbl : m.begins.length = W.length := by rw [hbg, List.length_map]
 have hwl := hw.len
 rw [← hbg] at h ⊢
 unfold memory_make.f
 rw [← hx, show measN m.fields c n = s by rw [hm, hs], hmw, if_pos ⟨by rw [hm]; exact allF_few hb.ok, by omega, by rw [hm]; dsimp only; omega, by rw [hm]; dsimp only; omega, by rw [hm]; dsimp only; omega⟩]
 by_cases z : tryB ws y t o s v = true
 ·have hf := hfit z
  have e : mkMem m v x (x + s) c n = mkTop { m with words := mkW ws x c n } v (x + s) := by
   rw [hm]; unfold mkMem mkTop mkW Mm.setW Mm.setOld Mm.setTop
   cases v <;> dsimp only <;> split <;> rfl
  rw [if_neg (fun q => hroom.mp q z), if_pos ⟨hf.2.1, hf.2.2, by omega⟩, h k (by omega), Option.bind_some, if_pos ⟨by dsimp only; omega, by dsimp only; omega⟩, if_pos z, e]
  rfl
 ·rw [if_pos (hroom.mpr z), if_neg z]
end Go.Proofs.Ytmniglgahodghaa.Pure
namespace Go.Proofs.Ytmniglgahodghaa.Pure
open Go.RowKit Go.Proofs.Ytmniglgahodghaa.K Go.Proofs.YtmniglgahodghaaW.PrintWords Go.Proofs.YtmniglgahodghaaW.PrintLast Go.Proofs.YtmniglgahodghaaW.PrintMore
set_option linter.unusedVariables false
set_option linter.unusedSimpArgs false
theorem all_drop_iff (l : List Int) (T : Nat) : (l.drop T).all (· == 0) = true ↔ ∀ j : Nat, T ≤ j → j < l.length → l.getD j 0 = 0 := by
 rw [List.all_eq_true]
 constructor
 ·intro h j h1 h2
  have hm : l[j] ∈ l.drop T := by
   rw [List.mem_iff_getElem]
   refine ⟨j - T, by rw [List.length_drop]; omega, ?_⟩
   simp only [List.getElem_drop, show T + (j - T) = j by omega]
  have := h _ hm
  rw [List.getD_eq_getElem?_getD, List.getElem?_eq_getElem h2]
  simpa using this
 ·intro h x hx
  obtain ⟨i, hi, rfl⟩ := List.getElem_of_mem hx
  rw [List.length_drop] at hi
  have := h (T + i) (by omega) (by omega)
  rw [List.getD_eq_getElem?_getD, List.getElem?_eq_getElem (by omega)] at this
  rw [List.getElem_drop]
  simpa using this
def Zr (ws : List Int) (y t o : Int) (i : Nat) : Prop := ((t ≤ i ∧ (i : Int) ≤ y - 1) ∨ (i : Int) ≥ o) → ws.getD i 0 = 0
theorem bounds_l0 {ws : List Int} {y t o : Int} {cards : List Bool} (hn : ws.length ≤ 1048576) (hy : 0 ≤ y) (hy2 : y ≤ 40) (d : Nat) : ∀ (k i : Nat), i + d = ws.length → d < k → ∃ b, spec_l21Bounds.l0 k ws.length i ws y t o cards = some b ∧ (b = true ↔ ∀ j : Nat, i ≤ j → j < ws.length → Zr ws y t o j) := by
 induction d with
 | zero =>
  intro k i hi hk
  obtain ⟨k, rfl⟩ : ∃ m, k = m + 1 := ⟨k - 1, by omega⟩
  refine ⟨true, by rw [spec_l21Bounds.l0, if_neg (by omega)], by simp only [true_iff]; intro j h1 h2; omega⟩
 | succ d ih =>
  intro k i hi hk
  obtain ⟨k, rfl⟩ : ∃ m, k = m + 1 := ⟨k - 1, by omega⟩
  have hlt : i < ws.length := by omega
  obtain ⟨b, h1, h2⟩ := ih k (i + 1) (by omega) (by omega)
  rw [show ((i + 1 : Nat) : Int) = wrap64 ((i : Int) + 1) by rw [wrap_inc (n := 1048577) (by omega) (by omega) (by omega)]; omega] at h1
  have w : wrap64 (y - 1) = y - 1 := wrap64_of (by omega) (by omega)
  by_cases z : Zr ws y t o i
  ·refine ⟨b, ?_, h2.trans ⟨fun h j h3 h4 => ?_, fun h j h3 h4 => h j (by omega) h4⟩⟩
   ·rw [spec_l21Bounds.l0, if_pos (by omega), spec_l6In_eq, w]
    simp only [Option.bind_some, decide_eq_true_eq]
    by_cases c1 : t ≤ (i : Int) ∧ (i : Int) ≤ y - 1
    ·rw [if_pos c1, if_pos (by omega), if_pos (by omega), rd_cast, if_pos (z (Or.inl c1))]
     exact h1
    ·rw [if_neg c1]
     by_cases c2 : (i : Int) ≥ o
     ·rw [if_pos c2, if_pos (by omega), if_pos (by omega), rd_cast, if_pos (z (Or.inr c2))]
      exact h1
     ·rw [if_neg c2]
      exact h1
   ·rcases Nat.eq_or_lt_of_le h3 with q | q
    ·subst q; exact z
    ·exact h j (by omega) h4
  ·refine ⟨false, ?_, by constructor; intro h; simp at h; intro h; exact absurd (h i (Nat.le_refl _) hlt) z⟩
   have z2 : ((t ≤ (i : Int) ∧ (i : Int) ≤ y - 1) ∨ (i : Int) ≥ o) ∧ ¬ ws.getD i 0 = 0 := by
    unfold Zr at z
    exact ⟨Classical.byContradiction fun q => z (fun p => absurd p q), fun q => z (fun _ => q)⟩
   rw [spec_l21Bounds.l0, if_pos (by omega), spec_l6In_eq, w]
   simp only [Option.bind_some, decide_eq_true_eq]
   by_cases c1 : t ≤ (i : Int) ∧ (i : Int) ≤ y - 1
   ·rw [if_pos c1, if_pos (by omega), if_pos (by omega), rd_cast, if_neg z2.2]
   ·rw [if_neg c1, if_pos (z2.1.resolve_left c1), if_pos (by omega), if_pos (by omega), rd_cast, if_neg z2.2]
theorem bounds_eq {cs : Cs} (hf : fewF cs) (hok : csOk cs = true) {ws : List Int} {y t o : Int} {cards : List Bool} (hn : ws.length ≤ 1048576) (hc : cards.length ≤ 1048576) :
    ∃ p, impl_partsOk.f ws y t o cards = some p ∧ (∀ k, 4000000 ≤ k → spec_l21Bounds.f k cs ws y t o cards = some p) ∧ (p = true → Bnd cs ws y t o cards) := by
  have bad : ∀ k, 1 ≤ k → spec_l21Bounds.j0 k ws.length true ws y t o cards = some false := fun k hk => by
    obtain ⟨k, rfl⟩ : ∃ m, k = m + 1 := ⟨k - 1, by omega⟩
    rw [spec_l21Bounds.j0, if_pos rfl]
  have hp : impl_partsOk.f ws y t o cards = some (pOk ws y t o cards 0 && pOk ws y t o cards 1 && pOk ws y t o cards 2 && pOk ws y t o cards 3 && pOk ws y t o cards 4 && pOk ws y t o cards 5 && pOk ws y t o cards 6) := by
    unfold impl_partsOk.f; rw [if_pos (by omega)]
  rw [hp]
  have hs : ∀ k, 4000000 ≤ k → spec_l21Bounds.f k cs ws y t o cards = if 0 ≤ y ∧ y ≤ 40 then (if 14 ≤ wrap64 ((ws.length : Int) - y) ∧ wrap64 ((ws.length : Int) - y) ≤ 120 then (if 0 ≤ t ∧ t ≤ y then (if y ≤ o ∧ o ≤ ws.length then spec_l21Bounds.j0 k ws.length ((cards.length : Int) != cardsN (wrap64 ((ws.length : Int) - y))) ws y t o cards else some false) else some false) else some false) else some false := fun k hk => by
    unfold spec_l21Bounds.f
    rw [spec_ClassesOk_eq hf k (by omega), hok]
    simp only [Option.bind_some, if_true, spec_l6In_eq, decide_eq_true_eq, bad k (by omega)]
    rfl
  by_cases c0 : 0 ≤ y ∧ y ≤ 40
  case neg =>
    refine ⟨_, rfl, fun k hk => ?_, fun h => ?_⟩
    · rw [hs k hk, if_neg c0, show pOk ws y t o cards 0 = false from decide_eq_false c0]; rfl
    · rw [show pOk ws y t o cards 0 = false from decide_eq_false c0] at h; simp at h
  case pos =>
  have e0 : pOk ws y t o cards 0 = true := decide_eq_true c0
  have w : wrap64 ((ws.length : Int) - y) = (ws.length : Int) - y := wrap64_of (by omega) (by omega)
  rw [e0, Bool.true_and]
  by_cases c1 : 14 ≤ wrap64 ((ws.length : Int) - y) ∧ wrap64 ((ws.length : Int) - y) ≤ 120
  case neg =>
    refine ⟨_, rfl, fun k hk => ?_, fun h => ?_⟩
    · rw [hs k hk, if_pos c0, if_neg c1, show pOk ws y t o cards 1 = false from decide_eq_false c1]; rfl
    · rw [show pOk ws y t o cards 1 = false from decide_eq_false c1] at h; simp at h
  case pos =>
  have e1 : pOk ws y t o cards 1 = true := decide_eq_true c1
  rw [e1, Bool.true_and]
  by_cases c2 : 0 ≤ t ∧ t ≤ y
  case neg =>
    refine ⟨_, rfl, fun k hk => ?_, fun h => ?_⟩
    · rw [hs k hk, if_pos c0, if_pos c1, if_neg c2, show pOk ws y t o cards 2 = false from decide_eq_false c2]; rfl
    · rw [show pOk ws y t o cards 2 = false from decide_eq_false c2] at h; simp at h
  case pos =>
  have e2 : pOk ws y t o cards 2 = true := decide_eq_true c2
  rw [e2, Bool.true_and]
  by_cases c3 : y ≤ o ∧ o ≤ (ws.length : Int)
  case neg =>
    refine ⟨_, rfl, fun k hk => ?_, fun h => ?_⟩
    · rw [hs k hk, if_pos c0, if_pos c1, if_pos c2, if_neg c3, show pOk ws y t o cards 3 = false from decide_eq_false c3]; rfl
    · rw [show pOk ws y t o cards 3 = false from decide_eq_false c3] at h; simp at h
  case pos =>
  have e3 : pOk ws y t o cards 3 = true := decide_eq_true c3
  rw [e3, Bool.true_and]
  by_cases c4 : (cards.length : Int) = cardsN (wrap64 ((ws.length : Int) - y))
  case neg =>
    have e4 : pOk ws y t o cards 4 = false := beq_eq_false_iff_ne.mpr c4
    refine ⟨_, rfl, fun k hk => ?_, fun h => ?_⟩
    · rw [hs k hk, if_pos c0, if_pos c1, if_pos c2, if_pos c3, bne_iff_ne.mpr c4, bad k (by omega), e4]; rfl
    · rw [e4] at h; simp at h
  case pos =>
  have e4 : pOk ws y t o cards 4 = true := beq_iff_eq.mpr c4
  rw [e4, Bool.true_and]
  have h5 : pOk ws y t o cards 5 = true ↔ ∀ j : Nat, t ≤ j → (j : Int) ≤ y - 1 → ws.getD j 0 = 0 := by
    show ((ws.take y.toNat).drop t.toNat).all (· == 0) = true ↔ _
    rw [all_drop_iff]
    constructor
    · intro h j h1 h2
      have := h j (by omega) (by rw [List.length_take]; omega)
      rw [List.getD_eq_getElem?_getD, List.getElem?_take, if_pos (by omega)] at this
      rw [List.getD_eq_getElem?_getD]; exact this
    · intro h j h1 h2
      rw [List.length_take] at h2
      rw [List.getD_eq_getElem?_getD, List.getElem?_take, if_pos (by omega)]
      have := h j (by omega) (by omega)
      rw [List.getD_eq_getElem?_getD] at this; exact this
  have h6 : pOk ws y t o cards 6 = true ↔ ∀ j : Nat, o ≤ j → j < ws.length → ws.getD j 0 = 0 := by
    show ((ws.drop y.toNat).drop (o - y).toNat).all (· == 0) = true ↔ _
    rw [List.drop_drop, all_drop_iff]
    constructor
    · intro h j h1 h2; exact h j (by omega) h2
    · intro h j h1 h2; exact h j (by omega) h2
  obtain ⟨b, hb1, hb2⟩ := bounds_l0 (ws := ws) (y := y) (t := t) (o := o) (cards := cards) hn c0.1 c0.2 ws.length (ws.length + 1) 0 (by omega) (by omega)
  have eb : (pOk ws y t o cards 5 && pOk ws y t o cards 6) = b := by
    rw [Bool.eq_iff_iff, Bool.and_eq_true, h5, h6, hb2]
    constructor
    · rintro ⟨q1, q2⟩ j _ hj z
      rcases z with z | z
      · exact q1 j z.1 z.2
      · exact q2 j z hj
    · intro q
      exact ⟨fun j h1 h2 => q j (by omega) (by omega) (Or.inl ⟨h1, h2⟩), fun j h1 h2 => q j (by omega) h2 (Or.inr h1)⟩
  refine ⟨_, rfl, fun k hk => ?_, fun _ => ?_⟩
  · rw [hs k hk, if_pos c0, if_pos c1, if_pos c2, if_pos c3, eb]
    obtain ⟨k, rfl⟩ : ∃ m, k = m + 1 := ⟨k - 1, by omega⟩
    have e : ((cards.length : Int) != cardsN (wrap64 ((ws.length : Int) - y))) = false := by rw [← c4]; simp
    rw [e, spec_l21Bounds.j0, if_neg (by simp)]
    exact at_rounds (g := fun k => spec_l21Bounds.l0 k ws.length 0 ws y t o cards) (fun k => (spec_l21Bounds.mono_l k).2 _ _ _ _ _ _ _) (show ws.length + 1 ≤ k by omega) hb1
  · have w4 : cardsN (wrap64 ((ws.length : Int) - y)) = ((ws.length : Int) - y + 3) / 4 := by
      rw [w] at c1 ⊢
      unfold cardsN
      rw [wrap64_of (n := (ws.length : Int) - y + 4) (by omega) (by omega), wrap64_of (n := (ws.length : Int) - y + 4 - 1) (by omega) (by omega), Int.tdiv_eq_ediv_of_nonneg (by omega), show (ws.length : Int) - y + 4 - 1 = (ws.length : Int) - y + 3 by omega, wrap64_of (by omega) (by omega)]
    rw [w] at c1
    exact ⟨hok, c0.1, c0.2, c1.1, c1.2, c2.1, c2.2, c3.1, c3.2, by rw [c4, w4]⟩
theorem things_eq {cs : Cs} {ws : List Int} {y t o : Int} {cards : List Bool} (hb : Bnd cs ws y t o cards) {W : List Int} (hw : Wlk cs ws W) (m : Mm) (hm : m = ⟨ws, y, t, o, cards, allF cs, W.map (· + 1)⟩) :
  ∃ b, (∀ q, 300 ≤ q → thingsOk q m (W.map (· + 1)) = some b) ∧ ∀ k, 500 ≤ k → spec_MemOk.l0 k cs W (startsL W ws.length) 0 ws y t o cards = some b := by
 have hlen := hw.len
 have key : ∀ d i : Nat, i + d = W.length → ∃ b, (∀ q, 300 ≤ q → thingsOk q m ((W.drop i).map (· + 1)) = some b) ∧ ∀ k, d + 201 ≤ k → spec_MemOk.l0 k cs W (startsL W ws.length) i ws y t o cards = some b := by
  intro d
  induction d with
  | zero =>
   intro i hi
   refine ⟨true, fun q _ => by rw [List.drop_eq_nil_of_le (by omega)]; rfl, fun k hk => ?_⟩
   obtain ⟨k, rfl⟩ : ∃ m, k = m + 1 := ⟨k - 1, by omega⟩
   rw [spec_MemOk.l0, if_neg (by omega)]
  | succ d ih =>
   intro i hi
   have hlt : i < W.length := by omega
   obtain ⟨b, h1, h2⟩ := thing_eq hb hw m hm (List.getElem_mem hlt)
   obtain ⟨b', h3, h4⟩ := ih (i + 1) (by omega)
   have hd : (W.drop i).map (· + 1) = (W[i] + 1) :: (W.drop (i + 1)).map (· + 1) := by rw [List.drop_eq_getElem_cons hlt]; rfl
   refine ⟨if b = true then b' else false, fun q hq => ?_, fun k hk => ?_⟩
   ·rw [hd, thingsOk, h1 q hq, Option.bind_some]
    cases b with
    | true => exact h3 q hq
    | false => rfl
   ·obtain ⟨k, rfl⟩ : ∃ m, k = m + 1 := ⟨k - 1, by omega⟩
    rw [spec_MemOk.l0, if_pos (by omega), if_pos (by omega), rd_mem hlt, h2 k (by omega), Option.bind_some, wrap_inc (n := 1048577) (by omega) (by omega) (by omega)]
    cases b with
    | true => have := h4 k (by omega); rw [show ((i + 1 : Nat) : Int) = (i : Int) + 1 by omega] at this; exact this
    | false => rfl
 obtain ⟨b, h1, h2⟩ := key W.length 0 (by omega)
 exact ⟨b, h1, fun k hk => h2 k (by omega)⟩
def Prt (cs : Cs) (ws : List Int) (y t o : Int) (W : List Int) : Prop := ∀ x ∈ W, (0 ≤ x ∧ 0 < mstep ws (allF cs) t x ∧ mstep ws (allF cs) t x ≤ t - x) ∨ (y ≤ x ∧ 0 < mstep ws (allF cs) o x ∧ mstep ws (allF cs) o x ≤ o - x)
theorem open_eq2 {cs : Cs} (hf : fewF cs) {ws : List Int} {y t o : Int} {cards : List Bool} (hn : ws.length ≤ 1048576) (hc : cards.length ≤ 1048576) :
  ∃ r : Option Mm, (∀ k, 4000000 ≤ k → mopen k k cs ws y t o cards = some r) ∧ (∀ k, 4000000 ≤ k → spec_MemOk.f k cs ws y t o cards = some r.isSome) ∧
   (∀ m, r = some m → ∃ W, Bnd cs ws y t o cards ∧ Wlk cs ws W ∧ m = ⟨ws, y, t, o, cards, allF cs, W.map (· + 1)⟩ ∧ (∀ k, 4000000 ≤ k → spec_l21Walk.f k cs ws y t o cards = some (W, true)) ∧ Prt cs ws y t o W ∧ W = (pw ws (allF cs) t t.toNat 0).1 ++ (pw ws (allF cs) o (o - y).toNat y).1 ∧ ∀ q, 300 ≤ q → thingsOk q m (W.map (· + 1)) = some true) := by
 cases hok : csOk cs with
 | false =>
  refine ⟨none, fun k hk => ?_, fun k hk => ?_, fun m hm => by cases hm⟩
  ·unfold mopen
   rw [impl_ClassesOk_eq cs k (by omega), hok]; rfl
  ·unfold spec_MemOk.f spec_l21Bounds.f
   rw [spec_ClassesOk_eq hf k (by omega), hok]
   obtain ⟨k, rfl⟩ : ∃ m, k = m + 1 := ⟨k - 1, by omega⟩
   rw [Option.bind_some, if_neg (by simp), spec_l21Bounds.j0, if_pos rfl]; rfl
 | true =>
 obtain ⟨p, hp1, hp2, hp3⟩ := bounds_eq (cs := cs) (y := y) (t := t) (o := o) hf hok hn hc
 cases p with
 | false =>
  refine ⟨none, fun k hk => ?_, fun k hk => ?_, fun m hm => by cases hm⟩
  ·unfold mopen
   rw [impl_ClassesOk_eq cs k (by omega), hok, Option.bind_some, if_pos rfl, hp1]; rfl
  ·unfold spec_MemOk.f
   rw [hp2 k hk]; rfl
 | true =>
 have hb := hp3 rfl
 have n0 := hb.n0; have n1 := hb.n1; have y0 := hb.y0; have y1 := hb.y1; have t0 := hb.t0; have t1 := hb.t1; have o0 := hb.o0; have o1 := hb.o1
 obtain ⟨r1, h1⟩ : ∃ r1, r1 = pw ws (allF cs) t t.toNat 0 := ⟨_, rfl⟩
 obtain ⟨r2, h2⟩ : ∃ r2, r2 = pw ws (allF cs) o (o - y).toNat y := ⟨_, rfl⟩
 have l1 := pw_len ws (allF cs) t t.toNat 0
 have l2 := pw_len ws (allF cs) o (o - y).toNat y
 have m1 := pw_mem ws (allF cs) t t.toNat 0
 have m2 := pw_mem ws (allF cs) o (o - y).toNat y
 have s1 := pw_sorted ws (allF cs) t t.toNat 0
 have s2 := pw_sorted ws (allF cs) o (o - y).toNat y
 rw [← h1] at l1 m1 s1
 rw [← h2] at l2 m2 s2
 have hM : ∀ k, 4000000 ≤ k → mopen k k cs ws y t o cards = if r1.2 = true then (if r2.2 = true then (thingsOk k ⟨ws, y, t, o, cards, allF cs, (r1.1 ++ r2.1).map (· + 1)⟩ ((r1.1 ++ r2.1).map (· + 1))).bind fun ok => if ok = true then some (some ⟨ws, y, t, o, cards, allF cs, (r1.1 ++ r2.1).map (· + 1)⟩) else some none else some none) else some none := fun k hk => by
  unfold mopen
  rw [impl_ClassesOk_eq cs k (by omega), hok, Option.bind_some, if_pos rfl, hp1, Option.bind_some, if_pos rfl, allFields_eq hok k (by omega), Option.bind_some, if_pos ⟨allF_all hok, hn, hc⟩,
   pw_mwalk ws (allF cs) t t.toNat 0 [] k (by omega) (by omega), ← h1, Option.bind_some]
  by_cases c : r1.2 = true
  ·rw [if_pos c, if_pos c, if_pos (by simp; omega), pw_mwalk ws (allF cs) o (o - y).toNat y _ k (by omega) (by omega), ← h2, Option.bind_some]
   by_cases c2 : r2.2 = true
   ·rw [if_pos c2, if_pos c2, if_pos (by simp; omega)]
    simp only [List.nil_append, ← List.map_append]
   ·rw [if_neg c2, if_neg c2]
  ·rw [if_neg c, if_neg c]
 have hW : ∀ k, 4000000 ≤ k → spec_l21Walk.f k cs ws y t o cards = some (r1.1 ++ r2.1, r1.2 && r2.2) := fun k hk => by
  unfold spec_l21Walk.f spec_l21Part.f
  rw [pw_part hok hn (by omega) t.toNat 0 [] k (by omega) (by omega) (by omega) (by simp; omega), ← h1, Option.bind_some, pw_part hok hn (by omega) (o - y).toNat y [] k (by omega) (by omega) (by omega) (by simp; omega), ← h2, Option.bind_some]
  simp only [List.nil_append]
  rw [if_pos (by omega), Option.bind_some]
  cases r1.2 with
  | true => rw [if_pos rfl]; rfl
  | false => rw [if_neg (by simp)]; rfl
 have hS : ∀ k, 4000000 ≤ k → spec_MemOk.f k cs ws y t o cards = if (r1.2 && r2.2) = true then (spec_l21Starts.f k ws.length (r1.1 ++ r2.1)).bind fun S => spec_MemOk.l0 k cs (r1.1 ++ r2.1) S 0 ws y t o cards else some false := fun k hk => by
  unfold spec_MemOk.f
  rw [hp2 k hk, Option.bind_some, if_pos rfl, hW k hk, Option.bind_some]
 cases c1 : r1.2 with
 | false =>
  refine ⟨none, fun k hk => by rw [hM k hk, c1]; rfl, fun k hk => by rw [hS k hk, c1]; rfl, fun m hm => by cases hm⟩
 | true =>
 cases c2 : r2.2 with
 | false =>
  refine ⟨none, fun k hk => by rw [hM k hk, c1, c2]; rfl, fun k hk => by rw [hS k hk, c1, c2]; rfl, fun m hm => by cases hm⟩
 | true =>
 have hw : Wlk cs ws (r1.1 ++ r2.1) := by
  refine ⟨fun x hx => ?_, ?_, by rw [List.length_append]; omega⟩
  ·rcases List.mem_append.mp hx with z | z
   ·have := m1 x z; exact ⟨t, by omega, by omega, by omega, by omega, by omega⟩
   ·have := m2 x z; exact ⟨o, by omega, by omega, by omega, by omega, by omega⟩
  ·rw [List.pairwise_append]
   exact ⟨s1, s2, fun a ha b hb' => by have := m1 a ha; have := m2 b hb'; omega⟩
 obtain ⟨b, b1, b2⟩ := things_eq hb hw _ rfl
 have hst : ∀ k, 4000000 ≤ k → spec_l21Starts.f k ws.length (r1.1 ++ r2.1) = some (startsL (r1.1 ++ r2.1) ws.length) := fun k hk => starts_eq (fun x hx => wlk_range hw hx) (by have := hw.len; omega) (by omega) k (by omega)
 cases b with
 | false =>
  refine ⟨none, fun k hk => by rw [hM k hk, if_pos c1, if_pos c2, b1 k (by omega)]; rfl, fun k hk => by rw [hS k hk, c1, c2, if_pos (show (true && true) = true from rfl), hst k hk, Option.bind_some, b2 k (by omega)]; rfl, fun m hm => by cases hm⟩
 | true =>
  refine ⟨some ⟨ws, y, t, o, cards, allF cs, (r1.1 ++ r2.1).map (· + 1)⟩, fun k hk => by rw [hM k hk, if_pos c1, if_pos c2, b1 k (by omega)]; rfl, fun k hk => by rw [hS k hk, c1, c2, if_pos (show (true && true) = true from rfl), hst k hk, Option.bind_some, b2 k (by omega)]; rfl, fun m hm => ?_⟩
  obtain rfl := Option.some.inj hm
  refine ⟨r1.1 ++ r2.1, hb, hw, rfl, fun k hk => by rw [hW k hk, c1, c2]; rfl, fun x hx => ?_, by rw [h1, h2], fun q hq => b1 q hq⟩
  rcases List.mem_append.mp hx with z | z
  ·have := m1 x z; exact .inl ⟨by omega, this.2.2.1, this.2.2.2⟩
  ·have := m2 x z; exact .inr ⟨by omega, this.2.2.1, this.2.2.2⟩
end Go.Proofs.Ytmniglgahodghaa.Pure
