import Derived.Test.YtjnbilfhpdkcbaaPm24
import Derived.Test.YtjnbilfhpdkcbaaPm28
import Derived.Test.YtjnbilfhpdkcbaaPm33
import Derived.Test.YtjnbilfhpdkcbaaPm27
import Derived.Test.YtjnbilfhpdkcbaaPm32
import Derived.Test.YtjnbilfhpdkcbaaPm26
import Derived.Test.YtjnbilfhpdkcbaaPm25
namespace Go.Proofs.Ytjnbilfhpdkcbaa.Pure
open Go.RowKit Go.Proofs.Ytjnbilfhpdkcbaa.K Go.Proofs.YtjnbilfhpdkcbaaW.PrintWords Go.Proofs.YtjnbilfhpdkcbaaW.PrintLast Go.Proofs.YtjnbilfhpdkcbaaW.PrintMore
set_option linter.unusedVariables false
set_option linter.unusedSimpArgs false
theorem all_drop (fs : List Int) (P : Int → Bool) (i : Nat) (h : i < fs.length) : (fs.drop i).all P = (P (fs.getD i 0) && (fs.drop (i + 1)).all P) := by
  rw [drop_getD fs i 0 h, List.all_cons]
theorem spec_l2Field_eq (cs : Cs) (t : Int) (hl : cs.length ≤ 1000) : spec_l2Field.f cs t = some (fldOk cs.length t) := by
  unfold spec_l2Field.f fldOk
  by_cases c1 : t = 1
  · rw [if_pos c1]; simp [c1]
  rw [if_neg c1]
  by_cases c2 : t = 3
  · rw [if_pos c2]; simp [c2]
  rw [if_neg c2]
  by_cases c3 : t = 4
  · rw [if_pos c3]; simp [c3]
  rw [if_neg c3, wrap64_of (n := 8 + (cs.length : Int)) (by omega) (by omega), wrap64_of (by omega) (by omega), spec_l6In_eq]
  simp only [Option.bind_some, Option.some.injEq]
  rw [Bool.eq_iff_iff]; simp only [decide_eq_true_eq]; omega
def clsTail (cs : Cs) (i su : Int) (fs : List Int) : Bool :=
  if i = 0 then decide (su = -1 ∧ fs = []) else if i = 1 then decide (su = 0 ∧ fs = [1]) else decide ((0 ≤ su ∧ su < i) ∧ fs.length ≤ 2)
theorem len_nil (fs : List Int) : ((fs.length : Int) == 0) = decide (fs = []) := by cases fs <;> simp; omega
theorem spec_l2Class_l0 (cs : Cs) (c su : Int) (fs : List Int) (hl : cs.length ≤ 1000) (hf : fs.length ≤ 140737488355328) (hc : 0 ≤ c ∧ c < 1000) (d : Nat) : ∀ (k i : Nat), i ≤ fs.length → fs.length - i = d → d < k →
    spec_l2Class.l0 k cs c i su fs = some ((fs.drop i).all (fldOk cs.length) && clsTail cs c su fs) := by
  induction d with
  | zero =>
    intro k i hi hd hk
    obtain ⟨k, rfl⟩ : ∃ m, k = m + 1 := ⟨k - 1, by omega⟩
    have : i = fs.length := by omega
    subst this
    simp only [spec_l2Class.l0]
    rw [if_neg (by omega), List.drop_length]
    simp only [List.all_nil, Bool.true_and]
    unfold clsTail
    by_cases c0 : c = 0
    · rw [if_pos c0, if_pos c0]
      by_cases s0 : su = -1
      · rw [if_pos s0, len_nil]; simp [s0]
      · rw [if_neg s0]; simp [s0]
    rw [if_neg c0, if_neg c0]
    by_cases c1 : c = 1
    · rw [if_pos c1, if_pos c1]
      by_cases s0 : su = 0
      · rw [if_pos s0]
        by_cases l1 : (fs.length : Int) = 1
        · rw [if_pos l1, if_pos (by omega)]
          obtain ⟨x, rfl⟩ := List.length_eq_one_iff.1 (show fs.length = 1 by omega)
          by_cases e : x = 1
          · simp [rd, s0, e]
          · simp [rd, s0, e]
        · rw [if_neg l1]
          have : fs ≠ [1] := fun e => l1 (by rw [e]; rfl)
          simp [this]
      · rw [if_neg s0]; simp [s0]
    rw [if_neg c1, if_neg c1, wrap64_of (by omega) (by omega), spec_l6In_eq]
    simp only [Option.bind_some, decide_eq_true_eq]
    by_cases z : 0 ≤ su ∧ su ≤ c - 1
    · rw [if_pos z]
      congr 1
      rw [Bool.eq_iff_iff]; simp only [decide_eq_true_eq]; omega
    · rw [if_neg z]
      congr 1
      rw [Bool.eq_iff_iff]; simp only [decide_eq_true_eq, Bool.false_eq_true, false_iff]; omega
  | succ d ih =>
    intro k i hi hd hk
    obtain ⟨k, rfl⟩ : ∃ m, k = m + 1 := ⟨k - 1, by omega⟩
    simp only [spec_l2Class.l0]
    rw [if_pos (by omega), if_pos (by omega), spec_l2Field_eq cs _ hl, rd_cast, all_drop fs _ i (by omega)]
    simp only [Option.bind_some]
    cases hq : fldOk cs.length (fs.getD i 0) with
    | false => simp
    | true =>
      simp only [if_true, Bool.true_and]
      rw [wrap_inc (n := fs.length) (by omega) (by omega) (by omega), show ((i : Int) + 1) = ((i + 1 : Nat) : Int) from by omega]
      exact ih k (i + 1) (by omega) (by omega) (by omega)
def fewF (cs : Cs) : Prop := ∀ i : Int, (flds cs i).length ≤ 1048576
theorem spec_l2Class_eq {cs : Cs} (hl : cs.length ≤ 1000) (hf : fewF cs) {i : Int} (h0 : 0 ≤ i) (h1 : i < cs.length) (k : Nat) (hk : 1048577 ≤ k) : spec_l2Class.f k cs i = some (clsOk cs i) := by
  unfold spec_l2Class.f
  rw [if_pos h0, if_pos h1]
  have := hf i
  have e := spec_l2Class_l0 cs i (sup cs i) (flds cs i) hl (by omega) ⟨h0, by omega⟩ (flds cs i).length k 0 (by omega) (by omega) (by omega)
  have e2 : spec_l2Class.l0 k cs i 0 (sup cs i) (flds cs i) = some (clsOk cs i) := by
    rw [show ((0 : Nat) : Int) = 0 from rfl] at e
    rw [e, List.drop_zero]
    unfold clsOk clsTail
    by_cases c0 : i = 0
    · subst c0; rfl
    by_cases c1 : i = 1
    · subst c1; rfl
    rw [if_neg c0, if_neg c1, if_neg c0, if_neg c1]
  exact e2
theorem range_all_drop (n i : Nat) (P : Nat → Bool) (h : i < n) : ((List.range n).drop i).all P = (P i && ((List.range n).drop (i + 1)).all P) := by
  rw [List.drop_eq_getElem_cons (by simpa using h), List.all_cons]; simp
theorem spec_ClassesOk_l0 {cs : Cs} (hl : cs.length ≤ 1000) (hf : fewF cs) (d : Nat) : ∀ (k i : Nat), i ≤ cs.length → cs.length - i = d → d + 1048577 ≤ k →
    spec_ClassesOk.l0 k cs i = some (((List.range cs.length).drop i).all (fun j : Nat => clsOk cs j)) := by
  induction d with
  | zero =>
    intro k i hi hd hk
    obtain ⟨k, rfl⟩ : ∃ m, k = m + 1 := ⟨k - 1, by omega⟩
    have : i = cs.length := by omega
    subst this
    simp only [spec_ClassesOk.l0]
    rw [if_neg (by omega), List.drop_of_length_le (by simp)]
    rfl
  | succ d ih =>
    intro k i hi hd hk
    obtain ⟨k, rfl⟩ : ∃ m, k = m + 1 := ⟨k - 1, by omega⟩
    simp only [spec_ClassesOk.l0]
    rw [if_pos (by omega), spec_l2Class_eq hl hf (by omega) (by omega) k (by omega), range_all_drop _ _ _ (by omega)]
    simp only [Option.bind_some]
    cases hq : clsOk cs i with
    | false => simp
    | true =>
      simp only [if_true, Bool.true_and]
      rw [wrap_inc (n := cs.length) (by omega) (by omega) (by omega), show ((i : Int) + 1) = ((i + 1 : Nat) : Int) from by omega]
      exact ih k (i + 1) (by omega) (by omega) (by omega)
theorem spec_ClassesOk_eq {cs : Cs} (hf : fewF cs) (k : Nat) (hk : 2000000 ≤ k) : spec_ClassesOk.f k cs = some (csOk cs) := by
  unfold spec_ClassesOk.f csOk
  rw [spec_l6In_eq]
  simp only [Option.bind_some, decide_eq_true_eq]
  by_cases hl : (2 : Int) ≤ cs.length ∧ (cs.length : Int) ≤ 5
  · rw [if_pos hl, show decide (2 ≤ cs.length ∧ cs.length ≤ 5) = true from decide_eq_true (by omega)]
    have := spec_ClassesOk_l0 (cs := cs) (by omega) hf cs.length k 0 (by omega) (by omega) (by omega)
    rw [show ((0 : Nat) : Int) = 0 from rfl] at this
    rw [this, List.drop_zero, Bool.true_and]
  · rw [if_neg hl, show decide (2 ≤ cs.length ∧ cs.length ≤ 5) = false from decide_eq_false (by omega), Bool.false_and]
theorem impl_fieldType_eq (cs : Cs) (t : Int) (hl : cs.length ≤ 1000) : impl_fieldType.f cs.length t = some (fldOk cs.length t) := by
  unfold impl_fieldType.f kOk fldOk
  rw [if_pos (by omega)]
  congr 1
  rw [Bool.eq_iff_iff]; simp only [Bool.and_eq_true, decide_eq_true_eq]; omega
def clsQ (cs : Cs) (i : Int) : Bool := (decide (i ≤ 1) || decide (0 ≤ sup cs i ∧ sup cs i < i)) && (decide ((flds cs i).length ≤ 2) && (flds cs i).all (fldOk cs.length))
theorem impl_ClassesOk_l1 (cs : Cs) (hl : cs.length ≤ 1000) (i : Nat) (hi : i < 1000) (fs : List Int) (hf : fs.length ≤ 2) (R : Bool) (K : Nat) (hR : ∀ k, K ≤ k → impl_ClassesOk.l0 k cs cs cs.length ((i + 1 : Nat) : Int) = some R) (d : Nat) : ∀ (k j : Nat), j ≤ fs.length → fs.length - j = d → K + d + 1 ≤ k →
    impl_ClassesOk.l1 k cs cs cs.length i fs fs.length j = some ((fs.drop j).all (fldOk cs.length) && R) := by
  induction d with
  | zero =>
    intro k j hj hd hk
    obtain ⟨k, rfl⟩ : ∃ m, k = m + 1 := ⟨k - 1, by omega⟩
    have : j = fs.length := by omega
    subst this
    simp only [impl_ClassesOk.l1]
    rw [if_neg (by omega), List.drop_length, wrap_inc (n := 1000) (by omega) (by omega) (by omega), show ((i : Int) + 1) = ((i + 1 : Nat) : Int) from by omega, hR k (by omega)]
    simp
  | succ d ih =>
    intro k j hj hd hk
    obtain ⟨k, rfl⟩ : ∃ m, k = m + 1 := ⟨k - 1, by omega⟩
    simp only [impl_ClassesOk.l1]
    rw [if_pos (by omega), if_pos (by omega), if_pos (by omega), rd_cast, impl_fieldType_eq cs _ hl, all_drop fs _ j (by omega)]
    simp only [Option.bind_some]
    cases hq : fldOk cs.length (fs.getD j 0) with
    | false => simp
    | true =>
      simp only [if_true, Bool.true_and]
      rw [wrap_inc (n := fs.length) (by omega) (by omega) (by omega), show ((j : Int) + 1) = ((j + 1 : Nat) : Int) from by omega]
      exact ih k (j + 1) (by omega) (by omega) (by omega)
theorem impl_ClassesOk_l0 (cs : Cs) (hl : cs.length ≤ 5) (d : Nat) : ∀ (i : Nat), i ≤ cs.length → cs.length - i = d → ∀ k, 10 * d + 10 ≤ k →
    impl_ClassesOk.l0 k cs cs cs.length i = some (((List.range cs.length).drop i).all (fun j : Nat => clsQ cs j)) := by
  induction d with
  | zero =>
    intro i hi hd k hk
    obtain ⟨k, rfl⟩ : ∃ m, k = m + 1 := ⟨k - 1, by omega⟩
    have : i = cs.length := by omega
    subst this
    simp only [impl_ClassesOk.l0]
    rw [if_neg (by omega), List.drop_of_length_le (by simp)]
    rfl
  | succ d ih =>
    intro i hi hd k hk
    obtain ⟨k, rfl⟩ : ∃ m, k = m + 1 := ⟨k - 1, by omega⟩
    obtain ⟨k, rfl⟩ : ∃ m, k = m + 1 := ⟨k - 1, by omega⟩
    rw [range_all_drop _ _ _ (by omega)]
    have hj : impl_ClassesOk.j4 (k + 1) cs cs cs.length i false (sup cs i) (flds cs i) = some (decide ((flds cs i).length ≤ 2) && ((flds cs i).all (fldOk cs.length) && ((List.range cs.length).drop (i + 1)).all (fun j : Nat => clsQ cs j))) := by
      simp only [impl_ClassesOk.j4]
      rw [if_neg (by simp)]
      by_cases h2 : ((flds cs i).length : Int) > 2
      · rw [if_pos h2, decide_eq_false (by omega)]; rfl
      · rw [if_neg h2, decide_eq_true (show (flds cs i).length ≤ 2 by omega), Bool.true_and]
        have := impl_ClassesOk_l1 cs (by omega) i (by omega) (flds cs i) (by omega) _ (10 * d + 10) (fun k hk => ih (i + 1) (by omega) (by omega) k hk) (flds cs i).length k 0 (by omega) (by omega) (by omega)
        rw [show ((0 : Nat) : Int) = 0 from rfl, List.drop_zero] at this
        exact this
    have hjt : impl_ClassesOk.j4 (k + 1) cs cs cs.length i true (sup cs i) (flds cs i) = some false := by simp [impl_ClassesOk.j4]
    simp only [impl_ClassesOk.l0]
    rw [if_pos (by omega), if_pos (by omega), if_pos (by omega)]
    rw [show (rd_T32 cs (i : Int)).f0 = sup cs i from rfl, show (rd_T32 cs (i : Int)).f1 = flds cs i from rfl]
    have hQ : clsQ cs i = ((decide ((i : Int) ≤ 1) || decide (0 ≤ sup cs i ∧ sup cs i < i)) && (decide ((flds cs i).length ≤ 2) && (flds cs i).all (fldOk cs.length))) := rfl
    rw [hQ]
    generalize ((List.range cs.length).drop (i + 1)).all (fun j : Nat => clsQ cs j) = T at *
    by_cases h1 : (i : Int) > 1
    · rw [if_pos h1]
      by_cases hs : sup cs i < 0
      · rw [if_pos hs, hjt, decide_eq_false (show ¬ (i : Int) ≤ 1 by omega), decide_eq_false (show ¬ (0 ≤ sup cs i ∧ sup cs i < i) by omega)]; rfl
      · rw [if_neg hs]
        by_cases hs2 : sup cs i ≥ i
        · rw [decide_eq_true hs2, hjt, decide_eq_false (show ¬ (i : Int) ≤ 1 by omega), decide_eq_false (show ¬ (0 ≤ sup cs i ∧ sup cs i < i) by omega)]; rfl
        · rw [decide_eq_false hs2, hj, decide_eq_true (show (0 ≤ sup cs i ∧ sup cs i < i) by omega)]
          simp [Bool.and_assoc]
    · rw [if_neg h1, hj, decide_eq_true (show (i : Int) ≤ 1 by omega)]
      simp [Bool.and_assoc]
theorem impl_ClassesOk_eq (cs : Cs) (k : Nat) (hk : 1000 ≤ k) : impl_ClassesOk.f k cs = some (csOk cs) := by
  obtain ⟨k, rfl⟩ : ∃ m, k = m + 1 := ⟨k - 1, by omega⟩
  obtain ⟨k, rfl⟩ : ∃ m, k = m + 1 := ⟨k - 1, by omega⟩
  obtain ⟨k, rfl⟩ : ∃ m, k = m + 1 := ⟨k - 1, by omega⟩
  unfold impl_ClassesOk.f
  by_cases h2 : (cs.length : Int) < 2
  · rw [if_pos h2]
    simp only [impl_ClassesOk.j0, if_true]
    unfold csOk
    rw [decide_eq_false (by omega), Bool.false_and]
  rw [if_neg h2]
  by_cases h5 : (cs.length : Int) > 5
  · rw [decide_eq_true h5]
    simp only [impl_ClassesOk.j0, if_true]
    unfold csOk
    rw [decide_eq_false (by omega), Bool.false_and]
  rw [decide_eq_false h5]
  have no : ∀ i : Int, 0 ≤ i → i < cs.length → clsOk cs i = false → csOk cs = false := by
    intro i h0 h1 hc
    cases hq : csOk cs with
    | false => rfl
    | true => rw [csOk_at hq h0 h1] at hc; cases hc
  simp only [impl_ClassesOk.j0, Bool.false_eq_true, if_false]
  rw [if_pos (by omega)]
  rw [show (rd_T32 cs 0).f0 = sup cs 0 from rfl, show (rd_T32 cs 0).f1 = flds cs 0 from rfl]
  by_cases r0 : sup cs 0 = -1
  case neg =>
    rw [if_neg r0]
    simp only [impl_ClassesOk.j1, if_true]
    rw [no 0 (by omega) (by omega) (by unfold clsOk; simp [r0])]
  rw [if_pos r0]
  by_cases f0 : flds cs 0 = []
  case neg =>
    have : (((flds cs 0).length : Int) != 0) = true := by
      cases hq : flds cs 0 with
      | nil => exact absurd hq f0
      | cons x t => simp; omega
    rw [this]
    simp only [impl_ClassesOk.j1, if_true]
    rw [no 0 (by omega) (by omega) (by unfold clsOk; simp [f0])]
  rw [show (((flds cs 0).length : Int) != 0) = false by rw [f0]; rfl]
  simp only [impl_ClassesOk.j1, Bool.false_eq_true, if_false]
  rw [if_pos (by omega)]
  rw [show (rd_T32 cs 1).f0 = sup cs 1 from rfl, show (rd_T32 cs 1).f1 = flds cs 1 from rfl]
  have n1 : ¬ (sup cs 1 = 0 ∧ flds cs 1 = [1]) → csOk cs = false := fun z => no 1 (by omega) (by omega) (by unfold clsOk; rw [if_neg (by omega), if_pos rfl, decide_eq_false z, Bool.and_false])
  by_cases r1 : sup cs 1 = 0
  case neg =>
    rw [if_neg r1]
    simp only [impl_ClassesOk.j2, if_true]
    rw [n1 (fun z => r1 z.1)]
  rw [if_pos r1]
  by_cases l1 : ((flds cs 1).length : Int) = 1
  case neg =>
    rw [if_neg l1]
    simp only [impl_ClassesOk.j2, if_true]
    rw [n1 (fun z => l1 (by rw [z.2]; rfl))]
  rw [if_pos l1, if_pos (by omega)]
  obtain ⟨x, hx⟩ := List.length_eq_one_iff.1 (show (flds cs 1).length = 1 by omega)
  by_cases e1 : x = 1
  case neg =>
    rw [show (rd (flds cs 1) 0 != 1) = true by rw [hx]; simp [rd, e1]]
    simp only [impl_ClassesOk.j2, if_true]
    rw [n1 (fun z => e1 (by rw [hx] at z; simpa using z.2))]
  rw [show (rd (flds cs 1) 0 != 1) = false by rw [hx]; simp [rd, e1]]
  simp only [impl_ClassesOk.j2, Bool.false_eq_true, if_false]
  have := impl_ClassesOk_l0 cs (by omega) cs.length 0 (by omega) (by omega) k (by omega)
  rw [show ((0 : Nat) : Int) = 0 from rfl, List.drop_zero] at this
  rw [this]
  congr 1
  unfold csOk
  rw [decide_eq_true (show 2 ≤ cs.length ∧ cs.length ≤ 5 by omega), Bool.true_and, Bool.eq_iff_iff]
  simp only [List.all_eq_true, List.mem_range]
  refine forall_congr' fun i => forall_congr' fun hi => ?_
  unfold clsQ clsOk
  simp only [Bool.and_eq_true, Bool.or_eq_true, decide_eq_true_eq]
  by_cases i0 : (i : Int) = 0
  · rw [i0, if_pos rfl, decide_eq_true_eq, r0, f0]; simp
  by_cases i1 : (i : Int) = 1
  · rw [i1, if_neg (by omega), if_pos rfl, decide_eq_true_eq, r1, hx, e1]; simp
  rw [if_neg i0, if_neg i1, decide_eq_true_eq]
  constructor
  · rintro ⟨h1 | h1, h3, h4⟩
    · omega
    · exact ⟨h4, h1, h3⟩
  · rintro ⟨h4, h1, h3⟩
    exact ⟨Or.inr h1, h3, h4⟩
end Go.Proofs.Ytjnbilfhpdkcbaa.Pure
namespace Go.Proofs.Ytjnbilfhpdkcbaa.Pure
open Go.RowKit Go.Proofs.Ytjnbilfhpdkcbaa.K Go.Proofs.YtjnbilfhpdkcbaaW.PrintWords Go.Proofs.YtjnbilfhpdkcbaaW.PrintLast Go.Proofs.YtjnbilfhpdkcbaaW.PrintMore
set_option linter.unusedVariables false
set_option linter.unusedSimpArgs false
abbrev Ls := List S69
def toC (c : S69) : S32 := ⟨c.f0, c.f1⟩
def toCs (l : Ls) : Cs := l.map toC
theorem toIntS_l0 (d : Nat) : ∀ (k : Nat) (pre post : List Int) (xs : List Int), xs.length = pre.length + post.length → xs.take pre.length = pre → post.length = d → d < k → pre.length + d ≤ 140737488355328 →
    laws_toIntS.l0 k xs (pre ++ post) (pre.length : Int) = some xs := by
  induction d with
  | zero =>
    intro k pre post xs hl ht hd hk hc
    obtain ⟨k, rfl⟩ : ∃ m, k = m + 1 := ⟨k - 1, by omega⟩
    obtain rfl : post = [] := List.eq_nil_of_length_eq_zero hd
    simp only [laws_toIntS.l0]
    simp only [List.length_nil, Nat.add_zero] at hl
    rw [if_neg (by omega)]
    rw [← hl, List.take_length] at ht
    rw [ht]; simp
  | succ d ih =>
    intro k pre post xs hl ht hd hk hc
    obtain ⟨k, rfl⟩ : ∃ m, k = m + 1 := ⟨k - 1, by omega⟩
    obtain ⟨x, post, rfl⟩ : ∃ x t, post = x :: t := by cases post with | nil => simp at hd | cons x t => exact ⟨x, t, rfl⟩
    simp only [List.length_cons] at hl hd
    simp only [laws_toIntS.l0]
    rw [if_pos (by omega), if_pos (by omega), if_pos (by simp only [List.length_append, List.length_cons]; omega), wrap_inc (n := 4611686018427387904) (by omega) (by omega) (by omega)]
    have e : (pre ++ x :: post).set ((pre.length : Int).toNat) (rd xs pre.length) = (pre ++ [rd xs pre.length]) ++ post := by simp
    rw [e]
    have := ih k (pre ++ [rd xs pre.length]) post xs (by simp only [List.length_append, List.length_cons, List.length_nil]; omega) (by
      rw [List.length_append, List.length_singleton, List.take_succ_eq_append_getElem (by omega), ht, rd_cast]
      simp [List.getD_eq_getElem?_getD, show pre.length < xs.length by omega]) (by omega) (by omega) (by simp only [List.length_append, List.length_cons, List.length_nil]; omega)
    rw [show ((pre.length : Int) + 1) = (((pre ++ [rd xs pre.length]).length : Nat) : Int) from by simp, this]
theorem toIntS_eq (xs : List Int) (hx : xs.length ≤ 35184372088832) (k : Nat) (hk : xs.length < k) : laws_toIntS.f k xs = some xs := by
  unfold laws_toIntS.f
  rw [if_pos (by omega), if_pos (by omega), Int.toNat_natCast]
  have := toIntS_l0 xs.length k [] (List.replicate xs.length 0) xs (by simp) (by simp) (by simp) hk (by simp; omega)
  simpa using this
def fewL (l : Ls) : Prop := ∀ c ∈ l, c.f1.length ≤ 1048576
theorem toClassS_l0 (d : Nat) : ∀ (k : Nat) (l : Ls) (pre : Cs) (post : Cs), l.length = pre.length + post.length → (l.take pre.length).map toC = pre → post.length = d → d + 1048578 ≤ k → fewL l → pre.length + d ≤ 140737488355328 →
    laws_toClassS.l0 k l (pre ++ post) (pre.length : Int) = some (toCs l) := by
  induction d with
  | zero =>
    intro k l pre post hl ht hd hk hf hc
    obtain ⟨k, rfl⟩ : ∃ m, k = m + 1 := ⟨k - 1, by omega⟩
    obtain rfl : post = [] := List.eq_nil_of_length_eq_zero hd
    simp only [laws_toClassS.l0]
    simp only [List.length_nil, Nat.add_zero] at hl
    rw [if_neg (by omega)]
    rw [← hl, List.take_length] at ht
    unfold toCs
    rw [ht]; simp
  | succ d ih =>
    intro k l pre post hl ht hd hk hf hc
    obtain ⟨k, rfl⟩ : ∃ m, k = m + 1 := ⟨k - 1, by omega⟩
    obtain ⟨x, post, rfl⟩ : ∃ x t, post = x :: t := by cases post with | nil => simp at hd | cons x t => exact ⟨x, t, rfl⟩
    simp only [List.length_cons] at hl hd
    have hlt : pre.length < l.length := by omega
    have hrd : rd_T69 l pre.length = l[pre.length] := by simp [rd_T69, List.getD_eq_getElem?_getD, hlt]
    have hfl := hf l[pre.length] (List.getElem_mem _)
    simp only [laws_toClassS.l0, laws_toClass.f]
    rw [if_pos (by omega), if_pos (by omega), hrd, toIntS_eq _ (by omega) k (by omega)]
    simp only [Option.bind_some]
    rw [if_pos (by simp only [List.length_append, List.length_cons]; omega), wrap_inc (n := 4611686018427387904) (by omega) (by omega) (by omega)]
    have e : (pre ++ x :: post).set ((pre.length : Int).toNat) (toC l[pre.length]) = (pre ++ [toC l[pre.length]]) ++ post := by simp
    show laws_toClassS.l0 k l ((pre ++ x :: post).set ((pre.length : Int).toNat) (toC l[pre.length])) _ = _
    rw [e]
    have := ih k l (pre ++ [toC l[pre.length]]) post (by simp only [List.length_append, List.length_cons, List.length_nil]; omega) (by
      rw [List.length_append, List.length_singleton, List.take_succ_eq_append_getElem hlt, List.map_append, ht]; simp) (by omega) (by omega) hf (by simp only [List.length_append, List.length_cons, List.length_nil]; omega)
    rw [show ((pre.length : Int) + 1) = (((pre ++ [toC l[pre.length]]).length : Nat) : Int) from by simp, this]
theorem toClassS_eq (l : Ls) (hf : fewL l) (hl : l.length ≤ 1048576) (k : Nat) (hk : 4000000 ≤ k) : laws_toClassS.f k l = some (toCs l) := by
  unfold laws_toClassS.f
  rw [if_pos (by omega), if_pos (by omega), Int.toNat_natCast]
  have := toClassS_l0 l.length k l [] (List.replicate l.length z32) (by simp) (by simp) (by simp) (by omega) hf (by simp; omega)
  simpa using this
theorem szIntS_eq (xs : List Int) (a : Int) (h : xs.length ≤ 9223372036854775807) (ha : 0 ≤ a ∧ a ≤ 1048576) : laws_szIntS.f xs a = some (if (xs.length : Int) ≤ a then a - xs.length else -1) := by
  unfold laws_szIntS.f
  rw [wrap64_of (by omega) (by omega)]
  by_cases q : (xs.length : Int) ≤ a
  · rw [if_neg (by omega), if_pos q]
  · rw [if_pos (by omega), if_neg q]
theorem szClass_eq (s : Int) (xs : List Int) (a : Int) (h : xs.length ≤ 9223372036854775807) (ha : 0 ≤ a ∧ a ≤ 1048576) : laws_szClass.f s xs a = some (if (xs.length : Int) ≤ a then a - xs.length else -1) := by
  unfold laws_szClass.f
  rw [szIntS_eq xs a h ha]
  simp only [Option.bind_some]
  split
  · rw [if_neg (by omega)]
  · rw [if_pos (by omega)]
theorem szClassS_l0 (l : Ls) (hg : ∀ c ∈ l, c.f1.length ≤ 9223372036854775807) (hl : l.length ≤ 1048576) (d : Nat) : ∀ (i : Nat) (a : Int) (k : Nat), i ≤ l.length → l.length - i = d → 0 ≤ a ∧ a ≤ 1048576 → d < k →
    ∃ r, laws_szClassS.l0 k l a i = some r ∧ r ≤ 1048576 ∧ (0 ≤ r → ∀ j : Nat, i ≤ j → ∀ c, l[j]? = some c → c.f1.length ≤ 1048576) := by
  induction d with
  | zero =>
    intro i a k hi hd ha hk
    obtain ⟨k, rfl⟩ : ∃ m, k = m + 1 := ⟨k - 1, by omega⟩
    refine ⟨a, ?_, ha.2, fun _ j hj c hc => ?_⟩
    · simp only [laws_szClassS.l0]; rw [if_neg (by omega)]
    · have := (List.getElem?_eq_some_iff.1 hc).1; omega
  | succ d ih =>
    intro i a k hi hd ha hk
    obtain ⟨k, rfl⟩ : ∃ m, k = m + 1 := ⟨k - 1, by omega⟩
    have hlt : i < l.length := by omega
    have hrd : rd_T69 l i = l[i] := by simp [rd_T69, List.getD_eq_getElem?_getD, hlt]
    simp only [laws_szClassS.l0]
    rw [if_pos (by omega), if_pos (by omega), hrd, szClass_eq _ _ a (hg _ (List.getElem_mem _)) ha]
    simp only [Option.bind_some]
    by_cases q : (l[i].f1.length : Int) ≤ a
    · rw [if_pos q, if_neg (by omega), wrap_inc (n := l.length) (by omega) (by omega) (by omega)]
      obtain ⟨r, h1, h2, h3⟩ := ih (i + 1) (a - l[i].f1.length) k (by omega) (by omega) (by omega) (by omega)
      refine ⟨r, by rw [show ((i : Int) + 1) = ((i + 1 : Nat) : Int) from by omega]; exact h1, h2, fun hr j hj c hc => ?_⟩
      by_cases e : j = i
      · subst e
        rw [List.getElem?_eq_getElem hlt] at hc
        obtain rfl := Option.some.inj hc
        omega
      · exact h3 hr j (by omega) c hc
    · rw [if_neg q, if_pos (by omega)]
      exact ⟨-1, rfl, by omega, fun hr => by omega⟩
theorem szClassS_eq (l : Ls) (hg : GL G69 l) (k : Nat) (hk : 1048578 ≤ k) : ∃ r, laws_szClassS.f k l 1048576 = some r ∧ r ≤ 1048576 ∧ (0 ≤ r → l.length ≤ 1048576 ∧ fewL l) := by
  unfold laws_szClassS.f
  have h1 := hg.1
  rw [wrap64_of (by omega) (by omega)]
  by_cases q : (1048576 : Int) - l.length < 0
  · rw [if_pos q]; exact ⟨-1, rfl, by omega, fun h => by omega⟩
  · rw [if_neg q]
    obtain ⟨r, h2, h3, h4⟩ := szClassS_l0 l (fun c hc => (hg.2 c hc).2.1) (by omega) l.length 0 (1048576 - l.length) k (by omega) (by omega) (by omega) (by omega)
    refine ⟨r, h2, h3, fun hr => ⟨by omega, fun c hc => ?_⟩⟩
    obtain ⟨j, hj, rfl⟩ := List.getElem_of_mem hc
    exact h4 hr j (by omega) _ (List.getElem?_eq_getElem hj)
theorem fewF_of {l : Ls} (h : fewL l) : fewF (toCs l) := by
  intro i
  unfold flds rd_T32 toCs
  rw [List.getD_eq_getElem?_getD, List.getElem?_map]
  cases hq : l[i.toNat]? with
  | none => simp [z32]
  | some c => simpa [toC] using h c (List.mem_of_getElem? hq)
theorem eqClassS_l0 (cs : Cs) (hf : fewF cs) (hl : cs.length ≤ 1048576) (d : Nat) : ∀ (i k : Nat), i ≤ cs.length → cs.length - i = d → d + 1048578 ≤ k → laws_eqClassS.l0 k cs cs i = some true := by
  induction d with
  | zero =>
    intro i k hi hd hk
    obtain ⟨k, rfl⟩ : ∃ m, k = m + 1 := ⟨k - 1, by omega⟩
    simp only [laws_eqClassS.l0]; rw [if_neg (by omega)]
  | succ d ih =>
    intro i k hi hd hk
    obtain ⟨k, rfl⟩ : ∃ m, k = m + 1 := ⟨k - 1, by omega⟩
    simp only [laws_eqClassS.l0, laws_eqClass.f]
    have hq := hf i
    have e := eqIntS_l0 (flds cs i) (flds cs i) rfl (by omega) (flds cs i).length k 0 (by omega) (by omega) (by omega)
    have e2 : laws_eqIntS.f k (rd_T32 cs i).f1 (rd_T32 cs i).f1 = some true := by
      unfold laws_eqIntS.f
      rw [if_pos rfl]
      exact e.trans (by simp)
    rw [if_pos (by omega), if_pos (by omega), if_pos (by omega)]
    simp only [if_true, e2, Option.bind_some]
    rw [wrap_inc (n := cs.length) (by omega) (by omega) (by omega), show ((i : Int) + 1) = ((i + 1 : Nat) : Int) from by omega]
    exact ih (i + 1) k (by omega) (by omega) (by omega)
theorem eqClassS_self (cs : Cs) (hf : fewF cs) (hl : cs.length ≤ 1048576) (k : Nat) (hk : 4000000 ≤ k) : laws_eqClassS.f k cs cs = some true := by
  unfold laws_eqClassS.f
  rw [if_pos rfl]
  exact eqClassS_l0 cs hf hl cs.length 0 k (by omega) (by omega) (by omega)
end Go.Proofs.Ytjnbilfhpdkcbaa.Pure
namespace Go.Proofs.Ytjnbilfhpdkcbaa.Pure
open Go.RowKit Go.Proofs.Ytjnbilfhpdkcbaa.K Go.Proofs.YtjnbilfhpdkcbaaW.PrintWords Go.Proofs.YtjnbilfhpdkcbaaW.PrintLast Go.Proofs.YtjnbilfhpdkcbaaW.PrintMore
set_option linter.unusedVariables false
set_option linter.unusedSimpArgs false
theorem toBoolS_l0 (d : Nat) : ∀ (k : Nat) (pre post : List Bool) (xs : List Bool), xs.length = pre.length + post.length → xs.take pre.length = pre → post.length = d → d < k → pre.length + d ≤ 140737488355328 →
    laws_toBoolS.l0 k xs (pre ++ post) (pre.length : Int) = some xs := by
  induction d with
  | zero =>
    intro k pre post xs hl ht hd hk hc
    obtain ⟨k, rfl⟩ : ∃ m, k = m + 1 := ⟨k - 1, by omega⟩
    obtain rfl : post = [] := List.eq_nil_of_length_eq_zero hd
    simp only [laws_toBoolS.l0]
    simp only [List.length_nil, Nat.add_zero] at hl
    rw [if_neg (by omega)]
    rw [← hl, List.take_length] at ht
    rw [ht]; simp
  | succ d ih =>
    intro k pre post xs hl ht hd hk hc
    obtain ⟨k, rfl⟩ : ∃ m, k = m + 1 := ⟨k - 1, by omega⟩
    obtain ⟨x, post, rfl⟩ : ∃ x t, post = x :: t := by cases post with | nil => simp at hd | cons x t => exact ⟨x, t, rfl⟩
    simp only [List.length_cons] at hl hd
    simp only [laws_toBoolS.l0]
    rw [if_pos (by omega), if_pos (by omega), if_pos (by simp only [List.length_append, List.length_cons]; omega), wrap_inc (n := 4611686018427387904) (by omega) (by omega) (by omega)]
    have e : (pre ++ x :: post).set ((pre.length : Int).toNat) (rdOf false xs pre.length) = (pre ++ [rdOf false xs pre.length]) ++ post := by simp
    rw [e]
    have := ih k (pre ++ [rdOf false xs pre.length]) post xs (by simp only [List.length_append, List.length_cons, List.length_nil]; omega) (by
      rw [List.length_append, List.length_singleton, List.take_succ_eq_append_getElem (by omega), ht, rdB_cast]
      simp [List.getD_eq_getElem?_getD, show pre.length < xs.length by omega]) (by omega) (by omega) (by simp only [List.length_append, List.length_cons, List.length_nil]; omega)
    rw [show ((pre.length : Int) + 1) = (((pre ++ [rdOf false xs pre.length]).length : Nat) : Int) from by simp, this]
theorem toBoolS_eq (xs : List Bool) (hx : xs.length ≤ 35184372088832) (k : Nat) (hk : xs.length < k) : laws_toBoolS.f k xs = some xs := by
  unfold laws_toBoolS.f
  rw [if_pos (by omega), if_pos (by omega), Int.toNat_natCast]
  have := toBoolS_l0 xs.length k [] (List.replicate xs.length false) xs (by simp) (by simp) (by simp) hk (by simp; omega)
  simpa using this
theorem szBoolS_eq (xs : List Bool) (a : Int) (h : xs.length ≤ 9223372036854775807) (ha : 0 ≤ a ∧ a ≤ 1048576) : laws_szBoolS.f xs a = some (if (xs.length : Int) ≤ a then a - xs.length else -1) := by
  unfold laws_szBoolS.f
  rw [wrap64_of (by omega) (by omega)]
  by_cases c : (xs.length : Int) ≤ a
  · rw [if_neg (by omega), if_pos c]
  · rw [if_pos (by omega), if_neg c]
theorem ev_from {α : Type} {f : Nat → Option α} {r : α} (K : Nat) (h : ∀ k, K ≤ k → f k = some r) : Ev f r := ⟨K, h⟩
theorem ev_bind_some {α β : Type} {a : α} {f : α → Nat → Option β} {r : β} (h : Ev (f a) r) : Ev (fun k => (some a).bind fun x => f x k) r := h
abbrev Ms := S38
theorem toMem_ev (M : Ms) (h0 : M.f0.length ≤ 1048576) (h4 : M.f4.length ≤ 1048576) : Ev (fun k => laws_toMem.f k M.f0 M.f1 M.f2 M.f3 M.f4) (M.f0, M.f1, M.f2, M.f3, M.f4) := by
  refine ev_from 1048577 (fun k hk => ?_)
  unfold laws_toMem.f
  rw [toIntS_eq M.f0 (by omega) k (by omega), Option.bind_some, toBoolS_eq M.f4 (by omega) k (by omega), Option.bind_some]
theorem small_ev (l : Ls) (M : Ms) (hl : GL G69 l) (hM : G38 M) {f : Nat → Option Bool}
    (h : l.length ≤ 1048576 → fewL l → M.f0.length ≤ 1048576 → M.f4.length ≤ 1048576 → Ev f true) :
    Ev (fun k => (laws_szClassS.f k l 1048576).bind fun t => if t < 0 then some true else ((laws_szMem.f M.f0 M.f1 M.f2 M.f3 M.f4 t).bind fun t2 => if t2 < 0 then some true else f k)) true := by
  obtain ⟨r, hr, r1, r2⟩ := szClassS_eq l hl 1048578 (Nat.le_refl _)
  have e1 : ∀ k, 1048578 ≤ k → laws_szClassS.f k l 1048576 = some r := fun k hk => at_rounds (g := fun k => laws_szClassS.f k l 1048576) (fun k => laws_szClassS.mono l 1048576 k) hk hr
  refine (ev_from 1048578 e1).bind ?_
  by_cases c : r < 0
  · exact evp c (Ev.now _)
  refine evn c ?_
  obtain ⟨q1, q2⟩ := r2 (by omega)
  have g0 := hM.1.1
  have g4 := hM.2.2.2.2.1
  have e2 : laws_szMem.f M.f0 M.f1 M.f2 M.f3 M.f4 r = some (if (M.f0.length : Int) ≤ r then (if (M.f4.length : Int) ≤ r - M.f0.length then r - M.f0.length - M.f4.length else -1) else -1) := by
    unfold laws_szMem.f
    rw [szIntS_eq M.f0 r g0 (by omega), Option.bind_some]
    by_cases c1 : (M.f0.length : Int) ≤ r
    · rw [if_pos c1, if_pos c1, if_neg (by omega), szBoolS_eq M.f4 _ g4 (by omega), Option.bind_some]
      by_cases c2 : (M.f4.length : Int) ≤ r - M.f0.length
      · rw [if_pos c2, if_neg (by omega)]
      · rw [if_neg c2, if_pos (by omega)]
    · rw [if_neg c1, if_neg c1, if_pos (by omega)]
  rw [e2]
  refine ev_bind_some ?_
  by_cases c1 : (M.f0.length : Int) ≤ r
  · by_cases c2 : (M.f4.length : Int) ≤ r - M.f0.length
    · rw [if_pos c1, if_pos c2]
      refine evn (by omega) ?_
      exact h q1 q2 (by omega) (by omega)
    · rw [if_pos c1, if_neg c2]
      exact evp (by omega) (Ev.now _)
  · rw [if_neg c1]
    exact evp (by omega) (Ev.now _)
theorem toClassS_ev (l : Ls) (hf : fewL l) (hl : l.length ≤ 1048576) : Ev (fun k => laws_toClassS.f k l) (toCs l) := ev_from 4000000 (fun k hk => toClassS_eq l hf hl k hk)
theorem eqClassS_ev (l : Ls) (hf : fewL l) (hl : l.length ≤ 1048576) : Ev (fun k => laws_eqClassS.f k (toCs l) (toCs l)) true := ev_from 4000000 (fun k hk => eqClassS_self (toCs l) (fewF_of hf) (by unfold toCs; rw [List.length_map]; exact hl) k hk)
theorem eqMem_self (M : Ms) (h0 : M.f0.length ≤ 1048576) (h4 : M.f4.length ≤ 1048576) : Ev (fun k => laws_eqMem.f k M.f0 M.f1 M.f2 M.f3 M.f4 M.f0 M.f1 M.f2 M.f3 M.f4) true := by
  have := eqMem_ev M.f0 M.f1 M.f2 M.f3 M.f4 M.f0 M.f1 M.f2 M.f3 M.f4 (by omega) (by omega)
  simpa using this
end Go.Proofs.Ytjnbilfhpdkcbaa.Pure
namespace Go.Proofs.Ytjnbilfhpdkcbaa.Pure
open Go.RowKit Go.Proofs.Ytjnbilfhpdkcbaa.K Go.Proofs.YtjnbilfhpdkcbaaW.PrintWords Go.Proofs.YtjnbilfhpdkcbaaW.PrintLast Go.Proofs.YtjnbilfhpdkcbaaW.PrintMore
set_option linter.unusedVariables false
set_option linter.unusedSimpArgs false
theorem fields_same (cs : Cs) : ∀ (k : Nat) (a : Int), spec_l2Fields.f k cs a = impl_classFields.f k cs a
  | 0, a => by rw [spec_l2Fields.f, impl_classFields.f]
  | k + 1, a => by rw [spec_l2Fields.f, impl_classFields.f, fields_same cs k]
theorem csOk_two {cs : Cs} (h : csOk cs = true) {i : Int} (h0 : 0 ≤ i) (h1 : i < cs.length) : (flds cs i).length ≤ 2 := by
  have h2 := csOk_at h h0 h1
  unfold clsOk at h2
  simp only [Bool.and_eq_true] at h2
  have h3 := h2.2
  by_cases c0 : i = 0
  · rw [if_pos c0, decide_eq_true_eq] at h3
    rw [c0, h3.2]; simp
  rw [if_neg c0] at h3
  by_cases c1 : i = 1
  · rw [if_pos c1, decide_eq_true_eq] at h3
    rw [c1, h3.2]; simp
  rw [if_neg c1, decide_eq_true_eq] at h3
  exact h3.2
theorem classFields_ev {cs : Cs} (h : csOk cs = true) : ∀ a : Int, 0 ≤ a → a < cs.length → ∃ fs, fs.length ≤ 2 * a.toNat ∧ ∀ k, a.toNat + 1 ≤ k → impl_classFields.f k cs a = some fs := by
  refine cls_ind h ⟨[], by simp, fun k hk => ?_⟩ ?_
  · obtain ⟨k, rfl⟩ : ∃ m, k = m + 1 := ⟨k - 1, by omega⟩
    rw [impl_classFields.f, if_pos rfl]
  · intro a ha hl ⟨fs, hfs, hk⟩
    have hs := csOk_sup h ha hl
    have h2 := csOk_two h (by omega) hl
    refine ⟨fs ++ flds cs a, by rw [List.length_append]; omega, fun k hk2 => ?_⟩
    obtain ⟨k, rfl⟩ : ∃ m, k = m + 1 := ⟨k - 1, by omega⟩
    have e := hk k (by omega)
    rw [impl_classFields.f, if_neg (by omega), if_pos (by omega), if_pos hl]
    show ((impl_classFields.f k cs (sup cs a)).bind fun t => if t.length + (flds cs a).length < 17592186044416 then some (t ++ flds cs a) else none) = _
    rw [e, Option.bind_some, if_pos (by have := csOk_len h; omega)]
def cfl (cs : Cs) (a : Int) : List Int := (impl_classFields.f 10 cs a).getD []
theorem cfl_eq {cs : Cs} (h : csOk cs = true) {a : Int} (h0 : 0 ≤ a) (h1 : a < cs.length) : (cfl cs a).length ≤ 8 ∧ ∀ k, 10 ≤ k → impl_classFields.f k cs a = some (cfl cs a) := by
  have hl := csOk_len h
  obtain ⟨fs, hf, hk⟩ := classFields_ev h a h0 h1
  have e : cfl cs a = fs := by unfold cfl; rw [hk 10 (by omega)]; rfl
  rw [e]
  exact ⟨by omega, fun k hk2 => hk k (by omega)⟩
def allF (cs : Cs) : List (List Int) := (List.range cs.length).map (fun i : Nat => cfl cs i)
theorem allF_len (cs : Cs) : (allF cs).length = cs.length := by unfold allF; simp
theorem allF_at (cs : Cs) {c : Int} (h0 : 0 ≤ c) (h1 : c < cs.length) : rdL (allF cs) c = cfl cs c := by
  have h2 : c.toNat < cs.length := by omega
  unfold rdL allF
  rw [List.getD_eq_getElem?_getD, List.getElem?_map, List.getElem?_range h2]
  show cfl cs ((c.toNat : Nat) : Int) = _
  rw [Int.toNat_of_nonneg h0]
theorem allF_short {cs : Cs} (h : csOk cs = true) : FShort (allF cs) := by
  intro c h0 h1
  rw [allF_len] at h1
  rw [allF_at cs h0 h1]
  have := (cfl_eq h h0 h1).1
  omega
theorem allF_all {cs : Cs} (h : csOk cs = true) : (allF cs).all (fun r => decide (r.length ≤ 4294967296)) = true := by
  rw [List.all_eq_true]
  intro r hr
  obtain ⟨i, hi, rfl⟩ := List.getElem_of_mem hr
  have h2 := allF_short h (i : Int) (by omega) (by omega)
  unfold rdL at h2
  rw [Int.toNat_natCast, List.getD_eq_getElem?_getD, List.getElem?_eq_getElem hi] at h2
  exact decide_eq_true h2
theorem allFields_l0 {cs : Cs} (h : csOk cs = true) (d : Nat) : ∀ (k i : Nat), i + d = cs.length → d + 11 ≤ k → impl_allFields.l0 k cs ((List.range i).map (fun j : Nat => cfl cs j)) cs.length i = some (allF cs) := by
  have hl := csOk_len h
  induction d with
  | zero =>
    intro k i hi hk
    obtain ⟨k, rfl⟩ : ∃ m, k = m + 1 := ⟨k - 1, by omega⟩
    rw [impl_allFields.l0, if_neg (by omega)]
    unfold allF
    rw [show i = cs.length by omega]
  | succ d ih =>
    intro k i hi hk
    obtain ⟨k, rfl⟩ : ∃ m, k = m + 1 := ⟨k - 1, by omega⟩
    rw [impl_allFields.l0, if_pos (by omega), (cfl_eq h (a := (i : Int)) (by omega) (by omega)).2 k (by omega)]
    simp only [Option.bind_some]
    rw [if_pos (by simp; omega), wrap_inc (n := 1000) (by omega) (by omega) (by omega)]
    have := ih k (i + 1) (by omega) (by omega)
    rw [List.range_succ, List.map_append] at this
    exact this
theorem allFields_eq {cs : Cs} (h : csOk cs = true) (k : Nat) (hk : 20 ≤ k) : impl_allFields.f k cs = some (allF cs) := by
  have hl := csOk_len h
  have := allFields_l0 h cs.length k 0 (by omega) (by omega)
  unfold impl_allFields.f
  exact this
theorem measN_c {cs : Cs} {c : Int} (n : Int) (h0 : 0 ≤ c) (h1 : c < cs.length) : measN (allF cs) c n = 1 + (cfl cs c).length := by
  unfold measN
  rw [if_neg (by omega), allF_len, if_pos ⟨h0, h1⟩, allF_at cs h0 h1]
theorem l21Size_eq {cs : Cs} (h : csOk cs = true) {ws : List Int} (hw : ws.length ≤ 1048576) {i e : Int} (h0 : 0 ≤ i) (he : e ≤ ws.length) (k : Nat) (hk : 20 ≤ k) :
    spec_l21Size.f k cs ws i e = some (if i < e then mstep ws (allF cs) e i else 0) := by
  have hl := csOk_len h
  unfold spec_l21Size.f
  by_cases c0 : i < e
  case neg => rw [if_pos (by omega), if_neg c0]
  case pos =>
  rw [if_neg (by omega), if_pos h0, if_pos (by omega), spec_l6In_eq, if_pos c0, wrap64_of (n := (cs.length : Int) - 1) (by omega) (by omega)]
  simp only [Option.bind_some, decide_eq_true_eq]
  obtain ⟨c, hc⟩ : ∃ c, c = rd ws i := ⟨_, rfl⟩
  unfold mstep
  rw [← hc]
  by_cases c1 : 0 ≤ c ∧ c ≤ (cs.length : Int) - 1
  · have c1' : c < (cs.length : Int) := by omega
    obtain ⟨f1, f2⟩ := cfl_eq h c1.1 c1'
    rw [if_pos c1, fields_same, f2 k (by omega), if_neg (by omega), measN_c 0 c1.1 c1']
    simp only [Option.bind_some]
    rw [wrap64_of (n := 1 + ((cfl cs c).length : Int)) (by omega) (by omega), wrap64_of (n := i + (1 + ((cfl cs c).length : Int))) (by omega) (by omega)]
    by_cases c2 : i + (1 + ((cfl cs c).length : Int)) > e
    · rw [if_pos c2, if_neg (by omega)]
    · rw [if_neg c2, if_pos (by omega)]
  rw [if_neg c1]
  obtain ⟨k, rfl⟩ : ∃ m, k = m + 2 := ⟨k - 2, by omega⟩
  have w1 : wrap64 (i + 1) = i + 1 := wrap64_of (by omega) (by omega)
  have key : ∀ b : Bool, (b = true ↔ (c = -1 ∨ c = -2)) → spec_l21Size.j0 (k + 2) ws i e 0 b = some (if c < 0 then (if i + 1 < e then (if measN (allF cs) c (rd ws (i + 1)) ≤ e - i then measN (allF cs) c (rd ws (i + 1)) else 0) else 0) else (if measN (allF cs) c 0 ≤ e - i then measN (allF cs) c 0 else 0)) := by
    intro b hb
    rw [spec_l21Size.j0]
    by_cases c2 : c = -1 ∨ c = -2
    · rw [if_pos (hb.mpr c2), w1, if_pos (show c < 0 by omega)]
      by_cases c3 : i + 1 ≥ e
      · rw [if_pos c3, spec_l21Size.j1, if_pos rfl, if_neg (show ¬ i + 1 < e by omega)]
      rw [if_neg c3, if_pos (show 0 ≤ i + 1 by omega), if_pos (show i + 1 < (ws.length : Int) by omega), spec_l6In_eq, if_pos (show i + 1 < e by omega)]
      simp only [Option.bind_some]
      obtain ⟨n, hn⟩ : ∃ n, n = rd ws (i + 1) := ⟨_, rfl⟩
      rw [← hn]
      have m1 : measN (allF cs) c n = if 0 ≤ n ∧ n ≤ 6 then 2 + n else 0 := by unfold measN; rw [if_pos c2]
      rw [m1, spec_l21Size.j1]
      by_cases c4 : 0 ≤ n ∧ n ≤ 6
      · rw [decide_eq_true c4, if_neg (by simp), w1, if_pos (show 0 ≤ i + 1 by omega), if_pos (show i + 1 < (ws.length : Int) by omega), if_pos c4, ← hn, wrap64_of (n := 2 + n) (by omega) (by omega), wrap64_of (n := i + (2 + n)) (by omega) (by omega)]
        by_cases c5 : i + (2 + n) > e
        · rw [if_pos c5, if_neg (by omega)]
        · rw [if_neg c5, if_pos (by omega)]
      · rw [decide_eq_false c4, if_pos (by simp), if_neg c4, if_pos (by omega)]
    · rw [if_neg (fun hh => c2 (hb.mp hh)), wrap64_of (n := i + 0) (by omega) (by omega), if_neg (by omega)]
      have m0 : ∀ n, measN (allF cs) c n = 0 := fun n => by unfold measN; rw [if_neg c2, allF_len, if_neg (by omega)]
      rw [m0, m0]
      by_cases c3 : c < 0
      · rw [if_pos c3]
        by_cases c4 : i + 1 < e
        · rw [if_pos c4, if_pos (by omega)]
        · rw [if_neg c4]
      · rw [if_neg c3, if_pos (by omega)]
  by_cases c2 : c = -1
  · rw [if_pos c2, key true (by simp [c2])]
  · rw [if_neg c2, key _ (by simp [c2])]
end Go.Proofs.Ytjnbilfhpdkcbaa.Pure
