/- Plain laws of the statements' own comparers and markers of lists: what they answer. -/
import Derived.Test.YtfcbeodndplenaaK0
import Derived.Test.YtfcbeodndplenaaKf40
import Derived.Test.YtfcbeodndplenaaKf41
import Derived.Test.YtfcbeodndplenaaKf42
import Derived.Test.YtfcbeodndplenaaKf43
import Derived.Test.YtfcbeodndplenaaKf44
import Derived.Test.YtfcbeodndplenaaKf45
namespace Go.Proofs.Ytfcbeodndplenaa.Pure
open Go.RowKit Go.Proofs.Ytfcbeodndplenaa.K Go.Proofs.YtfcbeodndplenaaW.PrintWords Go.Proofs.YtfcbeodndplenaaW.PrintLast Go.Proofs.YtfcbeodndplenaaW.PrintMore
set_option linter.unusedVariables false
set_option linter.unusedSimpArgs false
theorem evp {α : Type} {c : Prop} [Decidable c] {f g : Nat → Option α} {r : α} (h : c) (k : Ev f r) : Ev (fun n => if c then f n else g n) r := Ev.congr (fun _ => if_pos h) k
theorem evn {α : Type} {c : Prop} [Decidable c] {f g : Nat → Option α} {r : α} (h : ¬ c) (k : Ev g r) : Ev (fun n => if c then f n else g n) r := Ev.congr (fun _ => if_neg h) k

theorem wrap_inc {i n : Int} (h0 : 0 ≤ i) (h : i < n) (hn : n ≤ 4611686018427387904) : wrap64 (i + 1) = i + 1 := by
  unfold wrap64; omega

theorem rd_cast (xs : List Int) (i : Nat) : rd xs (i : Int) = xs.getD i 0 := by simp [rd]

theorem drop_getD {α : Type} (xs : List α) (i : Nat) (d : α) (h : i < xs.length) : xs.drop i = xs.getD i d :: xs.drop (i + 1) := by
  rw [List.drop_eq_getElem_cons h]; simp [List.getD_eq_getElem?_getD, h]

theorem eqIntS_l0 (xs ys : List Int) (hl : xs.length = ys.length) (hb : xs.length ≤ 140737488355328) (d : Nat) : ∀ (k : Nat) (i : Nat), i ≤ xs.length → xs.length - i = d → d < k →
    laws_eqIntS.l0 k xs ys i = some (decide (xs.drop i = ys.drop i)) := by
  induction d with
  | zero =>
    intro k i hi hd hk
    obtain ⟨k, rfl⟩ : ∃ m, k = m + 1 := ⟨k - 1, by omega⟩
    have : i = xs.length := by omega
    subst this
    simp only [laws_eqIntS.l0]
    rw [if_neg (by omega)]
    simp [hl]
  | succ d ih =>
    intro k i hi hd hk
    obtain ⟨k, rfl⟩ : ∃ m, k = m + 1 := ⟨k - 1, by omega⟩
    simp only [laws_eqIntS.l0]
    rw [if_pos (by omega), if_pos (by omega), if_pos (by omega), wrap_inc (n := xs.length) (by omega) (by omega) (by omega), rd_cast, rd_cast, drop_getD xs i 0 (by omega), drop_getD ys i 0 (by omega)]
    by_cases h : xs.getD i 0 = ys.getD i 0
    · rw [if_pos h]
      have := ih k (i + 1) (by omega) (by omega) (by omega)
      rw [show ((i : Int) + 1) = ((i + 1 : Nat) : Int) from by omega, this]
      simp only [List.cons.injEq, h, true_and]
    · rw [if_neg h]
      simp only [List.cons.injEq, h, false_and, decide_false]

theorem eqIntS_ev (xs ys : List Int) (hb : xs.length ≤ 140737488355328) : Ev (fun k => laws_eqIntS.f k xs ys) (decide (xs = ys)) := by
  by_cases hl : xs.length = ys.length
  · refine Ev.of (k := xs.length + 1) (laws_eqIntS.mono xs ys) ?_
    simp only [laws_eqIntS.f]
    rw [if_pos (by omega)]
    have := eqIntS_l0 xs ys hl hb xs.length (xs.length + 1) 0 (by omega) (by omega) (by omega)
    simpa using this
  · refine Ev.of (k := 0) (laws_eqIntS.mono xs ys) ?_
    simp only [laws_eqIntS.f]
    rw [if_neg (by omega)]
    have : xs ≠ ys := fun h => hl (by rw [h])
    simp [this]

theorem rdB_cast (xs : List Bool) (i : Nat) : rdOf false xs (i : Int) = xs.getD i false := by simp [rdOf]

theorem eqBoolS_l0 (xs ys : List Bool) (hl : xs.length = ys.length) (hb : xs.length ≤ 140737488355328) (d : Nat) : ∀ (k : Nat) (i : Nat), i ≤ xs.length → xs.length - i = d → d < k →
    laws_eqBoolS.l0 k xs ys i = some (decide (xs.drop i = ys.drop i)) := by
  induction d with
  | zero =>
    intro k i hi hd hk
    obtain ⟨k, rfl⟩ : ∃ m, k = m + 1 := ⟨k - 1, by omega⟩
    have : i = xs.length := by omega
    subst this
    simp only [laws_eqBoolS.l0]
    rw [if_neg (by omega)]
    simp [hl]
  | succ d ih =>
    intro k i hi hd hk
    obtain ⟨k, rfl⟩ : ∃ m, k = m + 1 := ⟨k - 1, by omega⟩
    simp only [laws_eqBoolS.l0]
    rw [if_pos (by omega), if_pos (by omega), if_pos (by omega), wrap_inc (n := xs.length) (by omega) (by omega) (by omega), rdB_cast, rdB_cast, drop_getD xs i false (by omega), drop_getD ys i false (by omega)]
    by_cases h : xs.getD i false = ys.getD i false
    · rw [if_neg (by rw [h]; simp)]
      have := ih k (i + 1) (by omega) (by omega) (by omega)
      rw [show ((i : Int) + 1) = ((i + 1 : Nat) : Int) from by omega, this]
      simp only [List.cons.injEq, h, true_and]
    · rw [if_pos (by simpa using h)]
      simp only [List.cons.injEq, h, false_and, decide_false]

theorem eqBoolS_ev (xs ys : List Bool) (hb : xs.length ≤ 140737488355328) : Ev (fun k => laws_eqBoolS.f k xs ys) (decide (xs = ys)) := by
  by_cases hl : xs.length = ys.length
  · refine Ev.of (k := xs.length + 1) (laws_eqBoolS.mono xs ys) ?_
    simp only [laws_eqBoolS.f]
    rw [if_pos (by omega)]
    have := eqBoolS_l0 xs ys hl hb xs.length (xs.length + 1) 0 (by omega) (by omega) (by omega)
    simpa using this
  · refine Ev.of (k := 0) (laws_eqBoolS.mono xs ys) ?_
    simp only [laws_eqBoolS.f]
    rw [if_neg (by omega)]
    have : xs ≠ ys := fun h => hl (by rw [h])
    simp [this]

/-- What the marker writes from mark a on. -/
def marksI : Nat → Int → List Int
  | 0, _ => []
  | n + 1, a => a :: marksI n (a + 1)
theorem marksI_length (n : Nat) : ∀ a, (marksI n a).length = n := by
  induction n with
  | zero => intro a; rfl
  | succ n ih => intro a; simp [marksI, ih]

theorem set_take_drop {α : Type} (xs : List α) (i : Nat) (v : α) (h : i < xs.length) : xs.set i v = xs.take i ++ v :: xs.drop (i + 1) := by
  rw [List.set_eq_take_append_cons_drop, if_pos h]

theorem markIntS_l0 (d : Nat) : ∀ (k : Nat) (pre post : List Int) (a : Int), post.length = d → d < k → 0 ≤ a → a + d ≤ 4611686018427387904 → pre.length + d ≤ 140737488355328 →
    laws_markIntS.l0 k (pre ++ post) a (pre.length : Int) = some (a + d, pre ++ marksI d a) := by
  induction d with
  | zero =>
    intro k pre post a hd hk ha hb hc
    obtain ⟨k, rfl⟩ : ∃ m, k = m + 1 := ⟨k - 1, by omega⟩
    obtain rfl : post = [] := List.eq_nil_of_length_eq_zero hd
    simp only [laws_markIntS.l0]
    rw [if_neg (by simp)]
    simp [marksI]
  | succ d ih =>
    intro k pre post a hd hk ha hb hc
    obtain ⟨k, rfl⟩ : ∃ m, k = m + 1 := ⟨k - 1, by omega⟩
    obtain ⟨x, post, rfl⟩ : ∃ x t, post = x :: t := by cases post with | nil => simp at hd | cons x t => exact ⟨x, t, rfl⟩
    simp only [laws_markIntS.l0]
    simp only [List.length_cons] at hd
    rw [if_pos (by simp only [List.length_append, List.length_cons]; omega), if_pos (by omega), wrap_inc (n := 4611686018427387904) ha (by omega) (by omega), wrap_inc (n := 4611686018427387904) (by omega) (by omega) (by omega)]
    have e : (pre ++ x :: post).set ((pre.length : Int).toNat) a = (pre ++ [a]) ++ post := by
      simp
    rw [e]
    have := ih k (pre ++ [a]) post (a + 1) (by omega) (by omega) (by omega) (by omega) (by simp; omega)
    rw [show ((pre.length : Int) + 1) = (((pre ++ [a]).length : Nat) : Int) from by simp, this]
    simp [marksI]
    omega

theorem markIntS_ev (xs : List Int) (a : Int) (ha : 0 ≤ a) (hb : a + xs.length ≤ 4611686018427387904) (hc : xs.length ≤ 140737488355328) :
    Ev (fun k => laws_markIntS.f k xs a) (a + xs.length, marksI xs.length a) := by
  refine Ev.of (k := xs.length + 1) (laws_markIntS.mono xs a) ?_
  have := markIntS_l0 xs.length (xs.length + 1) [] xs a rfl (by omega) ha hb (by simpa using hc)
  simpa [laws_markIntS.f] using this

theorem heldIntS_l0 (d : Nat) : ∀ (k : Nat) (pre : List Int) (a : Int), d < k → 0 ≤ a → a + d ≤ 4611686018427387904 → pre.length + d ≤ 140737488355328 →
    laws_heldIntS.l0 k (pre ++ marksI d a) a (pre.length : Int) = some (a + d) := by
  induction d with
  | zero =>
    intro k pre a hk ha hb hc
    obtain ⟨k, rfl⟩ : ∃ m, k = m + 1 := ⟨k - 1, by omega⟩
    simp only [laws_heldIntS.l0, marksI, List.append_nil]
    rw [if_neg (by omega)]
    simp
  | succ d ih =>
    intro k pre a hk ha hb hc
    obtain ⟨k, rfl⟩ : ∃ m, k = m + 1 := ⟨k - 1, by omega⟩
    show laws_heldIntS.l0 (k + 1) (pre ++ (a :: marksI d (a + 1))) a (pre.length : Int) = _
    simp only [laws_heldIntS.l0]
    rw [if_pos (by simp only [List.length_append, List.length_cons]; omega), if_pos (by omega), wrap_inc (n := 4611686018427387904) ha (by omega) (by omega), wrap_inc (n := 4611686018427387904) (by omega) (by omega) (by omega), rd_cast, if_pos (by simp [List.getD_eq_getElem?_getD])]
    have := ih k (pre ++ [a]) (a + 1) (by omega) (by omega) (by omega) (by simp; omega)
    rw [show pre ++ a :: marksI d (a + 1) = (pre ++ [a]) ++ marksI d (a + 1) from by simp, show ((pre.length : Int) + 1) = (((pre ++ [a]).length : Nat) : Int) from by simp, this]
    simp; omega

theorem heldIntS_ev (n : Nat) (a : Int) (ha : 0 ≤ a) (hb : a + n ≤ 4611686018427387904) (hc : n ≤ 140737488355328) :
    Ev (fun k => laws_heldIntS.f k (marksI n a) a) (a + n) := by
  refine Ev.of (k := n + 1) (laws_heldIntS.mono _ a) ?_
  have := heldIntS_l0 n (n + 1) [] a (by omega) ha hb (by simpa using hc)
  simpa [laws_heldIntS.f] using this

/-- The same for bools. -/
def marksB : Nat → Int → List Bool
  | 0, _ => []
  | n + 1, a => (Int.tmod a 3 == 0) :: marksB n (a + 1)
theorem marksB_length (n : Nat) : ∀ a, (marksB n a).length = n := by
  induction n with
  | zero => intro a; rfl
  | succ n ih => intro a; simp [marksB, ih]

theorem markBoolS_l0 (d : Nat) : ∀ (k : Nat) (pre post : List Bool) (a : Int), post.length = d → d < k → 0 ≤ a → a + d ≤ 4611686018427387904 → pre.length + d ≤ 140737488355328 →
    laws_markBoolS.l0 k (pre ++ post) a (pre.length : Int) = some (a + d, pre ++ marksB d a) := by
  induction d with
  | zero =>
    intro k pre post a hd hk ha hb hc
    obtain ⟨k, rfl⟩ : ∃ m, k = m + 1 := ⟨k - 1, by omega⟩
    obtain rfl : post = [] := List.eq_nil_of_length_eq_zero hd
    simp only [laws_markBoolS.l0]
    rw [if_neg (by simp)]
    simp [marksB]
  | succ d ih =>
    intro k pre post a hd hk ha hb hc
    obtain ⟨k, rfl⟩ : ∃ m, k = m + 1 := ⟨k - 1, by omega⟩
    obtain ⟨x, post, rfl⟩ : ∃ x t, post = x :: t := by cases post with | nil => simp at hd | cons x t => exact ⟨x, t, rfl⟩
    simp only [laws_markBoolS.l0]
    simp only [List.length_cons] at hd
    rw [if_pos (by simp only [List.length_append, List.length_cons]; omega), if_pos (by omega), wrap_inc (n := 4611686018427387904) ha (by omega) (by omega), wrap_inc (n := 4611686018427387904) (by omega) (by omega) (by omega)]
    have e : (pre ++ x :: post).set ((pre.length : Int).toNat) (Int.tmod a 3 == 0) = (pre ++ [Int.tmod a 3 == 0]) ++ post := by
      simp
    rw [e]
    have := ih k (pre ++ [Int.tmod a 3 == 0]) post (a + 1) (by omega) (by omega) (by omega) (by omega) (by simp; omega)
    rw [show ((pre.length : Int) + 1) = (((pre ++ [Int.tmod a 3 == 0]).length : Nat) : Int) from by simp, this]
    simp [marksB]
    omega

theorem markBoolS_ev (xs : List Bool) (a : Int) (ha : 0 ≤ a) (hb : a + xs.length ≤ 4611686018427387904) (hc : xs.length ≤ 140737488355328) :
    Ev (fun k => laws_markBoolS.f k xs a) (a + xs.length, marksB xs.length a) := by
  refine Ev.of (k := xs.length + 1) (laws_markBoolS.mono xs a) ?_
  have := markBoolS_l0 xs.length (xs.length + 1) [] xs a rfl (by omega) ha hb (by simpa using hc)
  simpa [laws_markBoolS.f] using this

theorem heldBoolS_l0 (d : Nat) : ∀ (k : Nat) (pre : List Bool) (a : Int), d < k → 0 ≤ a → a + d ≤ 4611686018427387904 → pre.length + d ≤ 140737488355328 →
    laws_heldBoolS.l0 k (pre ++ marksB d a) a (pre.length : Int) = some (a + d) := by
  induction d with
  | zero =>
    intro k pre a hk ha hb hc
    obtain ⟨k, rfl⟩ : ∃ m, k = m + 1 := ⟨k - 1, by omega⟩
    simp only [laws_heldBoolS.l0, marksB, List.append_nil]
    rw [if_neg (by omega)]
    simp
  | succ d ih =>
    intro k pre a hk ha hb hc
    obtain ⟨k, rfl⟩ : ∃ m, k = m + 1 := ⟨k - 1, by omega⟩
    show laws_heldBoolS.l0 (k + 1) (pre ++ ((Int.tmod a 3 == 0) :: marksB d (a + 1))) a (pre.length : Int) = _
    simp only [laws_heldBoolS.l0]
    rw [if_pos (by simp only [List.length_append, List.length_cons]; omega), if_pos (by omega), wrap_inc (n := 4611686018427387904) ha (by omega) (by omega), wrap_inc (n := 4611686018427387904) (by omega) (by omega) (by omega), rdB_cast, if_neg (by simp [List.getD_eq_getElem?_getD])]
    have := ih k (pre ++ [Int.tmod a 3 == 0]) (a + 1) (by omega) (by omega) (by omega) (by simp; omega)
    rw [show pre ++ (Int.tmod a 3 == 0) :: marksB d (a + 1) = (pre ++ [Int.tmod a 3 == 0]) ++ marksB d (a + 1) from by simp, show ((pre.length : Int) + 1) = (((pre ++ [Int.tmod a 3 == 0]).length : Nat) : Int) from by simp, this]
    simp; omega

theorem heldBoolS_ev (n : Nat) (a : Int) (ha : 0 ≤ a) (hb : a + n ≤ 4611686018427387904) (hc : n ≤ 140737488355328) :
    Ev (fun k => laws_heldBoolS.f k (marksB n a) a) (a + n) := by
  refine Ev.of (k := n + 1) (laws_heldBoolS.mono _ a) ?_
  have := heldBoolS_l0 n (n + 1) [] a (by omega) ha hb (by simpa using hc)
  simpa [laws_heldBoolS.f] using this

end Go.Proofs.Ytfcbeodndplenaa.Pure
