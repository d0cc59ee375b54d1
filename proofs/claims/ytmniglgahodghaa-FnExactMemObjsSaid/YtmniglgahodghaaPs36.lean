import Derived.Test.YtmniglgahodghaaPs24
import Derived.Test.YtmniglgahodghaaPs34
import Derived.Test.YtmniglgahodghaaPs35
import Derived.Test.YtmniglgahodghaaPs32
import Derived.Test.YtmniglgahodghaaPs26
import Derived.Laws.Bits64
import Derived.Test.YtmniglgahodghaaPs27
import Derived.Test.YtmniglgahodghaaPs28
import Derived.Test.YtmniglgahodghaaPs33
import Derived.Test.YtmniglgahodghaaPs31
import Derived.Test.YtmniglgahodghaaPs30
import Derived.Test.YtmniglgahodghaaPs29
namespace Go.Proofs.Ytmniglgahodghaa.Pure
open Go.RowKit Go.Proofs.Ytmniglgahodghaa.K Go.Proofs.YtmniglgahodghaaW.PrintWords Go.Proofs.YtmniglgahodghaaW.PrintLast Go.Proofs.YtmniglgahodghaaW.PrintMore
set_option linter.unusedVariables false
set_option linter.unusedSimpArgs false
abbrev Vs := S112
abbrev Os := S86
def marksV : Nat → Int → List Vs
  | 0, _ => []
  | n + 1, a => ⟨Int.tmod a 3 == 0, a + 1⟩ :: marksV n (a + 2)
theorem rdV_at (pre : List Vs) (x : Vs) (post : List Vs) : rd_T112 (pre ++ x :: post) (pre.length : Int) = x := by
  unfold rd_T112
  simp
theorem markValS_l0 (d : Nat) : ∀ (k : Nat) (pre post : List Vs) (a : Int), post.length = d → d < k → 0 ≤ a → a + 2 * d ≤ 4611686018427387904 → pre.length + d ≤ 140737488355328 →
  laws_markValS.l0 k (pre ++ post) a (pre.length : Int) = some (a + 2 * d, pre ++ marksV d a) := by
 induction d with
 | zero =>
  intro k pre post a hd hk ha hb hc
  obtain ⟨k, rfl⟩ : ∃ m, k = m + 1 := ⟨k - 1, by omega⟩
  obtain rfl : post = [] := List.eq_nil_of_length_eq_zero hd
  simp only [laws_markValS.l0]
  rw [if_neg (by simp)]
  simp [marksV]
 | succ d ih =>
  intro k pre post a hd hk ha hb hc
  obtain ⟨k, rfl⟩ : ∃ m, k = m + 1 := ⟨k - 1, by omega⟩
  obtain ⟨x, post, rfl⟩ : ∃ x t, post = x :: t := by cases post with | nil => simp at hd | cons x t => exact ⟨x, t, rfl⟩
  simp only [laws_markValS.l0]
  simp only [List.length_cons] at hd
  rw [if_pos (by simp only [List.length_append, List.length_cons]; omega), if_pos (by omega), Option.bind_some, Int.toNat_natCast]
  have e1 : ∀ y : Vs, (pre ++ x :: post).set pre.length y = pre ++ y :: post := fun y => by simp
  have e2 : ∀ y z : Vs, (pre ++ z :: post).set pre.length y = pre ++ y :: post := fun y z => by simp
  rw [e1, e2, rdV_at, wrap_inc (n := 4611686018427387904) ha (by omega) (by omega), wrap64_of (n := a + 1 + 1) (by omega) (by omega), wrap_inc (n := 4611686018427387904) (by omega) (by omega) (by omega)]
  have := ih k (pre ++ [⟨Int.tmod a 3 == 0, a + 1⟩]) post (a + 2) (by omega) (by omega) (by omega) (by omega) (by simp; omega)
  rw [show (pre.length : Int) + 1 = (((pre ++ [(⟨Int.tmod a 3 == 0, a + 1⟩ : Vs)]).length : Nat) : Int) from by simp, show a + 1 + 1 = a + 2 by omega, show pre ++ (⟨Int.tmod a 3 == 0, a + 1⟩ : Vs) :: post = (pre ++ [⟨Int.tmod a 3 == 0, a + 1⟩]) ++ post from by simp, this]
  simp [marksV]
  omega
theorem markValS_ev (xs : List Vs) (a : Int) (ha : 0 ≤ a) (hb : a + 2 * xs.length ≤ 4611686018427387904) (hc : xs.length ≤ 140737488355328) :
  Ev (fun k => laws_markValS.f k xs a) (a + 2 * xs.length, marksV xs.length a) := by
 refine Ev.of (k := xs.length + 1) (laws_markValS.mono xs a) ?_
 have := markValS_l0 xs.length (xs.length + 1) [] xs a rfl (by omega) ha hb (by simpa using hc)
 simpa [laws_markValS.f] using this
theorem heldValS_l0 (d : Nat) : ∀ (k : Nat) (pre : List Vs) (a : Int), d < k → 0 ≤ a → a + 2 * d ≤ 4611686018427387904 → pre.length + d ≤ 140737488355328 →
  laws_heldValS.l0 k (pre ++ marksV d a) a (pre.length : Int) = some (a + 2 * d) := by
 induction d with
 | zero =>
  intro k pre a hk ha hb hc
  obtain ⟨k, rfl⟩ : ∃ m, k = m + 1 := ⟨k - 1, by omega⟩
  simp only [laws_heldValS.l0, marksV, List.append_nil]
  rw [if_neg (by omega)]
  simp
 | succ d ih =>
  intro k pre a hk ha hb hc
  obtain ⟨k, rfl⟩ : ∃ m, k = m + 1 := ⟨k - 1, by omega⟩
  show laws_heldValS.l0 (k + 1) (pre ++ ((⟨Int.tmod a 3 == 0, a + 1⟩ : Vs) :: marksV d (a + 2))) a (pre.length : Int) = _
  simp only [laws_heldValS.l0]
  rw [if_pos (by simp only [List.length_append, List.length_cons]; omega), if_pos (by omega), rdV_at, if_neg (by simp), wrap_inc (n := 4611686018427387904) ha (by omega) (by omega), if_pos rfl, wrap64_of (n := a + 1 + 1) (by omega) (by omega), wrap_inc (n := 4611686018427387904) (by omega) (by omega) (by omega)]
  have := ih k (pre ++ [⟨Int.tmod a 3 == 0, a + 1⟩]) (a + 2) (by omega) (by omega) (by omega) (by simp; omega)
  rw [show (pre.length : Int) + 1 = (((pre ++ [(⟨Int.tmod a 3 == 0, a + 1⟩ : Vs)]).length : Nat) : Int) from by simp, show a + 1 + 1 = a + 2 by omega, show pre ++ (⟨Int.tmod a 3 == 0, a + 1⟩ : Vs) :: marksV d (a + 2) = (pre ++ [⟨Int.tmod a 3 == 0, a + 1⟩]) ++ marksV d (a + 2) from by simp, this]
  congr 1; omega
theorem heldValS_eq (n : Nat) (a : Int) (k : Nat) (hk : n < k) (ha : 0 ≤ a) (hb : a + 2 * n ≤ 4611686018427387904) (hc : n ≤ 140737488355328) : laws_heldValS.f k (marksV n a) a = some (a + 2 * n) := by
  have := heldValS_l0 n k [] a hk ha hb (by simpa using hc)
  simpa [laws_heldValS.f] using this
theorem eqVal_self (x : Vs) : laws_eqVal.f x.f0 x.f1 x.f0 x.f1 = some true := by
  unfold laws_eqVal.f
  rw [if_neg (by simp), if_pos rfl]
theorem eqValS_l0 (xs : List Vs) (hb : xs.length ≤ 140737488355328) (d : Nat) : ∀ (k i : Nat), i + d = xs.length → d < k → laws_eqValS.l0 k xs xs i = some true := by
 induction d with
 | zero =>
  intro k i hi hk
  obtain ⟨k, rfl⟩ : ∃ m, k = m + 1 := ⟨k - 1, by omega⟩
  rw [laws_eqValS.l0, if_neg (by omega)]
 | succ d ih =>
  intro k i hi hk
  obtain ⟨k, rfl⟩ : ∃ m, k = m + 1 := ⟨k - 1, by omega⟩
  rw [laws_eqValS.l0, if_pos (by omega), if_pos (by omega), if_pos (by omega), eqVal_self, Option.bind_some, if_pos rfl, wrap_inc (n := 140737488355329) (by omega) (by omega) (by omega)]
  have := ih k (i + 1) (by omega) (by omega)
  rw [show ((i + 1 : Nat) : Int) = (i : Int) + 1 by omega] at this
  exact this
theorem eqValS_self (xs : List Vs) (hb : xs.length ≤ 140737488355328) (k : Nat) (hk : xs.length < k) : laws_eqValS.f k xs xs = some true := by
 unfold laws_eqValS.f
 rw [if_pos rfl]
 exact eqValS_l0 xs hb xs.length k 0 (by omega) hk
theorem eqObjS_l0 (xs : List Os) (hf : ∀ x ∈ xs, x.f1.length ≤ 100) (hb : xs.length ≤ 1000) (d : Nat) : ∀ (k i : Nat), i + d = xs.length → d + 101 < k → laws_eqObjS.l0 k xs xs i = some true := by
 induction d with
 | zero =>
  intro k i hi hk
  obtain ⟨k, rfl⟩ : ∃ m, k = m + 1 := ⟨k - 1, by omega⟩
  rw [laws_eqObjS.l0, if_neg (by omega)]
 | succ d ih =>
  intro k i hi hk
  obtain ⟨k, rfl⟩ : ∃ m, k = m + 1 := ⟨k - 1, by omega⟩
  have hlt : i < xs.length := by omega
  have hm : rd_T86 xs (i : Int) = xs[i] := by
   unfold rd_T86
   simp [hlt]
  have := hf xs[i] (List.getElem_mem hlt)
  rw [laws_eqObjS.l0, if_pos (by omega), if_pos (by omega), if_pos (by omega), hm]
  unfold laws_eqObj.f
  rw [if_pos rfl, eqValS_self _ (by omega) k (by omega), Option.bind_some, if_pos rfl, Option.bind_some, if_pos rfl, wrap_inc (n := 140737488355329) (by omega) (by omega) (by omega)]
  have := ih k (i + 1) (by omega) (by omega)
  rw [show ((i + 1 : Nat) : Int) = (i : Int) + 1 by omega] at this
  exact this
theorem eqObjS_ev (xs : List Os) (hf : ∀ x ∈ xs, x.f1.length ≤ 100) (hb : xs.length ≤ 1000) : Ev (fun k => laws_eqObjS.f k xs xs) true := ⟨2000, fun k hk => by
 show laws_eqObjS.f k xs xs = some true
 unfold laws_eqObjS.f
 rw [if_pos rfl]
 exact eqObjS_l0 xs hf hb xs.length k 0 (by omega) (by omega)⟩
def marksO : List Nat → Int → List Os
  | [], _ => []
  | n :: r, a => ⟨a, marksV n (a + 1)⟩ :: marksO r (a + 1 + 2 * n)
def marksN : List Nat → Int → Int
  | [], a => a
  | n :: r, a => marksN r (a + 1 + 2 * n)
theorem marksN_le : ∀ (l : List Nat) (a : Int), (∀ n ∈ l, n ≤ 100) → a ≤ marksN l a ∧ marksN l a ≤ a + 201 * l.length
 | [], a, _ => by simp [marksN]
 | n :: r, a, h => by
  have h1 := h n (List.mem_cons_self ..)
  obtain ⟨h2, h3⟩ := marksN_le r (a + 1 + 2 * n) (fun m hm => h m (List.mem_cons_of_mem _ hm))
  simp only [marksN, List.length_cons]
  omega
theorem mobjs_ev : ∀ (xs : List Os) (a : Int), 0 ≤ a → (∀ x ∈ xs, x.f1.length ≤ 100) → a + 201 * xs.length ≤ 1000000000 → Ev (fun k => mobjs k xs a) (marksN (xs.map (·.f1.length)) a, marksO (xs.map (·.f1.length)) a)
 | [], a, _, _, _ => Ev.now _
 | x :: r, a, ha, hf, hb => by
  have h1 := hf x (List.mem_cons_self ..)
  simp only [List.length_cons] at hb
  have w : wrap64 (a + 1) = a + 1 := wrap64_of (by omega) (by omega)
  have ih := mobjs_ev r (a + 1 + 2 * x.f1.length) (by omega) (fun y hy => hf y (List.mem_cons_of_mem _ hy)) (by omega)
  have := (markValS_ev x.f1 (a + 1) (by omega) (by omega) (by omega)).bind (f := fun k p => (mobjs k r p.1).bind fun q => some (q.1, (⟨a, p.2⟩ : Os) :: q.2)) (ih.bind (f := fun k q => some (q.1, (⟨a, marksV x.f1.length (a + 1)⟩ : Os) :: q.2)) (Ev.now _))
  simpa only [mobjs, w, List.map_cons, marksN, marksO] using this
theorem heldObjS_l0 : ∀ (l : List Nat) (k : Nat) (pre : List Os) (a : Int), l.length + 101 < k → 0 ≤ a → (∀ n ∈ l, n ≤ 100) → a + 201 * l.length ≤ 1000000000 → pre.length + l.length ≤ 1000 →
  laws_heldObjS.l0 k (pre ++ marksO l a) a (pre.length : Int) = some (marksN l a)
 | [], k, pre, a, hk, ha, hf, hb, hc => by
  obtain ⟨k, rfl⟩ : ∃ m, k = m + 1 := ⟨k - 1, by omega⟩
  simp only [laws_heldObjS.l0, marksO, List.append_nil, marksN]
  rw [if_neg (by omega)]
 | n :: r, k, pre, a, hk, ha, hf, hb, hc => by
  obtain ⟨k, rfl⟩ : ∃ m, k = m + 1 := ⟨k - 1, by omega⟩
  have h1 := hf n (List.mem_cons_self ..)
  simp only [List.length_cons] at hb hc hk
  have hm : rd_T86 (pre ++ (⟨a, marksV n (a + 1)⟩ : Os) :: marksO r (a + 1 + 2 * n)) (pre.length : Int) = ⟨a, marksV n (a + 1)⟩ := by
   unfold rd_T86
   simp
  show laws_heldObjS.l0 (k + 1) (pre ++ ((⟨a, marksV n (a + 1)⟩ : Os) :: marksO r (a + 1 + 2 * n))) a (pre.length : Int) = some (marksN r (a + 1 + 2 * n))
  have hle := marksN_le r (a + 1 + 2 * n) (fun m hm => hf m (List.mem_cons_of_mem _ hm))
  simp only [laws_heldObjS.l0]
  rw [if_pos (by simp only [List.length_append, List.length_cons]; omega), if_pos (by omega), hm, if_pos rfl, wrap64_of (n := a + 1) (by omega) (by omega), heldValS_eq n (a + 1) k (by omega) (by omega) (by omega) (by omega), Option.bind_some, if_neg (by omega), wrap_inc (n := 4611686018427387904) (by omega) (by omega) (by omega)]
  have := heldObjS_l0 r k (pre ++ [⟨a, marksV n (a + 1)⟩]) (a + 1 + 2 * n) (by omega) (by omega) (fun m hm => hf m (List.mem_cons_of_mem _ hm)) (by omega) (by simp; omega)
  rw [show (pre.length : Int) + 1 = (((pre ++ [(⟨a, marksV n (a + 1)⟩ : Os)]).length : Nat) : Int) from by simp, show pre ++ (⟨a, marksV n (a + 1)⟩ : Os) :: marksO r (a + 1 + 2 * n) = (pre ++ [⟨a, marksV n (a + 1)⟩]) ++ marksO r (a + 1 + 2 * n) from by simp]
  exact this
theorem heldObjS_ev (l : List Nat) (a : Int) (ha : 0 ≤ a) (hf : ∀ n ∈ l, n ≤ 100) (hb : a + 201 * l.length ≤ 1000000000) (hc : l.length ≤ 1000) : Ev (fun k => laws_heldObjS.f k (marksO l a) a) (marksN l a) := ⟨2000, fun k hk => by
  have := heldObjS_l0 l k [] a (by omega) ha hf hb (by simpa using hc)
  simpa [laws_heldObjS.f] using this⟩
end Go.Proofs.Ytmniglgahodghaa.Pure
namespace Go.Proofs.Ytmniglgahodghaa.Pure
open Go.RowKit Go.Proofs.Ytmniglgahodghaa.K Go.Proofs.YtmniglgahodghaaW.PrintWords Go.Proofs.YtmniglgahodghaaW.PrintLast Go.Proofs.YtmniglgahodghaaW.PrintMore
set_option linter.unusedVariables false
set_option linter.unusedSimpArgs false
def pw (ws : List Int) (F : List (List Int)) (e : Int) : Nat → Int → List Int × Bool
  | 0, _ => ([], true)
  | n + 1, i => if i < e then (if mstep ws F e i = 0 then ([], false) else (i :: (pw ws F e n (i + mstep ws F e i)).1, (pw ws F e n (i + mstep ws F e i)).2)) else ([], true)
theorem pw_mwalk (ws : List Int) (F : List (List Int)) (e : Int) : ∀ (n : Nat) (i : Int) (acc : List Int) (q : Nat), (e - i).toNat ≤ n → n < q → mwalk ws F e q i acc = some ((pw ws F e n i).2, acc ++ (pw ws F e n i).1.map (· + 1))
 | 0, i, acc, q, h, hq => by
  obtain ⟨q, rfl⟩ : ∃ m, q = m + 1 := ⟨q - 1, by omega⟩
  rw [mwalk, if_neg (by omega), pw]; simp
 | n + 1, i, acc, q, h, hq => by
  obtain ⟨q, rfl⟩ : ∃ m, q = m + 1 := ⟨q - 1, by omega⟩
  rw [mwalk, pw]
  by_cases c : i < e
  ·rw [if_pos c, if_pos c]
   by_cases c2 : mstep ws F e i = 0
   ·rw [if_pos c2, if_pos c2]; simp
   ·rw [if_neg c2, if_neg c2]
    have := mwalk_lt ws F e i
    rw [pw_mwalk ws F e n _ _ q (by omega) (by omega)]
    simp
  ·rw [if_neg c, if_neg c]; simp
theorem pw_len (ws : List Int) (F : List (List Int)) (e : Int) : ∀ (n : Nat) (i : Int), (pw ws F e n i).1.length ≤ n
 | 0, i => by simp [pw]
 | n + 1, i => by
  rw [pw]
  split
  ·split
   ·simp
   ·have := pw_len ws F e n (i + mstep ws F e i)
    simp only [List.length_cons]; omega
  ·simp
theorem pw_mem (ws : List Int) (F : List (List Int)) (e : Int) : ∀ (n : Nat) (i : Int), ∀ x ∈ (pw ws F e n i).1, i ≤ x ∧ x < e ∧ 0 < mstep ws F e x ∧ mstep ws F e x ≤ e - x
 | 0, i => by simp [pw]
 | n + 1, i => by
  rw [pw]
  intro x hx
  split at hx
  case isTrue c =>
   split at hx
   case isTrue c2 => simp at hx
   case isFalse c2 =>
    have hl := mwalk_lt ws F e i
    simp only [List.mem_cons] at hx
    rcases hx with rfl | hx
    ·omega
    ·have := pw_mem ws F e n _ x hx
     omega
  case isFalse c => simp at hx
theorem pw_sorted (ws : List Int) (F : List (List Int)) (e : Int) : ∀ (n : Nat) (i : Int), (pw ws F e n i).1.Pairwise (· < ·)
 | 0, i => by simp [pw]
 | n + 1, i => by
  rw [pw]
  split
  case isTrue c =>
   split
   case isTrue c2 => simp
   case isFalse c2 =>
    have hl := mwalk_lt ws F e i
    refine List.Pairwise.cons (fun x hx => ?_) (pw_sorted ws F e n _)
    have := pw_mem ws F e n _ x hx
    omega
  case isFalse c => simp
theorem pw_part {cs : Cs} (h : csOk cs = true) {ws : List Int} (hw : ws.length ≤ 1048576) {e : Int} (he : e ≤ ws.length) : ∀ (n : Nat) (i : Int) (acc : List Int) (k : Nat), 0 ≤ i → (e - i).toNat ≤ n → n + 21 ≤ k → acc.length + n < 17592186044416 →
  spec_l21Part.l0 k cs ws i e acc = some (acc ++ (pw ws (allF cs) e n i).1, (pw ws (allF cs) e n i).2)
 | 0, i, acc, k, h0, hn, hk, ha => by
  obtain ⟨k, rfl⟩ : ∃ m, k = m + 1 := ⟨k - 1, by omega⟩
  rw [spec_l21Part.l0, if_neg (by omega), pw]; simp
 | n + 1, i, acc, k, h0, hn, hk, ha => by
  obtain ⟨k, rfl⟩ : ∃ m, k = m + 1 := ⟨k - 1, by omega⟩
  rw [spec_l21Part.l0, pw]
  by_cases c : i < e
  ·rw [if_pos c, if_pos c, l21Size_eq h hw h0 he k (by omega), if_pos c]
   simp only [Option.bind_some]
   by_cases c2 : mstep ws (allF cs) e i = 0
   ·rw [if_pos c2, if_pos c2]; simp
   ·rw [if_neg c2, if_neg c2, if_pos (by omega)]
    have hl := mwalk_lt ws (allF cs) e i
    rw [wrap64_of (by omega) (by omega), pw_part h hw he n _ _ k (by omega) (by omega) (by omega) (by rw [List.length_append, List.length_singleton]; omega)]
    simp
  ·rw [if_neg c, if_neg c]; simp
theorem rd_mem {xs : List Int} {i : Nat} (h : i < xs.length) : rd xs (i : Int) = xs[i] := by
  rw [rd_cast, List.getD_eq_getElem?_getD, List.getElem?_eq_getElem h]; rfl
theorem sorted_lt {xs : List Int} (h : xs.Pairwise (· < ·)) {i j : Nat} (hi : i < j) (hj : j < xs.length) : xs[i]'(by omega) < xs[j] := List.pairwise_iff_getElem.mp h i j (by omega) hj hi
theorem cmp_Less_eq (a b : Int) : cmp_Less_int.f a b = some (decide (a < b)) := by
  unfold cmp_Less_int.f cmp_isNaN_int.f
  rw [Option.bind_some, show (a != a) = false from by simp, if_neg (by simp)]
theorem search_l0 {xs : List Int} (hs : xs.Pairwise (· < ·)) (hl : xs.length ≤ 1048576) (v : Int) (d : Nat) : ∀ (lo hi k : Nat), hi - lo ≤ d → lo ≤ hi → hi ≤ xs.length → d + 2 ≤ k → (∀ i (h : i < xs.length), i < lo → xs[i] < v) → (∀ i (h : i < xs.length), hi ≤ i → v ≤ xs[i]) →
  ∃ p : Nat, p ≤ xs.length ∧ slices_BinarySearch_int_int.l0 k xs v xs.length lo hi = some ((p : Int), decide (v ∈ xs)) ∧ (∀ i (h : i < xs.length), i < p → xs[i] < v) ∧ (∀ i (h : i < xs.length), p ≤ i → v ≤ xs[i]) := by
 induction d with
 | zero =>
  intro lo hi k hd hlh hhi hk h1 h2
  obtain ⟨k, rfl⟩ : ∃ m, k = m + 1 := ⟨k - 1, by omega⟩
  obtain rfl : lo = hi := by omega
  refine ⟨lo, hhi, ?_, h1, h2⟩
  rw [slices_BinarySearch_int_int.l0, if_neg (by omega)]
  by_cases c : lo < xs.length
  ·rw [if_pos (by omega), if_pos (by omega), if_pos (by omega), rd_mem c]
   by_cases c2 : xs[lo] = v
   ·rw [if_pos c2, decide_eq_true (by rw [← c2]; exact List.getElem_mem c)]
   ·have hv := h2 lo c (Nat.le_refl _)
    rw [if_neg c2]
    simp only [slices_isNaN_int.f, Option.bind_some]
    have nm : ¬ v ∈ xs := fun hm => by
     obtain ⟨j, hj, e⟩ := List.getElem_of_mem hm
     rcases Nat.lt_trichotomy j lo with q | q | q
     ·have := h1 j hj q; omega
     ·subst q; exact c2 e
     ·have := sorted_lt hs q hj; omega
    rw [decide_eq_false nm]
    simp
  ·rw [if_neg (by omega)]
   have nm : ¬ v ∈ xs := fun hm => by
    obtain ⟨j, hj, e⟩ := List.getElem_of_mem hm
    have := h1 j hj (by omega); omega
   rw [decide_eq_false nm]
 | succ d ih =>
  intro lo hi k hd hlh hhi hk h1 h2
  by_cases c : lo = hi
  ·subst c
   exact ih lo lo k (by omega) (by omega) hhi (by omega) h1 h2
  obtain ⟨k, rfl⟩ : ∃ m, k = m + 1 := ⟨k - 1, by omega⟩
  obtain ⟨m, hm⟩ : ∃ m, m = (lo + hi) / 2 := ⟨_, rfl⟩
  have hm2 : m < xs.length := by omega
  have hm3 : lo ≤ m := by omega
  have hm4 : m < hi := by omega
  have e1 : wrap64 ((lo : Int) + hi) = ((lo + hi : Nat) : Int) := by rw [wrap64_of (by omega) (by omega)]; omega
  have e2 : IntKind.u64.wrap ((lo + hi : Nat) : Int) = ((lo + hi : Nat) : Int) := by rw [IntKind.wrap_u64]; omega
  have e3 : wrap64 (((lo + hi : Nat) : Int) / 2) = (m : Int) := by
   have e4 : ((lo + hi : Nat) : Int) / 2 = (m : Int) := by rw [hm]; exact (Int.natCast_ediv (lo + hi) 2).symm
   rw [e4]
   exact wrap64_of (by omega) (by omega)
  clear hm
  rw [slices_BinarySearch_int_int.l0, if_pos (by omega), e1, e2, e3, if_pos (by omega), if_pos (by omega), rd_mem hm2]
  by_cases c2 : xs[m] < v
  ·have hc : cmp_Less_int.f xs[m] v = some true := by rw [cmp_Less_eq, decide_eq_true c2]
   rw [hc]
   simp only [Option.bind_some, if_true]
   rw [wrap_inc (n := 1048577) (by omega) (by omega) (by omega)]
   have := ih (m + 1) hi k (by omega) (by omega) hhi (by omega) (fun i h hi' => by
    rcases Nat.lt_or_ge i m with q | q
    ·have := sorted_lt hs q hm2; omega
    ·obtain rfl : i = m := by omega
     exact c2) h2
   rw [show ((m + 1 : Nat) : Int) = (m : Int) + 1 by omega] at this
   exact this
  ·have hc : cmp_Less_int.f xs[m] v = some false := by rw [cmp_Less_eq, decide_eq_false c2]
   rw [hc]
   simp only [Option.bind_some]
   rw [if_neg (by simp)]
   exact ih lo m k (by omega) (by omega) (by omega) (by omega) h1 (fun i h hi' => by
    rcases Nat.eq_or_lt_of_le hi' with q | q
    ·subst q; omega
    ·have := sorted_lt hs q h; omega)
theorem search_eq {xs : List Int} (hs : xs.Pairwise (· < ·)) (hl : xs.length ≤ 1048576) (v : Int) : ∃ p : Nat, p ≤ xs.length ∧ (∀ k, xs.length + 2 ≤ k → slices_BinarySearch_int_int.f k xs v = some ((p : Int), decide (v ∈ xs))) ∧ (∀ i (h : i < xs.length), i < p → xs[i] < v) ∧ (∀ i (h : i < xs.length), p ≤ i → v ≤ xs[i]) := by
 obtain ⟨p, hp, he, h1, h2⟩ := search_l0 hs hl v xs.length 0 xs.length (xs.length + 2) (by omega) (by omega) (by omega) (by omega) (fun i h hi => by omega) (fun i h hi => by omega)
 refine ⟨p, hp, fun k hk => ?_, h1, h2⟩
 have := at_rounds (g := fun k => slices_BinarySearch_int_int.f k xs v) (fun k => slices_BinarySearch_int_int.mono xs v k) hk (r := ((p : Int), decide (v ∈ xs))) (by unfold slices_BinarySearch_int_int.f; exact he)
 exact this
end Go.Proofs.Ytmniglgahodghaa.Pure
namespace Go.Proofs.Ytmniglgahodghaa.Pure
open Go.RowKit Go.Proofs.Ytmniglgahodghaa.K Go.Proofs.YtmniglgahodghaaW.PrintWords Go.Proofs.YtmniglgahodghaaW.PrintLast Go.Proofs.YtmniglgahodghaaW.PrintMore
set_option linter.unusedVariables false
set_option linter.unusedSimpArgs false
structure Bnd (cs : Cs) (ws : List Int) (y t o : Int) (cards : List Bool) : Prop where
 ok : csOk cs = true
 y0 : 0 ≤ y
 y1 : y ≤ 40
 n0 : 14 ≤ (ws.length : Int) - y
 n1 : (ws.length : Int) - y ≤ 120
 t0 : 0 ≤ t
 t1 : t ≤ y
 o0 : y ≤ o
 o1 : o ≤ ws.length
 cd : (cards.length : Int) = ((ws.length : Int) - y + 3) / 4
structure Wlk (cs : Cs) (ws : List Int) (W : List Int) : Prop where
 mem : ∀ x ∈ W, ∃ e : Int, e ≤ ws.length ∧ 0 ≤ x ∧ x < e ∧ 0 < mstep ws (allF cs) e x ∧ mstep ws (allF cs) e x ≤ e - x
 srt : W.Pairwise (· < ·)
 len : W.length ≤ 200
def startsL (W : List Int) (n : Nat) : List Bool := (List.range n).map (fun j : Nat => decide ((j : Int) ∈ W))
theorem startsL_len (W : List Int) (n : Nat) : (startsL W n).length = n := by simp [startsL]
theorem startsL_at (W : List Int) (n : Nat) {j : Int} (h0 : 0 ≤ j) (h1 : j < n) : rdOf false (startsL W n) j = decide (j ∈ W) := by
 unfold rdOf startsL
 rw [List.getD_eq_getElem?_getD, List.getElem?_map, List.getElem?_range (by omega)]
 show decide (((j.toNat : Nat) : Int) ∈ W) = _
 rw [Int.toNat_of_nonneg h0]
theorem starts_l0 (W : List Int) (n : Nat) (hW : ∀ x ∈ W, 0 ≤ x ∧ x < (n : Int)) (hl : W.length ≤ 1048576) (d : Nat) : ∀ (k i : Nat) (S : List Bool), i + d = W.length → d < k → S.length = n → (∀ j : Nat, j < n → S.getD j false = decide ((j : Int) ∈ W.take i)) →
  spec_l21Starts.l0 k W S i = some (startsL W n) := by
 induction d with
 | zero =>
  intro k i S hi hk hS hj
  obtain ⟨k, rfl⟩ : ∃ m, k = m + 1 := ⟨k - 1, by omega⟩
  rw [spec_l21Starts.l0, if_neg (by omega)]
  congr 1
  refine List.ext_getElem (by rw [hS, startsL_len]) (fun j h1 h2 => ?_)
  have := hj j (by omega)
  rw [List.getD_eq_getElem?_getD, List.getElem?_eq_getElem h1, show i = W.length by omega, List.take_length] at this
  have e2 : (startsL W n)[j] = decide ((j : Int) ∈ W) := by simp [startsL]
  rw [e2]; exact this
 | succ d ih =>
  intro k i S hi hk hS hj
  obtain ⟨k, rfl⟩ : ∃ m, k = m + 1 := ⟨k - 1, by omega⟩
  have hlt : i < W.length := by omega
  have hx := hW W[i] (List.getElem_mem hlt)
  rw [spec_l21Starts.l0, if_pos (by omega), if_pos (by omega), rd_mem hlt, if_pos hx.1, if_pos (by rw [hS]; exact hx.2), wrap_inc (n := 1048577) (by omega) (by omega) (by omega)]
  have := ih k (i + 1) (S.set W[i].toNat true) (by omega) (by omega) (by rw [List.length_set, hS]) (fun j hj2 => by
   have h3 := hj j hj2
   rw [List.take_succ_eq_append_getElem hlt]
   rw [List.getD_eq_getElem?_getD] at h3 ⊢
   rw [List.getElem?_set]
   by_cases q : W[i].toNat = j
   ·rw [if_pos q, if_pos (by omega)]
    have : (j : Int) ∈ W.take i ++ [W[i]] := by rw [List.mem_append, List.mem_singleton]; right; omega
    rw [decide_eq_true this]; rfl
   ·rw [if_neg q, h3]
    have : (j : Int) ∈ W.take i ++ [W[i]] ↔ (j : Int) ∈ W.take i := by
     rw [List.mem_append, List.mem_singleton]
     constructor
     ·rintro (z | z)
      ·exact z
      ·omega
     ·exact Or.inl
    simp only [this])
  rw [show ((i + 1 : Nat) : Int) = (i : Int) + 1 by omega] at this
  exact this
theorem starts_eq {W : List Int} {n : Nat} (hW : ∀ x ∈ W, 0 ≤ x ∧ x < (n : Int)) (hl : W.length ≤ 1000) (hn : n ≤ 1048576) (k : Nat) (hk : 1001 ≤ k) : spec_l21Starts.f k n W = some (startsL W n) := by
 unfold spec_l21Starts.f
 rw [if_pos (by omega), if_pos (by omega), Int.toNat_natCast]
 have := starts_l0 W n hW (by omega) W.length k 0 (List.replicate n false) (by omega) (by omega) (by simp) (fun j hj => by simp [List.getD_eq_getElem?_getD, hj])
 exact this
def ldB (cs : Cs) (c k : Int) : Bool := if c = -1 then false else if c = -2 then true else (rd (cfl cs c) k != 1)
theorem thing_facts {cs : Cs} {ws : List Int} {y t o : Int} {cards : List Bool} (hb : Bnd cs ws y t o cards) {W : List Int} (hw : Wlk cs ws W) (m : Mm) (hm : m = ⟨ws, y, t, o, cards, allF cs, W.map (· + 1)⟩) {x : Int} (hx : x ∈ W) :
    ∃ c hd cnt : Int, c = rd ws x ∧ 0 ≤ x ∧ (hd = 1 ∨ hd = 2) ∧ 0 ≤ cnt ∧ cnt ≤ 8 ∧ x + hd + cnt ≤ ws.length ∧ thing_count.f m (x + 1) = some cnt ∧ thing_first.f m (x + 1) = some (x + hd) ∧ spec_l21Head.f c = some hd ∧
      (∀ k, 20 ≤ k → spec_l21Size.f k cs ws x ws.length = some (hd + cnt)) ∧ (∀ k, 0 ≤ k → k < cnt → thing_leads.f m (x + 1) k = some (ldB cs c k)) ∧ (c = -1 ∨ c = -2 ∨ (0 ≤ c ∧ c < cs.length ∧ hd = 1 ∧ cnt = (cfl cs c).length)) := by
  obtain ⟨e, he, h0, h1, h2, h3⟩ := hw.mem x hx
  have n0 := hb.n0; have n1 := hb.n1; have y0 := hb.y0; have y1 := hb.y1
  have hl := csOk_len hb.ok
  have hc : thing_class.f m (x + 1) = some (rd ws x) := by
    unfold thing_class.f
    rw [hm]
    show (if 1 ≤ x + 1 ∧ x + 1 ≤ (ws.length : Int) ∧ ws.length ≤ 281474976710656 then some (rd ws (x + 1 - 1)) else none) = _
    rw [if_pos (by omega), show x + 1 - 1 = x by omega]
  obtain ⟨c, hcc⟩ : ∃ c, c = rd ws x := ⟨_, rfl⟩
  rw [← hcc] at hc
  have hsz : ∀ k, 20 ≤ k → spec_l21Size.f k cs ws x ws.length = some (mstep ws (allF cs) ws.length x) := fun k hk => by
    rw [l21Size_eq hb.ok (by omega) h0 (Int.le_refl _) k hk, if_pos (by omega)]
  by_cases c0 : c < 0
  · have hs : mstep ws (allF cs) e x = 2 + rd ws (x + 1) ∧ (c = -1 ∨ c = -2) ∧ x + 1 < e ∧ 0 ≤ rd ws (x + 1) ∧ rd ws (x + 1) ≤ 6 := by
      unfold mstep at h2 ⊢
      rw [← hcc] at h2 ⊢
      rw [if_pos c0] at h2 ⊢
      by_cases c1 : x + 1 < e
      · rw [if_pos c1] at h2 ⊢
        by_cases c2 : c = -1 ∨ c = -2
        · by_cases c3 : 0 ≤ rd ws (x + 1) ∧ rd ws (x + 1) ≤ 6
          · have m1 : measN (allF cs) c (rd ws (x + 1)) = 2 + rd ws (x + 1) := by unfold measN; rw [if_pos c2, if_pos c3]
            rw [m1] at h2 ⊢
            split at h2
            · rename_i z; rw [if_pos z]; exact ⟨rfl, c2, c1, c3.1, c3.2⟩
            · omega
          · have m1 : measN (allF cs) c (rd ws (x + 1)) = 0 := by unfold measN; rw [if_pos c2, if_neg c3]
            rw [m1] at h2
            split at h2 <;> omega
        · have m1 : measN (allF cs) c (rd ws (x + 1)) = 0 := by unfold measN; rw [if_neg c2, if_neg (by omega)]
          rw [m1] at h2
          split at h2 <;> omega
      · rw [if_neg c1] at h2; omega
    obtain ⟨s1, s2, s3, s4, s5⟩ := hs
    refine ⟨c, 2, rd ws (x + 1), hcc, h0, Or.inr rfl, s4, by omega, by omega, ?_, ?_, ?_, ?_, ?_, ?_⟩
    · unfold thing_count.f
      rw [hc, Option.bind_some, if_pos c0, hm]
      show (if x + 1 < (ws.length : Int) then some (rd ws (x + 1)) else none) = _
      rw [if_pos (by omega)]
    · unfold thing_first.f
      rw [hc, Option.bind_some, if_pos c0, show x + 1 + 1 = x + 2 by omega]
    · unfold spec_l21Head.f; rw [if_pos c0]
    · intro k hk
      rw [hsz k hk]
      unfold mstep
      rw [← hcc, if_pos c0, if_pos (by omega)]
      have m1 : measN (allF cs) c (rd ws (x + 1)) = 2 + rd ws (x + 1) := by unfold measN; rw [if_pos s2, if_pos ⟨s4, s5⟩]
      rw [m1, if_pos (by omega)]
    · intro k _ _
      unfold thing_leads.f ldB
      rw [hc, Option.bind_some]
      rcases s2 with z | z
      · rw [if_pos z, if_pos z]
      · rw [if_neg (by omega), if_pos z, if_neg (by omega), if_pos z]
    · rcases s2 with z | z
      · exact Or.inl z
      · exact Or.inr (Or.inl z)
  · have c1 : c < cs.length ∧ mstep ws (allF cs) e x = 1 + (cfl cs c).length := by
      unfold mstep at h2 ⊢
      rw [← hcc] at h2 ⊢
      rw [if_neg c0] at h2 ⊢
      by_cases z : c < (cs.length : Int)
      · rw [measN_c 0 (by omega) z] at h2 ⊢
        split at h2
        · rename_i q; rw [if_pos q]; exact ⟨z, rfl⟩
        · omega
      · have m1 : measN (allF cs) c 0 = 0 := by unfold measN; rw [if_neg (by omega), allF_len, if_neg (by omega)]
        rw [m1] at h2
        split at h2 <;> omega
    have hf := cfl_eq hb.ok (a := c) (by omega) c1.1
    refine ⟨c, 1, (cfl cs c).length, hcc, h0, Or.inl rfl, by omega, by omega, by omega, ?_, ?_, ?_, ?_, ?_, Or.inr (Or.inr ⟨by omega, c1.1, rfl, rfl⟩)⟩
    · unfold thing_count.f
      rw [hc, Option.bind_some, if_neg c0, hm]
      show (if c < ((allF cs).length : Int) ∧ (allF cs).length ≤ 281474976710656 then some (((rdL (allF cs) c).length : Nat) : Int) else none) = _
      rw [allF_len, if_pos ⟨c1.1, by omega⟩, allF_at cs (by omega) c1.1]
    · unfold thing_first.f
      rw [hc, Option.bind_some, if_neg c0]
    · unfold spec_l21Head.f; rw [if_neg c0]
    · intro k hk
      rw [hsz k hk]
      unfold mstep
      rw [← hcc, if_neg c0, measN_c 0 (by omega) c1.1, if_pos (by omega)]
    · intro k k0 k1
      unfold thing_leads.f ldB
      have q1 : ¬ c = -1 := by omega
      have q2 : ¬ c = -2 := by omega
      rw [hc, Option.bind_some]
      simp only [if_neg q1, if_neg q2]
      rw [hm]
      show (if 0 ≤ c ∧ c < ((allF cs).length : Int) ∧ 0 ≤ k ∧ k < ((rdL (allF cs) c).length : Int) then some (rd (rdL (allF cs) c) k != 1) else none) = _
      rw [allF_len, allF_at cs (by omega) c1.1, if_pos ⟨by omega, c1.1, k0, k1⟩]
def refsL (cs : Cs) (c hd s : Int) : List Bool := (List.range s.toNat).map (fun j : Nat => decide (hd ≤ j) && ldB cs c (j - hd))
theorem refsL_at (cs : Cs) (c hd s : Int) {j : Int} (h0 : hd ≤ j) (h00 : 0 ≤ j) (h1 : j < s) : rdOf false (refsL cs c hd s) j = ldB cs c (j - hd) := by
 unfold rdOf refsL
 rw [List.getD_eq_getElem?_getD, List.getElem?_map, List.getElem?_range (by omega)]
 show (decide (hd ≤ ((j.toNat : Nat) : Int)) && ldB cs c (((j.toNat : Nat) : Int) - hd)) = _
 rw [Int.toNat_of_nonneg h00, decide_eq_true h0, Bool.true_and]
theorem refs_l0 {cs : Cs} (h : csOk cs = true) {c hd : Int} {s : Nat} (hs : s ≤ 100) (hh : hd = 1 ∨ hd = 2) (hc : c = -1 ∨ c = -2 ∨ (0 ≤ c ∧ c < cs.length ∧ hd = 1 ∧ (s : Int) = 1 + (cfl cs c).length)) (d : Nat) : ∀ (k j : Nat) (R : List Bool), j + d = s → hd ≤ (j : Int) → d + 30 ≤ k → R.length = s → (∀ i : Nat, i < s → R.getD i false = (decide (hd ≤ (i : Int) ∧ i < j) && ldB cs c ((i : Int) - hd))) →
  spec_l21Refs.l0 k cs R c j = some (refsL cs c hd s) := by
 induction d with
 | zero =>
  intro k j R hj hj2 hk hR hi
  obtain ⟨k, rfl⟩ : ∃ m, k = m + 1 := ⟨k - 1, by omega⟩
  rw [spec_l21Refs.l0, if_neg (by omega)]
  congr 1
  refine List.ext_getElem (by rw [hR]; simp [refsL]) (fun i h1 h2 => ?_)
  have e1 := hi i (by omega)
  rw [List.getD_eq_getElem?_getD, List.getElem?_eq_getElem h1] at e1
  have e2 : (refsL cs c hd s)[i] = (decide (hd ≤ (i : Int)) && ldB cs c ((i : Int) - hd)) := by simp [refsL]
  rw [e2]
  have e3 : (hd ≤ (i : Int) ∧ i < j) ↔ hd ≤ (i : Int) := ⟨fun z => z.1, fun z => ⟨z, by omega⟩⟩
  simp only [e3] at e1
  exact e1
 | succ d ih =>
  intro k j R hj hj2 hk hR hi
  obtain ⟨k, rfl⟩ : ∃ m, k = m + 1 := ⟨k - 1, by omega⟩
  have step : ∀ b, b = ldB cs c ((j : Int) - hd) → spec_l21Refs.l0 k cs (R.set ((j : Int)).toNat b) c (wrap64 ((j : Int) + 1)) = some (refsL cs c hd s) := fun b hbb => by
   rw [wrap_inc (n := 1000) (by omega) (by omega) (by omega), Int.toNat_natCast]
   have := ih k (j + 1) (R.set j b) (by omega) (by omega) (by omega) (by rw [List.length_set, hR]) (fun i hi2 => by
    have h3 := hi i hi2
    rw [List.getD_eq_getElem?_getD] at h3 ⊢
    rw [List.getElem?_set]
    by_cases q : j = i
    ·rw [if_pos q, if_pos (by omega)]
     subst q
     rw [decide_eq_true (show hd ≤ (j : Int) ∧ j < j + 1 from ⟨hj2, by omega⟩), Bool.true_and, hbb]; rfl
    ·rw [if_neg q, h3]
     have : (hd ≤ (i : Int) ∧ i < j + 1) ↔ (hd ≤ (i : Int) ∧ i < j) := by omega
     simp only [this])
   rw [show ((j + 1 : Nat) : Int) = (j : Int) + 1 by omega] at this
   exact this
  rw [spec_l21Refs.l0, if_pos (by omega)]
  rcases hc with z | z | z
  ·rw [if_neg (by omega), if_neg (by omega), if_pos (by omega)]
   exact step _ (by unfold ldB; rw [if_pos z])
  ·rw [if_pos z, if_pos (by omega)]
   exact step _ (by unfold ldB; rw [if_neg (by omega), if_pos z])
  ·obtain ⟨z0, z1, z2, z3⟩ := z
   rw [if_neg (by omega), if_pos (by omega), fields_same, (cfl_eq h z0 z1).2 k (by omega)]
   simp only [Option.bind_some]
   rw [wrap64_of (n := (j : Int) - 1) (by omega) (by omega), if_pos (by omega), if_pos (by omega), if_pos (by omega)]
   exact step _ (by unfold ldB; rw [if_neg (by omega), if_neg (by omega), z2])
end Go.Proofs.Ytmniglgahodghaa.Pure
namespace Go.Proofs.Ytmniglgahodghaa.Pure
open Go.RowKit Go.Proofs.Ytmniglgahodghaa.K Go.Proofs.YtmniglgahodghaaW.PrintWords Go.Proofs.YtmniglgahodghaaW.PrintLast Go.Proofs.YtmniglgahodghaaW.PrintMore
set_option linter.unusedVariables false
set_option linter.unusedSimpArgs false
theorem mem_map1 (W : List Int) (v : Int) : v ∈ W.map (· + 1) ↔ v - 1 ∈ W := by
 rw [List.mem_map]
 constructor
 ·rintro ⟨a, ha, rfl⟩; rw [show a + 1 - 1 = a by omega]; exact ha
 ·intro h; exact ⟨v - 1, h, by omega⟩
theorem map1_sorted {W : List Int} (h : W.Pairwise (· < ·)) : (W.map (· + 1)).Pairwise (· < ·) := by
  rw [List.pairwise_map]; exact h.imp (fun hab => by omega)
theorem has_eq {cs : Cs} {ws W : List Int} (hw : Wlk cs ws W) (m : Mm) (hm : m.begins = W.map (· + 1)) (v : Int) : ∀ q, 300 ≤ q → memory_has.f q m v = some (decide (v - 1 ∈ W)) := by
 intro q hq
 have hl := hw.len
 obtain ⟨p, _, h, _, _⟩ := search_eq (map1_sorted hw.srt) (by rw [List.length_map]; omega) v
 unfold memory_has.f
 rw [hm, h q (by rw [List.length_map]; omega), Option.bind_some]
 simp only [mem_map1]
theorem wlk_range {cs : Cs} {ws W : List Int} (hw : Wlk cs ws W) {x : Int} (hx : x ∈ W) : 0 ≤ x ∧ x < ws.length := by
  obtain ⟨e, h1, h2, h3, _⟩ := hw.mem x hx
  omega
theorem lead_eq {cs : Cs} {ws W : List Int} (hw : Wlk cs ws W) (hn : ws.length ≤ 1048576) (v : Int) : spec_l21Lead.f (startsL W ws.length) v = some (decide (v = 0) || decide (v - 1 ∈ W)) := by
 unfold spec_l21Lead.f
 by_cases c0 : v = 0
 ·rw [if_pos c0, decide_eq_true c0]; rfl
 rw [if_neg c0, spec_l6In_eq, startsL_len, decide_eq_false c0, Bool.false_or]
 simp only [Option.bind_some, decide_eq_true_eq]
 by_cases c1 : 1 ≤ v ∧ v ≤ (ws.length : Int)
 ·rw [if_pos c1, wrap64_of (n := v - 1) (by omega) (by omega), if_pos (by omega), if_pos (by omega), startsL_at W ws.length (by omega) (by omega)]
 ·rw [if_neg c1, decide_eq_false (fun hv => c1 (by have := wlk_range hw hv; omega))]
theorem word_eq {cs : Cs} {ws : List Int} {y t o : Int} {cards : List Bool} (hb : Bnd cs ws y t o cards) {W : List Int} (hw : Wlk cs ws W) (m : Mm) (hm : m = ⟨ws, y, t, o, cards, allF cs, W.map (· + 1)⟩)
  {x hd cnt c : Int} (h0 : 0 ≤ x) (hhd : hd = 1 ∨ hd = 2) (hcn : 0 ≤ cnt) (hsz : x + hd + cnt ≤ ws.length) (hfi : thing_first.f m (x + 1) = some (x + hd)) (hle : ∀ k, 0 ≤ k → k < cnt → thing_leads.f m (x + 1) k = some (ldB cs c k))
  (R : List Bool) (hR : R = refsL cs c hd (hd + cnt)) {k : Int} (k0 : 0 ≤ k) (k1 : k < cnt) :
  ∃ b, (∀ q, 300 ≤ q → wordAt q m (x + 1) k = some b) ∧ ∀ κ : Nat, spec_l21Thing.l0 (κ + 2) (startsL W ws.length) x R (hd + k) ws y t o cards = if b = true then spec_l21Thing.l0 κ (startsL W ws.length) x R (hd + k + 1) ws y t o cards else some false := by
 have n0 := hb.n0; have n1 := hb.n1; have y0 := hb.y0; have y1 := hb.y1; have cd := hb.cd
 have hRl : (R.length : Int) = hd + cnt := by rw [hR]; unfold refsL; rw [List.length_map, List.length_range]; omega
 have hRk : rdOf false R (hd + k) = ldB cs c k := by rw [hR, refsL_at cs c hd (hd + cnt) (by omega) (by omega) (by omega), show hd + k - hd = k by omega]
 obtain ⟨v, hv⟩ : ∃ v, v = rd ws (x + (hd + k)) := ⟨_, rfl⟩
 have hmw : m.words = ws := by rw [hm]
 have hA : ∀ q, wordAt q m (x + 1) k = if ldB cs c k = true then (if v = 0 then some true else (memory_has.f q m v).bind fun h => if h = true then cardOk m (x + 1) v (x + (hd + k)) else some false) else impl_isWord.f v := fun q => by
  unfold wordAt
  rw [hfi, Option.bind_some, hmw, if_pos (by omega), hle k k0 k1, Option.bind_some, show x + hd + k = x + (hd + k) by omega, ← hv]
 have w1 : wrap64 (x + (hd + k)) = x + (hd + k) := wrap64_of (by omega) (by omega)
 have w2 : wrap64 (hd + k + 1) = hd + k + 1 := wrap64_of (by omega) (by omega)
 have hB : ∀ κ : Nat, spec_l21Thing.l0 (κ + 2) (startsL W ws.length) x R (hd + k) ws y t o cards = if ldB cs c k = true then spec_l21Thing.j1 (κ + 1) (startsL W ws.length) x R (hd + k) v (!(decide (v = 0) || decide (v - 1 ∈ W))) ws y t o cards else spec_l21Thing.j1 (κ + 1) (startsL W ws.length) x R (hd + k) v (!(decide (-128 ≤ v ∧ v ≤ 127))) ws y t o cards := fun κ => by
  rw [spec_l21Thing.l0, if_pos (by omega), w1, if_pos (by omega), if_pos (by omega), if_pos (by omega), hRk, ← hv, lead_eq hw (by omega)]
  simp only [Option.bind_some]
  by_cases c0 : ldB cs c k = true
  ·rw [if_pos c0, if_pos c0]
   cases (decide (v = 0) || decide (v - 1 ∈ W)) <;> rfl
  ·rw [if_neg c0, if_neg c0]
   unfold spec_l1Word.f
   rw [spec_l6In_eq]
   rfl
 have hJ : ∀ (κ : Nat) (bad : Bool), spec_l21Thing.j1 (κ + 1) (startsL W ws.length) x R (hd + k) v bad ws y t o cards = if bad = true then some false else (if ldB cs c k = true then (if x ≥ y then (if 1 ≤ v ∧ v ≤ y then (if rdOf false cards ((x + (hd + k) - y) / 4) = true then spec_l21Thing.l0 κ (startsL W ws.length) x R (hd + k + 1) ws y t o cards else some false) else spec_l21Thing.l0 κ (startsL W ws.length) x R (hd + k + 1) ws y t o cards) else spec_l21Thing.l0 κ (startsL W ws.length) x R (hd + k + 1) ws y t o cards) else spec_l21Thing.l0 κ (startsL W ws.length) x R (hd + k + 1) ws y t o cards) := fun κ bad => by
  rw [spec_l21Thing.j1, w2, w1]
  cases bad with
  | true => rw [if_pos rfl, if_pos rfl]
  | false =>
   simp only [Bool.false_eq_true, if_false]
   rw [if_pos (show 0 ≤ hd + k by omega), if_pos (show hd + k < (R.length : Int) by omega), hRk]
   by_cases c0 : ldB cs c k = true
   ·rw [if_pos c0, if_pos c0]
    by_cases c1 : x ≥ y
    ·rw [if_pos c1, if_pos c1, spec_l6In_eq]
     simp only [Option.bind_some, decide_eq_true_eq]
     by_cases c2 : 1 ≤ v ∧ v ≤ y
     ·rw [if_pos c2, if_pos c2, wrap64_of (n := x + (hd + k) - y) (by omega) (by omega), Int.tdiv_eq_ediv_of_nonneg (by omega), wrap64_of (n := (x + (hd + k) - y) / 4) (by omega) (by omega), if_pos (by omega), if_pos (by omega)]
     ·rw [if_neg c2, if_neg c2]
    ·rw [if_neg c1, if_neg c1]
   ·rw [if_neg c0, if_neg c0]
 by_cases c0 : ldB cs c k = true
 case neg =>
  refine ⟨decide (-128 ≤ v ∧ v ≤ 127), fun q hq => ?_, fun κ => ?_⟩
  ·rw [hA, if_neg c0]
   unfold impl_isWord.f
   by_cases z : v ≥ -128
   ·rw [if_pos z]; simp [show -128 ≤ v from z]
   ·rw [if_neg z]; simp [show ¬ -128 ≤ v from z]
  ·rw [hB, if_neg c0, hJ, if_neg c0]
   cases decide (-128 ≤ v ∧ v ≤ 127) <;> rfl
 case pos =>
 by_cases c1 : v = 0
 ·refine ⟨true, fun q hq => by rw [hA, if_pos c0, if_pos c1], fun κ => ?_⟩
  rw [hB, if_pos c0, hJ, decide_eq_true c1, if_pos c0]
  rw [if_neg (by simp), if_pos rfl]
  by_cases c2 : x ≥ y
  ·rw [if_pos c2, if_neg (by omega)]
  ·rw [if_neg c2]
 have hq0 := has_eq hw m (by rw [hm]) v
 by_cases c2 : v - 1 ∈ W
 case neg =>
  refine ⟨false, fun q hq => by rw [hA, if_pos c0, if_neg c1, hq0 q hq, decide_eq_false c2]; rfl, fun κ => ?_⟩
  rw [hB, if_pos c0, hJ, decide_eq_false c1, decide_eq_false c2]
  rfl
 case pos =>
 have hvr := wlk_range hw c2
 have hA2 : ∀ q, 300 ≤ q → wordAt q m (x + 1) k = cardOk m (x + 1) v (x + (hd + k)) := fun q hq => by
  rw [hA, if_pos c0, if_neg c1, hq0 q hq, decide_eq_true c2]; rfl
 have hB2 : ∀ κ : Nat, spec_l21Thing.l0 (κ + 2) (startsL W ws.length) x R (hd + k) ws y t o cards = (if x ≥ y then (if 1 ≤ v ∧ v ≤ y then (if rdOf false cards ((x + (hd + k) - y) / 4) = true then spec_l21Thing.l0 κ (startsL W ws.length) x R (hd + k + 1) ws y t o cards else some false) else spec_l21Thing.l0 κ (startsL W ws.length) x R (hd + k + 1) ws y t o cards) else spec_l21Thing.l0 κ (startsL W ws.length) x R (hd + k + 1) ws y t o cards) := fun κ => by
  rw [hB, if_pos c0, hJ, decide_eq_true c2, if_pos c0]
  rw [if_neg (by simp)]
 have hC : cardOk m (x + 1) v (x + (hd + k)) = if x ≥ y then (if 1 ≤ v ∧ v ≤ y then some (rdOf false cards ((x + (hd + k) - y) / 4)) else some true) else some true := by
  unfold cardOk
  rw [hm]
  show (if x + 1 > y then (if v > y then some true else (if 0 ≤ wrap64 (Int.tdiv (wrap64 (x + (hd + k) - y)) 4) ∧ wrap64 (Int.tdiv (wrap64 (x + (hd + k) - y)) 4) < (cards.length : Int) then some (rdOf false cards (wrap64 (Int.tdiv (wrap64 (x + (hd + k) - y)) 4))) else none)) else some true) = _
  by_cases z1 : x ≥ y
  ·rw [if_pos (show x + 1 > y by omega), if_pos z1]
   by_cases z2 : v > y
   ·rw [if_pos z2, if_neg (by omega)]
   ·rw [if_neg z2, if_pos (show 1 ≤ v ∧ v ≤ y by omega), wrap64_of (n := x + (hd + k) - y) (by omega) (by omega), Int.tdiv_eq_ediv_of_nonneg (by omega), wrap64_of (n := (x + (hd + k) - y) / 4) (by omega) (by omega), if_pos (by omega)]
  ·rw [if_neg (show ¬ x + 1 > y by omega), if_neg z1]
 by_cases z1 : x ≥ y
 ·by_cases z2 : 1 ≤ v ∧ v ≤ y
  ·refine ⟨rdOf false cards ((x + (hd + k) - y) / 4), fun q hq => by rw [hA2 q hq, hC, if_pos z1, if_pos z2], fun κ => by rw [hB2, if_pos z1, if_pos z2]⟩
  ·exact ⟨true, fun q hq => by rw [hA2 q hq, hC, if_pos z1, if_neg z2], fun κ => by rw [hB2, if_pos z1, if_neg z2, if_pos rfl]⟩
 ·exact ⟨true, fun q hq => by rw [hA2 q hq, hC, if_neg z1], fun κ => by rw [hB2, if_neg z1, if_pos rfl]⟩
theorem thing_eq {cs : Cs} {ws : List Int} {y t o : Int} {cards : List Bool} (hb : Bnd cs ws y t o cards) {W : List Int} (hw : Wlk cs ws W) (m : Mm) (hm : m = ⟨ws, y, t, o, cards, allF cs, W.map (· + 1)⟩) {x : Int} (hx : x ∈ W) :
  ∃ b, (∀ q, 300 ≤ q → wordsOk.f q m (x + 1) = some b) ∧ ∀ k, 200 ≤ k → spec_l21Thing.f k cs ws y t o cards (startsL W ws.length) x = some b := by
 obtain ⟨c, hd, cnt, hc, h0, hhd, hcn, hcn8, hsz, hco, hfi, hhe, hl21, hle, hcc⟩ := thing_facts hb hw m hm hx
 have n0 := hb.n0; have n1 := hb.n1; have y0 := hb.y0; have y1 := hb.y1
 have key : ∀ d : Nat, ∀ k : Int, 0 ≤ k → k + d = cnt → ∃ b, (∀ q, 300 ≤ q → ∀ j : Nat, d + 1 ≤ j → wordsOk.l q m (x + 1) cnt j k = some b) ∧ ∀ κ : Nat, 2 * d + 1 ≤ κ → spec_l21Thing.l0 κ (startsL W ws.length) x (refsL cs c hd (hd + cnt)) (hd + k) ws y t o cards = some b := by
  intro d
  induction d with
  | zero =>
   intro k k0 kd
   refine ⟨true, fun q hq j hj => ?_, fun κ hκ => ?_⟩
   ·obtain ⟨j, rfl⟩ : ∃ i, j = i + 1 := ⟨j - 1, by omega⟩
    rw [wordsOk.l, if_neg (by omega)]
   ·obtain ⟨κ, rfl⟩ : ∃ i, κ = i + 1 := ⟨κ - 1, by omega⟩
    have hRl : ((refsL cs c hd (hd + cnt)).length : Int) = hd + cnt := by unfold refsL; rw [List.length_map, List.length_range]; omega
    rw [spec_l21Thing.l0, if_neg (by omega)]
  | succ d ih =>
   intro k k0 kd
   obtain ⟨b, hb1, hb2⟩ := word_eq hb hw m hm h0 hhd hcn hsz hfi hle _ rfl k0 (show k < cnt by omega)
   obtain ⟨b', h1, h2⟩ := ih (k + 1) (by omega) (by omega)
   cases b with
   | true =>
    refine ⟨b', fun q hq j hj => ?_, fun κ hκ => ?_⟩
    ·obtain ⟨j, rfl⟩ : ∃ i, j = i + 1 := ⟨j - 1, by omega⟩
     rw [wordsOk.l, if_pos (by omega), hb1 q hq, Option.bind_some, if_pos rfl]
     exact h1 q hq j (by omega)
    ·obtain ⟨κ, rfl⟩ : ∃ i, κ = i + 2 := ⟨κ - 2, by omega⟩
     rw [hb2 κ, if_pos rfl, show hd + k + 1 = hd + (k + 1) by omega]
     exact h2 κ (by omega)
   | false =>
    refine ⟨false, fun q hq j hj => ?_, fun κ hκ => ?_⟩
    ·obtain ⟨j, rfl⟩ : ∃ i, j = i + 1 := ⟨j - 1, by omega⟩
     rw [wordsOk.l, if_pos (by omega), hb1 q hq, Option.bind_some, if_neg (by simp)]
    ·obtain ⟨κ, rfl⟩ : ∃ i, κ = i + 2 := ⟨κ - 2, by omega⟩
     rw [hb2 κ, if_neg (by simp)]
 obtain ⟨b, h1, h2⟩ := key cnt.toNat 0 (by omega) (by omega)
 refine ⟨b, fun q hq => ?_, fun k hk => ?_⟩
 ·unfold wordsOk.f
  rw [hco, Option.bind_some, if_pos (by omega)]
  exact h1 q hq _ (by omega)
 ·unfold spec_l21Thing.f spec_l21Refs.f
  rw [hl21 k (by omega)]
  simp only [Option.bind_some]
  rw [if_pos (by omega), if_pos (by omega), if_pos h0, if_pos (by omega), ← hc, hhe]
  simp only [Option.bind_some]
  have hr := refs_l0 (cs := cs) hb.ok (c := c) (hd := hd) (s := (hd + cnt).toNat) (by omega) hhd (by rcases hcc with z | z | z; exact Or.inl z; exact Or.inr (Or.inl z); exact Or.inr (Or.inr ⟨z.1, z.2.1, z.2.2.1, by omega⟩)) cnt.toNat k hd.toNat (List.replicate (hd + cnt).toNat false) (by omega) (by omega) (by omega) (by simp) (fun i hi => by
   rw [decide_eq_false (show ¬ (hd ≤ (i : Int) ∧ i < hd.toNat) by omega)]
   simp [List.getD_eq_getElem?_getD, hi])
  rw [show ((hd.toNat : Nat) : Int) = hd by omega] at hr
  rw [hr]
  simp only [Option.bind_some]
  rw [if_pos (by omega), if_pos (by omega)]
  have := h2 k (by omega)
  rw [show hd + 0 = hd by omega, show ((hd + cnt).toNat : Int) = hd + cnt by omega] at *
  exact this
end Go.Proofs.Ytmniglgahodghaa.Pure
namespace Go.Proofs.Ytmniglgahodghaa.Pure
open Go.RowKit Go.Proofs.Ytmniglgahodghaa.K Go.Proofs.YtmniglgahodghaaW.PrintWords Go.Proofs.YtmniglgahodghaaW.PrintLast Go.Proofs.YtmniglgahodghaaW.PrintMore
set_option linter.unusedVariables false
set_option linter.unusedSimpArgs false
theorem all_drop_iff (l : List Int) (T : Nat) : (l.drop T).all (· == 0) = true ↔ ∀ j : Nat, T ≤ j → j < l.length → l.getD j 0 = 0 := by
 rw [List.all_eq_true]
 constructor
 ·intro h j h1 h2
  have hm : l[j] ∈ l.drop T := by
   rw [List.mem_iff_getElem]
   refine ⟨j - T, by rw [List.length_drop]; omega, ?_⟩
   simp only [List.getElem_drop, show T + (j - T) = j by omega]
  have := h _ hm
  rw [List.getD_eq_getElem?_getD, List.getElem?_eq_getElem h2]
  simpa using this
 ·intro h x hx
  obtain ⟨i, hi, rfl⟩ := List.getElem_of_mem hx
  rw [List.length_drop] at hi
  have := h (T + i) (by omega) (by omega)
  rw [List.getD_eq_getElem?_getD, List.getElem?_eq_getElem (by omega)] at this
  rw [List.getElem_drop]
  simpa using this
def Zr (ws : List Int) (y t o : Int) (i : Nat) : Prop := ((t ≤ i ∧ (i : Int) ≤ y - 1) ∨ (i : Int) ≥ o) → ws.getD i 0 = 0
theorem bounds_l0 {ws : List Int} {y t o : Int} {cards : List Bool} (hn : ws.length ≤ 1048576) (hy : 0 ≤ y) (hy2 : y ≤ 40) (d : Nat) : ∀ (k i : Nat), i + d = ws.length → d < k → ∃ b, spec_l21Bounds.l0 k ws.length i ws y t o cards = some b ∧ (b = true ↔ ∀ j : Nat, i ≤ j → j < ws.length → Zr ws y t o j) := by
 induction d with
 | zero =>
  intro k i hi hk
  obtain ⟨k, rfl⟩ : ∃ m, k = m + 1 := ⟨k - 1, by omega⟩
  refine ⟨true, by rw [spec_l21Bounds.l0, if_neg (by omega)], by simp only [true_iff]; intro j h1 h2; omega⟩
 | succ d ih =>
  intro k i hi hk
  obtain ⟨k, rfl⟩ : ∃ m, k = m + 1 := ⟨k - 1, by omega⟩
  have hlt : i < ws.length := by omega
  obtain ⟨b, h1, h2⟩ := ih k (i + 1) (by omega) (by omega)
  rw [show ((i + 1 : Nat) : Int) = wrap64 ((i : Int) + 1) by rw [wrap_inc (n := 1048577) (by omega) (by omega) (by omega)]; omega] at h1
  have w : wrap64 (y - 1) = y - 1 := wrap64_of (by omega) (by omega)
  by_cases z : Zr ws y t o i
  ·refine ⟨b, ?_, h2.trans ⟨fun h j h3 h4 => ?_, fun h j h3 h4 => h j (by omega) h4⟩⟩
   ·rw [spec_l21Bounds.l0, if_pos (by omega), spec_l6In_eq, w]
    simp only [Option.bind_some, decide_eq_true_eq]
    by_cases c1 : t ≤ (i : Int) ∧ (i : Int) ≤ y - 1
    ·rw [if_pos c1, if_pos (by omega), if_pos (by omega), rd_cast, if_pos (z (Or.inl c1))]
     exact h1
    ·rw [if_neg c1]
     by_cases c2 : (i : Int) ≥ o
     ·rw [if_pos c2, if_pos (by omega), if_pos (by omega), rd_cast, if_pos (z (Or.inr c2))]
      exact h1
     ·rw [if_neg c2]
      exact h1
   ·rcases Nat.eq_or_lt_of_le h3 with q | q
    ·subst q; exact z
    ·exact h j (by omega) h4
  ·refine ⟨false, ?_, by constructor; intro h; simp at h; intro h; exact absurd (h i (Nat.le_refl _) hlt) z⟩
   have z2 : ((t ≤ (i : Int) ∧ (i : Int) ≤ y - 1) ∨ (i : Int) ≥ o) ∧ ¬ ws.getD i 0 = 0 := by
    unfold Zr at z
    exact ⟨Classical.byContradiction fun q => z (fun p => absurd p q), fun q => z (fun _ => q)⟩
   rw [spec_l21Bounds.l0, if_pos (by omega), spec_l6In_eq, w]
   simp only [Option.bind_some, decide_eq_true_eq]
   by_cases c1 : t ≤ (i : Int) ∧ (i : Int) ≤ y - 1
   ·rw [if_pos c1, if_pos (by omega), if_pos (by omega), rd_cast, if_neg z2.2]
   ·rw [if_neg c1, if_pos (z2.1.resolve_left c1), if_pos (by omega), if_pos (by omega), rd_cast, if_neg z2.2]
theorem bounds_eq {cs : Cs} (hf : fewF cs) (hok : csOk cs = true) {ws : List Int} {y t o : Int} {cards : List Bool} (hn : ws.length ≤ 1048576) (hc : cards.length ≤ 1048576) :
    ∃ p, impl_partsOk.f ws y t o cards = some p ∧ (∀ k, 4000000 ≤ k → spec_l21Bounds.f k cs ws y t o cards = some p) ∧ (p = true → Bnd cs ws y t o cards) := by
  have bad : ∀ k, 1 ≤ k → spec_l21Bounds.j0 k ws.length true ws y t o cards = some false := fun k hk => by
    obtain ⟨k, rfl⟩ : ∃ m, k = m + 1 := ⟨k - 1, by omega⟩
    rw [spec_l21Bounds.j0, if_pos rfl]
  have hp : impl_partsOk.f ws y t o cards = some (pOk ws y t o cards 0 && pOk ws y t o cards 1 && pOk ws y t o cards 2 && pOk ws y t o cards 3 && pOk ws y t o cards 4 && pOk ws y t o cards 5 && pOk ws y t o cards 6) := by
    unfold impl_partsOk.f; rw [if_pos (by omega)]
  rw [hp]
  have hs : ∀ k, 4000000 ≤ k → spec_l21Bounds.f k cs ws y t o cards = if 0 ≤ y ∧ y ≤ 40 then (if 14 ≤ wrap64 ((ws.length : Int) - y) ∧ wrap64 ((ws.length : Int) - y) ≤ 120 then (if 0 ≤ t ∧ t ≤ y then (if y ≤ o ∧ o ≤ ws.length then spec_l21Bounds.j0 k ws.length ((cards.length : Int) != cardsN (wrap64 ((ws.length : Int) - y))) ws y t o cards else some false) else some false) else some false) else some false := fun k hk => by
    unfold spec_l21Bounds.f
    rw [spec_ClassesOk_eq hf k (by omega), hok]
    simp only [Option.bind_some, if_true, spec_l6In_eq, decide_eq_true_eq, bad k (by omega)]
    rfl
  by_cases c0 : 0 ≤ y ∧ y ≤ 40
  case neg =>
    refine ⟨_, rfl, fun k hk => ?_, fun h => ?_⟩
    · rw [hs k hk, if_neg c0, show pOk ws y t o cards 0 = false from decide_eq_false c0]; rfl
    · rw [show pOk ws y t o cards 0 = false from decide_eq_false c0] at h; simp at h
  case pos =>
  have e0 : pOk ws y t o cards 0 = true := decide_eq_true c0
  have w : wrap64 ((ws.length : Int) - y) = (ws.length : Int) - y := wrap64_of (by omega) (by omega)
  rw [e0, Bool.true_and]
  by_cases c1 : 14 ≤ wrap64 ((ws.length : Int) - y) ∧ wrap64 ((ws.length : Int) - y) ≤ 120
  case neg =>
    refine ⟨_, rfl, fun k hk => ?_, fun h => ?_⟩
    · rw [hs k hk, if_pos c0, if_neg c1, show pOk ws y t o cards 1 = false from decide_eq_false c1]; rfl
    · rw [show pOk ws y t o cards 1 = false from decide_eq_false c1] at h; simp at h
  case pos =>
  have e1 : pOk ws y t o cards 1 = true := decide_eq_true c1
  rw [e1, Bool.true_and]
  by_cases c2 : 0 ≤ t ∧ t ≤ y
  case neg =>
    refine ⟨_, rfl, fun k hk => ?_, fun h => ?_⟩
    · rw [hs k hk, if_pos c0, if_pos c1, if_neg c2, show pOk ws y t o cards 2 = false from decide_eq_false c2]; rfl
    · rw [show pOk ws y t o cards 2 = false from decide_eq_false c2] at h; simp at h
  case pos =>
  have e2 : pOk ws y t o cards 2 = true := decide_eq_true c2
  rw [e2, Bool.true_and]
  by_cases c3 : y ≤ o ∧ o ≤ (ws.length : Int)
  case neg =>
    refine ⟨_, rfl, fun k hk => ?_, fun h => ?_⟩
    · rw [hs k hk, if_pos c0, if_pos c1, if_pos c2, if_neg c3, show pOk ws y t o cards 3 = false from decide_eq_false c3]; rfl
    · rw [show pOk ws y t o cards 3 = false from decide_eq_false c3] at h; simp at h
  case pos =>
  have e3 : pOk ws y t o cards 3 = true := decide_eq_true c3
  rw [e3, Bool.true_and]
  by_cases c4 : (cards.length : Int) = cardsN (wrap64 ((ws.length : Int) - y))
  case neg =>
    have e4 : pOk ws y t o cards 4 = false := beq_eq_false_iff_ne.mpr c4
    refine ⟨_, rfl, fun k hk => ?_, fun h => ?_⟩
    · rw [hs k hk, if_pos c0, if_pos c1, if_pos c2, if_pos c3, bne_iff_ne.mpr c4, bad k (by omega), e4]; rfl
    · rw [e4] at h; simp at h
  case pos =>
  have e4 : pOk ws y t o cards 4 = true := beq_iff_eq.mpr c4
  rw [e4, Bool.true_and]
  have h5 : pOk ws y t o cards 5 = true ↔ ∀ j : Nat, t ≤ j → (j : Int) ≤ y - 1 → ws.getD j 0 = 0 := by
    show ((ws.take y.toNat).drop t.toNat).all (· == 0) = true ↔ _
    rw [all_drop_iff]
    constructor
    · intro h j h1 h2
      have := h j (by omega) (by rw [List.length_take]; omega)
      rw [List.getD_eq_getElem?_getD, List.getElem?_take, if_pos (by omega)] at this
      rw [List.getD_eq_getElem?_getD]; exact this
    · intro h j h1 h2
      rw [List.length_take] at h2
      rw [List.getD_eq_getElem?_getD, List.getElem?_take, if_pos (by omega)]
      have := h j (by omega) (by omega)
      rw [List.getD_eq_getElem?_getD] at this; exact this
  have h6 : pOk ws y t o cards 6 = true ↔ ∀ j : Nat, o ≤ j → j < ws.length → ws.getD j 0 = 0 := by
    show ((ws.drop y.toNat).drop (o - y).toNat).all (· == 0) = true ↔ _
    rw [List.drop_drop, all_drop_iff]
    constructor
    · intro h j h1 h2; exact h j (by omega) h2
    · intro h j h1 h2; exact h j (by omega) h2
  obtain ⟨b, hb1, hb2⟩ := bounds_l0 (ws := ws) (y := y) (t := t) (o := o) (cards := cards) hn c0.1 c0.2 ws.length (ws.length + 1) 0 (by omega) (by omega)
  have eb : (pOk ws y t o cards 5 && pOk ws y t o cards 6) = b := by
    rw [Bool.eq_iff_iff, Bool.and_eq_true, h5, h6, hb2]
    constructor
    · rintro ⟨q1, q2⟩ j _ hj z
      rcases z with z | z
      · exact q1 j z.1 z.2
      · exact q2 j z hj
    · intro q
      exact ⟨fun j h1 h2 => q j (by omega) (by omega) (Or.inl ⟨h1, h2⟩), fun j h1 h2 => q j (by omega) h2 (Or.inr h1)⟩
  refine ⟨_, rfl, fun k hk => ?_, fun _ => ?_⟩
  · rw [hs k hk, if_pos c0, if_pos c1, if_pos c2, if_pos c3, eb]
    obtain ⟨k, rfl⟩ : ∃ m, k = m + 1 := ⟨k - 1, by omega⟩
    have e : ((cards.length : Int) != cardsN (wrap64 ((ws.length : Int) - y))) = false := by rw [← c4]; simp
    rw [e, spec_l21Bounds.j0, if_neg (by simp)]
    exact at_rounds (g := fun k => spec_l21Bounds.l0 k ws.length 0 ws y t o cards) (fun k => (spec_l21Bounds.mono_l k).2 _ _ _ _ _ _ _) (show ws.length + 1 ≤ k by omega) hb1
  · have w4 : cardsN (wrap64 ((ws.length : Int) - y)) = ((ws.length : Int) - y + 3) / 4 := by
      rw [w] at c1 ⊢
      unfold cardsN
      rw [wrap64_of (n := (ws.length : Int) - y + 4) (by omega) (by omega), wrap64_of (n := (ws.length : Int) - y + 4 - 1) (by omega) (by omega), Int.tdiv_eq_ediv_of_nonneg (by omega), show (ws.length : Int) - y + 4 - 1 = (ws.length : Int) - y + 3 by omega, wrap64_of (by omega) (by omega)]
    rw [w] at c1
    exact ⟨hok, c0.1, c0.2, c1.1, c1.2, c2.1, c2.2, c3.1, c3.2, by rw [c4, w4]⟩
theorem things_eq {cs : Cs} {ws : List Int} {y t o : Int} {cards : List Bool} (hb : Bnd cs ws y t o cards) {W : List Int} (hw : Wlk cs ws W) (m : Mm) (hm : m = ⟨ws, y, t, o, cards, allF cs, W.map (· + 1)⟩) :
  ∃ b, (∀ q, 300 ≤ q → thingsOk q m (W.map (· + 1)) = some b) ∧ ∀ k, 500 ≤ k → spec_MemOk.l0 k cs W (startsL W ws.length) 0 ws y t o cards = some b := by
 have hlen := hw.len
 have key : ∀ d i : Nat, i + d = W.length → ∃ b, (∀ q, 300 ≤ q → thingsOk q m ((W.drop i).map (· + 1)) = some b) ∧ ∀ k, d + 201 ≤ k → spec_MemOk.l0 k cs W (startsL W ws.length) i ws y t o cards = some b := by
  intro d
  induction d with
  | zero =>
   intro i hi
   refine ⟨true, fun q _ => by rw [List.drop_eq_nil_of_le (by omega)]; rfl, fun k hk => ?_⟩
   obtain ⟨k, rfl⟩ : ∃ m, k = m + 1 := ⟨k - 1, by omega⟩
   rw [spec_MemOk.l0, if_neg (by omega)]
  | succ d ih =>
   intro i hi
   have hlt : i < W.length := by omega
   obtain ⟨b, h1, h2⟩ := thing_eq hb hw m hm (List.getElem_mem hlt)
   obtain ⟨b', h3, h4⟩ := ih (i + 1) (by omega)
   have hd : (W.drop i).map (· + 1) = (W[i] + 1) :: (W.drop (i + 1)).map (· + 1) := by rw [List.drop_eq_getElem_cons hlt]; rfl
   refine ⟨if b = true then b' else false, fun q hq => ?_, fun k hk => ?_⟩
   ·rw [hd, thingsOk, h1 q hq, Option.bind_some]
    cases b with
    | true => exact h3 q hq
    | false => rfl
   ·obtain ⟨k, rfl⟩ : ∃ m, k = m + 1 := ⟨k - 1, by omega⟩
    rw [spec_MemOk.l0, if_pos (by omega), if_pos (by omega), rd_mem hlt, h2 k (by omega), Option.bind_some, wrap_inc (n := 1048577) (by omega) (by omega) (by omega)]
    cases b with
    | true => have := h4 k (by omega); rw [show ((i + 1 : Nat) : Int) = (i : Int) + 1 by omega] at this; exact this
    | false => rfl
 obtain ⟨b, h1, h2⟩ := key W.length 0 (by omega)
 exact ⟨b, h1, fun k hk => h2 k (by omega)⟩
def Prt (cs : Cs) (ws : List Int) (y t o : Int) (W : List Int) : Prop := ∀ x ∈ W, (0 ≤ x ∧ 0 < mstep ws (allF cs) t x ∧ mstep ws (allF cs) t x ≤ t - x) ∨ (y ≤ x ∧ 0 < mstep ws (allF cs) o x ∧ mstep ws (allF cs) o x ≤ o - x)
theorem open_eq2 {cs : Cs} (hf : fewF cs) {ws : List Int} {y t o : Int} {cards : List Bool} (hn : ws.length ≤ 1048576) (hc : cards.length ≤ 1048576) :
  ∃ r : Option Mm, (∀ k, 4000000 ≤ k → mopen k k cs ws y t o cards = some r) ∧ (∀ k, 4000000 ≤ k → spec_MemOk.f k cs ws y t o cards = some r.isSome) ∧
   (∀ m, r = some m → ∃ W, Bnd cs ws y t o cards ∧ Wlk cs ws W ∧ m = ⟨ws, y, t, o, cards, allF cs, W.map (· + 1)⟩ ∧ (∀ k, 4000000 ≤ k → spec_l21Walk.f k cs ws y t o cards = some (W, true)) ∧ Prt cs ws y t o W ∧ W = (pw ws (allF cs) t t.toNat 0).1 ++ (pw ws (allF cs) o (o - y).toNat y).1 ∧ ∀ q, 300 ≤ q → thingsOk q m (W.map (· + 1)) = some true) := by
 cases hok : csOk cs with
 | false =>
  refine ⟨none, fun k hk => ?_, fun k hk => ?_, fun m hm => by cases hm⟩
  ·unfold mopen
   rw [impl_ClassesOk_eq cs k (by omega), hok]; rfl
  ·unfold spec_MemOk.f spec_l21Bounds.f
   rw [spec_ClassesOk_eq hf k (by omega), hok]
   obtain ⟨k, rfl⟩ : ∃ m, k = m + 1 := ⟨k - 1, by omega⟩
   rw [Option.bind_some, if_neg (by simp), spec_l21Bounds.j0, if_pos rfl]; rfl
 | true =>
 obtain ⟨p, hp1, hp2, hp3⟩ := bounds_eq (cs := cs) (y := y) (t := t) (o := o) hf hok hn hc
 cases p with
 | false =>
  refine ⟨none, fun k hk => ?_, fun k hk => ?_, fun m hm => by cases hm⟩
  ·unfold mopen
   rw [impl_ClassesOk_eq cs k (by omega), hok, Option.bind_some, if_pos rfl, hp1]; rfl
  ·unfold spec_MemOk.f
   rw [hp2 k hk]; rfl
 | true =>
 have hb := hp3 rfl
 have n0 := hb.n0; have n1 := hb.n1; have y0 := hb.y0; have y1 := hb.y1; have t0 := hb.t0; have t1 := hb.t1; have o0 := hb.o0; have o1 := hb.o1
 obtain ⟨r1, h1⟩ : ∃ r1, r1 = pw ws (allF cs) t t.toNat 0 := ⟨_, rfl⟩
 obtain ⟨r2, h2⟩ : ∃ r2, r2 = pw ws (allF cs) o (o - y).toNat y := ⟨_, rfl⟩
 have l1 := pw_len ws (allF cs) t t.toNat 0
 have l2 := pw_len ws (allF cs) o (o - y).toNat y
 have m1 := pw_mem ws (allF cs) t t.toNat 0
 have m2 := pw_mem ws (allF cs) o (o - y).toNat y
 have s1 := pw_sorted ws (allF cs) t t.toNat 0
 have s2 := pw_sorted ws (allF cs) o (o - y).toNat y
 rw [← h1] at l1 m1 s1
 rw [← h2] at l2 m2 s2
 have hM : ∀ k, 4000000 ≤ k → mopen k k cs ws y t o cards = if r1.2 = true then (if r2.2 = true then (thingsOk k ⟨ws, y, t, o, cards, allF cs, (r1.1 ++ r2.1).map (· + 1)⟩ ((r1.1 ++ r2.1).map (· + 1))).bind fun ok => if ok = true then some (some ⟨ws, y, t, o, cards, allF cs, (r1.1 ++ r2.1).map (· + 1)⟩) else some none else some none) else some none := fun k hk => by
  unfold mopen
  rw [impl_ClassesOk_eq cs k (by omega), hok, Option.bind_some, if_pos rfl, hp1, Option.bind_some, if_pos rfl, allFields_eq hok k (by omega), Option.bind_some, if_pos ⟨allF_all hok, hn, hc⟩,
   pw_mwalk ws (allF cs) t t.toNat 0 [] k (by omega) (by omega), ← h1, Option.bind_some]
  by_cases c : r1.2 = true
  ·rw [if_pos c, if_pos c, if_pos (by simp; omega), pw_mwalk ws (allF cs) o (o - y).toNat y _ k (by omega) (by omega), ← h2, Option.bind_some]
   by_cases c2 : r2.2 = true
   ·rw [if_pos c2, if_pos c2, if_pos (by simp; omega)]
    simp only [List.nil_append, ← List.map_append]
   ·rw [if_neg c2, if_neg c2]
  ·rw [if_neg c, if_neg c]
 have hW : ∀ k, 4000000 ≤ k → spec_l21Walk.f k cs ws y t o cards = some (r1.1 ++ r2.1, r1.2 && r2.2) := fun k hk => by
  unfold spec_l21Walk.f spec_l21Part.f
  rw [pw_part hok hn (by omega) t.toNat 0 [] k (by omega) (by omega) (by omega) (by simp; omega), ← h1, Option.bind_some, pw_part hok hn (by omega) (o - y).toNat y [] k (by omega) (by omega) (by omega) (by simp; omega), ← h2, Option.bind_some]
  simp only [List.nil_append]
  rw [if_pos (by omega), Option.bind_some]
  cases r1.2 with
  | true => rw [if_pos rfl]; rfl
  | false => rw [if_neg (by simp)]; rfl
 have hS : ∀ k, 4000000 ≤ k → spec_MemOk.f k cs ws y t o cards = if (r1.2 && r2.2) = true then (spec_l21Starts.f k ws.length (r1.1 ++ r2.1)).bind fun S => spec_MemOk.l0 k cs (r1.1 ++ r2.1) S 0 ws y t o cards else some false := fun k hk => by
  unfold spec_MemOk.f
  rw [hp2 k hk, Option.bind_some, if_pos rfl, hW k hk, Option.bind_some]
 cases c1 : r1.2 with
 | false =>
  refine ⟨none, fun k hk => by rw [hM k hk, c1]; rfl, fun k hk => by rw [hS k hk, c1]; rfl, fun m hm => by cases hm⟩
 | true =>
 cases c2 : r2.2 with
 | false =>
  refine ⟨none, fun k hk => by rw [hM k hk, c1, c2]; rfl, fun k hk => by rw [hS k hk, c1, c2]; rfl, fun m hm => by cases hm⟩
 | true =>
 have hw : Wlk cs ws (r1.1 ++ r2.1) := by
  refine ⟨fun x hx => ?_, ?_, by rw [List.length_append]; omega⟩
  ·rcases List.mem_append.mp hx with z | z
   ·have := m1 x z; exact ⟨t, by omega, by omega, by omega, by omega, by omega⟩
   ·have := m2 x z; exact ⟨o, by omega, by omega, by omega, by omega, by omega⟩
  ·rw [List.pairwise_append]
   exact ⟨s1, s2, fun a ha b hb' => by have := m1 a ha; have := m2 b hb'; omega⟩
 obtain ⟨b, b1, b2⟩ := things_eq hb hw _ rfl
 have hst : ∀ k, 4000000 ≤ k → spec_l21Starts.f k ws.length (r1.1 ++ r2.1) = some (startsL (r1.1 ++ r2.1) ws.length) := fun k hk => starts_eq (fun x hx => wlk_range hw hx) (by have := hw.len; omega) (by omega) k (by omega)
 cases b with
 | false =>
  refine ⟨none, fun k hk => by rw [hM k hk, if_pos c1, if_pos c2, b1 k (by omega)]; rfl, fun k hk => by rw [hS k hk, c1, c2, if_pos (show (true && true) = true from rfl), hst k hk, Option.bind_some, b2 k (by omega)]; rfl, fun m hm => by cases hm⟩
 | true =>
  refine ⟨some ⟨ws, y, t, o, cards, allF cs, (r1.1 ++ r2.1).map (· + 1)⟩, fun k hk => by rw [hM k hk, if_pos c1, if_pos c2, b1 k (by omega)]; rfl, fun k hk => by rw [hS k hk, c1, c2, if_pos (show (true && true) = true from rfl), hst k hk, Option.bind_some, b2 k (by omega)]; rfl, fun m hm => ?_⟩
  obtain rfl := Option.some.inj hm
  refine ⟨r1.1 ++ r2.1, hb, hw, rfl, fun k hk => by rw [hW k hk, c1, c2]; rfl, fun x hx => ?_, by rw [h1, h2], fun q hq => b1 q hq⟩
  rcases List.mem_append.mp hx with z | z
  ·have := m1 x z; exact .inl ⟨by omega, this.2.2.1, this.2.2.2⟩
  ·have := m2 x z; exact .inr ⟨by omega, this.2.2.1, this.2.2.2⟩
end Go.Proofs.Ytmniglgahodghaa.Pure
namespace Go.Proofs.Ytmniglgahodghaa.Pure
open Go.RowKit Go.Proofs.Ytmniglgahodghaa.K Go.Proofs.YtmniglgahodghaaW.PrintWords Go.Proofs.YtmniglgahodghaaW.PrintLast Go.Proofs.YtmniglgahodghaaW.PrintMore
set_option linter.unusedVariables false
set_option linter.unusedSimpArgs false
theorem refs_eq {cs : Cs} {ws : List Int} {y t o : Int} {cards : List Bool} (hb : Bnd cs ws y t o cards) {c hd cnt x : Int} (hc : c = rd ws x) (h0 : 0 ≤ x) (hhd : hd = 1 ∨ hd = 2) (hcn : 0 ≤ cnt) (hcn8 : cnt ≤ 8) (hsz : x + hd + cnt ≤ ws.length) (hhe : spec_l21Head.f c = some hd) (hl21 : ∀ k, 20 ≤ k → spec_l21Size.f k cs ws x ws.length = some (hd + cnt)) (hcc : c = -1 ∨ c = -2 ∨ (0 ≤ c ∧ c < cs.length ∧ hd = 1 ∧ cnt = (cfl cs c).length)) :
  ∀ k, 200 ≤ k → spec_l21Refs.f k cs ws x = some (refsL cs c hd (hd + cnt)) := by
 intro k hk
 unfold spec_l21Refs.f
 rw [hl21 k (by omega), Option.bind_some, if_pos (by omega), if_pos (by omega), if_pos h0, if_pos (by omega), ← hc, hhe, Option.bind_some]
 have := refs_l0 hb.ok (c := c) (hd := hd) (s := (hd + cnt).toNat) (by omega) hhd (by rcases hcc with z | z | z; exact .inl z; exact .inr (.inl z); exact .inr (.inr ⟨z.1, z.2.1, z.2.2.1, by omega⟩)) ((hd + cnt).toNat - hd.toNat) k hd.toNat (List.replicate (hd + cnt).toNat false) (by omega) (by omega) (by omega) (by simp) (fun i hi => by
  rw [List.getD_eq_getElem?_getD, List.getElem?_replicate, if_pos hi]
  rw [decide_eq_false (by omega)]; rfl)
 rw [show ((hd.toNat : Nat) : Int) = hd by omega, show (((hd + cnt).toNat : Nat) : Int) = hd + cnt by omega] at this
 exact this
end Go.Proofs.Ytmniglgahodghaa.Pure
namespace Go.Proofs.Ytmniglgahodghaa.Pure
open Go.RowKit Go.Proofs.Ytmniglgahodghaa.K Go.Proofs.YtmniglgahodghaaW.PrintWords Go.Proofs.YtmniglgahodghaaW.PrintLast Go.Proofs.YtmniglgahodghaaW.PrintMore
set_option linter.unusedVariables false
set_option linter.unusedSimpArgs false
theorem things_true {q : Nat} {m : Mm} : ∀ {l : List Int}, thingsOk q m l = some true → ∀ a ∈ l, wordsOk.f q m a = some true
 | [], _, a, ha => by simp at ha
 | b :: r, h, a, ha => by
  rw [thingsOk] at h
  obtain ⟨ok, h1, h2⟩ := Option.bind_eq_some_iff.mp h
  cases ok with
  | false => simp at h2
  | true =>
   rw [if_pos rfl] at h2
   rcases List.mem_cons.mp ha with e | e
   ·rw [e]; exact h1
   ·exact things_true h2 a e
theorem wordsL_true {q : Nat} {m : Mm} {a n : Int} : ∀ {j : Nat} {x : Int}, wordsOk.l q m a n j x = some true → ∀ k, x ≤ k → k < n → wordAt q m a k = some true
 | 0, _, h, _, _, _ => by simp [wordsOk.l] at h
 | j + 1, x, h, k, h0, h1 => by
  rw [wordsOk.l, if_pos (by omega)] at h
  obtain ⟨ok, h2, h3⟩ := Option.bind_eq_some_iff.mp h
  cases ok with
  | false => simp at h3
  | true =>
   rw [if_pos rfl] at h3
   by_cases e : x = k
   ·rw [← e]; exact h2
   ·exact wordsL_true h3 k (by omega) h1
theorem word_lead {cs : Cs} {ws W : List Int} {y t o : Int} {cards : List Bool} (hw : Wlk cs ws W) (m : Mm) (hm : m = ⟨ws, y, t, o, cards, allF cs, W.map (· + 1)⟩) (hok : ∀ q, 300 ≤ q → thingsOk q m (W.map (· + 1)) = some true) {x hd cnt c k : Int} (hx : x ∈ W)
  (hco : thing_count.f m (x + 1) = some cnt) (hfi : thing_first.f m (x + 1) = some (x + hd)) (hle : ∀ k, 0 ≤ k → k < cnt → thing_leads.f m (x + 1) k = some (ldB cs c k)) (k0 : 0 ≤ k) (k1 : k < cnt) (hl : ldB cs c k = true) :
  rd ws (x + hd + k) = 0 ∨ rd ws (x + hd + k) - 1 ∈ W := by
 have h1 := things_true (hok 300 (Nat.le_refl _)) (x + 1) ((mem_map1 W (x + 1)).mpr (by rw [show x + 1 - 1 = x by omega]; exact hx))
 unfold wordsOk.f at h1
 rw [hco, Option.bind_some] at h1
 split at h1
 case isFalse => simp at h1
 have h2 := wordsL_true h1 k k0 k1
 unfold wordAt at h2
 rw [hfi, Option.bind_some] at h2
 split at h2
 case isFalse => simp at h2
 rw [hle k k0 k1, Option.bind_some, hl, if_pos rfl] at h2
 have e : m.words = ws := by rw [hm]
 rw [e] at h2
 by_cases z : rd ws (x + hd + k) = 0
 ·exact .inl z
 ·rw [if_neg z, has_eq hw m (by rw [hm]) _ 300 (Nat.le_refl _), Option.bind_some] at h2
  by_cases z2 : rd ws (x + hd + k) - 1 ∈ W
  ·exact .inr z2
  ·rw [decide_eq_false z2] at h2; simp at h2
def idx (W : List Int) (x : Int) : Nat := W.idxOf x
theorem idx_lt {W : List Int} {x : Int} (h : x ∈ W) : idx W x < W.length := List.idxOf_lt_length_of_mem h
theorem idx_at {W : List Int} {x : Int} (h : x ∈ W) : W[idx W x]'(idx_lt h) = x := List.getElem_idxOf _
theorem number_eq {cs : Cs} {ws W : List Int} (hw : Wlk cs ws W) (m : Mm) (hm : m.begins = W.map (· + 1)) {v : Int} (hv : v - 1 ∈ W) (v0 : v ≠ 0) : ∀ q, 300 ≤ q → memory_number.f q m v = some ((idx W (v - 1) : Int) + 1) := by
 intro q hq
 have hl := hw.len
 obtain ⟨p, hp, h, h1, h2⟩ := search_eq (map1_sorted hw.srt) (by rw [List.length_map]; omega) v
 unfold memory_number.f
 rw [if_neg v0, hm, h q (by rw [List.length_map]; omega), Option.bind_some]
 rw [List.length_map] at hp
 have hx := idx_lt hv; have ha := idx_at hv
 have h3 : p ≤ idx W (v - 1) := Nat.le_of_not_lt fun z => by
  have := h1 (idx W (v - 1)) (by rw [List.length_map]; exact hx) z
  rw [List.getElem_map, ha] at this; omega
 have h4 : p = idx W (v - 1) := by
  rcases Nat.eq_or_lt_of_le h3 with z | z
  ·exact z
  ·have h5 := h2 p (by rw [List.length_map]; omega) (Nat.le_refl _)
   rw [List.getElem_map] at h5
   have := sorted_lt hw.srt z hx
   omega
 rw [← h4]
 show some (wrap64 ((p : Int) + 1)) = _
 rw [wrap64_of (by omega) (by omega)]
theorem number_l0 {W : List Int} {n : Nat} (hW : ∀ x ∈ W, 0 ≤ x ∧ x < (n : Int)) (hs : W.Pairwise (· < ·)) (hl : W.length ≤ 1000) (d : Nat) : ∀ (k i : Nat) (S : List Int), i + d = W.length → d < k → S.length = n → (∀ p (h : p < W.length), p < i → S.getD W[p].toNat 0 = (p : Int) + 1) →
  ∃ S' : List Int, spec_l21Number.l0 k W S i = some S' ∧ S'.length = n ∧ ∀ p (h : p < W.length), S'.getD W[p].toNat 0 = (p : Int) + 1 := by
 induction d with
 | zero =>
  intro k i S hi hk hS hp
  obtain ⟨k, rfl⟩ : ∃ m, k = m + 1 := ⟨k - 1, by omega⟩
  exact ⟨S, by rw [spec_l21Number.l0, if_neg (by omega)], hS, fun p h => hp p h (by omega)⟩
 | succ d ih =>
  intro k i S hi hk hS hp
  obtain ⟨k, rfl⟩ : ∃ m, k = m + 1 := ⟨k - 1, by omega⟩
  have hlt : i < W.length := by omega
  have hr := hW W[i] (List.getElem_mem hlt)
  rw [spec_l21Number.l0, if_pos (by omega), if_pos (by omega), rd_mem hlt, if_pos hr.1, if_pos (by omega), wrap_inc (n := 100000) (by omega) (by omega) (by omega)]
  have := ih k (i + 1) (S.set W[i].toNat ((i : Int) + 1)) (by omega) (by omega) (by rw [List.length_set]; exact hS) (fun p h hpi => by
   rw [List.getD_eq_getElem?_getD, List.getElem?_set]
   by_cases e : W[i].toNat = W[p].toNat
   ·rw [if_pos e, if_pos (by omega)]
    have hr2 := hW W[p] (List.getElem_mem h)
    rcases Nat.lt_trichotomy i p with z | z | z
    ·omega
    ·subst z; rfl
    ·have := sorted_lt hs z hlt; omega
   ·rw [if_neg e, ← List.getD_eq_getElem?_getD]
    exact hp p h (by rcases Nat.eq_or_lt_of_le (show p ≤ i by omega) with z | z; subst z; exact absurd rfl e; exact z))
  rw [show ((i + 1 : Nat) : Int) = (i : Int) + 1 by omega] at this
  exact this
theorem numL {W : List Int} {n : Nat} (hW : ∀ x ∈ W, 0 ≤ x ∧ x < (n : Int)) (hs : W.Pairwise (· < ·)) (hl : W.length ≤ 1000) (hn : n ≤ 1048576) :
  ∃ S : List Int, (∀ k, 1001 ≤ k → spec_l21Number.f k n W = some S) ∧ S.length = n ∧ ∀ x ∈ W, rd S x = (idx W x : Int) + 1 := by
 obtain ⟨S, h1, h2, h3⟩ := number_l0 hW hs hl W.length 1001 0 (List.replicate n 0) (by omega) (by omega) (by simp) (fun p h hp => by omega)
 refine ⟨S, fun k hk => ?_, h2, fun x hx => ?_⟩
 ·unfold spec_l21Number.f
  rw [if_pos (by omega), if_pos (by omega), Int.toNat_natCast]
  exact at_rounds (g := fun k => spec_l21Number.l0 k W (List.replicate n 0) 0) (fun k => (spec_l21Number.mono_l k) _ _ _) hk h1
 ·have := h3 (idx W x) (idx_lt hx)
  rw [idx_at hx] at this
  exact this
def valAt (cs : Cs) (ws W : List Int) (c b k : Int) : Vs := if ldB cs c k = true then ⟨true, if rd ws (b + k) = 0 then 0 else (idx W (rd ws (b + k) - 1) : Int) + 1⟩ else ⟨false, rd ws (b + k)⟩
def valsL (cs : Cs) (ws W : List Int) (c b : Int) : Nat → Int → List Vs
  | 0, _ => []
  | d + 1, k => valAt cs ws W c b k :: valsL cs ws W c b d (k + 1)
theorem valsL_length (cs : Cs) (ws W : List Int) (c b : Int) : ∀ d k, (valsL cs ws W c b d k).length = d
  | 0, _ => rfl
  | d + 1, k => by rw [valsL, List.length_cons, valsL_length]
theorem objVals_eq {cs : Cs} {ws : List Int} {y t o : Int} {cards : List Bool} (hb : Bnd cs ws y t o cards) {W : List Int} (hw : Wlk cs ws W) (m : Mm) (hm : m = ⟨ws, y, t, o, cards, allF cs, W.map (· + 1)⟩) (hok : ∀ q, 300 ≤ q → thingsOk q m (W.map (· + 1)) = some true) {x hd cnt c : Int} (hx : x ∈ W) (hhd : hd = 1 ∨ hd = 2) (hcn8 : cnt ≤ 8) (hsz : x + hd + cnt ≤ ws.length)
  (hco : thing_count.f m (x + 1) = some cnt) (hfi : thing_first.f m (x + 1) = some (x + hd)) (hle : ∀ k, 0 ≤ k → k < cnt → thing_leads.f m (x + 1) k = some (ldB cs c k)) (q : Nat) (hq : 300 ≤ q) :
  ∀ (d j : Nat) (k : Int) (acc : List Vs), 0 ≤ k → k + d = cnt → d < j → acc.length ≤ 100 - d → objVals q m (x + 1) cnt j k acc = some (acc ++ valsL cs ws W c (x + hd) d k) := by
 have n0 := hb.n0; have n1 := hb.n1; have y0 := hb.y0; have y1 := hb.y1
 have hr := wlk_range hw hx
 intro d
 induction d with
 | zero =>
  intro j k acc k0 hk hj hacc
  obtain ⟨j, rfl⟩ : ∃ i, j = i + 1 := ⟨j - 1, by omega⟩
  rw [objVals, if_neg (by omega), valsL, List.append_nil]
 | succ d ih =>
  intro j k acc k0 hk hj hacc
  obtain ⟨j, rfl⟩ : ∃ i, j = i + 1 := ⟨j - 1, by omega⟩
  have hmw : m.words = ws := by rw [hm]
  have hg : memory_get.f m (x + 1) k = some (rd ws (x + hd + k)) := by
   unfold memory_get.f
   rw [hfi, Option.bind_some, hmw, if_pos (by omega)]
  rw [objVals, if_pos (by omega), hg, Option.bind_some, hle k k0 (by omega), Option.bind_some, if_pos (by omega), valsL]
  have step : ∀ v : Vs, v = valAt cs ws W c (x + hd) k → objVals q m (x + 1) cnt j (k + 1) (acc ++ [v]) = some (acc ++ valAt cs ws W c (x + hd) k :: valsL cs ws W c (x + hd) d (k + 1)) := fun v e => by
   rw [ih j (k + 1) (acc ++ [v]) (by omega) (by omega) (by omega) (by simp <;> omega), e]; simp
  by_cases l : ldB cs c k = true
  ·rw [if_pos l]
   rcases word_lead hw m hm hok hx hco hfi hle k0 (by omega) l with z | z
   ·have : memory_number.f q m (rd ws (x + hd + k)) = some 0 := by unfold memory_number.f; rw [if_pos z]
    rw [this, Option.bind_some]
    exact step _ (by unfold valAt; rw [if_pos l, if_pos z])
   ·have hz := wlk_range hw z
    rw [number_eq hw m (by rw [hm]) z (by omega) q hq, Option.bind_some]
    exact step _ (by unfold valAt; rw [if_pos l, if_neg (by omega)])
  ·rw [if_neg l]
   exact step _ (by unfold valAt; rw [if_neg l])
theorem specVals_eq {cs : Cs} {ws : List Int} {y t o : Int} {cards : List Bool} (hb : Bnd cs ws y t o cards) {W : List Int} (hw : Wlk cs ws W) (m : Mm) (hm : m = ⟨ws, y, t, o, cards, allF cs, W.map (· + 1)⟩) (hok : ∀ q, 300 ≤ q → thingsOk q m (W.map (· + 1)) = some true) {x hd cnt c : Int} (hx : x ∈ W) (hhd : hd = 1 ∨ hd = 2) (hcn : 0 ≤ cnt) (hcn8 : cnt ≤ 8) (hsz : x + hd + cnt ≤ ws.length)
  (hco : thing_count.f m (x + 1) = some cnt) (hfi : thing_first.f m (x + 1) = some (x + hd)) (hle : ∀ k, 0 ≤ k → k < cnt → thing_leads.f m (x + 1) k = some (ldB cs c k)) {S : List Int} (hS : S.length = ws.length) (hSx : ∀ z ∈ W, rd S z = (idx W z : Int) + 1) :
  ∀ (d κ : Nat) (k : Int) (acc : List Vs), 0 ≤ k → k + d = cnt → d < κ → acc.length ≤ 100 - d → spec_l21Obj.l0 κ S x (refsL cs c hd (hd + cnt)) (hd + k) ws y t o cards c acc = some (c, acc ++ valsL cs ws W c (x + hd) d k) := by
 have n0 := hb.n0; have n1 := hb.n1; have y0 := hb.y0; have y1 := hb.y1
 have hr := wlk_range hw hx
 have hRl : ((refsL cs c hd (hd + cnt)).length : Int) = hd + cnt := by unfold refsL; rw [List.length_map, List.length_range]; omega
 intro d
 induction d with
 | zero =>
  intro κ k acc k0 hk hj hacc
  obtain ⟨κ, rfl⟩ : ∃ i, κ = i + 1 := ⟨κ - 1, by omega⟩
  rw [spec_l21Obj.l0, if_neg (by omega), valsL, List.append_nil]
 | succ d ih =>
  intro κ k acc k0 hk hj hacc
  obtain ⟨κ, rfl⟩ : ∃ i, κ = i + 1 := ⟨κ - 1, by omega⟩
  have w1 : wrap64 (x + (hd + k)) = x + hd + k := by rw [wrap64_of (by omega) (by omega)]; omega
  have w2 : wrap64 (hd + k + 1) = hd + (k + 1) := by rw [wrap64_of (by omega) (by omega)]; omega
  have hrd : rdOf false (refsL cs c hd (hd + cnt)) (hd + k) = ldB cs c k := by rw [refsL_at cs c hd (hd + cnt) (by omega) (by omega) (by omega), show hd + k - hd = k by omega]
  have step : ∀ v : Vs, v = valAt cs ws W c (x + hd) k → spec_l21Obj.l0 κ S x (refsL cs c hd (hd + cnt)) (hd + (k + 1)) ws y t o cards c (acc ++ [v]) = some (c, acc ++ valAt cs ws W c (x + hd) k :: valsL cs ws W c (x + hd) d (k + 1)) := fun v e => by
   rw [ih κ (k + 1) (acc ++ [v]) (by omega) (by omega) (by omega) (by simp <;> omega), e]; simp
  rw [spec_l21Obj.l0, if_pos (by omega), if_pos (by omega), w1, if_pos (by omega), if_pos (by omega), hrd, w2, valsL]
  by_cases l : ldB cs c k = true
  ·rw [if_pos l]
   rcases word_lead hw m hm hok hx hco hfi hle k0 (by omega) l with z | z
   ·rw [if_neg (by omega), if_pos (by omega)]
    exact step _ (by unfold valAt; rw [if_pos l, if_pos z, l, z])
   ·have hz := wlk_range hw z
    rw [if_pos (by omega), wrap64_of (n := rd ws (x + hd + k) - 1) (by omega) (by omega), if_pos (by omega), if_pos (by omega), if_pos (by omega), hSx _ z]
    exact step _ (by unfold valAt; rw [if_pos l, if_neg (by omega), l])
  ·rw [if_neg l, if_pos (by omega)]
   exact step _ (by unfold valAt; rw [if_neg l, Bool.eq_false_iff.mpr l])
theorem MemObjs_eq {cs : Cs} (hf : fewF cs) {ws : List Int} {y t o : Int} {cards : List Bool} (hn : ws.length ≤ 1048576) (hc : cards.length ≤ 1048576) :
    ∃ s : List Os, s.length ≤ 200 ∧ (∀ x ∈ s, x.f1.length ≤ 100) ∧ (∀ k, 4000000 ≤ k → impl_MemObjs.f k cs ws y t o cards = some s) ∧ ∀ k, 4000000 ≤ k → spec_MemObjs.f k cs ws y t o cards = some s := by
  obtain ⟨r, h1, h2, h3⟩ := open_eq2 (cs := cs) hf (ws := ws) (y := y) (t := t) (o := o) (cards := cards) hn hc
  cases r with
  | none => exact ⟨[], by simp, by simp, fun k hk => by unfold impl_MemObjs.f; rw [h1 k hk]; rfl, fun k hk => by unfold spec_MemObjs.f; rw [h2 k hk]; rfl⟩
  | some m =>
    obtain ⟨W, hb, hw, hm, hk, hp, _, hok⟩ := h3 m rfl
    have n0 := hb.n0; have n1 := hb.n1; have y0 := hb.y0; have y1 := hb.y1; have wl := hw.len
    obtain ⟨S, hS1, hS2, hS3⟩ := numL (W := W) (n := ws.length) (fun x hx => wlk_range hw hx) hw.srt (by omega) (by omega)
    have key : ∀ (d i : Nat), i + d = W.length → ∃ s : List Os, s.length = d ∧ (∀ x ∈ s, x.f1.length ≤ 100) ∧ (∀ (k : Nat) (acc : List Os), 4000000 ≤ k → acc.length ≤ 1000 - d → objsL k m ((W.drop i).map (· + 1)) acc = some (acc ++ s)) ∧
        ∀ (k : Nat) (acc : List Os), 1000 + d < k → acc.length ≤ 1000 - d → spec_l21Objs.l0 k cs W S acc i ws y t o cards = some (acc ++ s) := by
      intro d
      induction d with
      | zero =>
        intro i hi
        refine ⟨[], rfl, by simp, fun k acc hk2 ha => by rw [List.drop_eq_nil_of_le (by omega)]; simp [objsL], fun k acc hk2 ha => ?_⟩
        obtain ⟨k, rfl⟩ : ∃ m, k = m + 1 := ⟨k - 1, by omega⟩
        rw [spec_l21Objs.l0, if_neg (by omega), List.append_nil]
      | succ d ih =>
        intro i hi
        have hlt : i < W.length := by omega
        have hx := List.getElem_mem hlt
        obtain ⟨s, s1, s2, s3, s4⟩ := ih (i + 1) (by omega)
        obtain ⟨c, hd, cnt, hcc, h0, hhd, hcn, hcn8, hsz, hco, hfi, hhe, hl21, hle, hcl⟩ := thing_facts hb hw m hm hx
        have hcls : thing_class.f m (W[i] + 1) = some c := by
          unfold thing_class.f
          have e : m.words = ws := by rw [hm]
          rw [e, if_pos (by omega), show W[i] + 1 - 1 = W[i] by omega, hcc]
        have hlen := valsL_length cs ws W c (W[i] + hd) cnt.toNat 0
        refine ⟨⟨c, valsL cs ws W c (W[i] + hd) cnt.toNat 0⟩ :: s, by simp [s1], fun z hz => ?_, fun k acc hk2 ha => ?_, fun k acc hk2 ha => ?_⟩
        · rcases List.mem_cons.mp hz with e | e
          · rw [e]; show (valsL cs ws W c (W[i] + hd) cnt.toNat 0).length ≤ 100; omega
          · exact s2 z e
        · have hv := objVals_eq hb hw m hm hok hx hhd hcn8 hsz hco hfi hle k (by omega) cnt.toNat k 0 [] (by omega) (by omega) (by omega) (by simp <;> omega)
          rw [List.drop_eq_getElem_cons hlt, List.map_cons, objsL, hcls, Option.bind_some, hco, Option.bind_some, hv, Option.bind_some, if_pos (by omega), s3 k _ hk2 (by simp <;> omega)]
          simp
        · obtain ⟨k, rfl⟩ : ∃ m, k = m + 1 := ⟨k - 1, by omega⟩
          have hv := specVals_eq hb hw m hm hok hx hhd hcn hcn8 hsz hco hfi hle hS2 hS3 cnt.toNat k 0 [] (by omega) (by omega) (by omega) (by simp <;> omega)
          have ho : spec_l21Obj.f k cs ws y t o cards S W[i] = some (c, valsL cs ws W c (W[i] + hd) cnt.toNat 0) := by
            unfold spec_l21Obj.f
            rw [refs_eq hb hcc h0 hhd hcn hcn8 hsz hhe hl21 hcl k (by omega), Option.bind_some, if_pos h0, if_pos (by omega), ← hcc, hhe, Option.bind_some]
            rw [show hd + 0 = hd by omega] at hv
            exact hv
          rw [spec_l21Objs.l0, if_pos (by omega), if_pos (by omega), rd_mem hlt, ho, Option.bind_some, if_pos (by omega), wrap_inc (n := 100000) (by omega) (by omega) (by omega)]
          have := s4 k (acc ++ [⟨c, valsL cs ws W c (W[i] + hd) cnt.toNat 0⟩]) (by omega) (by simp <;> omega)
          rw [show ((i + 1 : Nat) : Int) = (i : Int) + 1 by omega] at this
          rw [this]; simp
    obtain ⟨s, s1, s2, s3, s4⟩ := key W.length 0 (by omega)
    refine ⟨s, by omega, s2, fun k hk2 => ?_, fun k hk2 => ?_⟩
    · unfold impl_MemObjs.f
      rw [h1 k hk2, Option.bind_some]
      show memory_objs.f k m = _
      unfold memory_objs.f
      have e : m.begins = W.map (· + 1) := by rw [hm]
      rw [e, if_pos (by rw [List.length_map]; omega)]
      have := s3 k [] hk2 (by simp <;> omega)
      simpa using this
    · unfold spec_MemObjs.f
      rw [h2 k hk2, Option.bind_some]
      simp only [Option.isSome_some, if_true]
      unfold spec_l21Objs.f
      rw [hk k hk2, Option.bind_some, hS1 k (by omega), Option.bind_some]
      have := s4 k [] (by omega) (by simp <;> omega)
      rw [show ((0 : Nat) : Int) = 0 from rfl, List.nil_append] at this
      rw [this]; rfl
open Classical in
theorem FnExactMemObjs : laws_FnExactMemObjs.Pure := by
 intro l M hl hM
 refine Ev.rounds ?_
 simp only [laws_FnExactMemObjs.f]
 refine small_ev l M hl hM (fun q1 q2 q3 q4 => ?_)
 have hF := fewF_of q2
 have hL : (toCs l).length ≤ 1048576 := by unfold toCs; rw [List.length_map]; exact q1
 obtain ⟨s, hs, hs2, h1, h2⟩ := MemObjs_eq (cs := toCs l) hF (ws := M.f0) (y := M.f1) (t := M.f2) (o := M.f3) (cards := M.f4) q3 q4
 refine (toClassS_ev l q2 q1).bind ?_
 refine (toMem_ev M q3 q4).bind ?_
 refine evp ⟨rfl, hL⟩ ?_
 refine (ev_from 4000000 h2).bind ?_
 refine (ev_from 4000000 h1).bind ?_
 refine (eqObjS_ev s hs2 (by omega)).bind ?_
 refine (eqClassS_ev l q2 q1).bind ?_
 refine (eqMem_self M q3 q4).bind ?_
 obtain ⟨c, e, c0, c1⟩ := mcs_ev (toCs l) 1 (by omega) (fun c hc => by
  obtain ⟨c', hc', rfl⟩ := List.mem_map.mp hc
  exact q2 c' hc') (by omega)
 refine e.bind ?_
 refine (markMem_ev M.f0 M.f1 M.f2 M.f3 M.f4 c c0 (by omega) (by omega) (by omega)).bind ?_
 have hlen : (s.map (·.f1.length)).length ≤ 1000 := by rw [List.length_map]; omega
 have hle : ∀ n ∈ s.map (·.f1.length), n ≤ 100 := fun n hn => by
  obtain ⟨x, hx, rfl⟩ := List.mem_map.mp hn
  exact hs2 x hx
 have hmn := marksN_le (s.map (·.f1.length)) 1 hle
 refine (mobjs_ev s 1 (by omega) hs2 (by omega)).bind ?_
 refine (heldObjS_ev (s.map (·.f1.length)) 1 (by omega) hle (by omega) hlen).bind ?_
 exact evp ⟨rfl, ⟨rfl, rfl, rfl⟩, by show 0 ≤ c + (M.f0.length : Int) + M.f4.length; omega, rfl, by omega, by omega⟩ (Ev.now _)
end Go.Proofs.Ytmniglgahodghaa.Pure
