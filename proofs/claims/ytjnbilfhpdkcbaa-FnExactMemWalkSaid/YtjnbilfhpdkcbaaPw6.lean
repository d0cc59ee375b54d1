import Derived.Test.YtjnbilfhpdkcbaaPw1
import Derived.Test.YtjnbilfhpdkcbaaPw2
import Derived.Test.YtjnbilfhpdkcbaaPw3
import Derived.Test.YtjnbilfhpdkcbaaPm24
import Derived.Test.YtjnbilfhpdkcbaaPw4
import Derived.Test.YtjnbilfhpdkcbaaPm33
import Derived.Test.YtjnbilfhpdkcbaaPm35
import Derived.Test.YtjnbilfhpdkcbaaPm36
import Derived.Test.YtjnbilfhpdkcbaaPm31
namespace Go.Proofs.Ytjnbilfhpdkcbaa.Pure
open Go.RowKit Go.Proofs.Ytjnbilfhpdkcbaa.K Go.Proofs.YtjnbilfhpdkcbaaW.PrintWords Go.Proofs.YtjnbilfhpdkcbaaW.PrintLast Go.Proofs.YtjnbilfhpdkcbaaW.PrintMore
set_option linter.unusedVariables false
set_option linter.unusedSimpArgs false
def marksI : Nat → Int → List Int
  | 0, _ => []
  | n + 1, a => a :: marksI n (a + 1)
theorem markIntS_l0 (d : Nat) : ∀ (k : Nat) (pre post : List Int) (a : Int), post.length = d → d < k → 0 ≤ a → a + d ≤ 4611686018427387904 → pre.length + d ≤ 140737488355328 →
    laws_markIntS.l0 k (pre ++ post) a (pre.length : Int) = some (a + d, pre ++ marksI d a) := by
  induction d with
  | zero =>
    intro k pre post a hd hk ha hb hc
    obtain ⟨k, rfl⟩ : ∃ m, k = m + 1 := ⟨k - 1, by omega⟩
    obtain rfl : post = [] := List.eq_nil_of_length_eq_zero hd
    simp only [laws_markIntS.l0]
    rw [if_neg (by simp)]
    simp [marksI]
  | succ d ih =>
    intro k pre post a hd hk ha hb hc
    obtain ⟨k, rfl⟩ : ∃ m, k = m + 1 := ⟨k - 1, by omega⟩
    obtain ⟨x, post, rfl⟩ : ∃ x t, post = x :: t := by cases post with | nil => simp at hd | cons x t => exact ⟨x, t, rfl⟩
    simp only [laws_markIntS.l0]
    simp only [List.length_cons] at hd
    rw [if_pos (by simp only [List.length_append, List.length_cons]; omega), if_pos (by omega), wrap_inc (n := 4611686018427387904) ha (by omega) (by omega), wrap_inc (n := 4611686018427387904) (by omega) (by omega) (by omega)]
    have e : (pre ++ x :: post).set ((pre.length : Int).toNat) a = (pre ++ [a]) ++ post := by
      simp
    rw [e]
    have := ih k (pre ++ [a]) post (a + 1) (by omega) (by omega) (by omega) (by omega) (by simp; omega)
    rw [show ((pre.length : Int) + 1) = (((pre ++ [a]).length : Nat) : Int) from by simp, this]
    simp [marksI]
    omega
theorem markIntS_ev (xs : List Int) (a : Int) (ha : 0 ≤ a) (hb : a + xs.length ≤ 4611686018427387904) (hc : xs.length ≤ 140737488355328) :
    Ev (fun k => laws_markIntS.f k xs a) (a + xs.length, marksI xs.length a) := by
  refine Ev.of (k := xs.length + 1) (laws_markIntS.mono xs a) ?_
  have := markIntS_l0 xs.length (xs.length + 1) [] xs a rfl (by omega) ha hb (by simpa using hc)
  simpa [laws_markIntS.f] using this
theorem heldIntS_l0 (d : Nat) : ∀ (k : Nat) (pre : List Int) (a : Int), d < k → 0 ≤ a → a + d ≤ 4611686018427387904 → pre.length + d ≤ 140737488355328 →
    laws_heldIntS.l0 k (pre ++ marksI d a) a (pre.length : Int) = some (a + d) := by
  induction d with
  | zero =>
    intro k pre a hk ha hb hc
    obtain ⟨k, rfl⟩ : ∃ m, k = m + 1 := ⟨k - 1, by omega⟩
    simp only [laws_heldIntS.l0, marksI, List.append_nil]
    rw [if_neg (by omega)]
    simp
  | succ d ih =>
    intro k pre a hk ha hb hc
    obtain ⟨k, rfl⟩ : ∃ m, k = m + 1 := ⟨k - 1, by omega⟩
    show laws_heldIntS.l0 (k + 1) (pre ++ (a :: marksI d (a + 1))) a (pre.length : Int) = _
    simp only [laws_heldIntS.l0]
    rw [if_pos (by simp only [List.length_append, List.length_cons]; omega), if_pos (by omega), wrap_inc (n := 4611686018427387904) ha (by omega) (by omega), wrap_inc (n := 4611686018427387904) (by omega) (by omega) (by omega), rd_cast, if_pos (by simp [List.getD_eq_getElem?_getD])]
    have := ih k (pre ++ [a]) (a + 1) (by omega) (by omega) (by omega) (by simp; omega)
    rw [show pre ++ a :: marksI d (a + 1) = (pre ++ [a]) ++ marksI d (a + 1) from by simp, show ((pre.length : Int) + 1) = (((pre ++ [a]).length : Nat) : Int) from by simp, this]
    simp; omega
theorem heldIntS_ev (n : Nat) (a : Int) (ha : 0 ≤ a) (hb : a + n ≤ 4611686018427387904) (hc : n ≤ 140737488355328) :
    Ev (fun k => laws_heldIntS.f k (marksI n a) a) (a + n) := by
  refine Ev.of (k := n + 1) (laws_heldIntS.mono _ a) ?_
  have := heldIntS_l0 n (n + 1) [] a (by omega) ha hb (by simpa using hc)
  simpa [laws_heldIntS.f] using this
end Go.Proofs.Ytjnbilfhpdkcbaa.Pure
namespace Go.Proofs.Ytjnbilfhpdkcbaa.Pure
open Go.RowKit Go.Proofs.Ytjnbilfhpdkcbaa.K Go.Proofs.YtjnbilfhpdkcbaaW.PrintWords Go.Proofs.YtjnbilfhpdkcbaaW.PrintLast Go.Proofs.YtjnbilfhpdkcbaaW.PrintMore
set_option linter.unusedVariables false
set_option linter.unusedSimpArgs false
def marksB : Nat → Int → List Bool
  | 0, _ => []
  | n + 1, a => (Int.tmod a 3 == 0) :: marksB n (a + 1)
theorem markBoolS_l0 (d : Nat) : ∀ (k : Nat) (pre post : List Bool) (a : Int), post.length = d → d < k → 0 ≤ a → a + d ≤ 4611686018427387904 → pre.length + d ≤ 140737488355328 →
    laws_markBoolS.l0 k (pre ++ post) a (pre.length : Int) = some (a + d, pre ++ marksB d a) := by
  induction d with
  | zero =>
    intro k pre post a hd hk ha hb hc
    obtain ⟨k, rfl⟩ : ∃ m, k = m + 1 := ⟨k - 1, by omega⟩
    obtain rfl : post = [] := List.eq_nil_of_length_eq_zero hd
    simp only [laws_markBoolS.l0]
    rw [if_neg (by simp)]
    simp [marksB]
  | succ d ih =>
    intro k pre post a hd hk ha hb hc
    obtain ⟨k, rfl⟩ : ∃ m, k = m + 1 := ⟨k - 1, by omega⟩
    obtain ⟨x, post, rfl⟩ : ∃ x t, post = x :: t := by cases post with | nil => simp at hd | cons x t => exact ⟨x, t, rfl⟩
    simp only [laws_markBoolS.l0]
    simp only [List.length_cons] at hd
    rw [if_pos (by simp only [List.length_append, List.length_cons]; omega), if_pos (by omega), wrap_inc (n := 4611686018427387904) ha (by omega) (by omega), wrap_inc (n := 4611686018427387904) (by omega) (by omega) (by omega)]
    have e : (pre ++ x :: post).set ((pre.length : Int).toNat) (Int.tmod a 3 == 0) = (pre ++ [Int.tmod a 3 == 0]) ++ post := by
      simp
    rw [e]
    have := ih k (pre ++ [Int.tmod a 3 == 0]) post (a + 1) (by omega) (by omega) (by omega) (by omega) (by simp; omega)
    rw [show ((pre.length : Int) + 1) = (((pre ++ [Int.tmod a 3 == 0]).length : Nat) : Int) from by simp, this]
    simp [marksB]
    omega
theorem markBoolS_ev (xs : List Bool) (a : Int) (ha : 0 ≤ a) (hb : a + xs.length ≤ 4611686018427387904) (hc : xs.length ≤ 140737488355328) :
    Ev (fun k => laws_markBoolS.f k xs a) (a + xs.length, marksB xs.length a) := by
  refine Ev.of (k := xs.length + 1) (laws_markBoolS.mono xs a) ?_
  have := markBoolS_l0 xs.length (xs.length + 1) [] xs a rfl (by omega) ha hb (by simpa using hc)
  simpa [laws_markBoolS.f] using this
end Go.Proofs.Ytjnbilfhpdkcbaa.Pure
namespace Go.Proofs.Ytjnbilfhpdkcbaa.Pure
open Go.RowKit Go.Proofs.Ytjnbilfhpdkcbaa.K Go.Proofs.YtjnbilfhpdkcbaaW.PrintWords Go.Proofs.YtjnbilfhpdkcbaaW.PrintLast Go.Proofs.YtjnbilfhpdkcbaaW.PrintMore
set_option linter.unusedVariables false
set_option linter.unusedSimpArgs false
theorem markMem_ev (x0 : List Int) (x1 x2 x3 : Int) (x4 : List Bool) (a : Int) (ha : 0 ≤ a) (hb : a + x0.length + x4.length ≤ 4611686018427387904) (h0 : x0.length ≤ 140737488355328) (h4 : x4.length ≤ 140737488355328) :
    Ev (fun k => laws_markMem.f k x0 x1 x2 x3 x4 a) (a + x0.length + x4.length, marksI x0.length a, marksB x4.length (a + x0.length)) := by
  simp only [laws_markMem.f]
  refine (markIntS_ev x0 a ha (by omega) h0).bind ?_
  refine (markBoolS_ev x4 (a + x0.length) (by omega) (by omega) h4).bind ?_
  exact Ev.now _
end Go.Proofs.Ytjnbilfhpdkcbaa.Pure
namespace Go.Proofs.Ytjnbilfhpdkcbaa.Pure
open Go.RowKit Go.Proofs.Ytjnbilfhpdkcbaa.K Go.Proofs.YtjnbilfhpdkcbaaW.PrintWords Go.Proofs.YtjnbilfhpdkcbaaW.PrintLast Go.Proofs.YtjnbilfhpdkcbaaW.PrintMore
set_option linter.unusedVariables false
set_option linter.unusedSimpArgs false
theorem mcs_ev : ∀ (cs : Cs) (a : Int), 0 ≤ a → (∀ c ∈ cs, c.f1.length ≤ 1048576) → a + cs.length * 1048577 ≤ 2305843009213693952 → ∃ b, Ev (fun k => mcs k cs a) b ∧ 0 ≤ b ∧ b ≤ a + cs.length * 1048577
  | [], a, ha, _, _ => ⟨a, Ev.now _, ha, by simp⟩
  | x :: r, a, ha, hx, hb => by
    have h1 := hx x (List.mem_cons_self ..)
    simp only [List.length_cons] at hb ⊢
    obtain ⟨b, e, b0, b1⟩ := mcs_ev r (a + 1 + x.f1.length) (by omega) (fun c hc => hx c (List.mem_cons_of_mem _ hc)) (by omega)
    refine ⟨b, ?_, b0, by omega⟩
    have w : wrap64 (a + 1) = a + 1 := wrap64_of (by omega) (by omega)
    have := (markIntS_ev x.f1 (a + 1) (by omega) (by omega) (by omega)).bind (f := fun k p => mcs k r p.1) e
    simpa only [mcs, w] using this
theorem specWalk_l0 (W : List Int) (hW : ∀ x ∈ W, 0 ≤ x ∧ x ≤ 1048576) (hl : W.length ≤ 1048576) (d : Nat) : ∀ (k i : Nat) (acc : List Int), i + d = W.length → d < k → acc.length = i → spec_MemWalk.l0 k acc W i = some (acc ++ (W.drop i).map (· + 1)) := by
  induction d with
  | zero =>
    intro k i acc hi hk ha
    obtain ⟨k, rfl⟩ : ∃ m, k = m + 1 := ⟨k - 1, by omega⟩
    rw [spec_MemWalk.l0, if_neg (by omega), List.drop_eq_nil_of_le (by omega)]; simp
  | succ d ih =>
    intro k i acc hi hk ha
    obtain ⟨k, rfl⟩ : ∃ m, k = m + 1 := ⟨k - 1, by omega⟩
    have hlt : i < W.length := by omega
    have hx := hW W[i] (List.getElem_mem hlt)
    rw [spec_MemWalk.l0, if_pos (by omega), if_pos (by omega), if_pos (by omega), rd_mem hlt, wrap64_of (n := W[i] + 1) (by omega) (by omega), wrap_inc (n := 1048577) (by omega) (by omega) (by omega)]
    have := ih k (i + 1) (acc ++ [W[i] + 1]) (by omega) (by omega) (by simp [ha])
    rw [show ((i + 1 : Nat) : Int) = (i : Int) + 1 by omega] at this
    rw [this, List.drop_eq_getElem_cons hlt, List.map_cons, List.append_assoc]; rfl
theorem MemWalk_eq {cs : Cs} (hf : fewF cs) {ws : List Int} {y t o : Int} {cards : List Bool} (hn : ws.length ≤ 1048576) (hc : cards.length ≤ 1048576) :
    ∃ s : List Int, s.length ≤ 200 ∧ (∀ k, 4000000 ≤ k → impl_MemWalk.f k cs ws y t o cards = some s) ∧ ∀ k, 4000000 ≤ k → spec_MemWalk.f k cs ws y t o cards = some s := by
  obtain ⟨r, h1, h2, h3⟩ := open_eq (cs := cs) hf (ws := ws) (y := y) (t := t) (o := o) (cards := cards) hn hc
  cases r with
  | none => exact ⟨[], by simp, fun k hk => by unfold impl_MemWalk.f; rw [h1 k hk]; rfl, fun k hk => by unfold spec_MemWalk.f; rw [Option.bind_some, h2 k hk]; rfl⟩
  | some m =>
    obtain ⟨W, hb, hw, hm, hk⟩ := h3 m rfl
    have n0 := hb.n0; have n1 := hb.n1; have y0 := hb.y0; have y1 := hb.y1; have wl := hw.len
    refine ⟨W.map (· + 1), by rw [List.length_map]; exact wl, fun k hk2 => ?_, fun k hk2 => ?_⟩
    · unfold impl_MemWalk.f
      rw [h1 k hk2, Option.bind_some, hm]; rfl
    · unfold spec_MemWalk.f
      rw [Option.bind_some, h2 k hk2, Option.bind_some]
      simp only [Option.isSome_some, if_true]
      rw [hk k hk2, Option.bind_some]
      have := specWalk_l0 W (fun x hx => by have := wlk_range hw hx; omega) (by omega) W.length k 0 [] (by omega) (by omega) rfl
      simpa using this
theorem FnExactMemWalk : laws_FnExactMemWalk.Pure := by
  intro l M hl hM
  refine Ev.rounds ?_
  simp only [laws_FnExactMemWalk.f]
  refine small_ev l M hl hM (fun q1 q2 q3 q4 => ?_)
  have hF := fewF_of q2
  have hL : (toCs l).length ≤ 1048576 := by unfold toCs; rw [List.length_map]; exact q1
  obtain ⟨s, hs, h1, h2⟩ := MemWalk_eq (cs := toCs l) hF (ws := M.f0) (y := M.f1) (t := M.f2) (o := M.f3) (cards := M.f4) q3 q4
  refine (toClassS_ev l q2 q1).bind ?_
  refine (toMem_ev M q3 q4).bind ?_
  refine evp ⟨rfl, hL⟩ ?_
  refine (ev_from 4000000 h2).bind ?_
  refine (ev_from 4000000 h1).bind ?_
  refine (eqIntS_ev s s (by omega)).bind ?_
  refine (eqClassS_ev l q2 q1).bind ?_
  refine (eqMem_self M q3 q4).bind ?_
  obtain ⟨b, e, b0, b1⟩ := mcs_ev (toCs l) 1 (by omega) (fun c hc => by
    obtain ⟨c', hc', rfl⟩ := List.mem_map.mp hc
    exact q2 c' hc') (by omega)
  refine e.bind ?_
  refine (markMem_ev M.f0 M.f1 M.f2 M.f3 M.f4 b b0 (by omega) (by omega) (by omega)).bind ?_
  refine (markIntS_ev s 1 (by omega) (by omega) (by omega)).bind ?_
  refine (heldIntS_ev s.length 1 (by omega) (by omega) (by omega)).bind ?_
  exact evp ⟨⟨by simp, rfl, rfl⟩, by show 0 ≤ b + (M.f0.length : Int) + M.f4.length; omega, rfl, by omega⟩ (Ev.now _)
end Go.Proofs.Ytjnbilfhpdkcbaa.Pure
