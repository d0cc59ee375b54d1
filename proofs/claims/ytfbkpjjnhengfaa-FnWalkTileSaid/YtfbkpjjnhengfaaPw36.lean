import Derived.Test.YtfbkpjjnhengfaaPw24
import Derived.Test.YtfbkpjjnhengfaaPw30
import Derived.Test.YtfbkpjjnhengfaaPw27
import Derived.Test.YtfbkpjjnhengfaaPw28
import Derived.Test.YtfbkpjjnhengfaaPw29
import Derived.Test.YtfbkpjjnhengfaaPw25
import Derived.Test.YtfbkpjjnhengfaaPw26
import Derived.Test.YtfbkpjjnhengfaaPw31
import Derived.Test.YtfbkpjjnhengfaaPw32
import Derived.Test.YtfbkpjjnhengfaaPw35
import Derived.Deep.Slices
import Derived.Deep.Fields
import Derived.ChangeSame
import Derived.ProofKit
import Derived.OpenShut
import Derived.ShutString
import Derived.ChangeOld
import Derived.SizedLaws
namespace Go.Proofs.Ytfbkpjjnhengfaa.Pure
open Go.RowKit Go.Proofs.Ytfbkpjjnhengfaa.K Go.Proofs.YtfbkpjjnhengfaaW.PrintWords Go.Proofs.YtfbkpjjnhengfaaW.PrintLast Go.Proofs.YtfbkpjjnhengfaaW.PrintMore
set_option linter.unusedVariables false
set_option linter.unusedSimpArgs false
theorem all_drop_iff (l : List Int) (T : Nat) : (l.drop T).all (· == 0) = true ↔ ∀ j : Nat, T ≤ j → j < l.length → l.getD j 0 = 0 := by
 rw [List.all_eq_true]
 constructor
 ·intro h j h1 h2
  have hm : l[j] ∈ l.drop T := by
   rw [List.mem_iff_getElem]
   refine ⟨j - T, by rw [List.length_drop]; omega, ?_⟩
   simp only [List.getElem_drop, show T + (j - T) = j by omega]
  have := h _ hm
  rw [List.getD_eq_getElem?_getD, List.getElem?_eq_getElem h2]
  simpa using this
 ·intro h x hx
  obtain ⟨i, hi, rfl⟩ := List.getElem_of_mem hx
  rw [List.length_drop] at hi
  have := h (T + i) (by omega) (by omega)
  rw [List.getD_eq_getElem?_getD, List.getElem?_eq_getElem (by omega)] at this
  rw [List.getElem_drop]
  simpa using this
def Zr (ws : List Int) (y t o : Int) (i : Nat) : Prop := ((t ≤ i ∧ (i : Int) ≤ y - 1) ∨ (i : Int) ≥ o) → ws.getD i 0 = 0
theorem bounds_l0 {ws : List Int} {y t o : Int} {cards : List Bool} (hn : ws.length ≤ 1048576) (hy : 0 ≤ y) (hy2 : y ≤ 40) (d : Nat) : ∀ (k i : Nat), i + d = ws.length → d < k → ∃ b, spec_l21Bounds.l0 k ws.length i ws y t o cards = some b ∧ (b = true ↔ ∀ j : Nat, i ≤ j → j < ws.length → Zr ws y t o j) := by
 induction d with
 | zero =>
  intro k i hi hk
  obtain ⟨k, rfl⟩ : ∃ m, k = m + 1 := ⟨k - 1, by omega⟩
  refine ⟨true, by rw [spec_l21Bounds.l0, if_neg (by omega)], by simp only [true_iff]; intro j h1 h2; omega⟩
 | succ d ih =>
  intro k i hi hk
  obtain ⟨k, rfl⟩ : ∃ m, k = m + 1 := ⟨k - 1, by omega⟩
  have hlt : i < ws.length := by omega
  obtain ⟨b, h1, h2⟩ := ih k (i + 1) (by omega) (by omega)
  rw [show ((i + 1 : Nat) : Int) = wrap64 ((i : Int) + 1) by rw [wrap_inc (n := 1048577) (by omega) (by omega) (by omega)]; omega] at h1
  have w : wrap64 (y - 1) = y - 1 := wrap64_of (by omega) (by omega)
  by_cases z : Zr ws y t o i
  ·refine ⟨b, ?_, h2.trans ⟨fun h j h3 h4 => ?_, fun h j h3 h4 => h j (by omega) h4⟩⟩
   ·rw [spec_l21Bounds.l0, if_pos (by omega), spec_l6In_eq, w]
    simp only [Option.bind_some, decide_eq_true_eq]
    by_cases c1 : t ≤ (i : Int) ∧ (i : Int) ≤ y - 1
    ·rw [if_pos c1, if_pos (by omega), if_pos (by omega), rd_cast, if_pos (z (Or.inl c1))]
     exact h1
    ·rw [if_neg c1]
     by_cases c2 : (i : Int) ≥ o
     ·rw [if_pos c2, if_pos (by omega), if_pos (by omega), rd_cast, if_pos (z (Or.inr c2))]
      exact h1
     ·rw [if_neg c2]
      exact h1
   ·rcases Nat.eq_or_lt_of_le h3 with q | q
    ·subst q; exact z
    ·exact h j (by omega) h4
  ·refine ⟨false, ?_, by constructor; intro h; simp at h; intro h; exact absurd (h i (Nat.le_refl _) hlt) z⟩
   have z2 : ((t ≤ (i : Int) ∧ (i : Int) ≤ y - 1) ∨ (i : Int) ≥ o) ∧ ¬ ws.getD i 0 = 0 := by
    unfold Zr at z
    exact ⟨Classical.byContradiction fun q => z (fun p => absurd p q), fun q => z (fun _ => q)⟩
   rw [spec_l21Bounds.l0, if_pos (by omega), spec_l6In_eq, w]
   simp only [Option.bind_some, decide_eq_true_eq]
   by_cases c1 : t ≤ (i : Int) ∧ (i : Int) ≤ y - 1
   ·rw [if_pos c1, if_pos (by omega), if_pos (by omega), rd_cast, if_neg z2.2]
   ·rw [if_neg c1, if_pos (z2.1.resolve_left c1), if_pos (by omega), if_pos (by omega), rd_cast, if_neg z2.2]
theorem bounds_eq {cs : Cs} (hf : fewF cs) (hok : csOk cs = true) {ws : List Int} {y t o : Int} {cards : List Bool} (hn : ws.length ≤ 1048576) (hc : cards.length ≤ 1048576) :
    ∃ p, impl_partsOk.f ws y t o cards = some p ∧ (∀ k, 4000000 ≤ k → spec_l21Bounds.f k cs ws y t o cards = some p) ∧ (p = true → Bnd cs ws y t o cards) := by
  have bad : ∀ k, 1 ≤ k → spec_l21Bounds.j0 k ws.length true ws y t o cards = some false := fun k hk => by
    obtain ⟨k, rfl⟩ : ∃ m, k = m + 1 := ⟨k - 1, by omega⟩
    rw [spec_l21Bounds.j0, if_pos rfl]
  have hp : impl_partsOk.f ws y t o cards = some (pOk ws y t o cards 0 && pOk ws y t o cards 1 && pOk ws y t o cards 2 && pOk ws y t o cards 3 && pOk ws y t o cards 4 && pOk ws y t o cards 5 && pOk ws y t o cards 6) := by
    unfold impl_partsOk.f; rw [if_pos (by omega)]
  rw [hp]
  have hs : ∀ k, 4000000 ≤ k → spec_l21Bounds.f k cs ws y t o cards = if 0 ≤ y ∧ y ≤ 40 then (if 14 ≤ wrap64 ((ws.length : Int) - y) ∧ wrap64 ((ws.length : Int) - y) ≤ 120 then (if 0 ≤ t ∧ t ≤ y then (if y ≤ o ∧ o ≤ ws.length then spec_l21Bounds.j0 k ws.length ((cards.length : Int) != cardsN (wrap64 ((ws.length : Int) - y))) ws y t o cards else some false) else some false) else some false) else some false := fun k hk => by
    unfold spec_l21Bounds.f
    rw [spec_ClassesOk_eq hf k (by omega), hok]
    simp only [Option.bind_some, if_true, spec_l6In_eq, decide_eq_true_eq, bad k (by omega)]
    rfl
  by_cases c0 : 0 ≤ y ∧ y ≤ 40
  case neg =>
    refine ⟨_, rfl, fun k hk => ?_, fun h => ?_⟩
    · rw [hs k hk, if_neg c0, show pOk ws y t o cards 0 = false from decide_eq_false c0]; rfl
    · rw [show pOk ws y t o cards 0 = false from decide_eq_false c0] at h; simp at h
  case pos =>
  have e0 : pOk ws y t o cards 0 = true := decide_eq_true c0
  have w : wrap64 ((ws.length : Int) - y) = (ws.length : Int) - y := wrap64_of (by omega) (by omega)
  rw [e0, Bool.true_and]
  by_cases c1 : 14 ≤ wrap64 ((ws.length : Int) - y) ∧ wrap64 ((ws.length : Int) - y) ≤ 120
  case neg =>
    refine ⟨_, rfl, fun k hk => ?_, fun h => ?_⟩
    · rw [hs k hk, if_pos c0, if_neg c1, show pOk ws y t o cards 1 = false from decide_eq_false c1]; rfl
    · rw [show pOk ws y t o cards 1 = false from decide_eq_false c1] at h; simp at h
  case pos =>
  have e1 : pOk ws y t o cards 1 = true := decide_eq_true c1
  rw [e1, Bool.true_and]
  by_cases c2 : 0 ≤ t ∧ t ≤ y
  case neg =>
    refine ⟨_, rfl, fun k hk => ?_, fun h => ?_⟩
    · rw [hs k hk, if_pos c0, if_pos c1, if_neg c2, show pOk ws y t o cards 2 = false from decide_eq_false c2]; rfl
    · rw [show pOk ws y t o cards 2 = false from decide_eq_false c2] at h; simp at h
  case pos =>
  have e2 : pOk ws y t o cards 2 = true := decide_eq_true c2
  rw [e2, Bool.true_and]
  by_cases c3 : y ≤ o ∧ o ≤ (ws.length : Int)
  case neg =>
    refine ⟨_, rfl, fun k hk => ?_, fun h => ?_⟩
    · rw [hs k hk, if_pos c0, if_pos c1, if_pos c2, if_neg c3, show pOk ws y t o cards 3 = false from decide_eq_false c3]; rfl
    · rw [show pOk ws y t o cards 3 = false from decide_eq_false c3] at h; simp at h
  case pos =>
  have e3 : pOk ws y t o cards 3 = true := decide_eq_true c3
  rw [e3, Bool.true_and]
  by_cases c4 : (cards.length : Int) = cardsN (wrap64 ((ws.length : Int) - y))
  case neg =>
    have e4 : pOk ws y t o cards 4 = false := beq_eq_false_iff_ne.mpr c4
    refine ⟨_, rfl, fun k hk => ?_, fun h => ?_⟩
    · rw [hs k hk, if_pos c0, if_pos c1, if_pos c2, if_pos c3, bne_iff_ne.mpr c4, bad k (by omega), e4]; rfl
    · rw [e4] at h; simp at h
  case pos =>
  have e4 : pOk ws y t o cards 4 = true := beq_iff_eq.mpr c4
  rw [e4, Bool.true_and]
  have h5 : pOk ws y t o cards 5 = true ↔ ∀ j : Nat, t ≤ j → (j : Int) ≤ y - 1 → ws.getD j 0 = 0 := by
    show ((ws.take y.toNat).drop t.toNat).all (· == 0) = true ↔ _
    rw [all_drop_iff]
    constructor
    · intro h j h1 h2
      have := h j (by omega) (by rw [List.length_take]; omega)
      rw [List.getD_eq_getElem?_getD, List.getElem?_take, if_pos (by omega)] at this
      rw [List.getD_eq_getElem?_getD]; exact this
    · intro h j h1 h2
      rw [List.length_take] at h2
      rw [List.getD_eq_getElem?_getD, List.getElem?_take, if_pos (by omega)]
      have := h j (by omega) (by omega)
      rw [List.getD_eq_getElem?_getD] at this; exact this
  have h6 : pOk ws y t o cards 6 = true ↔ ∀ j : Nat, o ≤ j → j < ws.length → ws.getD j 0 = 0 := by
    show ((ws.drop y.toNat).drop (o - y).toNat).all (· == 0) = true ↔ _
    rw [List.drop_drop, all_drop_iff]
    constructor
    · intro h j h1 h2; exact h j (by omega) h2
    · intro h j h1 h2; exact h j (by omega) h2
  obtain ⟨b, hb1, hb2⟩ := bounds_l0 (ws := ws) (y := y) (t := t) (o := o) (cards := cards) hn c0.1 c0.2 ws.length (ws.length + 1) 0 (by omega) (by omega)
  have eb : (pOk ws y t o cards 5 && pOk ws y t o cards 6) = b := by
    rw [Bool.eq_iff_iff, Bool.and_eq_true, h5, h6, hb2]
    constructor
    · rintro ⟨q1, q2⟩ j _ hj z
      rcases z with z | z
      · exact q1 j z.1 z.2
      · exact q2 j z hj
    · intro q
      exact ⟨fun j h1 h2 => q j (by omega) (by omega) (Or.inl ⟨h1, h2⟩), fun j h1 h2 => q j (by omega) h2 (Or.inr h1)⟩
  refine ⟨_, rfl, fun k hk => ?_, fun _ => ?_⟩
  · rw [hs k hk, if_pos c0, if_pos c1, if_pos c2, if_pos c3, eb]
    obtain ⟨k, rfl⟩ : ∃ m, k = m + 1 := ⟨k - 1, by omega⟩
    have e : ((cards.length : Int) != cardsN (wrap64 ((ws.length : Int) - y))) = false := by rw [← c4]; simp
    rw [e, spec_l21Bounds.j0, if_neg (by simp)]
    exact at_rounds (g := fun k => spec_l21Bounds.l0 k ws.length 0 ws y t o cards) (fun k => (spec_l21Bounds.mono_l k).2 _ _ _ _ _ _ _) (show ws.length + 1 ≤ k by omega) hb1
  · have w4 : cardsN (wrap64 ((ws.length : Int) - y)) = ((ws.length : Int) - y + 3) / 4 := by
      rw [w] at c1 ⊢
      unfold cardsN
      rw [wrap64_of (n := (ws.length : Int) - y + 4) (by omega) (by omega), wrap64_of (n := (ws.length : Int) - y + 4 - 1) (by omega) (by omega), Int.tdiv_eq_ediv_of_nonneg (by omega), show (ws.length : Int) - y + 4 - 1 = (ws.length : Int) - y + 3 by omega, wrap64_of (by omega) (by omega)]
    rw [w] at c1
    exact ⟨hok, c0.1, c0.2, c1.1, c1.2, c2.1, c2.2, c3.1, c3.2, by rw [c4, w4]⟩
theorem things_eq {cs : Cs} {ws : List Int} {y t o : Int} {cards : List Bool} (hb : Bnd cs ws y t o cards) {W : List Int} (hw : Wlk cs ws W) (m : Mm) (hm : m = ⟨ws, y, t, o, cards, allF cs, W.map (· + 1)⟩) :
  ∃ b, (∀ q, 300 ≤ q → thingsOk q m (W.map (· + 1)) = some b) ∧ ∀ k, 500 ≤ k → spec_MemOk.l0 k cs W (startsL W ws.length) 0 ws y t o cards = some b := by
 have hlen := hw.len
 have key : ∀ d i : Nat, i + d = W.length → ∃ b, (∀ q, 300 ≤ q → thingsOk q m ((W.drop i).map (· + 1)) = some b) ∧ ∀ k, d + 201 ≤ k → spec_MemOk.l0 k cs W (startsL W ws.length) i ws y t o cards = some b := by
  intro d
  induction d with
  | zero =>
   intro i hi
   refine ⟨true, fun q _ => by rw [List.drop_eq_nil_of_le (by omega)]; rfl, fun k hk => ?_⟩
   obtain ⟨k, rfl⟩ : ∃ m, k = m + 1 := ⟨k - 1, by omega⟩
   rw [spec_MemOk.l0, if_neg (by omega)]
  | succ d ih =>
   intro i hi
   have hlt : i < W.length := by omega
   obtain ⟨b, h1, h2⟩ := thing_eq hb hw m hm (List.getElem_mem hlt)
   obtain ⟨b', h3, h4⟩ := ih (i + 1) (by omega)
   have hd : (W.drop i).map (· + 1) = (W[i] + 1) :: (W.drop (i + 1)).map (· + 1) := by rw [List.drop_eq_getElem_cons hlt]; rfl
   refine ⟨if b = true then b' else false, fun q hq => ?_, fun k hk => ?_⟩
   ·rw [hd, thingsOk, h1 q hq, Option.bind_some]
    cases b with
    | true => exact h3 q hq
    | false => rfl
   ·obtain ⟨k, rfl⟩ : ∃ m, k = m + 1 := ⟨k - 1, by omega⟩
    rw [spec_MemOk.l0, if_pos (by omega), if_pos (by omega), rd_mem hlt, h2 k (by omega), Option.bind_some, wrap_inc (n := 1048577) (by omega) (by omega) (by omega)]
    cases b with
    | true => have := h4 k (by omega); rw [show ((i + 1 : Nat) : Int) = (i : Int) + 1 by omega] at this; exact this
    | false => rfl
 obtain ⟨b, h1, h2⟩ := key W.length 0 (by omega)
 exact ⟨b, h1, fun k hk => h2 k (by omega)⟩
def Prt (cs : Cs) (ws : List Int) (y t o : Int) (W : List Int) : Prop := ∀ x ∈ W, (0 ≤ x ∧ 0 < mstep ws (allF cs) t x ∧ mstep ws (allF cs) t x ≤ t - x) ∨ (y ≤ x ∧ 0 < mstep ws (allF cs) o x ∧ mstep ws (allF cs) o x ≤ o - x)
theorem open_eq2 {cs : Cs} (hf : fewF cs) {ws : List Int} {y t o : Int} {cards : List Bool} (hn : ws.length ≤ 1048576) (hc : cards.length ≤ 1048576) :
  ∃ r : Option Mm, (∀ k, 4000000 ≤ k → mopen k k cs ws y t o cards = some r) ∧ (∀ k, 4000000 ≤ k → spec_MemOk.f k cs ws y t o cards = some r.isSome) ∧
   (∀ m, r = some m → ∃ W, Bnd cs ws y t o cards ∧ Wlk cs ws W ∧ m = ⟨ws, y, t, o, cards, allF cs, W.map (· + 1)⟩ ∧ (∀ k, 4000000 ≤ k → spec_l21Walk.f k cs ws y t o cards = some (W, true)) ∧ Prt cs ws y t o W ∧ W = (pw ws (allF cs) t t.toNat 0).1 ++ (pw ws (allF cs) o (o - y).toNat y).1 ∧ ∀ q, 300 ≤ q → thingsOk q m (W.map (· + 1)) = some true) := by
 cases hok : csOk cs with
 | false =>
  refine ⟨none, fun k hk => ?_, fun k hk => ?_, fun m hm => by cases hm⟩
  ·unfold mopen
   rw [impl_ClassesOk_eq cs k (by omega), hok]; rfl
  ·unfold spec_MemOk.f spec_l21Bounds.f
   rw [spec_ClassesOk_eq hf k (by omega), hok]
   obtain ⟨k, rfl⟩ : ∃ m, k = m + 1 := ⟨k - 1, by omega⟩
   rw [Option.bind_some, if_neg (by simp), spec_l21Bounds.j0, if_pos rfl]; rfl
 | true =>
 obtain ⟨p, hp1, hp2, hp3⟩ := bounds_eq (cs := cs) (y := y) (t := t) (o := o) hf hok hn hc
 cases p with
 | false =>
  refine ⟨none, fun k hk => ?_, fun k hk => ?_, fun m hm => by cases hm⟩
  ·unfold mopen
   rw [impl_ClassesOk_eq cs k (by omega), hok, Option.bind_some, if_pos rfl, hp1]; rfl
  ·unfold spec_MemOk.f
   rw [hp2 k hk]; rfl
 | true =>
 have hb := hp3 rfl
 have n0 := hb.n0; have n1 := hb.n1; have y0 := hb.y0; have y1 := hb.y1; have t0 := hb.t0; have t1 := hb.t1; have o0 := hb.o0; have o1 := hb.o1
 obtain ⟨r1, h1⟩ : ∃ r1, r1 = pw ws (allF cs) t t.toNat 0 := ⟨_, rfl⟩
 obtain ⟨r2, h2⟩ : ∃ r2, r2 = pw ws (allF cs) o (o - y).toNat y := ⟨_, rfl⟩
 have l1 := pw_len ws (allF cs) t t.toNat 0
 have l2 := pw_len ws (allF cs) o (o - y).toNat y
 have m1 := pw_mem ws (allF cs) t t.toNat 0
 have m2 := pw_mem ws (allF cs) o (o - y).toNat y
 have s1 := pw_sorted ws (allF cs) t t.toNat 0
 have s2 := pw_sorted ws (allF cs) o (o - y).toNat y
 rw [← h1] at l1 m1 s1
 rw [← h2] at l2 m2 s2
 have hM : ∀ k, 4000000 ≤ k → mopen k k cs ws y t o cards = if r1.2 = true then (if r2.2 = true then (thingsOk k ⟨ws, y, t, o, cards, allF cs, (r1.1 ++ r2.1).map (· + 1)⟩ ((r1.1 ++ r2.1).map (· + 1))).bind fun ok => if ok = true then some (some ⟨ws, y, t, o, cards, allF cs, (r1.1 ++ r2.1).map (· + 1)⟩) else some none else some none) else some none := fun k hk => by
  unfold mopen
  rw [impl_ClassesOk_eq cs k (by omega), hok, Option.bind_some, if_pos rfl, hp1, Option.bind_some, if_pos rfl, allFields_eq hok k (by omega), Option.bind_some, if_pos ⟨allF_all hok, hn, hc⟩,
   pw_mwalk ws (allF cs) t t.toNat 0 [] k (by omega) (by omega), ← h1, Option.bind_some]
  by_cases c : r1.2 = true
  ·rw [if_pos c, if_pos c, if_pos (by simp; omega), pw_mwalk ws (allF cs) o (o - y).toNat y _ k (by omega) (by omega), ← h2, Option.bind_some]
   by_cases c2 : r2.2 = true
   ·rw [if_pos c2, if_pos c2, if_pos (by simp; omega)]
    simp only [List.nil_append, ← List.map_append]
   ·rw [if_neg c2, if_neg c2]
  ·rw [if_neg c, if_neg c]
 have hW : ∀ k, 4000000 ≤ k → spec_l21Walk.f k cs ws y t o cards = some (r1.1 ++ r2.1, r1.2 && r2.2) := fun k hk => by
  unfold spec_l21Walk.f spec_l21Part.f
  rw [pw_part hok hn (by omega) t.toNat 0 [] k (by omega) (by omega) (by omega) (by simp; omega), ← h1, Option.bind_some, pw_part hok hn (by omega) (o - y).toNat y [] k (by omega) (by omega) (by omega) (by simp; omega), ← h2, Option.bind_some]
  simp only [List.nil_append]
  rw [if_pos (by omega), Option.bind_some]
  cases r1.2 with
  | true => rw [if_pos rfl]; rfl
  | false => rw [if_neg (by simp)]; rfl
 have hS : ∀ k, 4000000 ≤ k → spec_MemOk.f k cs ws y t o cards = if (r1.2 && r2.2) = true then (spec_l21Starts.f k ws.length (r1.1 ++ r2.1)).bind fun S => spec_MemOk.l0 k cs (r1.1 ++ r2.1) S 0 ws y t o cards else some false := fun k hk => by
  unfold spec_MemOk.f
  rw [hp2 k hk, Option.bind_some, if_pos rfl, hW k hk, Option.bind_some]
 cases c1 : r1.2 with
 | false =>
  refine ⟨none, fun k hk => by rw [hM k hk, c1]; rfl, fun k hk => by rw [hS k hk, c1]; rfl, fun m hm => by cases hm⟩
 | true =>
 cases c2 : r2.2 with
 | false =>
  refine ⟨none, fun k hk => by rw [hM k hk, c1, c2]; rfl, fun k hk => by rw [hS k hk, c1, c2]; rfl, fun m hm => by cases hm⟩
 | true =>
 have hw : Wlk cs ws (r1.1 ++ r2.1) := by
  refine ⟨fun x hx => ?_, ?_, by rw [List.length_append]; omega⟩
  ·rcases List.mem_append.mp hx with z | z
   ·have := m1 x z; exact ⟨t, by omega, by omega, by omega, by omega, by omega⟩
   ·have := m2 x z; exact ⟨o, by omega, by omega, by omega, by omega, by omega⟩
  ·rw [List.pairwise_append]
   exact ⟨s1, s2, fun a ha b hb' => by have := m1 a ha; have := m2 b hb'; omega⟩
 obtain ⟨b, b1, b2⟩ := things_eq hb hw _ rfl
 have hst : ∀ k, 4000000 ≤ k → spec_l21Starts.f k ws.length (r1.1 ++ r2.1) = some (startsL (r1.1 ++ r2.1) ws.length) := fun k hk => starts_eq (fun x hx => wlk_range hw hx) (by have := hw.len; omega) (by omega) k (by omega)
 cases b with
 | false =>
  refine ⟨none, fun k hk => by rw [hM k hk, if_pos c1, if_pos c2, b1 k (by omega)]; rfl, fun k hk => by rw [hS k hk, c1, c2, if_pos (show (true && true) = true from rfl), hst k hk, Option.bind_some, b2 k (by omega)]; rfl, fun m hm => by cases hm⟩
 | true =>
  refine ⟨some ⟨ws, y, t, o, cards, allF cs, (r1.1 ++ r2.1).map (· + 1)⟩, fun k hk => by rw [hM k hk, if_pos c1, if_pos c2, b1 k (by omega)]; rfl, fun k hk => by rw [hS k hk, c1, c2, if_pos (show (true && true) = true from rfl), hst k hk, Option.bind_some, b2 k (by omega)]; rfl, fun m hm => ?_⟩
  obtain rfl := Option.some.inj hm
  refine ⟨r1.1 ++ r2.1, hb, hw, rfl, fun k hk => by rw [hW k hk, c1, c2]; rfl, fun x hx => ?_, by rw [h1, h2], fun q hq => b1 q hq⟩
  rcases List.mem_append.mp hx with z | z
  ·have := m1 x z; exact .inl ⟨by omega, this.2.2.1, this.2.2.2⟩
  ·have := m2 x z; exact .inr ⟨by omega, this.2.2.1, this.2.2.2⟩
theorem open_eq {cs : Cs} (hf : fewF cs) {ws : List Int} {y t o : Int} {cards : List Bool} (hn : ws.length ≤ 1048576) (hc : cards.length ≤ 1048576) :
  ∃ r : Option Mm, (∀ k, 4000000 ≤ k → mopen k k cs ws y t o cards = some r) ∧ (∀ k, 4000000 ≤ k → spec_MemOk.f k cs ws y t o cards = some r.isSome) ∧
   (∀ m, r = some m → ∃ W, Bnd cs ws y t o cards ∧ Wlk cs ws W ∧ m = ⟨ws, y, t, o, cards, allF cs, W.map (· + 1)⟩ ∧ ∀ k, 4000000 ≤ k → spec_l21Walk.f k cs ws y t o cards = some (W, true)) := by
 obtain ⟨r, h1, h2, h3⟩ := open_eq2 (cs := cs) hf (ws := ws) (y := y) (t := t) (o := o) (cards := cards) hn hc
 refine ⟨r, h1, h2, fun m hm => ?_⟩
 obtain ⟨W, hb, hw, hm, hk, _⟩ := h3 m hm
 exact ⟨W, hb, hw, hm, hk⟩
theorem mstep_up {ws : List Int} {F : List (List Int)} {e e' x : Int} (h : 0 < mstep ws F e x) (he : e ≤ e') : mstep ws F e' x = mstep ws F e x := by
 unfold mstep at h ⊢
 by_cases c0 : rd ws x < 0
 ·rw [if_pos c0] at h ⊢
  rw [if_pos c0]
  by_cases c1 : x + 1 < e
  ·rw [if_pos c1] at h ⊢
   rw [if_pos (by omega)]
   by_cases c2 : measN F (rd ws x) (rd ws (x + 1)) ≤ e - x
   ·rw [if_pos c2, if_pos (by omega)]
   ·rw [if_neg c2] at h; omega
  ·rw [if_neg c1] at h; omega
 ·rw [if_neg c0] at h ⊢
  rw [if_neg c0]
  by_cases c2 : measN F (rd ws x) 0 ≤ e - x
  ·rw [if_pos c2, if_pos (by omega)]
  ·rw [if_neg c2] at h; omega
end Go.Proofs.Ytfbkpjjnhengfaa.Pure
namespace Go.Proofs.Ytfbkpjjnhengfaa.Pure
open Go.RowKit Go.Proofs.Ytfbkpjjnhengfaa.K Go.Proofs.YtfbkpjjnhengfaaW.PrintWords Go.Proofs.YtfbkpjjnhengfaaW.PrintLast Go.Proofs.YtfbkpjjnhengfaaW.PrintMore
set_option linter.unusedVariables false
set_option linter.unusedSimpArgs false
theorem specWalk_l0 (W : List Int) (hW : ∀ x ∈ W, 0 ≤ x ∧ x ≤ 1048576) (hl : W.length ≤ 1048576) (d : Nat) : ∀ (k i : Nat) (acc : List Int), i + d = W.length → d < k → acc.length = i → spec_MemWalk.l0 k acc W i = some (acc ++ (W.drop i).map (· + 1)) := by
 induction d with
 | zero =>
  intro k i acc hi hk ha
  obtain ⟨k, rfl⟩ : ∃ m, k = m + 1 := ⟨k - 1, by omega⟩
  rw [spec_MemWalk.l0, if_neg (by omega), List.drop_eq_nil_of_le (by omega)]; simp
 | succ d ih =>
  intro k i acc hi hk ha
  obtain ⟨k, rfl⟩ : ∃ m, k = m + 1 := ⟨k - 1, by omega⟩
  have hlt : i < W.length := by omega
  have hx := hW W[i] (List.getElem_mem hlt)
  rw [spec_MemWalk.l0, if_pos (by omega), if_pos (by omega), if_pos (by omega), rd_mem hlt, wrap64_of (n := W[i] + 1) (by omega) (by omega), wrap_inc (n := 1048577) (by omega) (by omega) (by omega)]
  have := ih k (i + 1) (acc ++ [W[i] + 1]) (by omega) (by omega) (by simp [ha])
  rw [show ((i + 1 : Nat) : Int) = (i : Int) + 1 by omega] at this
  rw [this, List.drop_eq_getElem_cons hlt, List.map_cons, List.append_assoc]; rfl
theorem MemWalk_eq {cs : Cs} (hf : fewF cs) {ws : List Int} {y t o : Int} {cards : List Bool} (hn : ws.length ≤ 1048576) (hc : cards.length ≤ 1048576) :
  ∃ s : List Int, s.length ≤ 200 ∧ (∀ k, 4000000 ≤ k → impl_MemWalk.f k cs ws y t o cards = some s) ∧ ∀ k, 4000000 ≤ k → spec_MemWalk.f k cs ws y t o cards = some s := by
 obtain ⟨r, h1, h2, h3⟩ := open_eq (cs := cs) hf (ws := ws) (y := y) (t := t) (o := o) (cards := cards) hn hc
 cases r with
 | none => exact ⟨[], by simp, fun k hk => by unfold impl_MemWalk.f; rw [h1 k hk]; rfl, fun k hk => by unfold spec_MemWalk.f; rw [Option.bind_some, h2 k hk]; rfl⟩
 | some m =>
  obtain ⟨W, hb, hw, hm, hk⟩ := h3 m rfl
  have n0 := hb.n0; have n1 := hb.n1; have y0 := hb.y0; have y1 := hb.y1; have wl := hw.len
  refine ⟨W.map (· + 1), by rw [List.length_map]; exact wl, fun k hk2 => ?_, fun k hk2 => ?_⟩
  ·unfold impl_MemWalk.f
   rw [h1 k hk2, Option.bind_some, hm]; rfl
  ·unfold spec_MemWalk.f
   rw [Option.bind_some, h2 k hk2, Option.bind_some]
   simp only [Option.isSome_some, if_true]
   rw [hk k hk2, Option.bind_some]
   have := specWalk_l0 W (fun x hx => by have := wlk_range hw hx; omega) (by omega) W.length k 0 [] (by omega) (by omega) rfl
   simpa using this
end Go.Proofs.Ytfbkpjjnhengfaa.Pure
namespace Go.Proofs.Ytfbkpjjnhengfaa.Pure
open Go.RowKit Go.Proofs.Ytfbkpjjnhengfaa.K Go.Proofs.YtfbkpjjnhengfaaW.PrintWords Go.Proofs.YtfbkpjjnhengfaaW.PrintLast Go.Proofs.YtfbkpjjnhengfaaW.PrintMore
set_option linter.unusedVariables false
set_option linter.unusedSimpArgs false
theorem fewF_few {cs : Cs} (h : ∀ x ∈ cs, x.f1.length ≤ 3) : fewF cs := by
 intro i
 unfold flds rd_T99
 by_cases c : i.toNat < cs.length
 ·rw [List.getD_eq_getElem?_getD, List.getElem?_eq_getElem c]
  have := h _ (List.getElem_mem c)
  simp only [Option.getD_some]
  omega
 ·rw [List.getD_eq_getElem?_getD, List.getElem?_eq_none (by omega)]
  simp only [Option.getD_none]
  exact Nat.zero_le _
theorem walk_parts {cs : Cs} {ws : List Int} {y t o : Int} {cards : List Bool} (hb : Bnd cs ws y t o cards) {W : List Int} (hk : ∀ k, 4000000 ≤ k → spec_l21Walk.f k cs ws y t o cards = some (W, true)) :
  W = (pw ws (allF cs) t t.toNat 0).1 ++ (pw ws (allF cs) o (o - y).toNat y).1 ∧ (pw ws (allF cs) t t.toNat 0).2 = true ∧ (pw ws (allF cs) o (o - y).toNat y).2 = true := by
 have n0 := hb.n0; have n1 := hb.n1; have y0 := hb.y0; have y1 := hb.y1; have t0 := hb.t0; have t1 := hb.t1; have o0 := hb.o0; have o1 := hb.o1
 have l1 := pw_len ws (allF cs) t t.toNat 0
 have l2 := pw_len ws (allF cs) o (o - y).toNat y
 have h := hk 4000000 (Nat.le_refl _)
 unfold spec_l21Walk.f spec_l21Part.f at h
 rw [pw_part hb.ok (by omega) (by omega) t.toNat 0 [] 4000000 (by omega) (by omega) (by omega) (by simp; omega), Option.bind_some, pw_part hb.ok (by omega) (by omega) (o - y).toNat y [] 4000000 (by omega) (by omega) (by omega) (by simp; omega), Option.bind_some] at h
 simp only [List.nil_append] at h
 rw [if_pos (by omega), Option.bind_some] at h
 cases c : (pw ws (allF cs) t t.toNat 0).2 with
 | true =>
  rw [c, if_pos rfl] at h
  have h2 := Option.some.inj h
  exact ⟨(Prod.mk.inj h2).1.symm, rfl, (Prod.mk.inj h2).2⟩
 | false =>
  rw [c, if_neg (by simp)] at h
  have h2 := Option.some.inj h
  exact absurd (Prod.mk.inj h2).2 (by simp)
theorem size_in {cs : Cs} {ws : List Int} {y t o : Int} {cards : List Bool} (hb : Bnd cs ws y t o cards) {W : List Int} (hw : Wlk cs ws W) (m : Mm) (hm : m = ⟨ws, y, t, o, cards, allF cs, W.map (· + 1)⟩)
  (h1 : ∀ k, 4000000 ≤ k → mopen k k cs ws y t o cards = some (some m)) {x : Int} (hx : x ∈ W) : 0 < mstep ws (allF cs) ws.length x ∧ mstep ws (allF cs) ws.length x ≤ ws.length ∧ ∀ k, 4000000 ≤ k → impl_MemSize.f k cs ws y t o cards (x + 1) = some (mstep ws (allF cs) ws.length x) := by
 have n0 := hb.n0; have n1 := hb.n1; have y0 := hb.y0; have y1 := hb.y1
 have hh := has_eq hw m (by rw [hm]) (x + 1)
 have hxr := wlk_range hw hx
 obtain ⟨cc, hd, cnt, hcc, h0, hhd, hcn, hcn8, hsz, hco, hfi, hhe, hl21, _⟩ := thing_facts hb hw m hm hx
 have h20 := hl21 4000000 (by omega)
 rw [l21Size_eq hb.ok (by omega) h0 (Int.le_refl _) 4000000 (by omega), if_pos hxr.2] at h20
 have h20 := Option.some.inj h20
 have hl := mwalk_lt ws (allF cs) ws.length x
 refine ⟨by omega, by omega, fun k hk2 => ?_⟩
 unfold impl_MemSize.f
 rw [h1 k hk2, Option.bind_some]
 show ((memory_has.f k m (x + 1)).bind fun b => if b = true then thing_size.f m (x + 1) else some 0) = _
 rw [hh k (by omega), Option.bind_some, show x + 1 - 1 = x by omega, decide_eq_true hx, if_pos rfl]
 unfold thing_size.f
 rw [hfi, Option.bind_some, hco, Option.bind_some, show x + hd - (x + 1 - 1) + cnt = hd + cnt by omega, wrap64_of (by omega) (by omega), h20]
end Go.Proofs.Ytfbkpjjnhengfaa.Pure
namespace Go.Proofs.Ytfbkpjjnhengfaa.Pure
open Go.RowKit Go.Proofs.Ytfbkpjjnhengfaa.K Go.Proofs.YtfbkpjjnhengfaaW.PrintWords Go.Proofs.YtfbkpjjnhengfaaW.PrintLast Go.Proofs.YtfbkpjjnhengfaaW.PrintMore
set_option linter.unusedVariables false
set_option linter.unusedSimpArgs false
def Chn (sz : Int → Int) (e : Int) : Int → List Int → Prop
  | i, [] => i = e
  | i, x :: r => x = i ∧ Chn sz e (i + sz i) r
def nxt (sz : Int → Int) (i : Int) (L : List Int) (j : Nat) : Int := if j = 0 then i else L.getD (j - 1) 0 + sz (L.getD (j - 1) 0)
theorem pw_chn (ws : List Int) (F : List (List Int)) (e N : Int) (hN : e ≤ N) : ∀ (n : Nat) (i : Int), (e - i).toNat ≤ n → i ≤ e → (pw ws F e n i).2 = true → Chn (mstep ws F N) e i (pw ws F e n i).1
 | 0, i, h, hi, _ => by simp only [pw, Chn]; omega
 | n + 1, i, h, hi, ht => by
  rw [pw] at ht ⊢
  by_cases c : i < e
  ·rw [if_pos c] at ht ⊢
   by_cases c2 : mstep ws F e i = 0
   ·rw [if_pos c2] at ht; simp at ht
   ·rw [if_neg c2] at ht ⊢
    have hl := mwalk_lt ws F e i
    have hu := mstep_up (ws := ws) (F := F) (e := e) (x := i) (by omega) hN
    refine ⟨rfl, ?_⟩
    rw [hu]
    exact pw_chn ws F e N hN n (i + mstep ws F e i) (by omega) (by omega) ht
  ·rw [if_neg c]; simp only [Chn]; omega
theorem chn_at {sz : Int → Int} {e : Int} : ∀ (L : List Int) (i : Int), Chn sz e i L → ∀ j, j < L.length → L.getD j 0 = nxt sz i L j
 | [], _, _, j, h => by simp at h
 | x :: r, i, ⟨hx, hr⟩, 0, _ => by simp [nxt, hx]
 | x :: r, i, ⟨hx, hr⟩, j + 1, h => by
  have := chn_at r _ hr j (by simpa using h)
  rw [List.getD_cons_succ, this]
  cases j with
  | zero => simp [nxt, hx]
  | succ j => simp [nxt]
theorem chn_end {sz : Int → Int} {e : Int} : ∀ (L : List Int) (i : Int), Chn sz e i L → nxt sz i L L.length = e
 | [], _, h => by
  unfold nxt
  rw [if_pos List.length_nil]
  exact h
 | x :: r, i, ⟨hx, hr⟩ => by
  have := chn_end r _ hr
  unfold nxt at this ⊢
  rw [if_neg (by simp)]
  cases r with
  | nil => simpa [hx] using this
  | cons a r => simpa using this
theorem getD_app1 {A B : List Int} {j : Nat} (h : j < A.length) : (A ++ B).getD j 0 = A.getD j 0 := by
  rw [List.getD_eq_getElem?_getD, List.getD_eq_getElem?_getD, List.getElem?_append_left h]
theorem getD_app2 {A B : List Int} {j : Nat} (h : A.length ≤ j) : (A ++ B).getD j 0 = B.getD (j - A.length) 0 := by
  rw [List.getD_eq_getElem?_getD, List.getD_eq_getElem?_getD, List.getElem?_append_right h]
theorem chn_two {sz : Int → Int} {y t o : Int} {A B : List Int} (hA : Chn sz t 0 A) (hB : Chn sz o y B) (h1 : ∀ x ∈ A, x < t) (h2 : ∀ x ∈ B, y ≤ x ∧ 0 < sz x) (hty : t ≤ y) :
  (∀ j, j < (A ++ B).length → (1 + nxt sz 0 (A ++ B) j = t + 1 ∧ y < (A ++ B).getD j 0 + 1 ∧ (A ++ B).getD j 0 = y) ∨ (¬ (1 + nxt sz 0 (A ++ B) j = t + 1) ∧ 1 + nxt sz 0 (A ++ B) j = (A ++ B).getD j 0 + 1)) ∧
   (1 + nxt sz 0 (A ++ B) (A ++ B).length = o + 1 ∨ (1 + nxt sz 0 (A ++ B) (A ++ B).length = t + 1 ∧ o = y)) := by
 have hn1 : ∀ j, j ≤ A.length → nxt sz 0 (A ++ B) j = nxt sz 0 A j := fun j hj => by
  unfold nxt
  by_cases c : j = 0
  ·rw [if_pos c, if_pos c]
  ·rw [if_neg c, if_neg c, getD_app1 (by omega)]
 have hn2 : ∀ j, A.length < j → nxt sz 0 (A ++ B) j = nxt sz y B (j - A.length) := fun j hj => by
  unfold nxt
  rw [if_neg (by omega), if_neg (by omega), getD_app2 (by omega), show j - 1 - A.length = j - A.length - 1 by omega]
 refine ⟨fun j hj => ?_, ?_⟩
 ·rw [List.length_append] at hj
  by_cases c : j < A.length
  ·right
   have := chn_at A 0 hA j c
   have hm : A.getD j 0 ∈ A := by rw [List.getD_eq_getElem?_getD, List.getElem?_eq_getElem c]; exact List.getElem_mem c
   have := h1 _ hm
   rw [hn1 j (by omega), getD_app1 c]
   omega
  ·by_cases c2 : j = A.length
   ·left
    have := chn_end A 0 hA
    have h3 := chn_at B y hB 0 (by omega)
    simp only [nxt, if_pos] at h3
    rw [hn1 j (by omega), getD_app2 (by omega), c2, Nat.sub_self, h3]
    omega
   ·right
    have h3 := chn_at B y hB (j - A.length) (by omega)
    have hj1 : j - A.length - 1 < B.length := by omega
    have hm : B.getD (j - A.length - 1) 0 ∈ B := by rw [List.getD_eq_getElem?_getD, List.getElem?_eq_getElem hj1]; exact List.getElem_mem hj1
    have := h2 _ hm
    rw [hn2 j (by omega), getD_app2 (by omega), h3]
    refine ⟨fun e => ?_, by omega⟩
    unfold nxt at e
    rw [if_neg (by omega)] at e
    omega
 ·by_cases c : B = []
  ·right
   subst c
   have h3 := chn_end A 0 hA
   have h4 : y = o := hB
   rw [List.append_nil]
   omega
  ·left
   have h3 := chn_end B y hB
   have : 0 < B.length := List.length_pos_iff.mpr c
   rw [hn2 _ (by rw [List.length_append]; omega), List.length_append, Nat.add_sub_cancel_left, h3]
   omega
theorem tile_eq {cs : Cs} (hf : fewF cs) {ws : List Int} {y t o : Int} {cards : List Bool} (hn : ws.length ≤ 1000) (hc : cards.length ≤ 1000) :
  ∃ (s : List Int) (b : Bool), s.length ≤ 200 ∧ (∀ k, 4000000 ≤ k → impl_MemWalk.f k cs ws y t o cards = some s) ∧ (∀ k, 4000000 ≤ k → spec_MemWalk.f k cs ws y t o cards = some s) ∧ (∀ k, 4000000 ≤ k → spec_MemOk.f k cs ws y t o cards = some b) ∧
   (b = true → (0 ≤ y ∧ y ≤ 1000 ∧ 0 ≤ t ∧ t ≤ 1000 ∧ 0 ≤ o ∧ o ≤ 1000) ∧ ∃ (p : Nat → Int) (z : Nat → Int), p 0 = 1 ∧ (∀ j : Nat, j < s.length → 1 ≤ z j ∧ z j ≤ 1000 ∧ 0 ≤ p j ∧ p j ≤ 3000 ∧ impl_MemSize.f 5000000 cs ws y t o cards (rd s j) = some (z j) ∧ p (j + 1) = rd s j + z j ∧ 0 ≤ rd s j ∧ rd s j ≤ 1000 ∧
    ((p j = t + 1 ∧ y < rd s j ∧ rd s j = y + 1) ∨ (¬ p j = t + 1 ∧ p j = rd s j))) ∧ 0 ≤ p s.length ∧ p s.length ≤ 3000 ∧ (p s.length = o + 1 ∨ (p s.length = t + 1 ∧ o = y))) := by
 obtain ⟨s, hs1, hs2, hs3⟩ := MemWalk_eq (cs := cs) hf (ws := ws) (y := y) (t := t) (o := o) (cards := cards) (by omega) (by omega)
 obtain ⟨r, h1, h2, h3⟩ := open_eq2 (cs := cs) hf (ws := ws) (y := y) (t := t) (o := o) (cards := cards) (by omega) (by omega)
 refine ⟨s, r.isSome, hs1, hs2, hs3, h2, fun hr => ?_⟩
 cases r with
 | none => simp at hr
 | some m =>
  obtain ⟨W, hb, hw, hm, hk, hp, _, _⟩ := h3 m rfl
  have n0 := hb.n0; have n1 := hb.n1; have y0 := hb.y0; have y1 := hb.y1; have t0 := hb.t0; have t1 := hb.t1; have o0 := hb.o0; have o1 := hb.o1
  have hsW : s = W.map (· + 1) := by
   have := hs2 4000000 (Nat.le_refl _)
   unfold impl_MemWalk.f at this
   rw [h1 4000000 (Nat.le_refl _), Option.bind_some, hm] at this
   exact (Option.some.inj this).symm
  obtain ⟨hW, p1, p2⟩ := walk_parts hb hk
  have hin := fun x hx => size_in hb hw m hm h1 (x := x) hx
  have c1 := pw_chn ws (allF cs) t ws.length (by omega) t.toNat 0 (by omega) (by omega) p1
  have c2 := pw_chn ws (allF cs) o ws.length (by omega) (o - y).toNat y (by omega) (by omega) p2
  have e := chn_two c1 c2 (fun x hx => (pw_mem ws (allF cs) t t.toNat 0 x hx).2.1) (fun x hx => ⟨(pw_mem ws (allF cs) o (o - y).toNat y x hx).1, (hin x (by rw [hW]; exact List.mem_append_right _ hx)).1⟩) t1
  rw [← hW] at e
  have hsl : s.length = W.length := by rw [hsW, List.length_map]
  have hrd : ∀ j : Nat, j < W.length → W.getD j 0 ∈ W ∧ rd s j = W.getD j 0 + 1 := fun j hj => ⟨by rw [List.getD_eq_getElem?_getD, List.getElem?_eq_getElem hj]; exact List.getElem_mem hj, by rw [hsW, rd_mem (by rw [List.length_map]; exact hj), List.getElem_map, List.getD_eq_getElem?_getD, List.getElem?_eq_getElem hj]; rfl⟩
  have hnx : ∀ j : Nat, j ≤ W.length → 0 ≤ nxt (mstep ws (allF cs) ws.length) 0 W j ∧ nxt (mstep ws (allF cs) ws.length) 0 W j ≤ 2000 := fun j hj => by
   unfold nxt
   by_cases c : j = 0
   ·rw [if_pos c]; omega
   ·rw [if_neg c]
    have h5 := hrd (j - 1) (by omega)
    have h6 := hin _ h5.1
    have h7 := wlk_range hw h5.1
    omega
  refine ⟨by omega, fun j => 1 + nxt (mstep ws (allF cs) ws.length) 0 W j, fun j => mstep ws (allF cs) ws.length (W.getD j 0), by simp [nxt], fun j hj => ?_, ?_⟩
  ·have h5 := hrd j (by omega)
   have h6 := hin _ h5.1
   have h7 := wlk_range hw h5.1
   have h8 := hnx j (by omega)
   have h9 := e.1 j (by omega)
   dsimp only
   refine ⟨by omega, by omega, by omega, by omega, by rw [h5.2]; exact h6.2.2 5000000 (by decide), ?_, by omega, by omega, by omega⟩
   rw [h5.2]
   unfold nxt
   rw [if_neg (by omega), Nat.add_sub_cancel]
   omega
  ·have h8 := hnx W.length (Nat.le_refl _)
   dsimp only
   rw [hsl]
   exact ⟨by omega, by omega, e.2⟩
end Go.Proofs.Ytfbkpjjnhengfaa.Pure
namespace Go.Proofs.Ytfbkpjjnhengfaa.Pure
open Go.RowKit Go.Proofs.Ytfbkpjjnhengfaa.K Go.Proofs.YtfbkpjjnhengfaaW.PrintWords Go.Proofs.YtfbkpjjnhengfaaW.PrintLast Go.Proofs.YtfbkpjjnhengfaaW.PrintMore
set_option linter.unusedVariables false
set_option linter.unusedSimpArgs false
theorem leInts_l0 (xs : List Int) (hl : xs.length ≤ 1048576) (d : Nat) : ∀ (k i : Nat), i + d = xs.length → d < k → laws_leInts.l0 k xs xs i = some true := by
 induction d with
 | zero =>
  intro k i hi hk
  obtain ⟨k, rfl⟩ : ∃ m, k = m + 1 := ⟨k - 1, by omega⟩
  rw [laws_leInts.l0, if_neg (by omega)]
 | succ d ih =>
  intro k i hi hk
  obtain ⟨k, rfl⟩ : ∃ m, k = m + 1 := ⟨k - 1, by omega⟩
  rw [laws_leInts.l0, if_pos (by omega), if_pos (by omega), if_pos (by omega), if_pos rfl, wrap_inc (n := 1048577) (by omega) (by omega) (by omega)]
  have := ih k (i + 1) (by omega) (by omega)
  rw [show ((i + 1 : Nat) : Int) = (i : Int) + 1 by omega] at this
  exact this
theorem leInts_self (xs : List Int) (hl : xs.length ≤ 1048576) (k : Nat) (hk : 1048578 ≤ k) : laws_leInts.f k xs xs = some true := by
 unfold laws_leInts.f
 rw [if_pos rfl]
 exact leInts_l0 xs hl xs.length k 0 (by omega) (by omega)
end Go.Proofs.Ytfbkpjjnhengfaa.Pure
namespace Go.Proofs.Ytfbkpjjnhengfaa.K
open Go.RowKit Go.Proofs.YtfbkpjjnhengfaaW.PrintWords Go.Proofs.YtfbkpjjnhengfaaW.PrintLast Go.Proofs.YtfbkpjjnhengfaaW.PrintMore
attribute [local go_sem] max2_int min2_int max_two min_two max_three min_three max_four min_four
set_option linter.unusedVariables false
set_option linter.unusedSimpArgs false
open Go.Proofs.Ytfbkpjjnhengfaa.Pure
def laws_FnWalkTile.f (l0 : List Int) : Option Bool := if (∀ x ∈ l0, (Lit.int .u8 x).wf = true) then some true else none
set_option maxHeartbeats 32000000 in
set_option maxRecDepth 100000 in
theorem laws_FnWalkTile.calls (AC : Option Addr) (cC : Nat) (lC : List Int) (r : Bool) (w : World) (hr_ : Aside0 (r = true)) (hr0 : Kd.C (Kd.int .u8) w AC lC.length lC) (hc0 : lC.length ≤ cC) (h : laws_FnWalkTile.f lC = some r) :
  Calls Try.prog 3 #[.slice AC lC.length cC] w fun e w' => e = .returned (.bool r) ∧ Below w.heap.size w w' := by
 obtain rfl := hr_.out
 unfold laws_FnWalkTile.f at h
 split at h
 case isFalse => simp at h
 case isTrue hl =>
 clear h hr_
 have HR0 := Aside0.mk hr0
 have HC0 := Aside0.mk hc0
 have HL := Aside0.mk hl
 clear hr0 hc0 hl
 by_cases c1 : 1048576 < (lC.length : Int)
 ·have d1 : decide (1048576 < (lC.length : Int)) = true := decide_eq_true c1
  go_enter Try.func3, Try.ntmps3
  go_wp2
  go_ret
  exact ⟨rfl, by first | exact Below.refl _ _ | exact below_drew1 (Below.refl _ _)⟩
 have d1 : decide (1048576 < (lC.length : Int)) = false := decide_eq_false c1
 clear c1
 go_enter Try.func3, Try.ntmps3
 go_wp2_with (go_at_call 9; refine Classical.byContradiction (fun hng => ?_))
 refine hng ?_
 clear hng
 refine (memwalk_any AC cC lC _ HR0.out HC0.out HL.out).mono ?_
 rintro e w1 ⟨A5, c5, A0, c0, A4, c4, cs, ws, y, t, o, cards, rfl, hd, hb⟩
 have HD1 := Aside0.mk (hd.bound.mono (ok' := fun k => k < w1.heap.size) (fun k hk => hk.2))
 have HB1 := Aside0.mk hb
 clear hd hb HR0 HC0 HL d1
 go_wp2_with ((with_reducible refine gate_dst (N := 4) rfl ?_); refine Classical.byContradiction (fun hng => ?_))
 refine hng ?_
 clear hng
 refine box_event ?hg (N := 4) ?hd (cs := #[.slice none 0 0, .int .i64 0, .int .i64 0, .int .i64 0, .slice none 0 0]) (t := 27) ?hr ?_
 (case hd => rfl)
 (case hg => rfl)
 (case hr => first | (go_simp; done) | (go_simp; rfl))
 intro gm hg w2 hbox hb
 have BM2 := Aside0.mk hbox
 have HD2 := Aside0.mk ((HD1.out.below hb).mono (ok' := fun k => k ≠ gm) (fun k hk => by rw [hg]; omega))
 have HB2 := Aside0.mk (below_step HB1.out hb)
 have HGm := Aside0.mk (show w.heap.size ≤ gm by rw [hg]; exact below_size HB1.out)
 clear hb hbox hg HD1 HB1
 have qc0 := (blk_cell BM2.out 0).trans rfl; have qc1 := (blk_cell BM2.out 1).trans rfl; have qc2 := (blk_cell BM2.out 2).trans rfl; have qc3 := (blk_cell BM2.out 3).trans rfl; have qc4 := (blk_cell BM2.out 4).trans rfl
 have qf0 := blk_frozen BM2.out 0; have qf1 := blk_frozen BM2.out 1; have qf2 := blk_frozen BM2.out 2; have qf3 := blk_frozen BM2.out 3; have qf4 := blk_frozen BM2.out 4
 go_wp2_with ((with_reducible refine gate_store (t := 27) (p := 4) rfl ?_); refine Classical.byContradiction (fun hng => ?_))
 refine hng ?_
 clear hng
 refine store_event (t := 27) (p := 4) (v := ?vm1) (w1 := (memBox w2 gm (.slice A0 ws.length c0) (.int .i64 y) (.int .i64 t) (.int .i64 o) (.slice A4 cards.length c4))) ?hg ?ho ?hn ?hr ?_
 (case ho => rfl)
 (case hg => rfl)
 (case hn => rfl)
 (case hr => first | (go_simp; done) | (go_simp; rfl))
 intro w3 hw
 have hc4 : Ch (fun k => k = gm) w2 w3 := by rw [hw]; exact (Ch.refl (fun k => k = gm) _).box5 (.inl rfl) _ _ _ _ _
 have HD := Aside0.mk (HD2.out.ch hc4 (fun k hk => hk))
 have BM := Aside0.mk (show w3.heap[gm]? = some (.cells #[.slice A0 ws.length c0, .int .i64 y, .int .i64 t, .int .i64 o, .slice A4 cards.length c4] 27 (0, 0)) by rw [hw]; exact blk_box5 BM2.out)
 have HB := Aside0.mk (HB2.out.trans (hc4.toBelow (B := w.heap.size) (below_size HB2.out) (fun k hk => by have := HGm.out; omega)))
 clear hw hc4 HD2 HB2 BM2
 clear qc0 qc1 qc2 qc3 qc4
 clear qf0 qf1 qf2 qf3 qf4
 obtain ⟨s, b, hs0, hs1, hs2, hs3, hs4⟩ := tile_eq (cs := cs) (fewF_few HD.out.l5.2.2) (ws := ws) (y := y) (t := t) (o := o) (cards := cards) HD.out.l0.2 HD.out.l4
 have H1 := Aside0.mk (hs1 5000000 (by decide))
 have H2 := Aside0.mk (hs2 5000000 (by decide))
 have H3 := Aside0.mk (hs3 5000000 (by decide))
 have H4 := Aside0.mk (leInts_self s (by omega) 5000000 (by decide))
 have H5 := Aside0.mk hs4
 have H6 := Aside0.mk hs0
 clear hs0 hs1 hs2 hs3 hs4
 have q0 := (blk_cell BM.out 0).trans rfl; have q1 := (blk_cell BM.out 1).trans rfl; have q2 := (blk_cell BM.out 2).trans rfl; have q3 := (blk_cell BM.out 3).trans rfl; have q4 := (blk_cell BM.out 4).trans rfl
 go_wp2_with fail
 go_at_call 10
 refine (impl_MemWalk.calls 5000000 A5 c5 cs A0 c0 ws y t o A4 c4 cards s _ HD.out.C5 HD.out.n5 HD.out.C0 HD.out.n0 HD.out.C4 HD.out.n4 H1.out).mono ?_
 rintro e w4 ⟨vX, rfl, hX, hb⟩
 clear q0 q1 q2 q3 q4
 replace HD := Aside0.mk (HD.out.below hb)
 replace BM := Aside0.mk (blk_below BM.out hb)
 replace HB := Aside0.mk (below_step HB.out hb)
 have HX := Aside0.mk (Kd.R_mono (Kd.R_lower hX (Nat.zero_le _)) (ok' := fun _ => True) (fun _ _ => trivial))
 obtain ⟨AX, cX, eX⟩ := Kd.R_slice HX.out
 subst eX
 clear hX hb
 have q0 := (blk_cell BM.out 0).trans rfl; have q1 := (blk_cell BM.out 1).trans rfl; have q2 := (blk_cell BM.out 2).trans rfl; have q3 := (blk_cell BM.out 3).trans rfl; have q4 := (blk_cell BM.out 4).trans rfl
 go_wp2_with fail
 go_at_call 12
 refine (spec_MemWalk.calls 5000000 A5 c5 cs A0 c0 ws y t o A4 c4 cards s _ HD.out.C5 HD.out.n5 HD.out.C0 HD.out.n0 HD.out.C4 HD.out.n4 H2.out).mono ?_
 rintro e w5 ⟨vY, rfl, hY, hb⟩
 clear q0 q1 q2 q3 q4
 replace HD := Aside0.mk (HD.out.below hb)
 replace BM := Aside0.mk (blk_below BM.out hb)
 replace HB := Aside0.mk (below_step HB.out hb)
 replace HX := Aside0.mk (Kd.R_below HX.out hb)
 have HY := Aside0.mk (Kd.R_mono (Kd.R_lower hY (Nat.zero_le _)) (ok' := fun _ => True) (fun _ _ => trivial))
 obtain ⟨AY, cY, eY⟩ := Kd.R_slice HY.out
 subst eY
 clear hY hb
 go_wp2_with fail
 go_at_call 11
 refine (laws_leInts.calls 5000000 AX cX s AY cY s true _ (Kd.R_reads' HX.out).2.2 (Kd.R_reads' HX.out).2.1 (Kd.R_reads' HY.out).2.2 (Kd.R_reads' HY.out).2.1 H4.out).mono ?_
 rintro e w6 ⟨rfl, hb⟩
 have hb := hb.below
 replace HD := Aside0.mk (HD.out.below hb)
 replace BM := Aside0.mk (blk_below BM.out hb)
 replace HB := Aside0.mk (below_step HB.out hb)
 replace HX := Aside0.mk (Kd.R_below HX.out hb)
 replace HY := Aside0.mk (Kd.R_below HY.out hb)
 clear hb
 cases b with
 | false =>
  have q0 := (blk_cell BM.out 0).trans rfl; have q1 := (blk_cell BM.out 1).trans rfl; have q2 := (blk_cell BM.out 2).trans rfl; have q3 := (blk_cell BM.out 3).trans rfl; have q4 := (blk_cell BM.out 4).trans rfl
  go_wp2_with fail
  go_at_call 13
  refine (spec_MemOk.calls 5000000 A5 c5 cs A0 c0 ws y t o A4 c4 cards false _ HD.out.C5 HD.out.n5 HD.out.C0 HD.out.n0 HD.out.C4 HD.out.n4 H3.out).mono ?_
  rintro e w7 ⟨rfl, hb⟩
  clear q0 q1 q2 q3 q4
  replace HD := Aside0.mk (HD.out.below hb)
  replace BM := Aside0.mk (blk_below BM.out hb)
  replace HB := Aside0.mk (below_step HB.out hb)
  replace HX := Aside0.mk (Kd.R_below HX.out hb)
  clear hb
  have q0 := (blk_cell BM.out 0).trans rfl; have q1 := (blk_cell BM.out 1).trans rfl; have q2 := (blk_cell BM.out 2).trans rfl; have q3 := (blk_cell BM.out 3).trans rfl; have q4 := (blk_cell BM.out 4).trans rfl
  go_wp2_with fail
  go_at_call 12
  refine (spec_MemWalk.calls 5000000 A5 c5 cs A0 c0 ws y t o A4 c4 cards s _ HD.out.C5 HD.out.n5 HD.out.C0 HD.out.n0 HD.out.C4 HD.out.n4 H2.out).mono ?_
  rintro e w8 ⟨vZ, rfl, hZ, hb⟩
  clear q0 q1 q2 q3 q4
  replace HD := Aside0.mk (HD.out.below hb)
  replace BM := Aside0.mk (blk_below BM.out hb)
  replace HB := Aside0.mk (below_step HB.out hb)
  replace HX := Aside0.mk (Kd.R_below HX.out hb)
  have HZ := Aside0.mk (Kd.R_mono (Kd.R_lower hZ (Nat.zero_le _)) (ok' := fun _ => True) (fun _ _ => trivial))
  obtain ⟨AZ, cZ, eZ⟩ := Kd.R_slice HZ.out
  subst eZ
  clear hZ hb
  go_wp2_with fail
  go_at_call 11
  refine (laws_leInts.calls 5000000 AX cX s AZ cZ s true _ (Kd.R_reads' HX.out).2.2 (Kd.R_reads' HX.out).2.1 (Kd.R_reads' HZ.out).2.2 (Kd.R_reads' HZ.out).2.1 H4.out).mono ?_
  rintro e w9 ⟨rfl, hb⟩
  have hb := hb.below
  replace HD := Aside0.mk (HD.out.below hb)
  replace BM := Aside0.mk (blk_below BM.out hb)
  replace HB := Aside0.mk (below_step HB.out hb)
  replace HX := Aside0.mk (Kd.R_below HX.out hb)
  replace HZ := Aside0.mk (Kd.R_below HZ.out hb)
  clear hb
  go_wp2
  go_ret
  exact ⟨rfl, by first | exact HB.out | exact below_drew1 HB.out⟩
 | true =>
  have q0 := (blk_cell BM.out 0).trans rfl; have q1 := (blk_cell BM.out 1).trans rfl; have q2 := (blk_cell BM.out 2).trans rfl; have q3 := (blk_cell BM.out 3).trans rfl; have q4 := (blk_cell BM.out 4).trans rfl
  go_wp2_with fail
  go_at_call 13
  refine (spec_MemOk.calls 5000000 A5 c5 cs A0 c0 ws y t o A4 c4 cards true _ HD.out.C5 HD.out.n5 HD.out.C0 HD.out.n0 HD.out.C4 HD.out.n4 H3.out).mono ?_
  rintro e w7 ⟨rfl, hb⟩
  clear q0 q1 q2 q3 q4
  replace HD := Aside0.mk (HD.out.below hb)
  replace BM := Aside0.mk (blk_below BM.out hb)
  replace HB := Aside0.mk (below_step HB.out hb)
  replace HX := Aside0.mk (Kd.R_below HX.out hb)
  clear hb
  obtain ⟨⟨b1, b2, b3, b4, b5, b6⟩, p, z, hp0, hj, he0, he1, he⟩ := H5.out (by trivial)
  have u1 : IntKind.i64.wrap (t + 1) = t + 1 := IntWalk.i64_in _ (by omega)
  have u2 : IntKind.i64.wrap (y + 1) = y + 1 := IntWalk.i64_in _ (by omega)
  have u3 : IntKind.i64.wrap (o + 1) = o + 1 := IntWalk.i64_in _ (by omega)
  have HP0 := Aside0.mk hp0
  have HJ := Aside0.mk hj
  have HE := Aside0.mk he
  clear b1 b2 b3 b4 b5 b6 hp0 hj he0 he1 he H5
  go_wp2
  go_loopw [6, 7] (fun v6 v7 wr => ∃ j : Nat, v6 = .int .i64 (p j) ∧ v7 = .int .i64 (j : Int) ∧ Aside0 (j ≤ s.length) ∧ Aside0 (Dr wr (fun k => k ≠ gm) A5 c5 A0 c0 A4 c4 cs ws cards) ∧ Aside0 (wr.heap[gm]? = some (.cells #[.slice A0 ws.length c0, .int .i64 y, .int .i64 t, .int .i64 o, .slice A4 cards.length c4] 27 (0, 0))) ∧ Aside0 (Below w.heap.size w wr) ∧ Aside0 (Kd.R (Kd.int .i64) 3 wr 0 (fun _ => True) (.slice AX s.length cX) s)) (fun _ v7 _ => s.length - (intOf v7).toNat)
  case atStart => exact ⟨0, by rw [HP0.out], rfl, ⟨Nat.zero_le _⟩, HD, BM, HB, HX⟩
  case round =>
   clear HD BM HB HX
   obtain ⟨j, rfl, rfl, HJl, HD, BM, HB, HX⟩ := hrel
   by_cases cx : (j : Int) < (s.length : Int)
   ·have d0 : decide ((j : Int) < (s.length : Int)) = true := decide_eq_true cx
    obtain ⟨z0, z1, pj0, pj1, hms, hpn, rd0, rd1, hcase⟩ := HJ.out j (by omega)
    obtain ⟨gX, cX', eX, _, _, _⟩ := Kd.R_form HX.out (by omega)
    injection eX with a1 a2 a3
    subst a1
    clear a2 a3
    have hcell := (Kd.R_cell (enc := Value.int .i64) (h1 := fun _ => rfl) 0 HX.out (j : Int) (by omega) cx).1
    rw [Int.toNat_natCast] at hcell
    obtain ⟨v, hv_⟩ : ∃ v, v = rd s (j : Int) := ⟨_, rfl⟩
    change _ = some (Value.int .i64 (rd s (j : Int))) at hcell
    rw [← hv_] at hcell hms hpn rd0 rd1 hcase
    obtain ⟨a, ha_⟩ : ∃ a, a = p j := ⟨_, rfl⟩
    rw [← ha_] at pj0 pj1 hcase ⊢
    obtain ⟨zj, hz_⟩ : ∃ x, x = z j := ⟨_, rfl⟩
    rw [← hz_] at z0 z1 hms hpn
    have u4 : IntKind.i64.wrap (v + zj) = v + zj := IntWalk.i64_in _ (by omega)
    have hs6 := H6.out
    have u5 : IntKind.i64.wrap ((j : Int) + 1) = (j : Int) + 1 := IntWalk.i64_in _ (by omega)
    clear hs6
    have d2 : decide (zj < 1) = false := decide_eq_false (by omega)
    have r1 := eq_true (show 0 ≤ (j : Int) by omega)
    have r2 := eq_true cx
    have HMs := Aside0.mk hms
    have HPn := Aside0.mk hpn
    have HJ1 := Aside0.mk (show j < s.length by omega)
    clear z0 z1 pj0 pj1 hms hpn rd0 rd1 hv_ ha_ hz_ cx
    rcases hcase with hcase | hcase
    ·obtain ⟨h1, h2, h3⟩ := hcase
     subst h1 h3
     have d3 : decide (y < y + 1) = true := decide_eq_true (by omega)
     clear h2
     have k1 := (blk_cell BM.out 1).trans rfl
     have k2 := (blk_cell BM.out 2).trans rfl
     go_wp2
     refine start_ (n := 14) (S := fun w' => w'.cell? ⟨gm, 1, none⟩ = some (.int .i64 y) ∧ w'.cell? ⟨gm, 2, none⟩ = some (.int .i64 t) ∧ w'.cell? ⟨gX, j, none⟩ = some (.int .i64 (y + 1))) (ds := []) #[false, false, false, false, false, false, false, false, false, false, false, false, false, false] (by kernel_rfl) rfl rfl ⟨(by go_simp), (by go_simp), (by go_simp)⟩ (fun hHeld => ?_)
     refine pS 0 42 (lA 14 1) ?_
     refine pS 1 43 (lA 14 3) ?_
     refine tS 2 44 (lA 14 7) rfl rfl (by kernel_rfl) hHeld (by rintro w' ⟨s0, s1, s2⟩; go_simp; with_reducible rfl) ?_
     refine pS 3 45 (lA 14 15) ?_
     refine pS 4 46 (lA 14 31) ?_
     refine pS 5 47 (lA 14 63) ?_
     refine pS 6 48 (lA 14 127) ?_
     refine pS 7 49 (lA 14 255) ?_
     refine pS 8 50 (lA 14 511) ?_
     refine pS 10 52 (lA 14 1535) ?_
     refine tS 9 51 (lA 14 2047) rfl rfl (by kernel_rfl) hHeld (by rintro w' ⟨s0, s1, s2⟩; go_simp; with_reducible rfl) ?_
     refine tS 11 53 (lA 14 4095) rfl rfl (by kernel_rfl) hHeld (by rintro w' ⟨s0, s1, s2⟩; go_simp; with_reducible rfl) ?_
     refine pS 12 54 (lA 14 8191) ?_
     refine pS 13 55 (lA 14 16383) ?_
     refine done_ (by kernel_rfl) ?_
     clear k1 k2
     have hdr : Below wr.heap.size wr wr.drew := below_drew1 (Below.refl _ _)
     replace HD := Aside0.mk (HD.out.below hdr)
     replace BM := Aside0.mk (blk_below BM.out hdr)
     replace HB := Aside0.mk (below_step HB.out hdr)
     replace HX := Aside0.mk (Kd.R_below HX.out hdr)
     clear hdr hcell
     have q0 := (blk_cell BM.out 0).trans rfl; have q1 := (blk_cell BM.out 1).trans rfl; have q2 := (blk_cell BM.out 2).trans rfl; have q3 := (blk_cell BM.out 3).trans rfl; have q4 := (blk_cell BM.out 4).trans rfl
     go_wp2_with fail
     go_at_call 14
     refine (impl_MemSize.calls 5000000 A5 c5 cs A0 c0 ws y t o A4 c4 cards (y + 1) zj _ HD.out.C5 HD.out.n5 HD.out.C0 HD.out.n0 HD.out.C4 HD.out.n4 HMs.out).mono ?_
     rintro e w61 ⟨rfl, hb⟩
     clear q0 q1 q2 q3 q4
     replace HD := Aside0.mk (HD.out.below hb)
     replace BM := Aside0.mk (blk_below BM.out hb)
     replace HB := Aside0.mk (below_step HB.out hb)
     replace HX := Aside0.mk (Kd.R_below HX.out hb)
     clear hb
     have q0 := (blk_cell BM.out 0).trans rfl; have q1 := (blk_cell BM.out 1).trans rfl; have q2 := (blk_cell BM.out 2).trans rfl; have q3 := (blk_cell BM.out 3).trans rfl; have q4 := (blk_cell BM.out 4).trans rfl
     go_wp2_with fail
     go_at_call 14
     refine (impl_MemSize.calls 5000000 A5 c5 cs A0 c0 ws y t o A4 c4 cards (y + 1) zj _ HD.out.C5 HD.out.n5 HD.out.C0 HD.out.n0 HD.out.C4 HD.out.n4 HMs.out).mono ?_
     rintro e w62 ⟨rfl, hb⟩
     clear q0 q1 q2 q3 q4
     replace HD := Aside0.mk (HD.out.below hb)
     replace BM := Aside0.mk (blk_below BM.out hb)
     replace HB := Aside0.mk (below_step HB.out hb)
     replace HX := Aside0.mk (Kd.R_below HX.out hb)
     clear hb
     go_wp2
     go_roundw
     case rel => exact ⟨j + 1, by rw [HPn.out], rfl, ⟨HJ1.out⟩, HD, BM, HB, HX⟩
     case measure => have := HJ1.out; simp only [intOf]; omega
    ·obtain ⟨h1, h2⟩ := hcase
     subst h2
     have d3 : (a == t + 1) = false := beq_eq_false_iff_ne.mpr h1
     have d3' : decide (a = t + 1) = false := decide_eq_false h1
     clear h1
     have k1 := (blk_cell BM.out 1).trans rfl
     have k2 := (blk_cell BM.out 2).trans rfl
     go_wp2
     refine start_ (n := 14) (S := fun w' => w'.cell? ⟨gm, 1, none⟩ = some (.int .i64 y) ∧ w'.cell? ⟨gm, 2, none⟩ = some (.int .i64 t) ∧ w'.cell? ⟨gX, j, none⟩ = some (.int .i64 a)) (ds := []) #[false, false, false, false, false, false, false, false, false, false, false, false, false, false] (by kernel_rfl) rfl rfl ⟨(by go_simp), (by go_simp), (by go_simp)⟩ (fun hHeld => ?_)
     refine pS 0 42 (lA 14 1) ?_
     refine pS 1 43 (lA 14 3) ?_
     refine tS 2 44 (lA 14 7) rfl rfl (by kernel_rfl) hHeld (by rintro w' ⟨s0, s1, s2⟩; go_simp; with_reducible rfl) ?_
     refine pS 3 45 (lA 14 15) ?_
     refine pS 4 46 (lA 14 31) ?_
     refine pS 5 47 (lA 14 63) ?_
     refine pU 6 48 (lA 14 127) ?_
     refine pU 7 49 (lA 14 255) ?_
     refine pU 8 50 (lA 14 511) ?_
     refine pU 9 51 (lA 14 1023) ?_
     refine pU 10 52 (lA 14 2047) ?_
     refine pU 11 53 (lA 14 4095) ?_
     refine pU 12 54 (lA 14 8191) ?_
     refine pS 13 55 (lA 14 16383) ?_
     refine done_ (by kernel_rfl) ?_
     clear k1 k2
     have hdr : Below wr.heap.size wr wr.drew := below_drew1 (Below.refl _ _)
     replace HD := Aside0.mk (HD.out.below hdr)
     replace BM := Aside0.mk (blk_below BM.out hdr)
     replace HB := Aside0.mk (below_step HB.out hdr)
     replace HX := Aside0.mk (Kd.R_below HX.out hdr)
     clear hdr hcell
     have q0 := (blk_cell BM.out 0).trans rfl; have q1 := (blk_cell BM.out 1).trans rfl; have q2 := (blk_cell BM.out 2).trans rfl; have q3 := (blk_cell BM.out 3).trans rfl; have q4 := (blk_cell BM.out 4).trans rfl
     go_wp2_with fail
     go_at_call 14
     refine (impl_MemSize.calls 5000000 A5 c5 cs A0 c0 ws y t o A4 c4 cards a zj _ HD.out.C5 HD.out.n5 HD.out.C0 HD.out.n0 HD.out.C4 HD.out.n4 HMs.out).mono ?_
     rintro e w61 ⟨rfl, hb⟩
     clear q0 q1 q2 q3 q4
     replace HD := Aside0.mk (HD.out.below hb)
     replace BM := Aside0.mk (blk_below BM.out hb)
     replace HB := Aside0.mk (below_step HB.out hb)
     replace HX := Aside0.mk (Kd.R_below HX.out hb)
     clear hb
     have q0 := (blk_cell BM.out 0).trans rfl; have q1 := (blk_cell BM.out 1).trans rfl; have q2 := (blk_cell BM.out 2).trans rfl; have q3 := (blk_cell BM.out 3).trans rfl; have q4 := (blk_cell BM.out 4).trans rfl
     go_wp2_with fail
     go_at_call 14
     refine (impl_MemSize.calls 5000000 A5 c5 cs A0 c0 ws y t o A4 c4 cards a zj _ HD.out.C5 HD.out.n5 HD.out.C0 HD.out.n0 HD.out.C4 HD.out.n4 HMs.out).mono ?_
     rintro e w62 ⟨rfl, hb⟩
     clear q0 q1 q2 q3 q4
     replace HD := Aside0.mk (HD.out.below hb)
     replace BM := Aside0.mk (blk_below BM.out hb)
     replace HB := Aside0.mk (below_step HB.out hb)
     replace HX := Aside0.mk (Kd.R_below HX.out hb)
     clear hb
     go_wp2
     go_roundw
     case rel => exact ⟨j + 1, by rw [HPn.out], rfl, ⟨HJ1.out⟩, HD, BM, HB, HX⟩
     case measure => have := HJ1.out; simp only [intOf]; omega
   ·have d0 : decide ((j : Int) < (s.length : Int)) = false := decide_eq_false cx
    have ej : j = s.length := by have := HJl.out; omega
    subst ej
    obtain ⟨a, ha_⟩ : ∃ a, a = p s.length := ⟨_, rfl⟩
    have he := HE.out
    rw [← ha_] at he ⊢
    clear ha_ HE HJ cx
    have k1 := (blk_cell BM.out 1).trans rfl
    have k2 := (blk_cell BM.out 2).trans rfl
    have k3 := (blk_cell BM.out 3).trans rfl
    by_cases ca : a = o + 1
    ·subst ca
     clear he
     go_wp2
     go_ret
     exact ⟨by simp, by first | exact HB.out | exact below_drew1 HB.out⟩
    ·have hf : a = t + 1 ∧ o = y := by rcases he with h | h; exact absurd h ca; exact h
     obtain ⟨h1, h2⟩ := hf
     subst h1 h2
     have d3 : (t + 1 == o + 1) = false := beq_eq_false_iff_ne.mpr ca
     have d3' : decide (t + 1 = o + 1) = false := decide_eq_false ca
     clear ca he
     go_wp2
     go_ret
     exact ⟨by simp, by first | exact HB.out | exact below_drew1 HB.out⟩
end Go.Proofs.Ytfbkpjjnhengfaa.K
namespace Go.Proofs.Ytfbkpjjnhengfaa.K
open Go.RowKit Go.Proofs.YtfbkpjjnhengfaaW.PrintWords Go.Proofs.YtfbkpjjnhengfaaW.PrintLast Go.Proofs.YtfbkpjjnhengfaaW.PrintMore
attribute [local go_sem] max2_int min2_int max_two min_two max_three min_three max_four min_four
set_option linter.unusedVariables false
set_option linter.unusedSimpArgs false
section
open Go.ChangeShapes Go.WideShapes Go.ChangeAt Go.Deep
def Opens {H α : Type} (enc : TypeId × Value → H) (P : Program) (w : World) (d : Kd α) (G : α → Prop) (t : TypeId) : Prop :=
  ∀ (fuel : Nat) (cs : List Value) (x : DataW H × List MemPlace), DataW.trod enc P w 0 (fun _ => true) true fuel t cs = some x → ∃ a : α, d.K w a cs ∧ G a
variable {H α : Type} {enc : TypeId × Value → H} {P : Program} {w : World} {d : Kd α} {G : α → Prop} {t e : TypeId}
theorem opens_int {k : IntKind} (ht : P.underlying t = some (.int k)) : Opens enc P w (Kd.int k) (fun n => (Lit.int k n).wf = true) t := by
 intro fuel cs x h
 obtain ⟨n, rfl, _, hw⟩ := DataW.trod_int ht h
 exact ⟨n, rfl, hw⟩
def GL (G : α → Prop) (xs : List α) : Prop := xs.length ≤ 9223372036854775807 ∧ ∀ x ∈ xs, G x
theorem list_of {Q : Nat → α → Prop} : ∀ n : Nat, (∀ i, i < n → ∃ p, Q i p) → ∃ xs : List α, xs.length = n ∧ ∀ i p, xs[i]? = some p → Q i p
  | 0, _ => ⟨[], rfl, fun i p h => by simp at h⟩
  | n + 1, h => by
    obtain ⟨xs, hl, hx⟩ := list_of n (fun i hi => h i (by omega))
    obtain ⟨p, hp⟩ := h n (by omega)
    refine ⟨xs ++ [p], by simp [hl], fun i q hq => ?_⟩
    by_cases hi : i < n
    · rw [List.getElem?_append_left (by omega)] at hq
      exact hx i q hq
    · have : i = n := by
        have := (List.getElem?_eq_some_iff.1 hq).1
        simp at this; omega
      subst this
      rw [List.getElem?_append_right (by omega)] at hq
      simp [hl] at hq
      subst hq
      exact hp
theorem opens_slice (ht : P.underlying t = some (.slice e)) (hs : d.sz = P.cellsOf e) (he : Opens enc P w d G e) : Opens enc P w (Kd.slice e d) (GL G) t := by
 intro fuel cs x h
 rcases open_slice ht h with ⟨rfl, _⟩ | ⟨a, len, cap, m, n, D, Pl, rfl, hb, hl, hm, hmm, hx, hi⟩
 ·exact ⟨[], ⟨none, 0, rfl, Nat.le_refl _, Kd.C_nil _ _⟩, by simp [GL]⟩
 ·have hmc : m = cap := by simpa using hmm
  obtain ⟨xs, hlen, hxs⟩ := list_of (Q := fun i p => ∃ c, c.length = d.sz ∧ d.K w p c ∧ (∀ j u, c[j]? = some u → w.cell? (a.add (i * d.sz + j)) = some u) ∧ G p) len (fun i hil => by
   obtain ⟨cs', hc, ht'⟩ := hi i (by omega)
   obtain ⟨p, hK, hG⟩ := he n cs' _ ht'
   obtain ⟨_, hcl, hat⟩ := World.cells?_some hc
   refine ⟨p, cs', d.K_len hK, hK, fun j u hu => ?_, hG⟩
   have hj : j < P.cellsOf e := by rw [← hcl]; exact (List.getElem?_eq_some_iff.1 hu).1
   have := hat j hj
   rw [Go.Deep.add_add] at this
   rw [hs, this, hu])
  subst hlen
  refine ⟨xs, ⟨some a, cap, rfl, hl, rfl, ?_, fun _ => ⟨a, rfl, fun j p hj => ?_⟩⟩, ?_, fun x hx => ?_⟩
  ·have : maxLen = 9223372036854775807 := rfl
   omega
  ·obtain ⟨c, h1, h2, h3, _⟩ := hxs j p hj
   exact ⟨c, h1, h2, h3⟩
  ·have : maxLen = 9223372036854775807 := rfl
   omega
  ·obtain ⟨i, hi', rfl⟩ := List.getElem_of_mem hx
   obtain ⟨c, _, _, _, hG⟩ := hxs i _ (List.getElem?_eq_getElem hi')
   exact hG
end
end Go.Proofs.Ytfbkpjjnhengfaa.K
namespace Go.Proofs.Ytfbkpjjnhengfaa.K
open Go.RowKit Go.Proofs.YtfbkpjjnhengfaaW.PrintWords Go.Proofs.YtfbkpjjnhengfaaW.PrintLast Go.Proofs.YtfbkpjjnhengfaaW.PrintMore
attribute [local go_sem] max2_int min2_int max_two min_two max_three min_three max_four min_four
set_option linter.unusedVariables false
set_option linter.unusedSimpArgs false
def laws_FnWalkTile.Pure : Prop := ∀ (a0 : List Int), (GL (fun n : Int => (Lit.int .u8 n).wf = true)) a0 → laws_FnWalkTile.f a0 = some true
end Go.Proofs.Ytfbkpjjnhengfaa.K
namespace Go.Proofs.Ytfbkpjjnhengfaa.K
open Go.RowKit Go.Proofs.YtfbkpjjnhengfaaW.PrintWords Go.Proofs.YtfbkpjjnhengfaaW.PrintLast Go.Proofs.YtfbkpjjnhengfaaW.PrintMore
attribute [local go_sem] max2_int min2_int max_two min_two max_three min_three max_four min_four
set_option linter.unusedVariables false
set_option linter.unusedSimpArgs false
section
open Go.ChangeShapes Go.WideShapes Go.ChangeAt Go.Deep
end
end Go.Proofs.Ytfbkpjjnhengfaa.K
namespace Go.Proofs.Ytfbkpjjnhengfaa.Pure
open Go.RowKit Go.Proofs.Ytfbkpjjnhengfaa.K Go.Proofs.YtfbkpjjnhengfaaW.PrintWords Go.Proofs.YtfbkpjjnhengfaaW.PrintLast Go.Proofs.YtfbkpjjnhengfaaW.PrintMore
set_option linter.unusedVariables false
set_option linter.unusedSimpArgs false
theorem FnWalkTile : laws_FnWalkTile.Pure := by
 intro l hl
 unfold laws_FnWalkTile.f
 exact if_pos (show ∀ x ∈ l, (Lit.int .u8 x).wf = true from hl.2)
end Go.Proofs.Ytfbkpjjnhengfaa.Pure
