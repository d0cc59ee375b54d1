import Derived.Test.YtjnbilfhpdkcbaaPm24
import Derived.Test.YtjnbilfhpdkcbaaPm30
import Derived.Test.YtjnbilfhpdkcbaaPm28
import Derived.Test.YtjnbilfhpdkcbaaPm26
import Derived.Test.YtjnbilfhpdkcbaaPm33
import Derived.Test.YtjnbilfhpdkcbaaPm35
import Derived.Test.YtjnbilfhpdkcbaaPm31
import Derived.Test.YtjnbilfhpdkcbaaPm27
import Derived.Test.YtjnbilfhpdkcbaaPm29
import Derived.Test.YtjnbilfhpdkcbaaPm25
namespace Go.Proofs.Ytjnbilfhpdkcbaa.Pure
open Go.RowKit Go.Proofs.Ytjnbilfhpdkcbaa.K Go.Proofs.YtjnbilfhpdkcbaaW.PrintWords Go.Proofs.YtjnbilfhpdkcbaaW.PrintLast Go.Proofs.YtjnbilfhpdkcbaaW.PrintMore
set_option linter.unusedVariables false
set_option linter.unusedSimpArgs false
structure Bnd (cs : Cs) (ws : List Int) (y t o : Int) (cards : List Bool) : Prop where
  ok : csOk cs = true
  y0 : 0 ≤ y
  y1 : y ≤ 40
  n0 : 14 ≤ (ws.length : Int) - y
  n1 : (ws.length : Int) - y ≤ 120
  t0 : 0 ≤ t
  t1 : t ≤ y
  o0 : y ≤ o
  o1 : o ≤ ws.length
  cd : (cards.length : Int) = ((ws.length : Int) - y + 3) / 4
structure Wlk (cs : Cs) (ws : List Int) (W : List Int) : Prop where
  mem : ∀ x ∈ W, ∃ e : Int, e ≤ ws.length ∧ 0 ≤ x ∧ x < e ∧ 0 < mstep ws (allF cs) e x ∧ mstep ws (allF cs) e x ≤ e - x
  srt : W.Pairwise (· < ·)
  len : W.length ≤ 200
def startsL (W : List Int) (n : Nat) : List Bool := (List.range n).map (fun j : Nat => decide ((j : Int) ∈ W))
theorem startsL_len (W : List Int) (n : Nat) : (startsL W n).length = n := by simp [startsL]
theorem startsL_at (W : List Int) (n : Nat) {j : Int} (h0 : 0 ≤ j) (h1 : j < n) : rdOf false (startsL W n) j = decide (j ∈ W) := by
  unfold rdOf startsL
  rw [List.getD_eq_getElem?_getD, List.getElem?_map, List.getElem?_range (by omega)]
  show decide (((j.toNat : Nat) : Int) ∈ W) = _
  rw [Int.toNat_of_nonneg h0]
theorem starts_l0 (W : List Int) (n : Nat) (hW : ∀ x ∈ W, 0 ≤ x ∧ x < (n : Int)) (hl : W.length ≤ 1048576) (d : Nat) : ∀ (k i : Nat) (S : List Bool), i + d = W.length → d < k → S.length = n → (∀ j : Nat, j < n → S.getD j false = decide ((j : Int) ∈ W.take i)) →
    spec_l21Starts.l0 k W S i = some (startsL W n) := by
  induction d with
  | zero =>
    intro k i S hi hk hS hj
    obtain ⟨k, rfl⟩ : ∃ m, k = m + 1 := ⟨k - 1, by omega⟩
    rw [spec_l21Starts.l0, if_neg (by omega)]
    congr 1
    refine List.ext_getElem (by rw [hS, startsL_len]) (fun j h1 h2 => ?_)
    have := hj j (by omega)
    rw [List.getD_eq_getElem?_getD, List.getElem?_eq_getElem h1, show i = W.length by omega, List.take_length] at this
    have e2 : (startsL W n)[j] = decide ((j : Int) ∈ W) := by simp [startsL]
    rw [e2]; exact this
  | succ d ih =>
    intro k i S hi hk hS hj
    obtain ⟨k, rfl⟩ : ∃ m, k = m + 1 := ⟨k - 1, by omega⟩
    have hlt : i < W.length := by omega
    have hx := hW W[i] (List.getElem_mem hlt)
    rw [spec_l21Starts.l0, if_pos (by omega), if_pos (by omega), rd_mem hlt, if_pos hx.1, if_pos (by rw [hS]; exact hx.2), wrap_inc (n := 1048577) (by omega) (by omega) (by omega)]
    have := ih k (i + 1) (S.set W[i].toNat true) (by omega) (by omega) (by rw [List.length_set, hS]) (fun j hj2 => by
      have h3 := hj j hj2
      rw [List.take_succ_eq_append_getElem hlt]
      rw [List.getD_eq_getElem?_getD] at h3 ⊢
      rw [List.getElem?_set]
      by_cases q : W[i].toNat = j
      · rw [if_pos q, if_pos (by omega)]
        have : (j : Int) ∈ W.take i ++ [W[i]] := by rw [List.mem_append, List.mem_singleton]; right; omega
        rw [decide_eq_true this]; rfl
      · rw [if_neg q, h3]
        have : (j : Int) ∈ W.take i ++ [W[i]] ↔ (j : Int) ∈ W.take i := by
          rw [List.mem_append, List.mem_singleton]
          constructor
          · rintro (z | z)
            · exact z
            · omega
          · exact Or.inl
        simp only [this])
    rw [show ((i + 1 : Nat) : Int) = (i : Int) + 1 by omega] at this
    exact this
theorem starts_eq {W : List Int} {n : Nat} (hW : ∀ x ∈ W, 0 ≤ x ∧ x < (n : Int)) (hl : W.length ≤ 1000) (hn : n ≤ 1048576) (k : Nat) (hk : 1001 ≤ k) : spec_l21Starts.f k n W = some (startsL W n) := by
  unfold spec_l21Starts.f
  rw [if_pos (by omega), if_pos (by omega), Int.toNat_natCast]
  have := starts_l0 W n hW (by omega) W.length k 0 (List.replicate n false) (by omega) (by omega) (by simp) (fun j hj => by simp [List.getD_eq_getElem?_getD, hj])
  exact this
def ldB (cs : Cs) (c k : Int) : Bool := if c = -1 then false else if c = -2 then true else (rd (cfl cs c) k != 1)
theorem thing_facts {cs : Cs} {ws : List Int} {y t o : Int} {cards : List Bool} (hb : Bnd cs ws y t o cards) {W : List Int} (hw : Wlk cs ws W) (m : Mm) (hm : m = ⟨ws, y, t, o, cards, allF cs, W.map (· + 1)⟩) {x : Int} (hx : x ∈ W) :
    ∃ c hd cnt : Int, c = rd ws x ∧ 0 ≤ x ∧ (hd = 1 ∨ hd = 2) ∧ 0 ≤ cnt ∧ cnt ≤ 8 ∧ x + hd + cnt ≤ ws.length ∧ thing_count.f m (x + 1) = some cnt ∧ thing_first.f m (x + 1) = some (x + hd) ∧ spec_l21Head.f c = some hd ∧
      (∀ k, 20 ≤ k → spec_l21Size.f k cs ws x ws.length = some (hd + cnt)) ∧ (∀ k, 0 ≤ k → k < cnt → thing_leads.f m (x + 1) k = some (ldB cs c k)) ∧ (c = -1 ∨ c = -2 ∨ (0 ≤ c ∧ c < cs.length ∧ hd = 1 ∧ cnt = (cfl cs c).length)) := by
  obtain ⟨e, he, h0, h1, h2, h3⟩ := hw.mem x hx
  have n0 := hb.n0; have n1 := hb.n1; have y0 := hb.y0; have y1 := hb.y1
  have hl := csOk_len hb.ok
  have hc : thing_class.f m (x + 1) = some (rd ws x) := by
    unfold thing_class.f
    rw [hm]
    show (if 1 ≤ x + 1 ∧ x + 1 ≤ (ws.length : Int) ∧ ws.length ≤ 281474976710656 then some (rd ws (x + 1 - 1)) else none) = _
    rw [if_pos (by omega), show x + 1 - 1 = x by omega]
  obtain ⟨c, hcc⟩ : ∃ c, c = rd ws x := ⟨_, rfl⟩
  rw [← hcc] at hc
  have hsz : ∀ k, 20 ≤ k → spec_l21Size.f k cs ws x ws.length = some (mstep ws (allF cs) ws.length x) := fun k hk => by
    rw [l21Size_eq hb.ok (by omega) h0 (Int.le_refl _) k hk, if_pos (by omega)]
  by_cases c0 : c < 0
  · have hs : mstep ws (allF cs) e x = 2 + rd ws (x + 1) ∧ (c = -1 ∨ c = -2) ∧ x + 1 < e ∧ 0 ≤ rd ws (x + 1) ∧ rd ws (x + 1) ≤ 6 := by
      unfold mstep at h2 ⊢
      rw [← hcc] at h2 ⊢
      rw [if_pos c0] at h2 ⊢
      by_cases c1 : x + 1 < e
      · rw [if_pos c1] at h2 ⊢
        by_cases c2 : c = -1 ∨ c = -2
        · by_cases c3 : 0 ≤ rd ws (x + 1) ∧ rd ws (x + 1) ≤ 6
          · have m1 : measN (allF cs) c (rd ws (x + 1)) = 2 + rd ws (x + 1) := by unfold measN; rw [if_pos c2, if_pos c3]
            rw [m1] at h2 ⊢
            split at h2
            · rename_i z; rw [if_pos z]; exact ⟨rfl, c2, c1, c3.1, c3.2⟩
            · omega
          · have m1 : measN (allF cs) c (rd ws (x + 1)) = 0 := by unfold measN; rw [if_pos c2, if_neg c3]
            rw [m1] at h2
            split at h2 <;> omega
        · have m1 : measN (allF cs) c (rd ws (x + 1)) = 0 := by unfold measN; rw [if_neg c2, if_neg (by omega)]
          rw [m1] at h2
          split at h2 <;> omega
      · rw [if_neg c1] at h2; omega
    obtain ⟨s1, s2, s3, s4, s5⟩ := hs
    refine ⟨c, 2, rd ws (x + 1), hcc, h0, Or.inr rfl, s4, by omega, by omega, ?_, ?_, ?_, ?_, ?_, ?_⟩
    · unfold thing_count.f
      rw [hc, Option.bind_some, if_pos c0, hm]
      show (if x + 1 < (ws.length : Int) then some (rd ws (x + 1)) else none) = _
      rw [if_pos (by omega)]
    · unfold thing_first.f
      rw [hc, Option.bind_some, if_pos c0, show x + 1 + 1 = x + 2 by omega]
    · unfold spec_l21Head.f; rw [if_pos c0]
    · intro k hk
      rw [hsz k hk]
      unfold mstep
      rw [← hcc, if_pos c0, if_pos (by omega)]
      have m1 : measN (allF cs) c (rd ws (x + 1)) = 2 + rd ws (x + 1) := by unfold measN; rw [if_pos s2, if_pos ⟨s4, s5⟩]
      rw [m1, if_pos (by omega)]
    · intro k _ _
      unfold thing_leads.f ldB
      rw [hc, Option.bind_some]
      rcases s2 with z | z
      · rw [if_pos z, if_pos z]
      · rw [if_neg (by omega), if_pos z, if_neg (by omega), if_pos z]
    · rcases s2 with z | z
      · exact Or.inl z
      · exact Or.inr (Or.inl z)
  · have c1 : c < cs.length ∧ mstep ws (allF cs) e x = 1 + (cfl cs c).length := by
      unfold mstep at h2 ⊢
      rw [← hcc] at h2 ⊢
      rw [if_neg c0] at h2 ⊢
      by_cases z : c < (cs.length : Int)
      · rw [measN_c 0 (by omega) z] at h2 ⊢
        split at h2
        · rename_i q; rw [if_pos q]; exact ⟨z, rfl⟩
        · omega
      · have m1 : measN (allF cs) c 0 = 0 := by unfold measN; rw [if_neg (by omega), allF_len, if_neg (by omega)]
        rw [m1] at h2
        split at h2 <;> omega
    have hf := cfl_eq hb.ok (a := c) (by omega) c1.1
    refine ⟨c, 1, (cfl cs c).length, hcc, h0, Or.inl rfl, by omega, by omega, by omega, ?_, ?_, ?_, ?_, ?_, Or.inr (Or.inr ⟨by omega, c1.1, rfl, rfl⟩)⟩
    · unfold thing_count.f
      rw [hc, Option.bind_some, if_neg c0, hm]
      show (if c < ((allF cs).length : Int) ∧ (allF cs).length ≤ 281474976710656 then some (((rdL (allF cs) c).length : Nat) : Int) else none) = _
      rw [allF_len, if_pos ⟨c1.1, by omega⟩, allF_at cs (by omega) c1.1]
    · unfold thing_first.f
      rw [hc, Option.bind_some, if_neg c0]
    · unfold spec_l21Head.f; rw [if_neg c0]
    · intro k hk
      rw [hsz k hk]
      unfold mstep
      rw [← hcc, if_neg c0, measN_c 0 (by omega) c1.1, if_pos (by omega)]
    · intro k k0 k1
      unfold thing_leads.f ldB
      have q1 : ¬ c = -1 := by omega
      have q2 : ¬ c = -2 := by omega
      rw [hc, Option.bind_some]
      simp only [if_neg q1, if_neg q2]
      rw [hm]
      show (if 0 ≤ c ∧ c < ((allF cs).length : Int) ∧ 0 ≤ k ∧ k < ((rdL (allF cs) c).length : Int) then some (rd (rdL (allF cs) c) k != 1) else none) = _
      rw [allF_len, allF_at cs (by omega) c1.1, if_pos ⟨by omega, c1.1, k0, k1⟩]
def refsL (cs : Cs) (c hd s : Int) : List Bool := (List.range s.toNat).map (fun j : Nat => decide (hd ≤ j) && ldB cs c (j - hd))
theorem refsL_at (cs : Cs) (c hd s : Int) {j : Int} (h0 : hd ≤ j) (h00 : 0 ≤ j) (h1 : j < s) : rdOf false (refsL cs c hd s) j = ldB cs c (j - hd) := by
  unfold rdOf refsL
  rw [List.getD_eq_getElem?_getD, List.getElem?_map, List.getElem?_range (by omega)]
  show (decide (hd ≤ ((j.toNat : Nat) : Int)) && ldB cs c (((j.toNat : Nat) : Int) - hd)) = _
  rw [Int.toNat_of_nonneg h00, decide_eq_true h0, Bool.true_and]
theorem refs_l0 {cs : Cs} (h : csOk cs = true) {c hd : Int} {s : Nat} (hs : s ≤ 100) (hh : hd = 1 ∨ hd = 2) (hc : c = -1 ∨ c = -2 ∨ (0 ≤ c ∧ c < cs.length ∧ hd = 1 ∧ (s : Int) = 1 + (cfl cs c).length)) (d : Nat) : ∀ (k j : Nat) (R : List Bool), j + d = s → hd ≤ (j : Int) → d + 30 ≤ k → R.length = s → (∀ i : Nat, i < s → R.getD i false = (decide (hd ≤ (i : Int) ∧ i < j) && ldB cs c ((i : Int) - hd))) →
    spec_l21Refs.l0 k cs R c j = some (refsL cs c hd s) := by
  induction d with
  | zero =>
    intro k j R hj hj2 hk hR hi
    obtain ⟨k, rfl⟩ : ∃ m, k = m + 1 := ⟨k - 1, by omega⟩
    rw [spec_l21Refs.l0, if_neg (by omega)]
    congr 1
    refine List.ext_getElem (by rw [hR]; simp [refsL]) (fun i h1 h2 => ?_)
    have e1 := hi i (by omega)
    rw [List.getD_eq_getElem?_getD, List.getElem?_eq_getElem h1] at e1
    have e2 : (refsL cs c hd s)[i] = (decide (hd ≤ (i : Int)) && ldB cs c ((i : Int) - hd)) := by simp [refsL]
    rw [e2]
    have e3 : (hd ≤ (i : Int) ∧ i < j) ↔ hd ≤ (i : Int) := ⟨fun z => z.1, fun z => ⟨z, by omega⟩⟩
    simp only [e3] at e1
    exact e1
  | succ d ih =>
    intro k j R hj hj2 hk hR hi
    obtain ⟨k, rfl⟩ : ∃ m, k = m + 1 := ⟨k - 1, by omega⟩
    have step : ∀ b, b = ldB cs c ((j : Int) - hd) → spec_l21Refs.l0 k cs (R.set ((j : Int)).toNat b) c (wrap64 ((j : Int) + 1)) = some (refsL cs c hd s) := fun b hbb => by
      rw [wrap_inc (n := 1000) (by omega) (by omega) (by omega), Int.toNat_natCast]
      have := ih k (j + 1) (R.set j b) (by omega) (by omega) (by omega) (by rw [List.length_set, hR]) (fun i hi2 => by
        have h3 := hi i hi2
        rw [List.getD_eq_getElem?_getD] at h3 ⊢
        rw [List.getElem?_set]
        by_cases q : j = i
        · rw [if_pos q, if_pos (by omega)]
          subst q
          rw [decide_eq_true (show hd ≤ (j : Int) ∧ j < j + 1 from ⟨hj2, by omega⟩), Bool.true_and, hbb]; rfl
        · rw [if_neg q, h3]
          have : (hd ≤ (i : Int) ∧ i < j + 1) ↔ (hd ≤ (i : Int) ∧ i < j) := by omega
          simp only [this])
      rw [show ((j + 1 : Nat) : Int) = (j : Int) + 1 by omega] at this
      exact this
    rw [spec_l21Refs.l0, if_pos (by omega)]
    rcases hc with z | z | z
    · rw [if_neg (by omega), if_neg (by omega), if_pos (by omega)]
      exact step _ (by unfold ldB; rw [if_pos z])
    · rw [if_pos z, if_pos (by omega)]
      exact step _ (by unfold ldB; rw [if_neg (by omega), if_pos z])
    · obtain ⟨z0, z1, z2, z3⟩ := z
      rw [if_neg (by omega), if_pos (by omega), fields_same, (cfl_eq h z0 z1).2 k (by omega)]
      simp only [Option.bind_some]
      rw [wrap64_of (n := (j : Int) - 1) (by omega) (by omega), if_pos (by omega), if_pos (by omega), if_pos (by omega)]
      exact step _ (by unfold ldB; rw [if_neg (by omega), if_neg (by omega), z2])
end Go.Proofs.Ytjnbilfhpdkcbaa.Pure
namespace Go.Proofs.Ytjnbilfhpdkcbaa.Pure
open Go.RowKit Go.Proofs.Ytjnbilfhpdkcbaa.K Go.Proofs.YtjnbilfhpdkcbaaW.PrintWords Go.Proofs.YtjnbilfhpdkcbaaW.PrintLast Go.Proofs.YtjnbilfhpdkcbaaW.PrintMore
set_option linter.unusedVariables false
set_option linter.unusedSimpArgs false
theorem mem_map1 (W : List Int) (v : Int) : v ∈ W.map (· + 1) ↔ v - 1 ∈ W := by
  rw [List.mem_map]
  constructor
  · rintro ⟨a, ha, rfl⟩; rw [show a + 1 - 1 = a by omega]; exact ha
  · intro h; exact ⟨v - 1, h, by omega⟩
theorem map1_sorted {W : List Int} (h : W.Pairwise (· < ·)) : (W.map (· + 1)).Pairwise (· < ·) := by
  rw [List.pairwise_map]; exact h.imp (fun hab => by omega)
theorem has_eq {cs : Cs} {ws W : List Int} (hw : Wlk cs ws W) (m : Mm) (hm : m.begins = W.map (· + 1)) (v : Int) : ∀ q, 300 ≤ q → memory_has.f q m v = some (decide (v - 1 ∈ W)) := by
  intro q hq
  have hl := hw.len
  obtain ⟨p, _, h, _, _⟩ := search_eq (map1_sorted hw.srt) (by rw [List.length_map]; omega) v
  unfold memory_has.f
  rw [hm, h q (by rw [List.length_map]; omega), Option.bind_some]
  simp only [mem_map1]
theorem wlk_range {cs : Cs} {ws W : List Int} (hw : Wlk cs ws W) {x : Int} (hx : x ∈ W) : 0 ≤ x ∧ x < ws.length := by
  obtain ⟨e, h1, h2, h3, _⟩ := hw.mem x hx
  omega
theorem lead_eq {cs : Cs} {ws W : List Int} (hw : Wlk cs ws W) (hn : ws.length ≤ 1048576) (v : Int) : spec_l21Lead.f (startsL W ws.length) v = some (decide (v = 0) || decide (v - 1 ∈ W)) := by
  unfold spec_l21Lead.f
  by_cases c0 : v = 0
  · rw [if_pos c0, decide_eq_true c0]; rfl
  rw [if_neg c0, spec_l6In_eq, startsL_len, decide_eq_false c0, Bool.false_or]
  simp only [Option.bind_some, decide_eq_true_eq]
  by_cases c1 : 1 ≤ v ∧ v ≤ (ws.length : Int)
  · rw [if_pos c1, wrap64_of (n := v - 1) (by omega) (by omega), if_pos (by omega), if_pos (by omega), startsL_at W ws.length (by omega) (by omega)]
  · rw [if_neg c1, decide_eq_false (fun hv => c1 (by have := wlk_range hw hv; omega))]
theorem word_eq {cs : Cs} {ws : List Int} {y t o : Int} {cards : List Bool} (hb : Bnd cs ws y t o cards) {W : List Int} (hw : Wlk cs ws W) (m : Mm) (hm : m = ⟨ws, y, t, o, cards, allF cs, W.map (· + 1)⟩)
    {x hd cnt c : Int} (h0 : 0 ≤ x) (hhd : hd = 1 ∨ hd = 2) (hcn : 0 ≤ cnt) (hsz : x + hd + cnt ≤ ws.length) (hfi : thing_first.f m (x + 1) = some (x + hd)) (hle : ∀ k, 0 ≤ k → k < cnt → thing_leads.f m (x + 1) k = some (ldB cs c k))
    (R : List Bool) (hR : R = refsL cs c hd (hd + cnt)) {k : Int} (k0 : 0 ≤ k) (k1 : k < cnt) :
    ∃ b, (∀ q, 300 ≤ q → wordAt q m (x + 1) k = some b) ∧ ∀ κ : Nat, spec_l21Thing.l0 (κ + 2) (startsL W ws.length) x R (hd + k) ws y t o cards = if b = true then spec_l21Thing.l0 κ (startsL W ws.length) x R (hd + k + 1) ws y t o cards else some false := by
  have n0 := hb.n0; have n1 := hb.n1; have y0 := hb.y0; have y1 := hb.y1; have cd := hb.cd
  have hRl : (R.length : Int) = hd + cnt := by rw [hR]; unfold refsL; rw [List.length_map, List.length_range]; omega
  have hRk : rdOf false R (hd + k) = ldB cs c k := by rw [hR, refsL_at cs c hd (hd + cnt) (by omega) (by omega) (by omega), show hd + k - hd = k by omega]
  obtain ⟨v, hv⟩ : ∃ v, v = rd ws (x + (hd + k)) := ⟨_, rfl⟩
  have hmw : m.words = ws := by rw [hm]
  have hA : ∀ q, wordAt q m (x + 1) k = if ldB cs c k = true then (if v = 0 then some true else (memory_has.f q m v).bind fun h => if h = true then cardOk m (x + 1) v (x + (hd + k)) else some false) else impl_isWord.f v := fun q => by
    unfold wordAt
    rw [hfi, Option.bind_some, hmw, if_pos (by omega), hle k k0 k1, Option.bind_some, show x + hd + k = x + (hd + k) by omega, ← hv]
  have w1 : wrap64 (x + (hd + k)) = x + (hd + k) := wrap64_of (by omega) (by omega)
  have w2 : wrap64 (hd + k + 1) = hd + k + 1 := wrap64_of (by omega) (by omega)
  have hB : ∀ κ : Nat, spec_l21Thing.l0 (κ + 2) (startsL W ws.length) x R (hd + k) ws y t o cards = if ldB cs c k = true then spec_l21Thing.j1 (κ + 1) (startsL W ws.length) x R (hd + k) v (!(decide (v = 0) || decide (v - 1 ∈ W))) ws y t o cards else spec_l21Thing.j1 (κ + 1) (startsL W ws.length) x R (hd + k) v (!(decide (-128 ≤ v ∧ v ≤ 127))) ws y t o cards := fun κ => by
    rw [spec_l21Thing.l0, if_pos (by omega), w1, if_pos (by omega), if_pos (by omega), if_pos (by omega), hRk, ← hv, lead_eq hw (by omega)]
    simp only [Option.bind_some]
    by_cases c0 : ldB cs c k = true
    · rw [if_pos c0, if_pos c0]
      cases (decide (v = 0) || decide (v - 1 ∈ W)) <;> rfl
    · rw [if_neg c0, if_neg c0]
      unfold spec_l1Word.f
      rw [spec_l6In_eq]
      rfl
  have hJ : ∀ (κ : Nat) (bad : Bool), spec_l21Thing.j1 (κ + 1) (startsL W ws.length) x R (hd + k) v bad ws y t o cards = if bad = true then some false else (if ldB cs c k = true then (if x ≥ y then (if 1 ≤ v ∧ v ≤ y then (if rdOf false cards ((x + (hd + k) - y) / 4) = true then spec_l21Thing.l0 κ (startsL W ws.length) x R (hd + k + 1) ws y t o cards else some false) else spec_l21Thing.l0 κ (startsL W ws.length) x R (hd + k + 1) ws y t o cards) else spec_l21Thing.l0 κ (startsL W ws.length) x R (hd + k + 1) ws y t o cards) else spec_l21Thing.l0 κ (startsL W ws.length) x R (hd + k + 1) ws y t o cards) := fun κ bad => by
    rw [spec_l21Thing.j1, w2, w1]
    cases bad with
    | true => rw [if_pos rfl, if_pos rfl]
    | false =>
      simp only [Bool.false_eq_true, if_false]
      rw [if_pos (show 0 ≤ hd + k by omega), if_pos (show hd + k < (R.length : Int) by omega), hRk]
      by_cases c0 : ldB cs c k = true
      · rw [if_pos c0, if_pos c0]
        by_cases c1 : x ≥ y
        · rw [if_pos c1, if_pos c1, spec_l6In_eq]
          simp only [Option.bind_some, decide_eq_true_eq]
          by_cases c2 : 1 ≤ v ∧ v ≤ y
          · rw [if_pos c2, if_pos c2, wrap64_of (n := x + (hd + k) - y) (by omega) (by omega), Int.tdiv_eq_ediv_of_nonneg (by omega), wrap64_of (n := (x + (hd + k) - y) / 4) (by omega) (by omega), if_pos (by omega), if_pos (by omega)]
          · rw [if_neg c2, if_neg c2]
        · rw [if_neg c1, if_neg c1]
      · rw [if_neg c0, if_neg c0]
  by_cases c0 : ldB cs c k = true
  case neg =>
    refine ⟨decide (-128 ≤ v ∧ v ≤ 127), fun q hq => ?_, fun κ => ?_⟩
    · rw [hA, if_neg c0]
      unfold impl_isWord.f
      by_cases z : v ≥ -128
      · rw [if_pos z]; simp [show -128 ≤ v from z]
      · rw [if_neg z]; simp [show ¬ -128 ≤ v from z]
    · rw [hB, if_neg c0, hJ, if_neg c0]
      cases decide (-128 ≤ v ∧ v ≤ 127) <;> rfl
  case pos =>
  by_cases c1 : v = 0
  · refine ⟨true, fun q hq => by rw [hA, if_pos c0, if_pos c1], fun κ => ?_⟩
    rw [hB, if_pos c0, hJ, decide_eq_true c1, if_pos c0]
    rw [if_neg (by simp), if_pos rfl]
    by_cases c2 : x ≥ y
    · rw [if_pos c2, if_neg (by omega)]
    · rw [if_neg c2]
  have hq0 := has_eq hw m (by rw [hm]) v
  by_cases c2 : v - 1 ∈ W
  case neg =>
    refine ⟨false, fun q hq => by rw [hA, if_pos c0, if_neg c1, hq0 q hq, decide_eq_false c2]; rfl, fun κ => ?_⟩
    rw [hB, if_pos c0, hJ, decide_eq_false c1, decide_eq_false c2]
    rfl
  case pos =>
  have hvr := wlk_range hw c2
  have hA2 : ∀ q, 300 ≤ q → wordAt q m (x + 1) k = cardOk m (x + 1) v (x + (hd + k)) := fun q hq => by
    rw [hA, if_pos c0, if_neg c1, hq0 q hq, decide_eq_true c2]; rfl
  have hB2 : ∀ κ : Nat, spec_l21Thing.l0 (κ + 2) (startsL W ws.length) x R (hd + k) ws y t o cards = (if x ≥ y then (if 1 ≤ v ∧ v ≤ y then (if rdOf false cards ((x + (hd + k) - y) / 4) = true then spec_l21Thing.l0 κ (startsL W ws.length) x R (hd + k + 1) ws y t o cards else some false) else spec_l21Thing.l0 κ (startsL W ws.length) x R (hd + k + 1) ws y t o cards) else spec_l21Thing.l0 κ (startsL W ws.length) x R (hd + k + 1) ws y t o cards) := fun κ => by
    rw [hB, if_pos c0, hJ, decide_eq_true c2, if_pos c0]
    rw [if_neg (by simp)]
  have hC : cardOk m (x + 1) v (x + (hd + k)) = if x ≥ y then (if 1 ≤ v ∧ v ≤ y then some (rdOf false cards ((x + (hd + k) - y) / 4)) else some true) else some true := by
    unfold cardOk
    rw [hm]
    show (if x + 1 > y then (if v > y then some true else (if 0 ≤ wrap64 (Int.tdiv (wrap64 (x + (hd + k) - y)) 4) ∧ wrap64 (Int.tdiv (wrap64 (x + (hd + k) - y)) 4) < (cards.length : Int) then some (rdOf false cards (wrap64 (Int.tdiv (wrap64 (x + (hd + k) - y)) 4))) else none)) else some true) = _
    by_cases z1 : x ≥ y
    · rw [if_pos (show x + 1 > y by omega), if_pos z1]
      by_cases z2 : v > y
      · rw [if_pos z2, if_neg (by omega)]
      · rw [if_neg z2, if_pos (show 1 ≤ v ∧ v ≤ y by omega), wrap64_of (n := x + (hd + k) - y) (by omega) (by omega), Int.tdiv_eq_ediv_of_nonneg (by omega), wrap64_of (n := (x + (hd + k) - y) / 4) (by omega) (by omega), if_pos (by omega)]
    · rw [if_neg (show ¬ x + 1 > y by omega), if_neg z1]
  by_cases z1 : x ≥ y
  · by_cases z2 : 1 ≤ v ∧ v ≤ y
    · refine ⟨rdOf false cards ((x + (hd + k) - y) / 4), fun q hq => by rw [hA2 q hq, hC, if_pos z1, if_pos z2], fun κ => by rw [hB2, if_pos z1, if_pos z2]⟩
    · exact ⟨true, fun q hq => by rw [hA2 q hq, hC, if_pos z1, if_neg z2], fun κ => by rw [hB2, if_pos z1, if_neg z2, if_pos rfl]⟩
  · exact ⟨true, fun q hq => by rw [hA2 q hq, hC, if_neg z1], fun κ => by rw [hB2, if_neg z1, if_pos rfl]⟩
theorem thing_eq {cs : Cs} {ws : List Int} {y t o : Int} {cards : List Bool} (hb : Bnd cs ws y t o cards) {W : List Int} (hw : Wlk cs ws W) (m : Mm) (hm : m = ⟨ws, y, t, o, cards, allF cs, W.map (· + 1)⟩) {x : Int} (hx : x ∈ W) :
    ∃ b, (∀ q, 300 ≤ q → wordsOk.f q m (x + 1) = some b) ∧ ∀ k, 200 ≤ k → spec_l21Thing.f k cs ws y t o cards (startsL W ws.length) x = some b := by
  obtain ⟨c, hd, cnt, hc, h0, hhd, hcn, hcn8, hsz, hco, hfi, hhe, hl21, hle, hcc⟩ := thing_facts hb hw m hm hx
  have n0 := hb.n0; have n1 := hb.n1; have y0 := hb.y0; have y1 := hb.y1
  have key : ∀ d : Nat, ∀ k : Int, 0 ≤ k → k + d = cnt → ∃ b, (∀ q, 300 ≤ q → ∀ j : Nat, d + 1 ≤ j → wordsOk.l q m (x + 1) cnt j k = some b) ∧ ∀ κ : Nat, 2 * d + 1 ≤ κ → spec_l21Thing.l0 κ (startsL W ws.length) x (refsL cs c hd (hd + cnt)) (hd + k) ws y t o cards = some b := by
    intro d
    induction d with
    | zero =>
      intro k k0 kd
      refine ⟨true, fun q hq j hj => ?_, fun κ hκ => ?_⟩
      · obtain ⟨j, rfl⟩ : ∃ i, j = i + 1 := ⟨j - 1, by omega⟩
        rw [wordsOk.l, if_neg (by omega)]
      · obtain ⟨κ, rfl⟩ : ∃ i, κ = i + 1 := ⟨κ - 1, by omega⟩
        have hRl : ((refsL cs c hd (hd + cnt)).length : Int) = hd + cnt := by unfold refsL; rw [List.length_map, List.length_range]; omega
        rw [spec_l21Thing.l0, if_neg (by omega)]
    | succ d ih =>
      intro k k0 kd
      obtain ⟨b, hb1, hb2⟩ := word_eq hb hw m hm h0 hhd hcn hsz hfi hle _ rfl k0 (show k < cnt by omega)
      obtain ⟨b', h1, h2⟩ := ih (k + 1) (by omega) (by omega)
      cases b with
      | true =>
        refine ⟨b', fun q hq j hj => ?_, fun κ hκ => ?_⟩
        · obtain ⟨j, rfl⟩ : ∃ i, j = i + 1 := ⟨j - 1, by omega⟩
          rw [wordsOk.l, if_pos (by omega), hb1 q hq, Option.bind_some, if_pos rfl]
          exact h1 q hq j (by omega)
        · obtain ⟨κ, rfl⟩ : ∃ i, κ = i + 2 := ⟨κ - 2, by omega⟩
          rw [hb2 κ, if_pos rfl, show hd + k + 1 = hd + (k + 1) by omega]
          exact h2 κ (by omega)
      | false =>
        refine ⟨false, fun q hq j hj => ?_, fun κ hκ => ?_⟩
        · obtain ⟨j, rfl⟩ : ∃ i, j = i + 1 := ⟨j - 1, by omega⟩
          rw [wordsOk.l, if_pos (by omega), hb1 q hq, Option.bind_some, if_neg (by simp)]
        · obtain ⟨κ, rfl⟩ : ∃ i, κ = i + 2 := ⟨κ - 2, by omega⟩
          rw [hb2 κ, if_neg (by simp)]
  obtain ⟨b, h1, h2⟩ := key cnt.toNat 0 (by omega) (by omega)
  refine ⟨b, fun q hq => ?_, fun k hk => ?_⟩
  · unfold wordsOk.f
    rw [hco, Option.bind_some, if_pos (by omega)]
    exact h1 q hq _ (by omega)
  · unfold spec_l21Thing.f spec_l21Refs.f
    rw [hl21 k (by omega)]
    simp only [Option.bind_some]
    rw [if_pos (by omega), if_pos (by omega), if_pos h0, if_pos (by omega), ← hc, hhe]
    simp only [Option.bind_some]
    have hr := refs_l0 (cs := cs) hb.ok (c := c) (hd := hd) (s := (hd + cnt).toNat) (by omega) hhd (by rcases hcc with z | z | z; exact Or.inl z; exact Or.inr (Or.inl z); exact Or.inr (Or.inr ⟨z.1, z.2.1, z.2.2.1, by omega⟩)) cnt.toNat k hd.toNat (List.replicate (hd + cnt).toNat false) (by omega) (by omega) (by omega) (by simp) (fun i hi => by
      rw [decide_eq_false (show ¬ (hd ≤ (i : Int) ∧ i < hd.toNat) by omega)]
      simp [List.getD_eq_getElem?_getD, hi])
    rw [show ((hd.toNat : Nat) : Int) = hd by omega] at hr
    rw [hr]
    simp only [Option.bind_some]
    rw [if_pos (by omega), if_pos (by omega)]
    have := h2 k (by omega)
    rw [show hd + 0 = hd by omega, show ((hd + cnt).toNat : Int) = hd + cnt by omega] at *
    exact this
end Go.Proofs.Ytjnbilfhpdkcbaa.Pure
namespace Go.Proofs.Ytjnbilfhpdkcbaa.Pure
open Go.RowKit Go.Proofs.Ytjnbilfhpdkcbaa.K Go.Proofs.YtjnbilfhpdkcbaaW.PrintWords Go.Proofs.YtjnbilfhpdkcbaaW.PrintLast Go.Proofs.YtjnbilfhpdkcbaaW.PrintMore
set_option linter.unusedVariables false
set_option linter.unusedSimpArgs false
theorem all_drop_iff (l : List Int) (T : Nat) : (l.drop T).all (· == 0) = true ↔ ∀ j : Nat, T ≤ j → j < l.length → l.getD j 0 = 0 := by
  rw [List.all_eq_true]
  constructor
  · intro h j h1 h2
    have hm : l[j] ∈ l.drop T := by
      rw [List.mem_iff_getElem]
      refine ⟨j - T, by rw [List.length_drop]; omega, ?_⟩
      simp only [List.getElem_drop, show T + (j - T) = j by omega]
    have := h _ hm
    rw [List.getD_eq_getElem?_getD, List.getElem?_eq_getElem h2]
    simpa using this
  · intro h x hx
    obtain ⟨i, hi, rfl⟩ := List.getElem_of_mem hx
    rw [List.length_drop] at hi
    have := h (T + i) (by omega) (by omega)
    rw [List.getD_eq_getElem?_getD, List.getElem?_eq_getElem (by omega)] at this
    rw [List.getElem_drop]
    simpa using this
def Zr (ws : List Int) (y t o : Int) (i : Nat) : Prop := ((t ≤ i ∧ (i : Int) ≤ y - 1) ∨ (i : Int) ≥ o) → ws.getD i 0 = 0
theorem bounds_l0 {ws : List Int} {y t o : Int} {cards : List Bool} (hn : ws.length ≤ 1048576) (hy : 0 ≤ y) (hy2 : y ≤ 40) (d : Nat) : ∀ (k i : Nat), i + d = ws.length → d < k → ∃ b, spec_l21Bounds.l0 k ws.length i ws y t o cards = some b ∧ (b = true ↔ ∀ j : Nat, i ≤ j → j < ws.length → Zr ws y t o j) := by
  induction d with
  | zero =>
    intro k i hi hk
    obtain ⟨k, rfl⟩ : ∃ m, k = m + 1 := ⟨k - 1, by omega⟩
    refine ⟨true, by rw [spec_l21Bounds.l0, if_neg (by omega)], by simp only [true_iff]; intro j h1 h2; omega⟩
  | succ d ih =>
    intro k i hi hk
    obtain ⟨k, rfl⟩ : ∃ m, k = m + 1 := ⟨k - 1, by omega⟩
    have hlt : i < ws.length := by omega
    obtain ⟨b, h1, h2⟩ := ih k (i + 1) (by omega) (by omega)
    rw [show ((i + 1 : Nat) : Int) = wrap64 ((i : Int) + 1) by rw [wrap_inc (n := 1048577) (by omega) (by omega) (by omega)]; omega] at h1
    have w : wrap64 (y - 1) = y - 1 := wrap64_of (by omega) (by omega)
    by_cases z : Zr ws y t o i
    · refine ⟨b, ?_, h2.trans ⟨fun h j h3 h4 => ?_, fun h j h3 h4 => h j (by omega) h4⟩⟩
      · rw [spec_l21Bounds.l0, if_pos (by omega), spec_l6In_eq, w]
        simp only [Option.bind_some, decide_eq_true_eq]
        by_cases c1 : t ≤ (i : Int) ∧ (i : Int) ≤ y - 1
        · rw [if_pos c1, if_pos (by omega), if_pos (by omega), rd_cast, if_pos (z (Or.inl c1))]
          exact h1
        · rw [if_neg c1]
          by_cases c2 : (i : Int) ≥ o
          · rw [if_pos c2, if_pos (by omega), if_pos (by omega), rd_cast, if_pos (z (Or.inr c2))]
            exact h1
          · rw [if_neg c2]
            exact h1
      · rcases Nat.eq_or_lt_of_le h3 with q | q
        · subst q; exact z
        · exact h j (by omega) h4
    · refine ⟨false, ?_, by constructor; intro h; simp at h; intro h; exact absurd (h i (Nat.le_refl _) hlt) z⟩
      have z2 : ((t ≤ (i : Int) ∧ (i : Int) ≤ y - 1) ∨ (i : Int) ≥ o) ∧ ¬ ws.getD i 0 = 0 := by
        unfold Zr at z
        exact ⟨Classical.byContradiction fun q => z (fun p => absurd p q), fun q => z (fun _ => q)⟩
      rw [spec_l21Bounds.l0, if_pos (by omega), spec_l6In_eq, w]
      simp only [Option.bind_some, decide_eq_true_eq]
      by_cases c1 : t ≤ (i : Int) ∧ (i : Int) ≤ y - 1
      · rw [if_pos c1, if_pos (by omega), if_pos (by omega), rd_cast, if_neg z2.2]
      · rw [if_neg c1, if_pos (z2.1.resolve_left c1), if_pos (by omega), if_pos (by omega), rd_cast, if_neg z2.2]
theorem bounds_eq {cs : Cs} (hf : fewF cs) (hok : csOk cs = true) {ws : List Int} {y t o : Int} {cards : List Bool} (hn : ws.length ≤ 1048576) (hc : cards.length ≤ 1048576) :
    ∃ p, impl_partsOk.f ws y t o cards = some p ∧ (∀ k, 4000000 ≤ k → spec_l21Bounds.f k cs ws y t o cards = some p) ∧ (p = true → Bnd cs ws y t o cards) := by
  have bad : ∀ k, 1 ≤ k → spec_l21Bounds.j0 k ws.length true ws y t o cards = some false := fun k hk => by
    obtain ⟨k, rfl⟩ : ∃ m, k = m + 1 := ⟨k - 1, by omega⟩
    rw [spec_l21Bounds.j0, if_pos rfl]
  have hp : impl_partsOk.f ws y t o cards = some (pOk ws y t o cards 0 && pOk ws y t o cards 1 && pOk ws y t o cards 2 && pOk ws y t o cards 3 && pOk ws y t o cards 4 && pOk ws y t o cards 5 && pOk ws y t o cards 6) := by
    unfold impl_partsOk.f; rw [if_pos (by omega)]
  rw [hp]
  have hs : ∀ k, 4000000 ≤ k → spec_l21Bounds.f k cs ws y t o cards = if 0 ≤ y ∧ y ≤ 40 then (if 14 ≤ wrap64 ((ws.length : Int) - y) ∧ wrap64 ((ws.length : Int) - y) ≤ 120 then (if 0 ≤ t ∧ t ≤ y then (if y ≤ o ∧ o ≤ ws.length then spec_l21Bounds.j0 k ws.length ((cards.length : Int) != cardsN (wrap64 ((ws.length : Int) - y))) ws y t o cards else some false) else some false) else some false) else some false := fun k hk => by
    unfold spec_l21Bounds.f
    rw [spec_ClassesOk_eq hf k (by omega), hok]
    simp only [Option.bind_some, if_true, spec_l6In_eq, decide_eq_true_eq, bad k (by omega)]
    rfl
  by_cases c0 : 0 ≤ y ∧ y ≤ 40
  case neg =>
    refine ⟨_, rfl, fun k hk => ?_, fun h => ?_⟩
    · rw [hs k hk, if_neg c0, show pOk ws y t o cards 0 = false from decide_eq_false c0]; rfl
    · rw [show pOk ws y t o cards 0 = false from decide_eq_false c0] at h; simp at h
  case pos =>
  have e0 : pOk ws y t o cards 0 = true := decide_eq_true c0
  have w : wrap64 ((ws.length : Int) - y) = (ws.length : Int) - y := wrap64_of (by omega) (by omega)
  rw [e0, Bool.true_and]
  by_cases c1 : 14 ≤ wrap64 ((ws.length : Int) - y) ∧ wrap64 ((ws.length : Int) - y) ≤ 120
  case neg =>
    refine ⟨_, rfl, fun k hk => ?_, fun h => ?_⟩
    · rw [hs k hk, if_pos c0, if_neg c1, show pOk ws y t o cards 1 = false from decide_eq_false c1]; rfl
    · rw [show pOk ws y t o cards 1 = false from decide_eq_false c1] at h; simp at h
  case pos =>
  have e1 : pOk ws y t o cards 1 = true := decide_eq_true c1
  rw [e1, Bool.true_and]
  by_cases c2 : 0 ≤ t ∧ t ≤ y
  case neg =>
    refine ⟨_, rfl, fun k hk => ?_, fun h => ?_⟩
    · rw [hs k hk, if_pos c0, if_pos c1, if_neg c2, show pOk ws y t o cards 2 = false from decide_eq_false c2]; rfl
    · rw [show pOk ws y t o cards 2 = false from decide_eq_false c2] at h; simp at h
  case pos =>
  have e2 : pOk ws y t o cards 2 = true := decide_eq_true c2
  rw [e2, Bool.true_and]
  by_cases c3 : y ≤ o ∧ o ≤ (ws.length : Int)
  case neg =>
    refine ⟨_, rfl, fun k hk => ?_, fun h => ?_⟩
    · rw [hs k hk, if_pos c0, if_pos c1, if_pos c2, if_neg c3, show pOk ws y t o cards 3 = false from decide_eq_false c3]; rfl
    · rw [show pOk ws y t o cards 3 = false from decide_eq_false c3] at h; simp at h
  case pos =>
  have e3 : pOk ws y t o cards 3 = true := decide_eq_true c3
  rw [e3, Bool.true_and]
  by_cases c4 : (cards.length : Int) = cardsN (wrap64 ((ws.length : Int) - y))
  case neg =>
    have e4 : pOk ws y t o cards 4 = false := beq_eq_false_iff_ne.mpr c4
    refine ⟨_, rfl, fun k hk => ?_, fun h => ?_⟩
    · rw [hs k hk, if_pos c0, if_pos c1, if_pos c2, if_pos c3, bne_iff_ne.mpr c4, bad k (by omega), e4]; rfl
    · rw [e4] at h; simp at h
  case pos =>
  have e4 : pOk ws y t o cards 4 = true := beq_iff_eq.mpr c4
  rw [e4, Bool.true_and]
  have h5 : pOk ws y t o cards 5 = true ↔ ∀ j : Nat, t ≤ j → (j : Int) ≤ y - 1 → ws.getD j 0 = 0 := by
    show ((ws.take y.toNat).drop t.toNat).all (· == 0) = true ↔ _
    rw [all_drop_iff]
    constructor
    · intro h j h1 h2
      have := h j (by omega) (by rw [List.length_take]; omega)
      rw [List.getD_eq_getElem?_getD, List.getElem?_take, if_pos (by omega)] at this
      rw [List.getD_eq_getElem?_getD]; exact this
    · intro h j h1 h2
      rw [List.length_take] at h2
      rw [List.getD_eq_getElem?_getD, List.getElem?_take, if_pos (by omega)]
      have := h j (by omega) (by omega)
      rw [List.getD_eq_getElem?_getD] at this; exact this
  have h6 : pOk ws y t o cards 6 = true ↔ ∀ j : Nat, o ≤ j → j < ws.length → ws.getD j 0 = 0 := by
    show ((ws.drop y.toNat).drop (o - y).toNat).all (· == 0) = true ↔ _
    rw [List.drop_drop, all_drop_iff]
    constructor
    · intro h j h1 h2; exact h j (by omega) h2
    · intro h j h1 h2; exact h j (by omega) h2
  obtain ⟨b, hb1, hb2⟩ := bounds_l0 (ws := ws) (y := y) (t := t) (o := o) (cards := cards) hn c0.1 c0.2 ws.length (ws.length + 1) 0 (by omega) (by omega)
  have eb : (pOk ws y t o cards 5 && pOk ws y t o cards 6) = b := by
    rw [Bool.eq_iff_iff, Bool.and_eq_true, h5, h6, hb2]
    constructor
    · rintro ⟨q1, q2⟩ j _ hj z
      rcases z with z | z
      · exact q1 j z.1 z.2
      · exact q2 j z hj
    · intro q
      exact ⟨fun j h1 h2 => q j (by omega) (by omega) (Or.inl ⟨h1, h2⟩), fun j h1 h2 => q j (by omega) h2 (Or.inr h1)⟩
  refine ⟨_, rfl, fun k hk => ?_, fun _ => ?_⟩
  · rw [hs k hk, if_pos c0, if_pos c1, if_pos c2, if_pos c3, eb]
    obtain ⟨k, rfl⟩ : ∃ m, k = m + 1 := ⟨k - 1, by omega⟩
    have e : ((cards.length : Int) != cardsN (wrap64 ((ws.length : Int) - y))) = false := by rw [← c4]; simp
    rw [e, spec_l21Bounds.j0, if_neg (by simp)]
    exact at_rounds (g := fun k => spec_l21Bounds.l0 k ws.length 0 ws y t o cards) (fun k => (spec_l21Bounds.mono_l k).2 _ _ _ _ _ _ _) (show ws.length + 1 ≤ k by omega) hb1
  · have w4 : cardsN (wrap64 ((ws.length : Int) - y)) = ((ws.length : Int) - y + 3) / 4 := by
      rw [w] at c1 ⊢
      unfold cardsN
      rw [wrap64_of (n := (ws.length : Int) - y + 4) (by omega) (by omega), wrap64_of (n := (ws.length : Int) - y + 4 - 1) (by omega) (by omega), Int.tdiv_eq_ediv_of_nonneg (by omega), show (ws.length : Int) - y + 4 - 1 = (ws.length : Int) - y + 3 by omega, wrap64_of (by omega) (by omega)]
    rw [w] at c1
    exact ⟨hok, c0.1, c0.2, c1.1, c1.2, c2.1, c2.2, c3.1, c3.2, by rw [c4, w4]⟩
theorem things_eq {cs : Cs} {ws : List Int} {y t o : Int} {cards : List Bool} (hb : Bnd cs ws y t o cards) {W : List Int} (hw : Wlk cs ws W) (m : Mm) (hm : m = ⟨ws, y, t, o, cards, allF cs, W.map (· + 1)⟩) :
    ∃ b, (∀ q, 300 ≤ q → thingsOk q m (W.map (· + 1)) = some b) ∧ ∀ k, 500 ≤ k → spec_MemOk.l0 k cs W (startsL W ws.length) 0 ws y t o cards = some b := by
  have hlen := hw.len
  have key : ∀ d i : Nat, i + d = W.length → ∃ b, (∀ q, 300 ≤ q → thingsOk q m ((W.drop i).map (· + 1)) = some b) ∧ ∀ k, d + 201 ≤ k → spec_MemOk.l0 k cs W (startsL W ws.length) i ws y t o cards = some b := by
    intro d
    induction d with
    | zero =>
      intro i hi
      refine ⟨true, fun q _ => by rw [List.drop_eq_nil_of_le (by omega)]; rfl, fun k hk => ?_⟩
      obtain ⟨k, rfl⟩ : ∃ m, k = m + 1 := ⟨k - 1, by omega⟩
      rw [spec_MemOk.l0, if_neg (by omega)]
    | succ d ih =>
      intro i hi
      have hlt : i < W.length := by omega
      obtain ⟨b, h1, h2⟩ := thing_eq hb hw m hm (List.getElem_mem hlt)
      obtain ⟨b', h3, h4⟩ := ih (i + 1) (by omega)
      have hd : (W.drop i).map (· + 1) = (W[i] + 1) :: (W.drop (i + 1)).map (· + 1) := by rw [List.drop_eq_getElem_cons hlt]; rfl
      refine ⟨if b = true then b' else false, fun q hq => ?_, fun k hk => ?_⟩
      · rw [hd, thingsOk, h1 q hq, Option.bind_some]
        cases b with
        | true => exact h3 q hq
        | false => rfl
      · obtain ⟨k, rfl⟩ : ∃ m, k = m + 1 := ⟨k - 1, by omega⟩
        rw [spec_MemOk.l0, if_pos (by omega), if_pos (by omega), rd_mem hlt, h2 k (by omega), Option.bind_some, wrap_inc (n := 1048577) (by omega) (by omega) (by omega)]
        cases b with
        | true => have := h4 k (by omega); rw [show ((i + 1 : Nat) : Int) = (i : Int) + 1 by omega] at this; exact this
        | false => rfl
  obtain ⟨b, h1, h2⟩ := key W.length 0 (by omega)
  exact ⟨b, h1, fun k hk => h2 k (by omega)⟩
theorem open_eq {cs : Cs} (hf : fewF cs) {ws : List Int} {y t o : Int} {cards : List Bool} (hn : ws.length ≤ 1048576) (hc : cards.length ≤ 1048576) :
    ∃ r : Option Mm, (∀ k, 4000000 ≤ k → mopen k k cs ws y t o cards = some r) ∧ (∀ k, 4000000 ≤ k → spec_MemOk.f k cs ws y t o cards = some r.isSome) ∧
      (∀ m, r = some m → ∃ W, Bnd cs ws y t o cards ∧ Wlk cs ws W ∧ m = ⟨ws, y, t, o, cards, allF cs, W.map (· + 1)⟩ ∧ ∀ k, 4000000 ≤ k → spec_l21Walk.f k cs ws y t o cards = some (W, true)) := by
  cases hok : csOk cs with
  | false =>
    refine ⟨none, fun k hk => ?_, fun k hk => ?_, fun m hm => by cases hm⟩
    · unfold mopen
      rw [impl_ClassesOk_eq cs k (by omega), hok]; rfl
    · unfold spec_MemOk.f spec_l21Bounds.f
      rw [spec_ClassesOk_eq hf k (by omega), hok]
      obtain ⟨k, rfl⟩ : ∃ m, k = m + 1 := ⟨k - 1, by omega⟩
      rw [Option.bind_some, if_neg (by simp), spec_l21Bounds.j0, if_pos rfl]; rfl
  | true =>
  obtain ⟨p, hp1, hp2, hp3⟩ := bounds_eq (cs := cs) (y := y) (t := t) (o := o) hf hok hn hc
  cases p with
  | false =>
    refine ⟨none, fun k hk => ?_, fun k hk => ?_, fun m hm => by cases hm⟩
    · unfold mopen
      rw [impl_ClassesOk_eq cs k (by omega), hok, Option.bind_some, if_pos rfl, hp1]; rfl
    · unfold spec_MemOk.f
      rw [hp2 k hk]; rfl
  | true =>
  have hb := hp3 rfl
  have n0 := hb.n0; have n1 := hb.n1; have y0 := hb.y0; have y1 := hb.y1; have t0 := hb.t0; have t1 := hb.t1; have o0 := hb.o0; have o1 := hb.o1
  obtain ⟨r1, h1⟩ : ∃ r1, r1 = pw ws (allF cs) t t.toNat 0 := ⟨_, rfl⟩
  obtain ⟨r2, h2⟩ : ∃ r2, r2 = pw ws (allF cs) o (o - y).toNat y := ⟨_, rfl⟩
  have l1 := pw_len ws (allF cs) t t.toNat 0
  have l2 := pw_len ws (allF cs) o (o - y).toNat y
  have m1 := pw_mem ws (allF cs) t t.toNat 0
  have m2 := pw_mem ws (allF cs) o (o - y).toNat y
  have s1 := pw_sorted ws (allF cs) t t.toNat 0
  have s2 := pw_sorted ws (allF cs) o (o - y).toNat y
  rw [← h1] at l1 m1 s1
  rw [← h2] at l2 m2 s2
  have hM : ∀ k, 4000000 ≤ k → mopen k k cs ws y t o cards = if r1.2 = true then (if r2.2 = true then (thingsOk k ⟨ws, y, t, o, cards, allF cs, (r1.1 ++ r2.1).map (· + 1)⟩ ((r1.1 ++ r2.1).map (· + 1))).bind fun ok => if ok = true then some (some ⟨ws, y, t, o, cards, allF cs, (r1.1 ++ r2.1).map (· + 1)⟩) else some none else some none) else some none := fun k hk => by
    unfold mopen
    rw [impl_ClassesOk_eq cs k (by omega), hok, Option.bind_some, if_pos rfl, hp1, Option.bind_some, if_pos rfl, allFields_eq hok k (by omega), Option.bind_some, if_pos ⟨allF_all hok, hn, hc⟩,
      pw_mwalk ws (allF cs) t t.toNat 0 [] k (by omega) (by omega), ← h1, Option.bind_some]
    by_cases c : r1.2 = true
    · rw [if_pos c, if_pos c, if_pos (by simp; omega), pw_mwalk ws (allF cs) o (o - y).toNat y _ k (by omega) (by omega), ← h2, Option.bind_some]
      by_cases c2 : r2.2 = true
      · rw [if_pos c2, if_pos c2, if_pos (by simp; omega)]
        simp only [List.nil_append, ← List.map_append]
      · rw [if_neg c2, if_neg c2]
    · rw [if_neg c, if_neg c]
  have hW : ∀ k, 4000000 ≤ k → spec_l21Walk.f k cs ws y t o cards = some (r1.1 ++ r2.1, r1.2 && r2.2) := fun k hk => by
    unfold spec_l21Walk.f spec_l21Part.f
    rw [pw_part hok hn (by omega) t.toNat 0 [] k (by omega) (by omega) (by omega) (by simp; omega), ← h1, Option.bind_some, pw_part hok hn (by omega) (o - y).toNat y [] k (by omega) (by omega) (by omega) (by simp; omega), ← h2, Option.bind_some]
    simp only [List.nil_append]
    rw [if_pos (by omega), Option.bind_some]
    cases r1.2 with
    | true => rw [if_pos rfl]; rfl
    | false => rw [if_neg (by simp)]; rfl
  have hS : ∀ k, 4000000 ≤ k → spec_MemOk.f k cs ws y t o cards = if (r1.2 && r2.2) = true then (spec_l21Starts.f k ws.length (r1.1 ++ r2.1)).bind fun S => spec_MemOk.l0 k cs (r1.1 ++ r2.1) S 0 ws y t o cards else some false := fun k hk => by
    unfold spec_MemOk.f
    rw [hp2 k hk, Option.bind_some, if_pos rfl, hW k hk, Option.bind_some]
  cases c1 : r1.2 with
  | false =>
    refine ⟨none, fun k hk => by rw [hM k hk, c1]; rfl, fun k hk => by rw [hS k hk, c1]; rfl, fun m hm => by cases hm⟩
  | true =>
  cases c2 : r2.2 with
  | false =>
    refine ⟨none, fun k hk => by rw [hM k hk, c1, c2]; rfl, fun k hk => by rw [hS k hk, c1, c2]; rfl, fun m hm => by cases hm⟩
  | true =>
  have hw : Wlk cs ws (r1.1 ++ r2.1) := by
    refine ⟨fun x hx => ?_, ?_, by rw [List.length_append]; omega⟩
    · rcases List.mem_append.mp hx with z | z
      · have := m1 x z; exact ⟨t, by omega, by omega, by omega, by omega, by omega⟩
      · have := m2 x z; exact ⟨o, by omega, by omega, by omega, by omega, by omega⟩
    · rw [List.pairwise_append]
      exact ⟨s1, s2, fun a ha b hb' => by have := m1 a ha; have := m2 b hb'; omega⟩
  obtain ⟨b, b1, b2⟩ := things_eq hb hw _ rfl
  have hst : ∀ k, 4000000 ≤ k → spec_l21Starts.f k ws.length (r1.1 ++ r2.1) = some (startsL (r1.1 ++ r2.1) ws.length) := fun k hk => starts_eq (fun x hx => wlk_range hw hx) (by have := hw.len; omega) (by omega) k (by omega)
  cases b with
  | false =>
    refine ⟨none, fun k hk => by rw [hM k hk, if_pos c1, if_pos c2, b1 k (by omega)]; rfl, fun k hk => by rw [hS k hk, c1, c2, if_pos (show (true && true) = true from rfl), hst k hk, Option.bind_some, b2 k (by omega)]; rfl, fun m hm => by cases hm⟩
  | true =>
    refine ⟨some ⟨ws, y, t, o, cards, allF cs, (r1.1 ++ r2.1).map (· + 1)⟩, fun k hk => by rw [hM k hk, if_pos c1, if_pos c2, b1 k (by omega)]; rfl, fun k hk => by rw [hS k hk, c1, c2, if_pos (show (true && true) = true from rfl), hst k hk, Option.bind_some, b2 k (by omega)]; rfl, fun m hm => ?_⟩
    obtain rfl := Option.some.inj hm
    exact ⟨r1.1 ++ r2.1, hb, hw, rfl, fun k hk => by rw [hW k hk, c1, c2]; rfl⟩
end Go.Proofs.Ytjnbilfhpdkcbaa.Pure
