import Derived.Test.YtnjbgkmmfndmeaaPj24
import Derived.Test.YtnjbgkmmfndmeaaPj27
import Derived.Test.YtnjbgkmmfndmeaaPj26
import Derived.Test.YtnjbgkmmfndmeaaPj25
import Derived.Deep.Slices
import Derived.Deep.Fields
import Derived.ChangeSame
import Derived.ProofKit
import Derived.OpenShut
import Derived.ShutString
import Derived.ChangeOld
import Derived.SizedLaws
namespace Go.Proofs.Ytnjbgkmmfndmeaa.K
open Go.RowKit Go.Proofs.YtnjbgkmmfndmeaaW.PrintWords Go.Proofs.YtnjbgkmmfndmeaaW.PrintLast Go.Proofs.YtnjbgkmmfndmeaaW.PrintMore
attribute [local go_sem] max2_int min2_int max_two min_two max_three min_three max_four min_four
set_option linter.unusedVariables false
set_option linter.unusedSimpArgs false
open Go.Proofs.Ytnjbgkmmfndmeaa.Pure
set_option maxHeartbeats 16000000 in
set_option maxRecDepth 100000 in
theorem typein_any (AC : Option Addr) (cC : Nat) (lC : List Int) (w : World) (hr0 : Kd.C (Kd.int .u8) w AC lC.length lC) (hc0 : lC.length ≤ cC) (hl : ∀ x ∈ lC, (Lit.int .u8 x).wf = true) :
  Calls Try.prog 46 #[.slice AC lC.length cC] w (DrawT w) := by
 have HR0 := Aside0.mk hr0
 have HC0 := Aside0.mk hc0
 have HL := Aside0.mk hl
 clear hr0 hc0 hl
 go_enter Try.func46, Try.ntmps46
 go_wp2_with (go_at_call 66; refine Classical.byContradiction (fun hng => ?_))
 refine hng ?_
 clear hng
 refine (open_any AC cC lC _ HR0.out HC0.out HL.out).mono ?_
 rintro e w2 ⟨g, rfl, hi, hge, hb⟩
 have HI := Aside0.mk hi
 have HG := Aside0.mk (show w.heap.size ≤ g ∧ g < w2.heap.size from ⟨hge, hi.lt⟩)
 have HB := Aside0.mk hb
 clear hi hge hb HR0 HC0 HL
 go_wp2_with (go_at_call 99; refine Classical.byContradiction (fun hng => ?_))
 refine hng ?_
 clear hng
 refine (off_any 0 g _ _ HI.out (by omega)).mono ?_
 rintro e w3 ⟨A, n, cs, rfl, hl, hf, hV, hi, hk⟩
 have hst := HI.out.step hi hk
 have HV := Aside0.mk (Kd.V_mono (Kd.V_map hV (fun _ hf => hf) : Kd.V k84 84 w3 0 _ _ cs) (ok' := fun k => w.heap.size ≤ k ∧ k ≠ g) (fun k hk => by have := HG.out; have := hk; omega))
 have HL := Aside0.mk hl
 have HF := Aside0.mk hf
 replace HB := Aside0.mk (HB.out.trans (hst.toBelow (B := w.heap.size) (below_size HB.out) (fun k hk => by have := HG.out; omega)))
 replace HI := Aside0.mk hi
 clear hl hf hV hi hk hst
 go_wp2_with (go_at_call 100; refine Classical.byContradiction (fun hng => ?_))
 refine hng ?_
 clear hng
 refine (type_any _ g (cs.length : Int) _ _ HI.out (by omega) (by have := HL.out; omega) (by have := HL.out; omega)).mono ?_
 rintro e w4 ⟨t4, rfl, hi, hk⟩
 have hst := HI.out.step hi hk
 replace HV := Aside0.mk (Kd.V_kept HV.out hst.kept (fun k hk => hk.2))
 replace HB := Aside0.mk (HB.out.trans (hst.toBelow (B := w.heap.size) (below_size HB.out) (fun k hk => by have := HG.out; omega)))
 replace HI := Aside0.mk hi
 clear hst hi hk
 go_wp2_with (go_at_call 100; refine Classical.byContradiction (fun hng => ?_))
 refine hng ?_
 clear hng
 refine (type_any _ g (cs.length : Int) _ _ HI.out (by omega) (by have := HL.out; omega) (by have := HL.out; omega)).mono ?_
 rintro e w5 ⟨t5, rfl, hi, hk⟩
 have hst := HI.out.step hi hk
 replace HV := Aside0.mk (Kd.V_kept HV.out hst.kept (fun k hk => hk.2))
 replace HB := Aside0.mk (HB.out.trans (hst.toBelow (B := w.heap.size) (below_size HB.out) (fun k hk => by have := HG.out; omega)))
 replace HI := Aside0.mk hi
 clear hst hi hk
 go_wp2
 refine bodyPost_ret (results_list (rs := [.tmp 2, .tmp 3, .tmp 4]) rfl (by simp) (.tmp (.tmp (.tmp .nil)))) rfl ?_
 exact ⟨A, n, cs, t4, t5, rfl, Kd.V_mono HV.out (fun k hk => hk.1), ⟨HL.out.1, HL.out.2.1⟩, HF.out, HB.out⟩
set_option maxHeartbeats 16000000 in
set_option maxRecDepth 100000 in
theorem typejoin_any (AC : Option Addr) (cC : Nat) (lC : List Int) (w : World) (hr0 : Kd.C (Kd.int .u8) w AC lC.length lC) (hc0 : lC.length ≤ cC) (hl : ∀ x ∈ lC, (Lit.int .u8 x).wf = true) :
  Calls Try.prog 9 #[.slice AC lC.length cC] w (DrawT w) := by
 have HR0 := Aside0.mk hr0
 have HC0 := Aside0.mk hc0
 have HL := Aside0.mk hl
 clear hr0 hc0 hl
 go_enter Try.func9, Try.ntmps9
 go_wp2_with (go_at_call 46; refine Classical.byContradiction (fun hng => ?_))
 refine hng ?_
 clear hng
 refine (typein_any AC cC lC _ HR0.out HC0.out HL.out).mono ?_
 rintro e w2 ⟨A, n, cs, a, b, rfl, hV, hl, hf, hb⟩
 have H := Aside0.mk (show _ ∧ _ ∧ _ ∧ _ from ⟨hV, hl, hf, hb⟩)
 clear hV hl hf hb HR0 HC0 HL
 go_wp2
 refine bodyPost_ret (results_list (rs := [.tmp 2, .tmp 3, .tmp 4]) rfl (by simp) (.tmp (.tmp (.tmp .nil)))) rfl ?_
 exact ⟨A, n, cs, a, b, rfl, H.out.1, H.out.2.1, H.out.2.2.1, H.out.2.2.2⟩
end Go.Proofs.Ytnjbgkmmfndmeaa.K
namespace Go.Proofs.Ytnjbgkmmfndmeaa.K
open Go.RowKit Go.Proofs.YtnjbgkmmfndmeaaW.PrintWords Go.Proofs.YtnjbgkmmfndmeaaW.PrintLast Go.Proofs.YtnjbgkmmfndmeaaW.PrintMore
attribute [local go_sem] max2_int min2_int max_two min_two max_three min_three max_four min_four
set_option linter.unusedVariables false
set_option linter.unusedSimpArgs false
section
variable {b gw cW gc cC : Nat} {w w1 : World} {ws : List Int} {cards : List Bool} {S : Nat → Prop}
end
section
variable {b0 gz gm gw cW gc cC g : Nat} {wr w1 : World} {v7 v8 : Value} {ws ws' : List Int} {y t o : Int} {cards cards' : List Bool} {pl rt : List Int} {S : Nat → Prop}
end
end Go.Proofs.Ytnjbgkmmfndmeaa.K
namespace Go.Proofs.Ytnjbgkmmfndmeaa.K
open Go.RowKit Go.Proofs.YtnjbgkmmfndmeaaW.PrintWords Go.Proofs.YtnjbgkmmfndmeaaW.PrintLast Go.Proofs.YtnjbgkmmfndmeaaW.PrintMore
attribute [local go_sem] max2_int min2_int max_two min_two max_three min_three max_four min_four
set_option linter.unusedVariables false
set_option linter.unusedSimpArgs false
open Go.Proofs.Ytnjbgkmmfndmeaa.Pure
section
variable {b0 g gz gm : Nat} {W w w0 w1 : World} {v5 v0 v4 v7 : Value} {cs : Cs} {ws : List Int} {cards : List Bool} {rt : List Int} {ok ok' S : Nat → Prop} {M L : Int}
end
section
variable {b0 s1 g gz gm gw cW gc cC : Nat} {W w1 : World} {v5 v7 v : Value} {cs : Cs} {ws : List Int} {y t o : Int} {cards : List Bool} {rt : List Int} {S : Nat → Prop}
end
section
variable {b0 : Nat} {W w1 : World} {A5 A0 A4 : Option Addr} {c5 c0 c4 : Nat} {v7 : Value} {cs : Cs} {ws : List Int} {cards : List Bool} {rt : List Int} {ok ok' S : Nat → Prop}
end
end Go.Proofs.Ytnjbgkmmfndmeaa.K
namespace Go.Proofs.Ytnjbgkmmfndmeaa.Pure
open Go.RowKit Go.Proofs.Ytnjbgkmmfndmeaa.K Go.Proofs.YtnjbgkmmfndmeaaW.PrintWords Go.Proofs.YtnjbgkmmfndmeaaW.PrintLast Go.Proofs.YtnjbgkmmfndmeaaW.PrintMore
set_option linter.unusedVariables false
set_option linter.unusedSimpArgs false
theorem spec_l6In_eq (a b c : Int) : spec_l6In.f a b c = some (decide (b ≤ a ∧ a ≤ c)) := by
 unfold spec_l6In.f
 by_cases h : a ≥ b
 ·rw [if_pos h]; simp [show b ≤ a from h]
 ·rw [if_neg h]; simp [show ¬ b ≤ a from h]
theorem all_drop (fs : List Int) (P : Int → Bool) (i : Nat) (h : i < fs.length) : (fs.drop i).all P = (P (fs.getD i 0) && (fs.drop (i + 1)).all P) := by
  rw [drop_getD fs i 0 h, List.all_cons]
theorem spec_l2Field_eq (cs : Cs) (t : Int) (hl : cs.length ≤ 1000) : spec_l2Field.f cs t = some (fldOk cs.length t) := by
 unfold spec_l2Field.f fldOk
 by_cases c1 : t = 1
 ·rw [if_pos c1]; simp [c1]
 rw [if_neg c1]
 by_cases c2 : t = 3
 ·rw [if_pos c2]; simp [c2]
 rw [if_neg c2]
 by_cases c3 : t = 4
 ·rw [if_pos c3]; simp [c3]
 rw [if_neg c3, wrap64_of (n := 8 + (cs.length : Int)) (by omega) (by omega), wrap64_of (by omega) (by omega), spec_l6In_eq]
 simp only [Option.bind_some, Option.some.injEq]
 rw [Bool.eq_iff_iff]; simp only [decide_eq_true_eq]; omega
def clsTail (cs : Cs) (i su : Int) (fs : List Int) : Bool :=
  if i = 0 then decide (su = -1 ∧ fs = []) else if i = 1 then decide (su = 0 ∧ fs = [1]) else decide ((0 ≤ su ∧ su < i) ∧ fs.length ≤ 2)
theorem len_nil (fs : List Int) : ((fs.length : Int) == 0) = decide (fs = []) := by cases fs <;> simp; omega
theorem spec_l2Class_l0 (cs : Cs) (c su : Int) (fs : List Int) (hl : cs.length ≤ 1000) (hf : fs.length ≤ 140737488355328) (hc : 0 ≤ c ∧ c < 1000) (d : Nat) : ∀ (k i : Nat), i ≤ fs.length → fs.length - i = d → d < k →
  spec_l2Class.l0 k cs c i su fs = some ((fs.drop i).all (fldOk cs.length) && clsTail cs c su fs) := by
 induction d with
 | zero =>
  intro k i hi hd hk
  obtain ⟨k, rfl⟩ : ∃ m, k = m + 1 := ⟨k - 1, by omega⟩
  have : i = fs.length := by omega
  subst this
  simp only [spec_l2Class.l0]
  rw [if_neg (by omega), List.drop_length]
  simp only [List.all_nil, Bool.true_and]
  unfold clsTail
  by_cases c0 : c = 0
  ·rw [if_pos c0, if_pos c0]
   by_cases s0 : su = -1
   ·rw [if_pos s0, len_nil]; simp [s0]
   ·rw [if_neg s0]; simp [s0]
  rw [if_neg c0, if_neg c0]
  by_cases c1 : c = 1
  ·rw [if_pos c1, if_pos c1]
   by_cases s0 : su = 0
   ·rw [if_pos s0]
    by_cases l1 : (fs.length : Int) = 1
    ·rw [if_pos l1, if_pos (by omega)]
     obtain ⟨x, rfl⟩ := List.length_eq_one_iff.1 (show fs.length = 1 by omega)
     by_cases e : x = 1
     ·simp [rd, s0, e]
     ·simp [rd, s0, e]
    ·rw [if_neg l1]
     have : fs ≠ [1] := fun e => l1 (by rw [e]; rfl)
     simp [this]
   ·rw [if_neg s0]; simp [s0]
  rw [if_neg c1, if_neg c1, wrap64_of (by omega) (by omega), spec_l6In_eq]
  simp only [Option.bind_some, decide_eq_true_eq]
  by_cases z : 0 ≤ su ∧ su ≤ c - 1
  ·rw [if_pos z]
   congr 1
   rw [Bool.eq_iff_iff]; simp only [decide_eq_true_eq]; omega
  ·rw [if_neg z]
   congr 1
   rw [Bool.eq_iff_iff]; simp only [decide_eq_true_eq, Bool.false_eq_true, false_iff]; omega
 | succ d ih =>
  intro k i hi hd hk
  obtain ⟨k, rfl⟩ : ∃ m, k = m + 1 := ⟨k - 1, by omega⟩
  simp only [spec_l2Class.l0]
  rw [if_pos (by omega), if_pos (by omega), spec_l2Field_eq cs _ hl, rd_cast, all_drop fs _ i (by omega)]
  simp only [Option.bind_some]
  cases hq : fldOk cs.length (fs.getD i 0) with
  | false => simp
  | true =>
   simp only [if_true, Bool.true_and]
   rw [wrap_inc (n := fs.length) (by omega) (by omega) (by omega), show ((i : Int) + 1) = ((i + 1 : Nat) : Int) from by omega]
   exact ih k (i + 1) (by omega) (by omega) (by omega)
def fewF (cs : Cs) : Prop := ∀ i : Int, (flds cs i).length ≤ 1048576
theorem spec_l2Class_eq {cs : Cs} (hl : cs.length ≤ 1000) (hf : fewF cs) {i : Int} (h0 : 0 ≤ i) (h1 : i < cs.length) (k : Nat) (hk : 1048577 ≤ k) : spec_l2Class.f k cs i = some (clsOk cs i) := by
 unfold spec_l2Class.f
 rw [if_pos h0, if_pos h1]
 have := hf i
 have e := spec_l2Class_l0 cs i (sup cs i) (flds cs i) hl (by omega) ⟨h0, by omega⟩ (flds cs i).length k 0 (by omega) (by omega) (by omega)
 have e2 : spec_l2Class.l0 k cs i 0 (sup cs i) (flds cs i) = some (clsOk cs i) := by
  rw [show ((0 : Nat) : Int) = 0 from rfl] at e
  rw [e, List.drop_zero]
  unfold clsOk clsTail
  by_cases c0 : i = 0
  ·subst c0; rfl
  by_cases c1 : i = 1
  ·subst c1; rfl
  rw [if_neg c0, if_neg c1, if_neg c0, if_neg c1]
 exact e2
theorem range_all_drop (n i : Nat) (P : Nat → Bool) (h : i < n) : ((List.range n).drop i).all P = (P i && ((List.range n).drop (i + 1)).all P) := by
  rw [List.drop_eq_getElem_cons (by simpa using h), List.all_cons]; simp
theorem spec_ClassesOk_l0 {cs : Cs} (hl : cs.length ≤ 1000) (hf : fewF cs) (d : Nat) : ∀ (k i : Nat), i ≤ cs.length → cs.length - i = d → d + 1048577 ≤ k →
  spec_ClassesOk.l0 k cs i = some (((List.range cs.length).drop i).all (fun j : Nat => clsOk cs j)) := by
 induction d with
 | zero =>
  intro k i hi hd hk
  obtain ⟨k, rfl⟩ : ∃ m, k = m + 1 := ⟨k - 1, by omega⟩
  have : i = cs.length := by omega
  subst this
  simp only [spec_ClassesOk.l0]
  rw [if_neg (by omega), List.drop_of_length_le (by simp)]
  rfl
 | succ d ih =>
  intro k i hi hd hk
  obtain ⟨k, rfl⟩ : ∃ m, k = m + 1 := ⟨k - 1, by omega⟩
  simp only [spec_ClassesOk.l0]
  rw [if_pos (by omega), spec_l2Class_eq hl hf (by omega) (by omega) k (by omega), range_all_drop _ _ _ (by omega)]
  simp only [Option.bind_some]
  cases hq : clsOk cs i with
  | false => simp
  | true =>
   simp only [if_true, Bool.true_and]
   rw [wrap_inc (n := cs.length) (by omega) (by omega) (by omega), show ((i : Int) + 1) = ((i + 1 : Nat) : Int) from by omega]
   exact ih k (i + 1) (by omega) (by omega) (by omega)
theorem spec_ClassesOk_eq {cs : Cs} (hf : fewF cs) (k : Nat) (hk : 2000000 ≤ k) : spec_ClassesOk.f k cs = some (csOk cs) := by
 unfold spec_ClassesOk.f csOk
 rw [spec_l6In_eq]
 simp only [Option.bind_some, decide_eq_true_eq]
 by_cases hl : (2 : Int) ≤ cs.length ∧ (cs.length : Int) ≤ 5
 ·rw [if_pos hl, show decide (2 ≤ cs.length ∧ cs.length ≤ 5) = true from decide_eq_true (by omega)]
  have := spec_ClassesOk_l0 (cs := cs) (by omega) hf cs.length k 0 (by omega) (by omega) (by omega)
  rw [show ((0 : Nat) : Int) = 0 from rfl] at this
  rw [this, List.drop_zero, Bool.true_and]
 ·rw [if_neg hl, show decide (2 ≤ cs.length ∧ cs.length ≤ 5) = false from decide_eq_false (by omega), Bool.false_and]
theorem impl_fieldType_eq (cs : Cs) (t : Int) (hl : cs.length ≤ 1000) : impl_fieldType.f cs.length t = some (fldOk cs.length t) := by
 unfold impl_fieldType.f kOk fldOk
 rw [if_pos (by omega)]
 congr 1
 rw [Bool.eq_iff_iff]; simp only [Bool.and_eq_true, decide_eq_true_eq]; omega
def clsQ (cs : Cs) (i : Int) : Bool := (decide (i ≤ 1) || decide (0 ≤ sup cs i ∧ sup cs i < i)) && (decide ((flds cs i).length ≤ 2) && (flds cs i).all (fldOk cs.length))
theorem impl_ClassesOk_l1 (cs : Cs) (hl : cs.length ≤ 1000) (i : Nat) (hi : i < 1000) (fs : List Int) (hf : fs.length ≤ 2) (R : Bool) (K : Nat) (hR : ∀ k, K ≤ k → impl_ClassesOk.l0 k cs cs cs.length ((i + 1 : Nat) : Int) = some R) (d : Nat) : ∀ (k j : Nat), j ≤ fs.length → fs.length - j = d → K + d + 1 ≤ k →
  impl_ClassesOk.l1 k cs cs cs.length i fs fs.length j = some ((fs.drop j).all (fldOk cs.length) && R) := by
 induction d with
 | zero =>
  intro k j hj hd hk
  obtain ⟨k, rfl⟩ : ∃ m, k = m + 1 := ⟨k - 1, by omega⟩
  have : j = fs.length := by omega
  subst this
  simp only [impl_ClassesOk.l1]
  rw [if_neg (by omega), List.drop_length, wrap_inc (n := 1000) (by omega) (by omega) (by omega), show ((i : Int) + 1) = ((i + 1 : Nat) : Int) from by omega, hR k (by omega)]
  simp
 | succ d ih =>
  intro k j hj hd hk
  obtain ⟨k, rfl⟩ : ∃ m, k = m + 1 := ⟨k - 1, by omega⟩
  simp only [impl_ClassesOk.l1]
  rw [if_pos (by omega), if_pos (by omega), if_pos (by omega), rd_cast, impl_fieldType_eq cs _ hl, all_drop fs _ j (by omega)]
  simp only [Option.bind_some]
  cases hq : fldOk cs.length (fs.getD j 0) with
  | false => simp
  | true =>
   simp only [if_true, Bool.true_and]
   rw [wrap_inc (n := fs.length) (by omega) (by omega) (by omega), show ((j : Int) + 1) = ((j + 1 : Nat) : Int) from by omega]
   exact ih k (j + 1) (by omega) (by omega) (by omega)
theorem impl_ClassesOk_l0 (cs : Cs) (hl : cs.length ≤ 5) (d : Nat) : ∀ (i : Nat), i ≤ cs.length → cs.length - i = d → ∀ k, 10 * d + 10 ≤ k →
  impl_ClassesOk.l0 k cs cs cs.length i = some (((List.range cs.length).drop i).all (fun j : Nat => clsQ cs j)) := by
 induction d with
 | zero =>
  intro i hi hd k hk
  obtain ⟨k, rfl⟩ : ∃ m, k = m + 1 := ⟨k - 1, by omega⟩
  have : i = cs.length := by omega
  subst this
  simp only [impl_ClassesOk.l0]
  rw [if_neg (by omega), List.drop_of_length_le (by simp)]
  rfl
 | succ d ih =>
  intro i hi hd k hk
  obtain ⟨k, rfl⟩ : ∃ m, k = m + 1 := ⟨k - 1, by omega⟩
  obtain ⟨k, rfl⟩ : ∃ m, k = m + 1 := ⟨k - 1, by omega⟩
  rw [range_all_drop _ _ _ (by omega)]
  have hj : impl_ClassesOk.j4 (k + 1) cs cs cs.length i false (sup cs i) (flds cs i) = some (decide ((flds cs i).length ≤ 2) && ((flds cs i).all (fldOk cs.length) && ((List.range cs.length).drop (i + 1)).all (fun j : Nat => clsQ cs j))) := by
   simp only [impl_ClassesOk.j4]
   rw [if_neg (by simp)]
   by_cases h2 : ((flds cs i).length : Int) > 2
   ·rw [if_pos h2, decide_eq_false (by omega)]; rfl
   ·rw [if_neg h2, decide_eq_true (show (flds cs i).length ≤ 2 by omega), Bool.true_and]
    have := impl_ClassesOk_l1 cs (by omega) i (by omega) (flds cs i) (by omega) _ (10 * d + 10) (fun k hk => ih (i + 1) (by omega) (by omega) k hk) (flds cs i).length k 0 (by omega) (by omega) (by omega)
    rw [show ((0 : Nat) : Int) = 0 from rfl, List.drop_zero] at this
    exact this
  have hjt : impl_ClassesOk.j4 (k + 1) cs cs cs.length i true (sup cs i) (flds cs i) = some false := by simp [impl_ClassesOk.j4]
  simp only [impl_ClassesOk.l0]
  rw [if_pos (by omega), if_pos (by omega), if_pos (by omega)]
  rw [show (rd_T84 cs (i : Int)).f0 = sup cs i from rfl, show (rd_T84 cs (i : Int)).f1 = flds cs i from rfl]
  have hQ : clsQ cs i = ((decide ((i : Int) ≤ 1) || decide (0 ≤ sup cs i ∧ sup cs i < i)) && (decide ((flds cs i).length ≤ 2) && (flds cs i).all (fldOk cs.length))) := rfl
  rw [hQ]
  generalize ((List.range cs.length).drop (i + 1)).all (fun j : Nat => clsQ cs j) = T at *
  by_cases h1 : (i : Int) > 1
  ·rw [if_pos h1]
   by_cases hs : sup cs i < 0
   ·rw [if_pos hs, hjt, decide_eq_false (show ¬ (i : Int) ≤ 1 by omega), decide_eq_false (show ¬ (0 ≤ sup cs i ∧ sup cs i < i) by omega)]; rfl
   ·rw [if_neg hs]
    by_cases hs2 : sup cs i ≥ i
    ·rw [decide_eq_true hs2, hjt, decide_eq_false (show ¬ (i : Int) ≤ 1 by omega), decide_eq_false (show ¬ (0 ≤ sup cs i ∧ sup cs i < i) by omega)]; rfl
    ·rw [decide_eq_false hs2, hj, decide_eq_true (show (0 ≤ sup cs i ∧ sup cs i < i) by omega)]
     simp [Bool.and_assoc]
  ·rw [if_neg h1, hj, decide_eq_true (show (i : Int) ≤ 1 by omega)]
   simp [Bool.and_assoc]
theorem impl_ClassesOk_eq (cs : Cs) (k : Nat) (hk : 1000 ≤ k) : impl_ClassesOk.f k cs = some (csOk cs) := by
 obtain ⟨k, rfl⟩ : ∃ m, k = m + 1 := ⟨k - 1, by omega⟩
 obtain ⟨k, rfl⟩ : ∃ m, k = m + 1 := ⟨k - 1, by omega⟩
 obtain ⟨k, rfl⟩ : ∃ m, k = m + 1 := ⟨k - 1, by omega⟩
 unfold impl_ClassesOk.f
 by_cases h2 : (cs.length : Int) < 2
 ·rw [if_pos h2]
  simp only [impl_ClassesOk.j0, if_true]
  unfold csOk
  rw [decide_eq_false (by omega), Bool.false_and]
 rw [if_neg h2]
 by_cases h5 : (cs.length : Int) > 5
 ·rw [decide_eq_true h5]
  simp only [impl_ClassesOk.j0, if_true]
  unfold csOk
  rw [decide_eq_false (by omega), Bool.false_and]
 rw [decide_eq_false h5]
 have no : ∀ i : Int, 0 ≤ i → i < cs.length → clsOk cs i = false → csOk cs = false := by
  intro i h0 h1 hc
  cases hq : csOk cs with
  | false => rfl
  | true => rw [csOk_at hq h0 h1] at hc; cases hc
 simp only [impl_ClassesOk.j0, Bool.false_eq_true, if_false]
 rw [if_pos (by omega)]
 rw [show (rd_T84 cs 0).f0 = sup cs 0 from rfl, show (rd_T84 cs 0).f1 = flds cs 0 from rfl]
 by_cases r0 : sup cs 0 = -1
 case neg =>
  rw [if_neg r0]
  simp only [impl_ClassesOk.j1, if_true]
  rw [no 0 (by omega) (by omega) (by unfold clsOk; simp [r0])]
 rw [if_pos r0]
 by_cases f0 : flds cs 0 = []
 case neg =>
  have : (((flds cs 0).length : Int) != 0) = true := by
   cases hq : flds cs 0 with
   | nil => exact absurd hq f0
   | cons x t => simp; omega
  rw [this]
  simp only [impl_ClassesOk.j1, if_true]
  rw [no 0 (by omega) (by omega) (by unfold clsOk; simp [f0])]
 rw [show (((flds cs 0).length : Int) != 0) = false by rw [f0]; rfl]
 simp only [impl_ClassesOk.j1, Bool.false_eq_true, if_false]
 rw [if_pos (by omega)]
 rw [show (rd_T84 cs 1).f0 = sup cs 1 from rfl, show (rd_T84 cs 1).f1 = flds cs 1 from rfl]
 have n1 : ¬ (sup cs 1 = 0 ∧ flds cs 1 = [1]) → csOk cs = false := fun z => no 1 (by omega) (by omega) (by unfold clsOk; rw [if_neg (by omega), if_pos rfl, decide_eq_false z, Bool.and_false])
 by_cases r1 : sup cs 1 = 0
 case neg =>
  rw [if_neg r1]
  simp only [impl_ClassesOk.j2, if_true]
  rw [n1 (fun z => r1 z.1)]
 rw [if_pos r1]
 by_cases l1 : ((flds cs 1).length : Int) = 1
 case neg =>
  rw [if_neg l1]
  simp only [impl_ClassesOk.j2, if_true]
  rw [n1 (fun z => l1 (by rw [z.2]; rfl))]
 rw [if_pos l1, if_pos (by omega)]
 obtain ⟨x, hx⟩ := List.length_eq_one_iff.1 (show (flds cs 1).length = 1 by omega)
 by_cases e1 : x = 1
 case neg =>
  rw [show (rd (flds cs 1) 0 != 1) = true by rw [hx]; simp [rd, e1]]
  simp only [impl_ClassesOk.j2, if_true]
  rw [n1 (fun z => e1 (by rw [hx] at z; simpa using z.2))]
 rw [show (rd (flds cs 1) 0 != 1) = false by rw [hx]; simp [rd, e1]]
 simp only [impl_ClassesOk.j2, Bool.false_eq_true, if_false]
 have := impl_ClassesOk_l0 cs (by omega) cs.length 0 (by omega) (by omega) k (by omega)
 rw [show ((0 : Nat) : Int) = 0 from rfl, List.drop_zero] at this
 rw [this]
 congr 1
 unfold csOk
 rw [decide_eq_true (show 2 ≤ cs.length ∧ cs.length ≤ 5 by omega), Bool.true_and, Bool.eq_iff_iff]
 simp only [List.all_eq_true, List.mem_range]
 refine forall_congr' fun i => forall_congr' fun hi => ?_
 unfold clsQ clsOk
 simp only [Bool.and_eq_true, Bool.or_eq_true, decide_eq_true_eq]
 by_cases i0 : (i : Int) = 0
 ·rw [i0, if_pos rfl, decide_eq_true_eq, r0, f0]; simp
 by_cases i1 : (i : Int) = 1
 ·rw [i1, if_neg (by omega), if_pos rfl, decide_eq_true_eq, r1, hx, e1]; simp
 rw [if_neg i0, if_neg i1, decide_eq_true_eq]
 constructor
 ·rintro ⟨h1 | h1, h3, h4⟩
  ·omega
  ·exact ⟨h4, h1, h3⟩
 ·rintro ⟨h4, h1, h3⟩
  exact ⟨Or.inr h1, h3, h4⟩
theorem impl_classUp_eq {cs : Cs} (h : csOk cs = true) (b : Int) : ∀ a : Int, 0 ≤ a → a < cs.length → ∀ k : Nat, a.toNat + 2 ≤ k → impl_classUp.f k cs a b = some (up cs a b) := by
 have hl := csOk_len h
 refine cls_ind h ?_ ?_
 ·intro k hk
  obtain ⟨k, rfl⟩ : ∃ m, k = m + 1 := ⟨k - 1, by omega⟩
  obtain ⟨k, rfl⟩ : ∃ m, k = m + 1 := ⟨k - 1, by omega⟩
  simp only [impl_classUp.f, impl_classUp.l0]
  rw [if_pos (by omega), up_step h b (by omega) (by omega)]
  by_cases hb : (0 : Int) = b
  ·rw [if_pos hb]; simp [hb]
  ·rw [if_neg hb, if_pos (by omega), if_pos (by omega), show (rd_T84 cs 0).f0 = -1 from (csOk_root h).1, if_neg (by omega)]
   simp [hb]
 ·intro a hp h1 ih k hk
  obtain ⟨k, rfl⟩ : ∃ m, k = m + 1 := ⟨k - 1, by omega⟩
  have hs := csOk_sup h hp h1
  simp only [impl_classUp.f, impl_classUp.l0]
  rw [if_pos (by omega), up_step h b (by omega) h1]
  by_cases hb : a = b
  ·rw [if_pos hb]; simp [hb]
  ·rw [if_neg hb, if_pos (by omega), if_pos (by omega)]
   have := ih k (by omega)
   simp only [impl_classUp.f] at this
   rw [show (rd_T84 cs a).f0 = sup cs a from rfl, this]
   simp [hb, hp]
theorem spec_l2Up_eq {cs : Cs} (h : csOk cs = true) {b : Int} (hb : 0 ≤ b) : ∀ a : Int, 0 ≤ a → a < cs.length → ∀ k : Nat, a.toNat + 1 ≤ k → spec_l2Up.f k cs a b = some (up cs a b) := by
  have hl := csOk_len h
  refine cls_ind h ?_ ?_
  · intro k hk
    obtain ⟨k, rfl⟩ : ∃ m, k = m + 1 := ⟨k - 1, by omega⟩
    simp only [spec_l2Up.f, spec_l2Up.l0]
    rw [if_neg (by omega), up_step h b (by omega) (by omega)]
    by_cases e : (0 : Int) = b
    · simp [e]
    · simp [e]
  · intro a hp h1 ih k hk
    obtain ⟨k, rfl⟩ : ∃ m, k = m + 1 := ⟨k - 1, by omega⟩
    have hs := csOk_sup h hp h1
    simp only [spec_l2Up.f, spec_l2Up.l0]
    rw [up_step h b (by omega) h1]
    by_cases hab : a > b
    · rw [if_pos hab, if_pos (by omega), if_pos (by omega)]
      have := ih k (by omega)
      simp only [spec_l2Up.f] at this
      rw [show (rd_T84 cs a).f0 = sup cs a from rfl, this]
      simp [hp, show ¬ a = b from by omega]
    · rw [if_neg hab]
      by_cases e : a = b
      · simp [e]
      · have hno : up cs (sup cs a) b = false := by
          cases hq : up cs (sup cs a) b with
          | false => rfl
          | true => have := up_le h _ hs.1 (by omega) hq; omega
        rw [hno]
        simp [e]
def tOk (cs : Cs) (t : Int) : Prop := (0 ≤ t ∧ t ≤ 4) ∨ (8 ≤ t ∧ t < 8 + (cs.length : Int))
instance (cs : Cs) (t : Int) : Decidable (tOk cs t) := inferInstanceAs (Decidable (_ ∨ _))
def tIn (cs : Cs) (a b : Int) : Bool :=
  if a = b ∨ b = 0 then true else if a = 2 then decide (2 ≤ b) else if a < 2 ∨ b < 8 then false else if a < 8 then decide (b = 8) else up cs (a - 8) (b - 8)
theorem kOk_eq (cs : Cs) (t : Int) : kOk cs.length t = decide (tOk cs t) := rfl
theorem tIn_cls {cs : Cs} {a b : Int} (ha : 8 ≤ a) (hb : 8 ≤ b) : tIn cs a b = up cs (a - 8) (b - 8) := by
 unfold tIn
 by_cases e : a = b
 ·rw [if_pos (Or.inl e), e, up_refl]
 ·rw [if_neg (by omega), if_neg (by omega), if_neg (by omega), if_neg (by omega)]
theorem kndIn_eq {cs : Cs} (h : csOk cs = true) {a b : Int} (ha : tOk cs a) (hb : tOk cs b) : kndIn cs a b = some (tIn cs a b) := by
 have hl := csOk_len h
 unfold tOk at ha hb
 unfold kndIn tIn
 by_cases c1 : a = b ∨ b = 0
 ·rw [if_pos c1, if_pos c1]
 ·rw [if_neg c1, if_neg c1]
  by_cases c2 : a = 2
  ·rw [if_pos c2, if_pos c2]
   have : (!decide (b = 1)) = decide (2 ≤ b) := by
    rw [Bool.eq_iff_iff]; simp; omega
   rw [this]
  ·rw [if_neg c2, if_neg c2]
   by_cases c3 : a = 3 ∨ a = 4
   ·rw [if_pos c3]
    by_cases c4 : b < 8
    ·rw [if_pos (Or.inr c4), decide_eq_false (by omega)]
    ·rw [if_neg (by omega), if_pos (by omega)]
   ·rw [if_neg c3]
    by_cases c4 : 8 ≤ a
    ·rw [if_pos c4]
     by_cases c5 : 8 ≤ b
     ·rw [if_pos c5, if_neg (by omega), if_neg (by omega), impl_classUp_eq h (b - 8) (a - 8) (by omega) (by omega) 100 (by omega)]
     ·rw [if_neg c5, if_pos (by omega)]
    ·rw [if_neg c4, if_pos (by omega)]
theorem spec_l2In_eq {cs : Cs} (h : csOk cs = true) {a b : Int} (ha : tOk cs a) (hb : tOk cs b) (k : Nat) (hk : 20 ≤ k) : spec_l2In.f k cs a b = some (tIn cs a b) := by
 have hl := csOk_len h
 obtain ⟨k, rfl⟩ : ∃ m, k = m + 1 := ⟨k - 1, by omega⟩
 obtain ⟨k, rfl⟩ : ∃ m, k = m + 1 := ⟨k - 1, by omega⟩
 unfold tOk at ha hb
 unfold spec_l2In.f tIn
 by_cases c0 : a = b
 ·rw [if_pos c0, if_pos (Or.inl c0)]; simp [spec_l2In.j0]
 rw [if_neg c0]
 by_cases c1 : b = 0
 ·rw [if_pos (Or.inr c1)]; simp [spec_l2In.j0, c1]
 rw [if_neg (by omega)]
 simp only [spec_l2In.j0, spec_l2Ref.f, Option.bind_some]
 rw [if_neg (by simp [c1])]
 by_cases c2 : a = 2
 ·rw [if_pos c2, if_pos c2]
 rw [if_neg c2, if_neg c2]
 by_cases c3 : a < 2
 ·rw [if_neg (by simp; omega), if_pos (Or.inl c3)]; simp [spec_l2In.j1]
 rw [if_pos (by simp; omega)]
 by_cases c4 : b < 8
 ·rw [if_pos (Or.inr c4)]; simp [spec_l2In.j1, c4]
 rw [if_neg (by omega)]
 simp only [spec_l2In.j1]
 rw [if_neg (by simp; omega)]
 by_cases c5 : a < 8
 ·rw [if_pos c5, if_pos c5]
  by_cases e : b = 8 <;> simp [e]
 ·rw [if_neg c5, if_neg c5, wrap64_of (by omega) (by omega), wrap64_of (by omega) (by omega), spec_l2Up_eq h (b := b - 8) (by omega) (a - 8) (by omega) (by omega) k (by omega)]
  rfl
theorem tIn_anti {cs : Cs} (h : csOk cs = true) {a b : Int} (ha : tOk cs a) (hb : tOk cs b) (h1 : tIn cs a b = true) (h2 : tIn cs b a = true) : a = b := by
 unfold tOk at ha hb
 by_cases e : 8 ≤ a ∧ 8 ≤ b
 ·rw [tIn_cls e.1 e.2] at h1
  rw [tIn_cls e.2 e.1] at h2
  have := up_anti h (a := a - 8) (b := b - 8) (by omega) (by omega) (by omega) (by omega) h1 h2
  omega
 ·unfold tIn at h1 h2
  split at h1
  ·split at h2
   ·omega
   ·split at h2
    ·simp at h2; omega
    ·split at h2
     ·simp at h2
     ·omega
  ·split at h1
   ·simp only [decide_eq_true_eq] at h1
    split at h2
    ·omega
    ·split at h2
     ·omega
     ·split at h2
      ·simp at h2
      ·omega
   ·split at h1
    ·simp at h1
    ·split at h1
     ·simp only [decide_eq_true_eq] at h1
      split at h2
      ·omega
      ·split at h2
       ·omega
       ·split at h2
        ·simp at h2
        ·omega
     ·omega
theorem tIn_refl (cs : Cs) (a : Int) : tIn cs a a = true := by simp [tIn]
theorem tIn_none (cs : Cs) (a : Int) : tIn cs a 0 = true := by simp [tIn]
theorem l2Join_spec {cs : Cs} (h : csOk cs = true) {b : Int} (hb : 0 ≤ b) (hb1 : b < cs.length) : ∀ a : Int, 0 ≤ a → a < cs.length → ∃ j, (∀ k : Nat, a.toNat + 10 ≤ k → spec_l2Join.f k cs a b = some j) ∧ 0 ≤ j ∧ j < cs.length ∧ up cs a j = true ∧ up cs b j = true ∧ ∀ c, up cs a c = true → up cs b c = true → up cs j c = true := by
 have hl := csOk_len h
 have key : ∀ a : Int, 0 ≤ a → a < cs.length → up cs b a = true → ∃ j, (∀ k : Nat, a.toNat + 10 ≤ k → spec_l2Join.f k cs a b = some j) ∧ 0 ≤ j ∧ j < cs.length ∧ up cs a j = true ∧ up cs b j = true ∧ ∀ c, up cs a c = true → up cs b c = true → up cs j c = true := by
  intro a h0 h1 hu
  refine ⟨a, fun k hk => ?_, h0, h1, up_refl cs a, hu, fun c hc _ => hc⟩
  obtain ⟨k, rfl⟩ : ∃ m, k = m + 1 := ⟨k - 1, by omega⟩
  simp only [spec_l2Join.f, spec_l2Join.l0]
  rw [spec_l2Up_eq h h0 b hb hb1 k (by omega), hu]
  rfl
 refine cls_ind h (key 0 (by omega) (by omega) (up_root h b hb hb1)) ?_
 intro a hp h1 ih
 cases hu : up cs b a with
 | true => exact key a (by omega) h1 hu
 | false =>
  have hs := csOk_sup h hp h1
  obtain ⟨j, hk, j0, j1, ja, jb, jm⟩ := ih
  refine ⟨j, fun k hk2 => ?_, j0, j1, ?_, jb, fun c hc hcb => ?_⟩
  ·obtain ⟨k, rfl⟩ : ∃ m, k = m + 1 := ⟨k - 1, by omega⟩
   have := hk k (by omega)
   simp only [spec_l2Join.f] at this
   simp only [spec_l2Join.f, spec_l2Join.l0]
   rw [spec_l2Up_eq h (by omega) b hb hb1 k (by omega), hu]
   simp only [Option.bind_some, Bool.false_eq_true, if_false]
   rw [if_pos (by omega), if_pos (by omega)]
   exact this
  ·rw [up_step h j (by omega) h1, ja]; simp [hp]
  ·rw [up_step h c (by omega) h1] at hc
   simp only [Bool.or_eq_true, decide_eq_true_eq, Bool.and_eq_true] at hc
   rcases hc with hc | hc
   ·subst hc; rw [hu] at hcb; cases hcb
   ·exact jm c hc.2 hcb
theorem l2Meets_spec {cs : Cs} (h : csOk cs = true) {a b : Int} (ha : tOk cs a) (hb : tOk cs b) : ∃ m, (∀ k : Nat, 40 ≤ k → spec_l2Meets.f k cs a b = some m) ∧ tOk cs m ∧ tIn cs a m = true ∧ tIn cs b m = true ∧ ∀ c, tOk cs c → tIn cs a c = true → tIn cs b c = true → tIn cs m c = true := by
  have hl := csOk_len h
  by_cases c1 : tIn cs a b = true
  · refine ⟨b, fun k hk => ?_, hb, c1, tIn_refl cs b, fun c _ _ hc => hc⟩
    unfold spec_l2Meets.f
    rw [spec_l2In_eq h ha hb k (by omega), c1]; rfl
  by_cases c2 : tIn cs b a = true
  · refine ⟨a, fun k hk => ?_, ha, tIn_refl cs a, c2, fun c _ hc _ => hc⟩
    unfold spec_l2Meets.f
    rw [spec_l2In_eq h ha hb k (by omega), Bool.not_eq_true _ |>.mp c1, spec_l2In_eq h hb ha k (by omega), c2]; rfl
  have c1 := Bool.not_eq_true _ |>.mp c1
  have c2 := Bool.not_eq_true _ |>.mp c2
  have ha' := ha
  have hb' := hb
  unfold tOk at ha hb
  by_cases c3 : a < 2 ∨ b < 2
  · refine ⟨0, fun k hk => ?_, by unfold tOk; omega, tIn_none cs a, tIn_none cs b, fun c hc h1 h2 => ?_⟩
    · obtain ⟨k, rfl⟩ : ∃ m, k = m + 1 := ⟨k - 1, by omega⟩
      unfold spec_l2Meets.f
      rw [spec_l2In_eq h ha' hb' (k + 1) (by omega), c1, spec_l2In_eq h hb' ha' (k + 1) (by omega), c2]
      simp only [spec_l2Ref.f, Option.bind_some, Bool.false_eq_true, if_false]
      by_cases c4 : a < 2
      · rw [if_neg (by simp; omega)]; simp [spec_l2Meets.j0]
      · rw [if_pos (by simp; omega)]
        have : decide (b ≥ 2) = false := decide_eq_false (by omega)
        rw [this]; simp [spec_l2Meets.j0]
    · have : c = 0 := by
        unfold tOk at hc
        unfold tIn at c1 c2 h1 h2
        split at c1 <;> try (simp at c1; done)
        split at c2 <;> try (simp at c2; done)
        split at h1
        · split at h2
          · omega
          · split at h2
            · simp only [decide_eq_true_eq] at h2
              rename_i z1 z2 z3 z4 z5
              by_cases q : c = 0
              · exact q
              · exfalso
                have : a = c := by omega
                subst this
                rw [if_pos z5] at c2
                simp at c2; omega
            · split at h2
              · simp at h2
              · omega
        · split at h1
          · simp only [decide_eq_true_eq] at h1
            rename_i z1 z2 z3 z4
            split at h2
            · rename_i z5
              by_cases q : b = c
              · subst q
                rw [if_pos z4] at c1
                simp at c1; omega
              · omega
            · split at h2
              · omega
              · split at h2
                · simp at h2
                · omega
          · split at h1
            · simp at h1
            · split at h2
              · omega
              · split at h2
                · omega
                · split at h2
                  · simp at h2
                  · omega
      subst this
      exact tIn_none cs 0
  have a2 : a ≠ 2 := fun e => by
    subst e
    unfold tIn at c1
    split at c1
    · simp at c1
    · simp at c1; omega
  have b2 : b ≠ 2 := fun e => by
    subst e
    unfold tIn at c2
    split at c2
    · simp at c2
    · simp at c2; omega
  have low : ∀ {x c : Int}, 3 ≤ x → x < 8 → tIn cs x c = true → c = x ∨ c = 0 ∨ c = 8 := by
    intro x c h1 h2 hc
    unfold tIn at hc
    split at hc
    · omega
    · rw [if_neg (by omega)] at hc
      split at hc
      · simp at hc
      · try simp only [if_pos h2, decide_eq_true_eq] at hc
        omega
  by_cases c4 : a < 8 ∨ b < 8
  · have in8 : ∀ {x : Int}, 3 ≤ x → x < 8 + (cs.length : Int) → tIn cs x 8 = true := by
      intro x h1 h2
      by_cases q : 8 ≤ x
      · rw [tIn_cls q (by omega)]; exact up_root h _ (by omega) (by omega)
      · unfold tIn
        rw [if_neg (by omega), if_neg (by omega), if_neg (by omega), if_pos (by omega)]
        rfl
    refine ⟨8, fun k hk => ?_, by unfold tOk; omega, in8 (by omega) (by omega), in8 (by omega) (by omega), fun c hc h1 h2 => ?_⟩
    · obtain ⟨k, rfl⟩ : ∃ m, k = m + 1 := ⟨k - 1, by omega⟩
      unfold spec_l2Meets.f
      rw [spec_l2In_eq h ha' hb' (k + 1) (by omega), c1, spec_l2In_eq h hb' ha' (k + 1) (by omega), c2]
      simp only [spec_l2Ref.f, Option.bind_some, Bool.false_eq_true, if_false]
      rw [if_pos (by simp; omega), show decide (b ≥ 2) = true from decide_eq_true (by omega)]
      simp only [spec_l2Meets.j0, Bool.not_true, Bool.false_eq_true, if_false]
      by_cases q : a < 8
      · rw [if_pos q]
      · rw [if_neg q, if_pos (by omega)]
    · rcases c4 with q | q
      · rcases low (by omega) q h1 with e | e | e
        · subst e; rw [h2] at c2; cases c2
        · subst e; exact tIn_none cs 8
        · subst e; exact tIn_refl cs 8
      · rcases low (by omega) q h2 with e | e | e
        · subst e; rw [h1] at c1; cases c1
        · subst e; exact tIn_none cs 8
        · subst e; exact tIn_refl cs 8
  obtain ⟨j, hj, j0, j1, ja, jb, jm⟩ := l2Join_spec h (b := b - 8) (by omega) (by omega) (a - 8) (by omega) (by omega)
  refine ⟨8 + j, fun k hk => ?_, by unfold tOk; omega, ?_, ?_, fun c hc h1 h2 => ?_⟩
  · obtain ⟨k, rfl⟩ : ∃ m, k = m + 1 := ⟨k - 1, by omega⟩
    unfold spec_l2Meets.f
    rw [spec_l2In_eq h ha' hb' (k + 1) (by omega), c1, spec_l2In_eq h hb' ha' (k + 1) (by omega), c2]
    simp only [spec_l2Ref.f, Option.bind_some, Bool.false_eq_true, if_false]
    rw [if_pos (by simp; omega), show decide (b ≥ 2) = true from decide_eq_true (by omega)]
    simp only [spec_l2Meets.j0, Bool.not_true, Bool.false_eq_true, if_false]
    rw [if_neg (by omega), if_neg (by omega), wrap64_of (by omega) (by omega), wrap64_of (by omega) (by omega), hj k (by omega)]
    simp only [Option.bind_some]
    rw [wrap64_of (by omega) (by omega)]
  · rw [tIn_cls (by omega) (by omega), show 8 + j - 8 = j from by omega]; exact ja
  · rw [tIn_cls (by omega) (by omega), show 8 + j - 8 = j from by omega]; exact jb
  · by_cases q : 8 ≤ c
    · rw [tIn_cls (by omega) q] at h1 h2
      rw [tIn_cls (by omega) q, show 8 + j - 8 = j from by omega]
      exact jm _ h1 h2
    · have : c = 0 := by
        unfold tIn at h1
        by_cases z : a = c ∨ c = 0
        · omega
        · rw [if_neg z, if_neg (by omega), if_pos (by omega)] at h1; cases h1
      subst this; exact tIn_none cs _
theorem nearIn_eq {cn : Int → Option Bool} {un : Int → Int → Option Bool} {c : Int → Bool} {u : Int → Int → Bool} {one : Int} : ∀ {l : List Int}, (∀ t ∈ l, cn t = some (c t) ∧ un one t = some (u one t)) → nearIn cn un one l = some (l.all (fun t => !(c t) || u one t))
 | [], _ => rfl
 | o :: os, h => by
  obtain ⟨h1, h2⟩ := h o List.mem_cons_self
  have ih := nearIn_eq (l := os) (fun t ht => h t (List.mem_cons_of_mem _ ht))
  simp only [nearIn, h1, Option.bind_some]
  cases hc : c o with
  | false => simp [hc, ih]
  | true =>
   simp only [if_true, h2, Option.bind_some]
   cases hu : u one o with
   | false => simp [hc, hu]
   | true => simp [hc, hu, ih]
theorem nearOut_eq {cn : Int → Option Bool} {un : Int → Int → Option Bool} {c : Int → Bool} {u : Int → Int → Bool} {all : List Int} : ∀ {l : List Int}, (∀ t ∈ l, cn t = some (c t) ∧ ∀ s ∈ all, cn s = some (c s) ∧ un t s = some (u t s)) → nearOut cn un all l = some (l.find? (fun t => c t && all.all (fun s => !(c s) || u t s)))
 | [], _ => rfl
 | o :: os, h => by
  obtain ⟨h1, h2⟩ := h o List.mem_cons_self
  have ih := nearOut_eq (l := os) (fun t ht => h t (List.mem_cons_of_mem _ ht))
  simp only [nearOut, h1, Option.bind_some]
  cases hc : c o with
  | false => simp [hc, ih]
  | true =>
   simp only [if_true, nearIn_eq h2, Option.bind_some]
   cases hu : all.all (fun s => !(c s) || u o s) with
   | false => rw [List.find?_cons_of_neg (by simp [hc, hu])]; simp [ih]
   | true => rw [List.find?_cons_of_pos (by simp [hc, hu])]; simp
theorem typeJoin_eq {cs : Cs} (h : csOk cs = true) (a b : Int) : ∃ m, impl_typeJoin.f cs a b = some m ∧ (tOk cs a → tOk cs b → ∀ k : Nat, 40 ≤ k → spec_l2Meets.f k cs a b = some m) ∧ (¬ (tOk cs a ∧ tOk cs b) → m = 0) := by
 have hl := csOk_len h
 unfold impl_typeJoin.f
 rw [if_pos (by omega)]
 by_cases ho : tOk cs a ∧ tOk cs b
 ·obtain ⟨ha, hb⟩ := ho
  rw [if_pos ⟨by rw [kOk_eq]; exact decide_eq_true ha, by rw [kOk_eq]; exact decide_eq_true hb⟩]
  obtain ⟨m, hm, mo, ma, mb, ml⟩ := l2Meets_spec h ha hb
  have hall : ∀ t, t ∈ allK cs.length ↔ tOk cs t := by
   intro t
   unfold allK tOk
   simp only [List.mem_append, List.mem_cons, List.mem_map, List.mem_range, List.not_mem_nil, or_false]
   constructor
   ·rintro (q | ⟨i, hi, rfl⟩) <;> omega
   ·rintro (q | q)
    ·left; omega
    ·right; exact ⟨(t - 8).toNat, by omega, by omega⟩
  have hcn : ∀ t, tOk cs t → cnF cs a b t = some (tIn cs a t && tIn cs b t) := by
   intro t ht
   unfold cnF
   rw [kndIn_eq h ha ht, kndIn_eq h hb ht]
   simp only [Option.bind_some]
   cases tIn cs a t <;> simp
  rw [nearOut_eq (c := fun t => tIn cs a t && tIn cs b t) (u := tIn cs) (fun t ht => ⟨hcn t ((hall t).1 ht), fun s hs => ⟨hcn s ((hall s).1 hs), kndIn_eq h ((hall t).1 ht) ((hall s).1 hs)⟩⟩)]
  refine ⟨m, ?_, fun _ _ => hm, fun z => absurd ⟨ha, hb⟩ z⟩
  have hf : (allK cs.length).find? (fun t => (tIn cs a t && tIn cs b t) && (allK cs.length).all (fun s => !(tIn cs a s && tIn cs b s) || tIn cs t s)) = some m := by
   cases hq : (allK cs.length).find? (fun t => (tIn cs a t && tIn cs b t) && (allK cs.length).all (fun s => !(tIn cs a s && tIn cs b s) || tIn cs t s)) with
   | none =>
    have := List.find?_eq_none.1 hq m ((hall m).2 mo)
    refine absurd ?_ this
    simp only [ma, mb, Bool.and_self, Bool.true_and, List.all_eq_true]
    intro s hs
    cases h1 : tIn cs a s <;> cases h2 : tIn cs b s <;> simp
    exact ml s ((hall s).1 hs) h1 h2
   | some x =>
    have hx := List.find?_some hq
    have hxm := List.mem_of_find?_eq_some hq
    simp only [Bool.and_eq_true, List.all_eq_true] at hx
    obtain ⟨⟨xa, xb⟩, xl⟩ := hx
    have hxo := (hall x).1 hxm
    have h1 := xl m ((hall m).2 mo)
    rw [ma, mb] at h1
    simp at h1
    rw [tIn_anti h hxo mo h1 (ml x hxo xa xb)]
  rw [hf]; rfl
 ·rw [if_neg (by rw [kOk_eq, kOk_eq, decide_eq_true_eq, decide_eq_true_eq]; exact ho)]
  exact ⟨0, rfl, fun ha hb => absurd ⟨ha, hb⟩ ho, fun _ => rfl⟩
theorem spec_TypeOk_eq {cs : Cs} (hf : fewF cs) (t : Int) (k : Nat) (hk : 2000000 ≤ k) : spec_TypeOk.f k cs t = some (csOk cs && decide (tOk cs t)) := by
 unfold spec_TypeOk.f
 rw [spec_ClassesOk_eq hf k hk]
 simp only [Option.bind_some]
 cases hc : csOk cs with
 | false => simp
 | true =>
  have hl := csOk_len hc
  simp only [if_true, Bool.true_and]
  by_cases c0 : t = 0
  ·rw [if_pos c0, decide_eq_true (by unfold tOk; omega)]
  rw [if_neg c0]
  by_cases c2 : t = 2
  ·rw [if_pos c2, decide_eq_true (by unfold tOk; omega)]
  rw [if_neg c2, spec_l2Field_eq cs t (by omega)]
  simp only [Option.bind_some, Option.some.injEq]
  unfold fldOk
  by_cases z : tOk cs t
  ·rw [decide_eq_true z]
   have z' : (0 ≤ t ∧ t ≤ 4) ∨ (8 ≤ t ∧ t < 8 + (cs.length : Int)) := z
   have y : t = 1 ∨ t = 3 ∨ t = 4 ∨ (8 ≤ t ∧ t < 8 + (cs.length : Int)) := by omega
   exact decide_eq_true y
  ·rw [decide_eq_false z]
   have z' : ¬ ((0 ≤ t ∧ t ≤ 4) ∨ (8 ≤ t ∧ t < 8 + (cs.length : Int))) := z
   have y : ¬ (t = 1 ∨ t = 3 ∨ t = 4 ∨ (8 ≤ t ∧ t < 8 + (cs.length : Int))) := by omega
   exact decide_eq_false y
theorem TypeJoin_eq {cs : Cs} (hf : fewF cs) (a b : Int) (k : Nat) (hk : 2000000 ≤ k) : ∃ m, impl_TypeJoin.f k cs a b = some m ∧ spec_TypeJoin.f k cs a b = some m := by
 unfold impl_TypeJoin.f spec_TypeJoin.f
 rw [impl_ClassesOk_eq cs k (by omega), spec_TypeOk_eq hf a k hk, spec_TypeOk_eq hf b k hk]
 simp only [Option.bind_some]
 cases hc : csOk cs with
 | false => exact ⟨0, by simp, by simp⟩
 | true =>
  obtain ⟨m, h1, h2, h3⟩ := typeJoin_eq hc a b
  refine ⟨m, by simp [h1], ?_⟩
  simp only [Bool.true_and]
  by_cases ha : tOk cs a
  ·by_cases hb : tOk cs b
   ·rw [decide_eq_true ha, decide_eq_true hb, if_pos rfl, if_pos rfl, h2 ha hb k (by omega)]; rfl
   ·rw [decide_eq_true ha, decide_eq_false hb, if_pos rfl, if_neg (by simp), h3 (fun z => hb z.2)]
  ·rw [decide_eq_false ha, if_neg (by simp), h3 (fun z => ha z.1)]
theorem typeIn_at {cs : Cs} (h : csOk cs = true) {a b : Int} (hb : b ≤ 1000000) : impl_typeIn.f cs a b = some (decide (tOk cs a) && (decide (tOk cs b) && tIn cs a b)) := by
 have hl := csOk_len h
 unfold impl_typeIn.f
 rw [if_pos ⟨by omega, by omega⟩, kOk_eq, kOk_eq]
 by_cases ca : tOk cs a
 ·by_cases cb : tOk cs b
  ·rw [decide_eq_true ca, decide_eq_true cb, if_pos rfl, if_pos rfl, kndIn_eq h ca cb]; rfl
  ·rw [decide_eq_true ca, decide_eq_false cb, if_pos rfl, if_neg (by simp)]; rfl
 ·rw [decide_eq_false ca, if_neg (by simp)]; rfl
theorem TypeIn_at {cs : Cs} (h : csOk cs = true) {a b : Int} (hb : b ≤ 1000000) : impl_TypeIn.f 5000000 cs a b = some (decide (tOk cs a) && (decide (tOk cs b) && tIn cs a b)) := by
  unfold impl_TypeIn.f
  rw [impl_ClassesOk_eq cs 5000000 (by decide), h, Option.bind_some, if_pos rfl, typeIn_at h hb]; rfl
theorem join_at {cs : Cs} (h : csOk cs = true) {a b : Int} (ha : tOk cs a) (hb : tOk cs b) : ∃ m, impl_TypeJoin.f 5000000 cs a b = some m ∧ tOk cs m ∧ tIn cs a m = true ∧ tIn cs b m = true ∧ ∀ c, tOk cs c → tIn cs a c = true → tIn cs b c = true → tIn cs m c = true := by
 obtain ⟨m, h1, h2, _⟩ := typeJoin_eq h a b
 obtain ⟨m', g1, g2, g3, g4, g5⟩ := l2Meets_spec h ha hb
 have e := (h2 ha hb 40 (by omega)).symm.trans (g1 40 (by omega))
 obtain rfl := Option.some.inj e
 refine ⟨m, ?_, g2, g3, g4, g5⟩
 unfold impl_TypeJoin.f
 rw [impl_ClassesOk_eq cs 5000000 (by decide), h, Option.bind_some, if_pos rfl, h1]; rfl
theorem tok_le {cs : Cs} (h : csOk cs = true) {a : Int} (ha : tOk cs a) : a ≤ 1000000 := by
 have hl := csOk_len h
 unfold tOk at ha
 omega
theorem tj_law {cs : Cs} (hf : fewF cs) (a b : Int) : ∃ (m : Int) (oka okb : Bool), impl_TypeJoin.f 5000000 cs a b = some m ∧ spec_TypeJoin.f 5000000 cs a b = some m ∧ spec_TypeOk.f 5000000 cs a = some oka ∧ spec_TypeOk.f 5000000 cs b = some okb ∧
  (oka = true → okb = true → impl_TypeIn.f 5000000 cs a m = some true ∧ impl_TypeIn.f 5000000 cs b m = some true ∧ impl_TypeJoin.f 5000000 cs b a = some m ∧ impl_TypeJoin.f 5000000 cs m a = some m ∧
   ∀ c : Int, c ≤ 1000000 → ∃ p q r : Bool, impl_TypeIn.f 5000000 cs a c = some p ∧ impl_TypeIn.f 5000000 cs b c = some q ∧ impl_TypeIn.f 5000000 cs m c = some r ∧ (p = true → q = true → r = true)) := by
 obtain ⟨m, h1, h2⟩ := TypeJoin_eq hf a b 5000000 (by decide)
 refine ⟨m, _, _, h1, h2, spec_TypeOk_eq hf a 5000000 (by decide), spec_TypeOk_eq hf b 5000000 (by decide), fun ka kb => ?_⟩
 rw [Bool.and_eq_true, decide_eq_true_eq] at ka kb
 obtain ⟨h, ha⟩ := ka
 have hb := kb.2
 obtain ⟨m', g1, g2, g3, g4, g5⟩ := join_at h ha hb
 obtain rfl := Option.some.inj (h1.symm.trans g1)
 obtain ⟨n, n1, n2, n3, n4, n5⟩ := join_at h hb ha
 obtain rfl : m = n := tIn_anti h g2 n2 (g5 n n2 n4 n3) (n5 m g2 g4 g3)
 obtain ⟨j, j1, j2, j3, j4, j5⟩ := join_at h g2 ha
 obtain rfl : m = j := tIn_anti h g2 j2 j3 (j5 m g2 (tIn_refl cs m) g3)
 have hm := tok_le h g2
 refine ⟨?_, ?_, n1, j1, fun c hc => ⟨_, _, _, TypeIn_at h hc, TypeIn_at h hc, TypeIn_at h hc, fun p q => ?_⟩⟩
 ·rw [TypeIn_at h hm, decide_eq_true ha, decide_eq_true g2, g3]; rfl
 ·rw [TypeIn_at h hm, decide_eq_true hb, decide_eq_true g2, g4]; rfl
 ·simp only [Bool.and_eq_true, decide_eq_true_eq] at p q ⊢
  exact ⟨g2, p.2.1, g5 c p.2.1 p.2.2 q.2.2⟩
theorem fewF_few {cs : Cs} (h : ∀ x ∈ cs, x.f1.length ≤ 3) : fewF cs := by
 intro i
 unfold flds rd_T84
 by_cases c : i.toNat < cs.length
 ·rw [List.getD_eq_getElem?_getD, List.getElem?_eq_getElem c]
  have := h _ (List.getElem_mem c)
  simp only [Option.getD_some]
  omega
 ·rw [List.getD_eq_getElem?_getD, List.getElem?_eq_none (by omega)]
  simp only [Option.getD_none]
  exact Nat.zero_le _
end Go.Proofs.Ytnjbgkmmfndmeaa.Pure
namespace Go.Proofs.Ytnjbgkmmfndmeaa.K
open Go.RowKit Go.Proofs.YtnjbgkmmfndmeaaW.PrintWords Go.Proofs.YtnjbgkmmfndmeaaW.PrintLast Go.Proofs.YtnjbgkmmfndmeaaW.PrintMore
attribute [local go_sem] max2_int min2_int max_two min_two max_three min_three max_four min_four
set_option linter.unusedVariables false
set_option linter.unusedSimpArgs false
open Go.Proofs.Ytnjbgkmmfndmeaa.Pure
def laws_FnTypeJoin.f (l0 : List Int) : Option Bool := if (∀ x ∈ l0, (Lit.int .u8 x).wf = true) then some true else none
set_option maxHeartbeats 32000000 in
set_option maxRecDepth 100000 in
theorem laws_FnTypeJoin.calls (AC : Option Addr) (cC : Nat) (lC : List Int) (r : Bool) (w : World) (hr_ : Aside0 (r = true)) (hr0 : Kd.C (Kd.int .u8) w AC lC.length lC) (hc0 : lC.length ≤ cC) (h : laws_FnTypeJoin.f lC = some r) :
  Calls Try.prog 3 #[.slice AC lC.length cC] w fun e w' => e = .returned (.bool r) ∧ Below w.heap.size w w' := by
 obtain rfl := hr_.out
 unfold laws_FnTypeJoin.f at h
 split at h
 case isFalse => simp at h
 case isTrue hl =>
 clear h hr_
 have HR0 := Aside0.mk hr0
 have HC0 := Aside0.mk hc0
 have HL := Aside0.mk hl
 clear hr0 hc0 hl
 by_cases c1 : 1048576 < (lC.length : Int)
 ·have d1 : decide (1048576 < (lC.length : Int)) = true := decide_eq_true c1
  go_enter Try.func3, Try.ntmps3
  go_wp2
  go_ret
  exact ⟨rfl, by first | exact Below.refl _ _ | exact below_drew1 (Below.refl _ _)⟩
 have d1 : decide (1048576 < (lC.length : Int)) = false := decide_eq_false c1
 clear c1
 go_enter Try.func3, Try.ntmps3
 go_wp2_with (go_at_call 9; refine Classical.byContradiction (fun hng => ?_))
 refine hng ?_
 clear hng
 refine (typejoin_any AC cC lC _ HR0.out HC0.out HL.out).mono ?_
 rintro e w1 ⟨A, n, cs, a, b, rfl, hV, hl, hf, hb⟩
 have HV := Aside0.mk (Kd.V_mono hV (ok' := fun _ => True) (fun _ _ => trivial))
 have HB := Aside0.mk hb
 have HL9 := Aside0.mk hl
 obtain ⟨m, oka, okb, h1, h2, h3, h4, h5⟩ := tj_law (cs := cs) (fewF_few hf) a b
 have G1 := Aside0.mk h1
 have G2 := Aside0.mk h2
 have G3 := Aside0.mk h3
 have G4 := Aside0.mk h4
 have G5 := Aside0.mk h5
 clear hV hl hf hb h1 h2 h3 h4 h5 HR0 HC0 HL d1
 go_wp2_with (go_at_call 10; refine Classical.byContradiction (fun hng => ?_))
 refine hng ?_
 clear hng
 refine (impl_TypeJoin.calls 5000000 A n cs a b m _ (Kd.V_reads' HV.out).2.2 (Kd.V_reads' HV.out).2.1 G1.out).mono ?_
 rintro e w101 ⟨rfl, hb⟩
 replace HV := Aside0.mk (Kd.V_below HV.out hb)
 replace HB := Aside0.mk (below_step HB.out hb)
 clear hb
 go_wp2_with (go_at_call 11; refine Classical.byContradiction (fun hng => ?_))
 refine hng ?_
 clear hng
 refine (spec_TypeJoin.calls 5000000 A n cs a b m _ (Kd.V_reads' HV.out).2.2 (Kd.V_reads' HV.out).2.1 G2.out).mono ?_
 rintro e w102 ⟨rfl, hb⟩
 replace HV := Aside0.mk (Kd.V_below HV.out hb)
 replace HB := Aside0.mk (below_step HB.out hb)
 clear hb
 cases oka with
 | false =>
  go_wp2_with (go_at_call 12; refine Classical.byContradiction (fun hng => ?_))
  refine hng ?_
  clear hng
  refine (spec_TypeOk.calls 5000000 A n cs a false _ (Kd.V_reads' HV.out).2.2 (Kd.V_reads' HV.out).2.1 G3.out).mono ?_
  rintro e w103 ⟨rfl, hb⟩
  replace HV := Aside0.mk (Kd.V_below HV.out hb)
  replace HB := Aside0.mk (below_step HB.out hb)
  clear hb
  go_wp2_with (go_at_call 11; refine Classical.byContradiction (fun hng => ?_))
  refine hng ?_
  clear hng
  refine (spec_TypeJoin.calls 5000000 A n cs a b m _ (Kd.V_reads' HV.out).2.2 (Kd.V_reads' HV.out).2.1 G2.out).mono ?_
  rintro e w104 ⟨rfl, hb⟩
  replace HV := Aside0.mk (Kd.V_below HV.out hb)
  replace HB := Aside0.mk (below_step HB.out hb)
  clear hb
  go_wp2
  go_ret
  exact ⟨by simp, HB.out⟩
 | true =>
  go_wp2_with (go_at_call 12; refine Classical.byContradiction (fun hng => ?_))
  refine hng ?_
  clear hng
  refine (spec_TypeOk.calls 5000000 A n cs a true _ (Kd.V_reads' HV.out).2.2 (Kd.V_reads' HV.out).2.1 G3.out).mono ?_
  rintro e w105 ⟨rfl, hb⟩
  replace HV := Aside0.mk (Kd.V_below HV.out hb)
  replace HB := Aside0.mk (below_step HB.out hb)
  clear hb
  cases okb with
  | false =>
   go_wp2_with (go_at_call 12; refine Classical.byContradiction (fun hng => ?_))
   refine hng ?_
   clear hng
   refine (spec_TypeOk.calls 5000000 A n cs b false _ (Kd.V_reads' HV.out).2.2 (Kd.V_reads' HV.out).2.1 G4.out).mono ?_
   rintro e w106 ⟨rfl, hb⟩
   replace HV := Aside0.mk (Kd.V_below HV.out hb)
   replace HB := Aside0.mk (below_step HB.out hb)
   clear hb
   go_wp2_with (go_at_call 11; refine Classical.byContradiction (fun hng => ?_))
   refine hng ?_
   clear hng
   refine (spec_TypeJoin.calls 5000000 A n cs a b m _ (Kd.V_reads' HV.out).2.2 (Kd.V_reads' HV.out).2.1 G2.out).mono ?_
   rintro e w107 ⟨rfl, hb⟩
   replace HV := Aside0.mk (Kd.V_below HV.out hb)
   replace HB := Aside0.mk (below_step HB.out hb)
   clear hb
   go_wp2
   go_ret
   exact ⟨by simp, HB.out⟩
  | true =>
   go_wp2_with (go_at_call 12; refine Classical.byContradiction (fun hng => ?_))
   refine hng ?_
   clear hng
   refine (spec_TypeOk.calls 5000000 A n cs b true _ (Kd.V_reads' HV.out).2.2 (Kd.V_reads' HV.out).2.1 G4.out).mono ?_
   rintro e w108 ⟨rfl, hb⟩
   replace HV := Aside0.mk (Kd.V_below HV.out hb)
   replace HB := Aside0.mk (below_step HB.out hb)
   clear hb
   obtain ⟨i1, i2, i3, i4, i5⟩ := G5.out (by trivial) (by trivial)
   have F1 := Aside0.mk i1
   have F2 := Aside0.mk i2
   have F3 := Aside0.mk i3
   have F4 := Aside0.mk i4
   have F5 := Aside0.mk i5
   clear i1 i2 i3 i4 i5
   go_wp2_with (go_at_call 13; refine Classical.byContradiction (fun hng => ?_))
   refine hng ?_
   clear hng
   refine (impl_TypeIn.calls 5000000 A n cs a m true _ (Kd.V_reads' HV.out).2.2 (Kd.V_reads' HV.out).2.1 F1.out).mono ?_
   rintro e w109 ⟨rfl, hb⟩
   replace HV := Aside0.mk (Kd.V_below HV.out hb)
   replace HB := Aside0.mk (below_step HB.out hb)
   clear hb
   go_wp2_with (go_at_call 13; refine Classical.byContradiction (fun hng => ?_))
   refine hng ?_
   clear hng
   refine (impl_TypeIn.calls 5000000 A n cs b m true _ (Kd.V_reads' HV.out).2.2 (Kd.V_reads' HV.out).2.1 F2.out).mono ?_
   rintro e w110 ⟨rfl, hb⟩
   replace HV := Aside0.mk (Kd.V_below HV.out hb)
   replace HB := Aside0.mk (below_step HB.out hb)
   clear hb
   go_wp2_with (go_at_call 10; refine Classical.byContradiction (fun hng => ?_))
   refine hng ?_
   clear hng
   refine (impl_TypeJoin.calls 5000000 A n cs b a m _ (Kd.V_reads' HV.out).2.2 (Kd.V_reads' HV.out).2.1 F3.out).mono ?_
   rintro e w111 ⟨rfl, hb⟩
   replace HV := Aside0.mk (Kd.V_below HV.out hb)
   replace HB := Aside0.mk (below_step HB.out hb)
   clear hb
   have u1 : IntKind.i64.wrap (8 + (cs.length : Int)) = 8 + (cs.length : Int) := IntWalk.i64_in _ (by have := HL9.out; omega)
   go_wp2
   go_loopw [7] (fun v7 wr => ∃ j : Nat, v7 = .int .i64 (j : Int) ∧ Aside0 (j ≤ 8 + cs.length) ∧ Aside0 (Kd.V k84 84 wr 0 (fun _ => True) (.slice A cs.length n) cs) ∧ Aside0 (Below w.heap.size w wr)) (fun v7 _ => 8 + cs.length - (intOf v7).toNat)
   case atStart => exact ⟨0, rfl, ⟨Nat.zero_le _⟩, HV, HB⟩
   case round =>
    clear HV HB
    obtain ⟨j, rfl, HJ, HV, HB⟩ := hrel
    by_cases cx : (j : Int) < 8 + (cs.length : Int)
    ·have d0 : decide ((j : Int) < 8 + (cs.length : Int)) = true := decide_eq_true cx
     obtain ⟨p, q, r, c1, c2, c3, c4⟩ := F5.out (j : Int) (by have := HL9.out; omega)
     have C1 := Aside0.mk c1
     have C2 := Aside0.mk c2
     have C3 := Aside0.mk c3
     have C4 := Aside0.mk c4
     have HJ1 := Aside0.mk (show j < 8 + cs.length by omega)
     have u5 : IntKind.i64.wrap ((j : Int) + 1) = (j : Int) + 1 := IntWalk.i64_in _ (by have := HL9.out; have := HJ1.out; omega)
     clear c1 c2 c3 c4 cx
     cases p with
     | false =>
      go_wp2_with (go_at_call 13; refine Classical.byContradiction (fun hng => ?_))
      refine hng ?_
      clear hng
      refine (impl_TypeIn.calls 5000000 A n cs a (j : Int) false _ (Kd.V_reads' HV.out).2.2 (Kd.V_reads' HV.out).2.1 C1.out).mono ?_
      rintro e w112 ⟨rfl, hb⟩
      replace HV := Aside0.mk (Kd.V_below HV.out hb)
      replace HB := Aside0.mk (below_step HB.out hb)
      clear hb
      go_wp2
      go_roundw
      case rel => exact ⟨j + 1, rfl, ⟨by have := HJ1.out; omega⟩, HV, HB⟩
      case measure => have := HJ1.out; simp only [intOf]; omega
     | true =>
      go_wp2_with (go_at_call 13; refine Classical.byContradiction (fun hng => ?_))
      refine hng ?_
      clear hng
      refine (impl_TypeIn.calls 5000000 A n cs a (j : Int) true _ (Kd.V_reads' HV.out).2.2 (Kd.V_reads' HV.out).2.1 C1.out).mono ?_
      rintro e w113 ⟨rfl, hb⟩
      replace HV := Aside0.mk (Kd.V_below HV.out hb)
      replace HB := Aside0.mk (below_step HB.out hb)
      clear hb
      cases q with
      | false =>
       go_wp2_with (go_at_call 13; refine Classical.byContradiction (fun hng => ?_))
       refine hng ?_
       clear hng
       refine (impl_TypeIn.calls 5000000 A n cs b (j : Int) false _ (Kd.V_reads' HV.out).2.2 (Kd.V_reads' HV.out).2.1 C2.out).mono ?_
       rintro e w114 ⟨rfl, hb⟩
       replace HV := Aside0.mk (Kd.V_below HV.out hb)
       replace HB := Aside0.mk (below_step HB.out hb)
       clear hb
       go_wp2
       go_roundw
       case rel => exact ⟨j + 1, rfl, ⟨by have := HJ1.out; omega⟩, HV, HB⟩
       case measure => have := HJ1.out; simp only [intOf]; omega
      | true =>
       have hr : r = true := C4.out (by trivial) (by trivial)
       subst hr
       go_wp2_with (go_at_call 13; refine Classical.byContradiction (fun hng => ?_))
       refine hng ?_
       clear hng
       refine (impl_TypeIn.calls 5000000 A n cs b (j : Int) true _ (Kd.V_reads' HV.out).2.2 (Kd.V_reads' HV.out).2.1 C2.out).mono ?_
       rintro e w115 ⟨rfl, hb⟩
       replace HV := Aside0.mk (Kd.V_below HV.out hb)
       replace HB := Aside0.mk (below_step HB.out hb)
       clear hb
       go_wp2_with (go_at_call 13; refine Classical.byContradiction (fun hng => ?_))
       refine hng ?_
       clear hng
       refine (impl_TypeIn.calls 5000000 A n cs m (j : Int) true _ (Kd.V_reads' HV.out).2.2 (Kd.V_reads' HV.out).2.1 C3.out).mono ?_
       rintro e w116 ⟨rfl, hb⟩
       replace HV := Aside0.mk (Kd.V_below HV.out hb)
       replace HB := Aside0.mk (below_step HB.out hb)
       clear hb
       go_wp2
       go_roundw
       case rel => exact ⟨j + 1, rfl, ⟨by have := HJ1.out; omega⟩, HV, HB⟩
       case measure => have := HJ1.out; simp only [intOf]; omega
    ·have d0 : decide ((j : Int) < 8 + (cs.length : Int)) = false := decide_eq_false cx
     clear cx
     go_wp2_with (go_at_call 10; refine Classical.byContradiction (fun hng => ?_))
     refine hng ?_
     clear hng
     refine (impl_TypeJoin.calls 5000000 A n cs m a m _ (Kd.V_reads' HV.out).2.2 (Kd.V_reads' HV.out).2.1 F4.out).mono ?_
     rintro e w117 ⟨rfl, hb⟩
     replace HV := Aside0.mk (Kd.V_below HV.out hb)
     replace HB := Aside0.mk (below_step HB.out hb)
     clear hb
     go_wp2
     go_ret
     exact ⟨by simp, HB.out⟩
end Go.Proofs.Ytnjbgkmmfndmeaa.K
namespace Go.Proofs.Ytnjbgkmmfndmeaa.K
open Go.RowKit Go.Proofs.YtnjbgkmmfndmeaaW.PrintWords Go.Proofs.YtnjbgkmmfndmeaaW.PrintLast Go.Proofs.YtnjbgkmmfndmeaaW.PrintMore
attribute [local go_sem] max2_int min2_int max_two min_two max_three min_three max_four min_four
set_option linter.unusedVariables false
set_option linter.unusedSimpArgs false
section
open Go.ChangeShapes Go.WideShapes Go.ChangeAt Go.Deep
def Opens {H α : Type} (enc : TypeId × Value → H) (P : Program) (w : World) (d : Kd α) (G : α → Prop) (t : TypeId) : Prop :=
  ∀ (fuel : Nat) (cs : List Value) (x : DataW H × List MemPlace), DataW.trod enc P w 0 (fun _ => true) true fuel t cs = some x → ∃ a : α, d.K w a cs ∧ G a
variable {H α : Type} {enc : TypeId × Value → H} {P : Program} {w : World} {d : Kd α} {G : α → Prop} {t e : TypeId}
theorem opens_int {k : IntKind} (ht : P.underlying t = some (.int k)) : Opens enc P w (Kd.int k) (fun n => (Lit.int k n).wf = true) t := by
 intro fuel cs x h
 obtain ⟨n, rfl, _, hw⟩ := DataW.trod_int ht h
 exact ⟨n, rfl, hw⟩
def GL (G : α → Prop) (xs : List α) : Prop := xs.length ≤ 9223372036854775807 ∧ ∀ x ∈ xs, G x
theorem list_of {Q : Nat → α → Prop} : ∀ n : Nat, (∀ i, i < n → ∃ p, Q i p) → ∃ xs : List α, xs.length = n ∧ ∀ i p, xs[i]? = some p → Q i p
  | 0, _ => ⟨[], rfl, fun i p h => by simp at h⟩
  | n + 1, h => by
    obtain ⟨xs, hl, hx⟩ := list_of n (fun i hi => h i (by omega))
    obtain ⟨p, hp⟩ := h n (by omega)
    refine ⟨xs ++ [p], by simp [hl], fun i q hq => ?_⟩
    by_cases hi : i < n
    · rw [List.getElem?_append_left (by omega)] at hq
      exact hx i q hq
    · have : i = n := by
        have := (List.getElem?_eq_some_iff.1 hq).1
        simp at this; omega
      subst this
      rw [List.getElem?_append_right (by omega)] at hq
      simp [hl] at hq
      subst hq
      exact hp
theorem opens_slice (ht : P.underlying t = some (.slice e)) (hs : d.sz = P.cellsOf e) (he : Opens enc P w d G e) : Opens enc P w (Kd.slice e d) (GL G) t := by
 intro fuel cs x h
 rcases open_slice ht h with ⟨rfl, _⟩ | ⟨a, len, cap, m, n, D, Pl, rfl, hb, hl, hm, hmm, hx, hi⟩
 ·exact ⟨[], ⟨none, 0, rfl, Nat.le_refl _, Kd.C_nil _ _⟩, by simp [GL]⟩
 ·have hmc : m = cap := by simpa using hmm
  obtain ⟨xs, hlen, hxs⟩ := list_of (Q := fun i p => ∃ c, c.length = d.sz ∧ d.K w p c ∧ (∀ j u, c[j]? = some u → w.cell? (a.add (i * d.sz + j)) = some u) ∧ G p) len (fun i hil => by
   obtain ⟨cs', hc, ht'⟩ := hi i (by omega)
   obtain ⟨p, hK, hG⟩ := he n cs' _ ht'
   obtain ⟨_, hcl, hat⟩ := World.cells?_some hc
   refine ⟨p, cs', d.K_len hK, hK, fun j u hu => ?_, hG⟩
   have hj : j < P.cellsOf e := by rw [← hcl]; exact (List.getElem?_eq_some_iff.1 hu).1
   have := hat j hj
   rw [Go.Deep.add_add] at this
   rw [hs, this, hu])
  subst hlen
  refine ⟨xs, ⟨some a, cap, rfl, hl, rfl, ?_, fun _ => ⟨a, rfl, fun j p hj => ?_⟩⟩, ?_, fun x hx => ?_⟩
  ·have : maxLen = 9223372036854775807 := rfl
   omega
  ·obtain ⟨c, h1, h2, h3, _⟩ := hxs j p hj
   exact ⟨c, h1, h2, h3⟩
  ·have : maxLen = 9223372036854775807 := rfl
   omega
  ·obtain ⟨i, hi', rfl⟩ := List.getElem_of_mem hx
   obtain ⟨c, _, _, _, hG⟩ := hxs i _ (List.getElem?_eq_getElem hi')
   exact hG
end
def laws_FnTypeJoin.Pure : Prop := ∀ (a0 : List Int), (GL (fun n : Int => (Lit.int .u8 n).wf = true)) a0 → laws_FnTypeJoin.f a0 = some true
section
open Go.ChangeShapes Go.WideShapes Go.ChangeAt Go.Deep
end
end Go.Proofs.Ytnjbgkmmfndmeaa.K
namespace Go.Proofs.Ytnjbgkmmfndmeaa.Pure
open Go.RowKit Go.Proofs.Ytnjbgkmmfndmeaa.K Go.Proofs.YtnjbgkmmfndmeaaW.PrintWords Go.Proofs.YtnjbgkmmfndmeaaW.PrintLast Go.Proofs.YtnjbgkmmfndmeaaW.PrintMore
set_option linter.unusedVariables false
set_option linter.unusedSimpArgs false
theorem FnTypeJoin : laws_FnTypeJoin.Pure := by
 intro l hl
 unfold laws_FnTypeJoin.f
 exact if_pos (show ∀ x ∈ l, (Lit.int .u8 x).wf = true from hl.2)
end Go.Proofs.Ytnjbgkmmfndmeaa.Pure
