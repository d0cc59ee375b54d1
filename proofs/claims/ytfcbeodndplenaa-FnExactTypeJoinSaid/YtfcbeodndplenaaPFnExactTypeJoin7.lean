import Derived.Test.YtfcbeodndplenaaPFnExactTypeJoin3
import Derived.Test.YtfcbeodndplenaaPFnExactTypeJoin4
import Derived.Test.YtfcbeodndplenaaPFnExactTypeJoin6
import Derived.Deep.Slices
import Derived.Deep.Fields
import Derived.ChangeSame
import Derived.ProofKit
import Derived.OpenShut
import Derived.ShutString
import Derived.ChangeOld
import Derived.SizedLaws
import Derived.Test.YtfcbeodndplenaaPFnExactTypeJoin5

/- Function 21, impl_TypeJoin: what it answers, and the walk. (Printed or laid by this session's program wip/pr.py.) -/
namespace Go.Proofs.Ytfcbeodndplenaa.K
open Go.RowKit Go.Proofs.YtfcbeodndplenaaW.PrintWords Go.Proofs.YtfcbeodndplenaaW.PrintLast Go.Proofs.YtfcbeodndplenaaW.PrintMore
attribute [local go_sem] max2_int min2_int max_two min_two max_three min_three max_four min_four
set_option linter.unusedVariables false
set_option linter.unusedSimpArgs false

/-! ### impl_TypeJoin: function 21 -/
def impl_TypeJoin.f (k : Nat) (l0 : List (S34)) (a1 : Int) (a2 : Int) : Option (Int) := (impl_ClassesOk.f k l0).bind fun t162 => (if t162 = true then ((impl_typeJoin.f l0 a1 a2).bind fun t163 => (some t163)) else (some 0))
theorem impl_TypeJoin.mono : ∀ a0 a1 a2 k, LeO (impl_TypeJoin.f k a0 a1 a2) (impl_TypeJoin.f (k + 1) a0 a1 a2) := by
  intro a0 a1 a2 k
  unfold impl_TypeJoin.f
  repeat' first
      | (with_reducible exact impl_ClassesOk.mono _ _)
      | (with_reducible exact LeO.refl _)
      | (with_reducible exact LeO.none _)
      | (with_reducible refine LeO.ite ?_ ?_)
      | (with_reducible refine LeO.bind ?_ (fun _ => ?_))
      | exact impl_ClassesOk.mono _ _
      | exact LeO.none _
      | refine LeO.ite ?_ ?_
      | refine LeO.bind ?_ (fun _ => ?_)
set_option maxHeartbeats 8000000 in
set_option maxRecDepth 100000 in
theorem impl_TypeJoin.calls (k : Nat) (A0 : Option Addr) (c0 : Nat) (l0 : List (S34)) (a1 : Int) (a2 : Int) (r : Int) (w : World) (hr0 : Kd.C k34 w A0 l0.length l0) (hc0 : l0.length ≤ c0) (h : impl_TypeJoin.f k l0 a1 a2 = some r) :
    Calls Try.prog 21 #[.slice A0 l0.length c0, .int .i64 a1, .int .i64 a2] w fun e w' => e = .returned (.int .i64 r) ∧ Below w.heap.size w w' := by
  have HR0 := Aside0.mk hr0
  have HC0 := Aside0.mk hc0
  clear hr0 hc0
  have HB := Aside0.mk (Below.refl w.heap.size w)
  have H : ((impl_ClassesOk.f k l0).bind fun t162 => (if t162 = true then ((impl_typeJoin.f l0 a1 a2).bind fun t163 => (some t163)) else (some 0))) = some r := h
  clear h
  replace H := Option.bind_eq_some_iff.mp H
  obtain ⟨t162, A40, H⟩ := H
  replace H : (if t162 = true then ((impl_typeJoin.f l0 a1 a2).bind fun t163 => (some t163)) else (some 0)) = some r := H
  have A4 := Aside0.mk A40
  clear A40
  by_cases c5 : t162 = true
  · subst c5
    have H1 : ((impl_typeJoin.f l0 a1 a2).bind fun t163 => (some t163)) = some r := by rw [if_pos rfl] at H; exact H
    clear H
    have H := H1
    clear H1
    replace H := Option.bind_eq_some_iff.mp H
    obtain ⟨t163, A60, H⟩ := H
    replace H : (some t163) = some r := H
    have A6 := Aside0.mk A60
    clear A60
    obtain rfl := Option.some.inj H
    go_enter Try.func21, Try.ntmps21
    go_wp2_with (first | ((with_reducible refine gate_callee (f := 53) rfl ?_); refine goesL_ (some 8) rfl rfl Try.func53 (by kernel_rfl) rfl #[.slice A0 l0.length c0] rfl (by (try simp only [List.map_toArray, List.map_cons, List.map_nil]); first | done | rfl | (simp only [List.length_drop, List.length_take]; rfl)) ?_; (with_reducible refine (impl_ClassesOk.calls k _ _ l0 true _ ?side1 ?side2 A4.out).mono ?_); (case side1 => repeat (first | exact HR0.out | (with_reducible refine Kd.C_alloc ?_ _) | (with_reducible refine Kd.C_drewN ?_ _) | (with_reducible refine Kd.C_drew ?_))); (case side2 => exact HC0.out); rintro e w7 ⟨rfl, hb⟩; refine ⟨_, rfl, ?_⟩; have n0_ := Aside0.mk (below_step (by repeat (first | (with_reducible first | exact HB.out | apply below_alloc | apply pw_below_drewN | apply below_drew1) | exact HB.out)) hb); clear HB; have HB := n0_; clear n0_; (try clear hb); (try clear hb2); (try clear hk); (try clear hi)) | ((with_reducible refine gate_callee (f := 54) rfl ?_); refine goesL_ (some 13) rfl rfl Try.func54 (by kernel_rfl) rfl #[.slice A0 l0.length c0, .int .i64 a1, .int .i64 a2] rfl (by (try simp only [List.map_toArray, List.map_cons, List.map_nil]); first | done | rfl | (simp only [List.length_drop, List.length_take]; rfl)) ?_; (with_reducible refine (impl_typeJoin.calls _ _ l0 a1 a2 t163 _ ?side1 ?side2 A6.out).mono ?_); (case side1 => repeat (first | exact (Kd.C_below HR0.out HB.out) | (with_reducible refine Kd.C_alloc ?_ _) | (with_reducible refine Kd.C_drewN ?_ _) | (with_reducible refine Kd.C_drew ?_))); (case side2 => exact HC0.out); rintro e w8 ⟨rfl, hb⟩; refine ⟨_, rfl, ?_⟩; have n0_ := Aside0.mk (below_step (by repeat (first | (with_reducible first | exact HB.out | apply below_alloc | apply pw_below_drewN | apply below_drew1) | exact HB.out)) hb); clear HB; have HB := n0_; clear n0_; (try clear hb); (try clear hb2); (try clear hk); (try clear hi)))
    go_ret
    exact ⟨by first | rfl | (simp [errW_none, errW_some] <;> rfl) | (simp [*, errW_none, errW_some] <;> rfl), by repeat (first | (with_reducible first | exact HB.out | apply below_alloc | apply pw_below_drewN | apply below_drew1) | exact HB.out)⟩
  · replace c5 := Bool.eq_false_iff.mpr c5
    subst c5
    have H1 : (some 0) = some r := by rw [if_neg (show ¬ (false = true) by decide)] at H; exact H
    clear H
    have H := H1
    clear H1
    obtain rfl := Option.some.inj H
    go_enter Try.func21, Try.ntmps21
    go_wp2_with (first | ((with_reducible refine gate_callee (f := 53) rfl ?_); refine goesL_ (some 8) rfl rfl Try.func53 (by kernel_rfl) rfl #[.slice A0 l0.length c0] rfl (by (try simp only [List.map_toArray, List.map_cons, List.map_nil]); first | done | rfl | (simp only [List.length_drop, List.length_take]; rfl)) ?_; (with_reducible refine (impl_ClassesOk.calls k _ _ l0 false _ ?side1 ?side2 A4.out).mono ?_); (case side1 => repeat (first | exact HR0.out | (with_reducible refine Kd.C_alloc ?_ _) | (with_reducible refine Kd.C_drewN ?_ _) | (with_reducible refine Kd.C_drew ?_))); (case side2 => exact HC0.out); rintro e w9 ⟨rfl, hb⟩; refine ⟨_, rfl, ?_⟩; have n0_ := Aside0.mk (below_step (by repeat (first | (with_reducible first | exact HB.out | apply below_alloc | apply pw_below_drewN | apply below_drew1) | exact HB.out)) hb); clear HB; have HB := n0_; clear n0_; (try clear hb); (try clear hb2); (try clear hk); (try clear hi)))
    go_ret
    exact ⟨by first | rfl | (simp [errW_none, errW_some] <;> rfl) | (simp [*, errW_none, errW_some] <;> rfl), by repeat (first | (with_reducible first | exact HB.out | apply below_alloc | apply pw_below_drewN | apply below_drew1) | exact HB.out)⟩

end Go.Proofs.Ytfcbeodndplenaa.K

/- Function 40, laws_eqIntS: what it answers, and the walk. (Printed or laid by this session's program wip/pr.py.) -/
namespace Go.Proofs.Ytfcbeodndplenaa.K
open Go.RowKit Go.Proofs.YtfcbeodndplenaaW.PrintWords Go.Proofs.YtfcbeodndplenaaW.PrintLast Go.Proofs.YtfcbeodndplenaaW.PrintMore
attribute [local go_sem] max2_int min2_int max_two min_two max_three min_three max_four min_four
set_option linter.unusedVariables false
set_option linter.unusedSimpArgs false

/-! ### laws_eqIntS: function 40 -/
def laws_eqIntS.l0 : Nat → List Int → List Int → Int → Option (Bool)
  | 0, _, _, _ => none
  | k + 1, x0, x1, x5 => if x5 < (x0.length : Int) then (if 0 ≤ x5 then (if x5 < (x1.length : Int) then (if (rd x0 x5) = (rd x1 x5) then (laws_eqIntS.l0 k x0 x1 (wrap64 (x5 + 1))) else (some false)) else (none)) else (none)) else (some true)
def laws_eqIntS.f (k : Nat) (l0 : List Int) (l1 : List Int) : Option (Bool) := if (l0.length : Int) = (l1.length : Int) then (laws_eqIntS.l0 k l0 l1 0) else (some false)
theorem laws_eqIntS.mono_l : ∀ k, (∀ y0 y1 y2, LeO (laws_eqIntS.l0 k y0 y1 y2) (laws_eqIntS.l0 (k + 1) y0 y1 y2))
  | 0 => fun _ _ _ r h => by simp [laws_eqIntS.l0] at h
  | k + 1 => by
    have ih0 := laws_eqIntS.mono_l k
    · intro y0 y1 y2
      unfold laws_eqIntS.l0
      repeat' first
      | (with_reducible exact ih0 _ _ _)
      | (with_reducible exact LeO.refl _)
      | (with_reducible exact LeO.none _)
      | (with_reducible refine LeO.ite ?_ ?_)
      | (with_reducible refine LeO.bind ?_ (fun _ => ?_))
      | exact ih0 _ _ _
      | exact LeO.none _
      | refine LeO.ite ?_ ?_
      | refine LeO.bind ?_ (fun _ => ?_)
theorem laws_eqIntS.mono : ∀ a0 a1 k, LeO (laws_eqIntS.f k a0 a1) (laws_eqIntS.f (k + 1) a0 a1) := by
  intro a0 a1 k
  have ih0 := laws_eqIntS.mono_l k
  unfold laws_eqIntS.f
  repeat' first
      | (with_reducible exact ih0 _ _ _)
      | (with_reducible exact LeO.refl _)
      | (with_reducible exact LeO.none _)
      | (with_reducible refine LeO.ite ?_ ?_)
      | (with_reducible refine LeO.bind ?_ (fun _ => ?_))
      | exact ih0 _ _ _
      | exact LeO.none _
      | refine LeO.ite ?_ ?_
      | refine LeO.bind ?_ (fun _ => ?_)
set_option maxHeartbeats 8000000 in
set_option maxRecDepth 100000 in
theorem laws_eqIntS.calls (k : Nat) (A0 : Option Addr) (c0 : Nat) (l0 : List Int) (A1 : Option Addr) (c1 : Nat) (l1 : List Int) (r : Bool) (w : World) (hr0 : Kd.C (Kd.int .i64) w A0 l0.length l0) (hc0 : l0.length ≤ c0) (hr1 : Kd.C (Kd.int .i64) w A1 l1.length l1) (hc1 : l1.length ≤ c1) (h : laws_eqIntS.f k l0 l1 = some r) :
    Calls Try.prog 40 #[.slice A0 l0.length c0, .slice A1 l1.length c1] w fun e w' => e = .returned (.bool r) ∧ Drawn0 w w' := by
  have HR0 := Aside0.mk hr0
  have HC0 := Aside0.mk hc0
  clear hr0 hc0
  have HR1 := Aside0.mk hr1
  have HC1 := Aside0.mk hc1
  clear hr1 hc1
  have H : (if (l0.length : Int) = (l1.length : Int) then (laws_eqIntS.l0 k l0 l1 0) else (some false)) = some r := h
  clear h
  by_cases c3 : (l0.length : Int) = (l1.length : Int)
  · rw [if_pos c3] at H
    have c3b0 : ((l0.length : Int) == (l1.length : Int)) = true := beq_iff_eq.mpr c3
    have c3b1 : ((l0.length : Int) != (l1.length : Int)) = false := bne_eq_false_iff_eq.mpr c3
    have c3b2 : (l0.length == l1.length) = true := by first | simpa using c3 | (simp at c3 ⊢; omega)
    clear c3
    have H' := Aside0.mk H
    clear H
    go_enter Try.func40, Try.ntmps40
    go_wp2
    repeat (go_quiet (fail); try go_wp2)
    go_loopg [5] k (fun kq v5 w' => ∃ (x5_1 : Int), v5 = .int .i64 x5_1 ∧ Aside0 (laws_eqIntS.l0 kq l0 l1 x5_1 = some r) ∧ Aside0 (kq ≤ k) ∧ Drawn0 w w')
    case atStart => exact ⟨(0), (by first | rfl | (simp; done) | (simp [*]; done)), H', ⟨Nat.le_refl _⟩, by repeat (first | exact Drawn0.refl _ | apply Drawn0.step)⟩
    case round =>
      clear H'
      try clear c1
      try clear p2
      try clear c3
      try clear c3b0
      try clear c3b1
      try clear c3b2
      obtain ⟨x5_1, rfl, HA, HK1, ⟨m1, rfl⟩⟩ := hrel
      cases gk with
      | zero => exact absurd HA.out (by simp [laws_eqIntS.l0])
      | succ k1 =>
        have H := HA.out
        clear HA
        simp only [laws_eqIntS.l0] at H
        by_cases c4 : x5_1 < (l0.length : Int)
        · rw [if_pos c4] at H
          have c4b0 : decide (x5_1 < (l0.length : Int)) = true := decide_eq_true c4
          clear c4
          by_cases c5 : 0 ≤ x5_1
          · rw [if_pos c5] at H
            have c5b0 : decide (0 ≤ x5_1) = true := decide_eq_true c5
            clear c5
            by_cases c6 : x5_1 < (l1.length : Int)
            · rw [if_pos c6] at H
              have c6b0 : decide (x5_1 < (l1.length : Int)) = true := decide_eq_true c6
              clear c6
              by_cases c7 : (rd l0 x5_1) = (rd l1 x5_1)
              · rw [if_pos c7] at H
                have c7b0 : ((rd l0 x5_1) == (rd l1 x5_1)) = true := beq_iff_eq.mpr c7
                have c7b1 : ((rd l0 x5_1) != (rd l1 x5_1)) = false := bne_eq_false_iff_eq.mpr c7
                clear c7
                have H' := Aside0.mk H
                clear H
                have p164 : 0 ≤ (x5_1 : Int) := of_decide_eq_true (by first | (with_reducible assumption) | assumption)
                have q164 : x5_1 < (l0.length : Int) := of_decide_eq_true (by first | (with_reducible assumption) | assumption)
                obtain ⟨ad164, e164, hx164_0⟩ := Kd.at_int HR0.out x5_1 p164 q164
                cases e164
                replace p164 := eq_true p164
                replace q164 := eq_true q164
                have p165 : 0 ≤ (x5_1 : Int) := of_decide_eq_true (by first | (with_reducible assumption) | assumption)
                have q165 : x5_1 < (l1.length : Int) := of_decide_eq_true (by first | (with_reducible assumption) | assumption)
                obtain ⟨ad165, e165, hx165_0⟩ := Kd.at_int HR1.out x5_1 p165 q165
                cases e165
                replace p165 := eq_true p165
                replace q165 := eq_true q165
                go_wp2
                repeat (go_quiet (fail); try go_wp2)
                go_roundg k1
                case measure => have := HK1.out; omega
                case rel => exact ⟨(wrap64 (x5_1 + 1)), (by first | rfl | (simp; done) | (simp [*]; done)), H', ⟨by have := HK1.out; omega⟩, by repeat (first | exact Drawn0.refl _ | apply Drawn0.step)⟩
              · rw [if_neg c7] at H
                have c7b0 : ((rd l0 x5_1) == (rd l1 x5_1)) = false := beq_eq_false_iff_ne.mpr c7
                have c7b1 : ((rd l0 x5_1) != (rd l1 x5_1)) = true := bne_iff_ne.mpr c7
                obtain rfl := Option.some.inj H
                have p164 : 0 ≤ (x5_1 : Int) := of_decide_eq_true (by first | (with_reducible assumption) | assumption)
                have q164 : x5_1 < (l0.length : Int) := of_decide_eq_true (by first | (with_reducible assumption) | assumption)
                obtain ⟨ad164, e164, hx164_0⟩ := Kd.at_int HR0.out x5_1 p164 q164
                cases e164
                replace p164 := eq_true p164
                replace q164 := eq_true q164
                have p165 : 0 ≤ (x5_1 : Int) := of_decide_eq_true (by first | (with_reducible assumption) | assumption)
                have q165 : x5_1 < (l1.length : Int) := of_decide_eq_true (by first | (with_reducible assumption) | assumption)
                obtain ⟨ad165, e165, hx165_0⟩ := Kd.at_int HR1.out x5_1 p165 q165
                cases e165
                replace p165 := eq_true p165
                replace q165 := eq_true q165
                go_wp2
                repeat (go_quiet (fail); try go_wp2)
                go_ret
                exact ⟨by first | rfl | (simp; done) | (simp [*]; done), by repeat (first | exact Drawn0.refl _ | apply Drawn0.step)⟩
            · rw [if_neg c6] at H
              exact absurd H (by simp)
          · rw [if_neg c5] at H
            exact absurd H (by simp)
        · rw [if_neg c4] at H
          have c4b0 : decide (x5_1 < (l0.length : Int)) = false := decide_eq_false c4
          clear c4
          obtain rfl := Option.some.inj H
          go_wp2
          repeat (go_quiet (fail); try go_wp2)
          go_ret
          exact ⟨by first | rfl | (simp; done) | (simp [*]; done), by repeat (first | exact Drawn0.refl _ | apply Drawn0.step)⟩
  · rw [if_neg c3] at H
    have c3b0 : ((l0.length : Int) == (l1.length : Int)) = false := beq_eq_false_iff_ne.mpr c3
    have c3b1 : ((l0.length : Int) != (l1.length : Int)) = true := bne_iff_ne.mpr c3
    have c3b2 : (l0.length == l1.length) = false := by first | simpa using c3 | (simp at c3 ⊢; omega)
    obtain rfl := Option.some.inj H
    go_enter Try.func40, Try.ntmps40
    go_wp2
    repeat (go_quiet (fail); try go_wp2)
    go_ret
    exact ⟨by first | rfl | (simp; done) | (simp [*]; done), by repeat (first | exact Drawn0.refl _ | apply Drawn0.step)⟩

end Go.Proofs.Ytfcbeodndplenaa.K

/- Function 55, laws_eqClass: what it answers, and the walk. (Printed or laid by this session's program wip/pr.py.) -/
namespace Go.Proofs.Ytfcbeodndplenaa.K
open Go.RowKit Go.Proofs.YtfcbeodndplenaaW.PrintWords Go.Proofs.YtfcbeodndplenaaW.PrintLast Go.Proofs.YtfcbeodndplenaaW.PrintMore
attribute [local go_sem] max2_int min2_int max_two min_two max_three min_three max_four min_four
set_option linter.unusedVariables false
set_option linter.unusedSimpArgs false

/-! ### laws_eqClass: function 55 -/
def laws_eqClass.f (k : Nat) (a0_0 : Int) (l0_1 : List Int) (a1_0 : Int) (l1_1 : List Int) : Option (Bool) := if a0_0 = a1_0 then ((laws_eqIntS.f k l0_1 l1_1).bind fun t168 => (if t168 = true then (some true) else (some false))) else (some false)
theorem laws_eqClass.mono : ∀ a0 a1 a2 a3 k, LeO (laws_eqClass.f k a0 a1 a2 a3) (laws_eqClass.f (k + 1) a0 a1 a2 a3) := by
  intro a0 a1 a2 a3 k
  unfold laws_eqClass.f
  repeat' first
      | (with_reducible exact laws_eqIntS.mono _ _ _)
      | (with_reducible exact LeO.refl _)
      | (with_reducible exact LeO.none _)
      | (with_reducible refine LeO.ite ?_ ?_)
      | (with_reducible refine LeO.bind ?_ (fun _ => ?_))
      | exact laws_eqIntS.mono _ _ _
      | exact LeO.none _
      | refine LeO.ite ?_ ?_
      | refine LeO.bind ?_ (fun _ => ?_)
set_option maxHeartbeats 8000000 in
set_option maxRecDepth 100000 in
theorem laws_eqClass.calls (k : Nat) (a0_0 : Int) (A0_1 : Option Addr) (c0_1 : Nat) (l0_1 : List Int) (a1_0 : Int) (A1_1 : Option Addr) (c1_1 : Nat) (l1_1 : List Int) (r : Bool) (w : World) (hr0_1 : Kd.C (Kd.int .i64) w A0_1 l0_1.length l0_1) (hc0_1 : l0_1.length ≤ c0_1) (hr1_1 : Kd.C (Kd.int .i64) w A1_1 l1_1.length l1_1) (hc1_1 : l1_1.length ≤ c1_1) (h : laws_eqClass.f k a0_0 l0_1 a1_0 l1_1 = some r) :
    Calls Try.prog 55 #[.agg #[.int .i64 a0_0, .slice A0_1 l0_1.length c0_1], .agg #[.int .i64 a1_0, .slice A1_1 l1_1.length c1_1]] w fun e w' => e = .returned (.bool r) ∧ Below w.heap.size w w' := by
  have hu34 := Try.underlying34
  have HR0_1 := Aside0.mk hr0_1
  have HC0_1 := Aside0.mk hc0_1
  clear hr0_1 hc0_1
  have HR1_1 := Aside0.mk hr1_1
  have HC1_1 := Aside0.mk hc1_1
  clear hr1_1 hc1_1
  have HB := Aside0.mk (Below.refl w.heap.size w)
  have H : (if a0_0 = a1_0 then ((laws_eqIntS.f k l0_1 l1_1).bind fun t168 => (if t168 = true then (some true) else (some false))) else (some false)) = some r := h
  clear h
  by_cases c3 : a0_0 = a1_0
  · rw [if_pos c3] at H
    have c3b0 : (a0_0 == a1_0) = true := beq_iff_eq.mpr c3
    have c3b1 : (a0_0 != a1_0) = false := bne_eq_false_iff_eq.mpr c3
    clear c3
    replace H := Option.bind_eq_some_iff.mp H
    obtain ⟨t168, A40, H⟩ := H
    replace H : (if t168 = true then (some true) else (some false)) = some r := H
    have A4 := Aside0.mk A40
    clear A40
    by_cases c5 : t168 = true
    · subst c5
      have H1 : (some true) = some r := by rw [if_pos rfl] at H; exact H
      clear H
      have H := H1
      clear H1
      obtain rfl := Option.some.inj H
      go_enter Try.func55, Try.ntmps55
      go_wp2_with (first | ((with_reducible refine gate_dst (N := 2) rfl ?_); refine box_event ?hg (N := 2) ?hd (cs := #[.int .i64 a0_0, .slice A0_1 l0_1.length c0_1]) (t := 34) ?hr ?_; (case hd => rfl); (case hg => rfl); (case hr => first | (go_simp; done) | (go_simp; rfl)); intro gb166 hg w6 hbox hb; have n0_ := Aside0.mk (below_step (by repeat (first | (with_reducible first | exact HB.out | apply below_alloc | apply pw_below_drewN | apply below_drew1) | exact HB.out)) hb); have n1_ := Aside0.mk (hbox); have n2_ := Aside0.mk ((by rw [hg]; exact (below_size (by repeat (first | (with_reducible first | exact HB.out | apply below_alloc | apply pw_below_drewN | apply below_drew1) | exact HB.out))) : w.heap.size ≤ gb166)); have n3_ := Aside0.mk ((by rw [hg]; exact (below_size (by repeat (first | (with_reducible first | exact HB.out | apply below_alloc | apply pw_below_drewN | apply below_drew1) | exact HB.out))) : w.heap.size ≤ gb166)); clear HB; have HB := n0_; have BK166 := n1_; have GW166 := n2_; have GE166 := n3_; clear n0_ n1_ n2_ n3_; clear hb hbox hg) | ((with_reducible refine gate_dst (N := 3) rfl ?_); refine box_event ?hg (N := 3) ?hd (cs := #[.int .i64 a1_0, .slice A1_1 l1_1.length c1_1]) (t := 34) ?hr ?_; (case hd => rfl); (case hg => rfl); (case hr => first | (go_simp; done) | (go_simp; rfl)); intro gb167 hg w7 hbox hb; have n0_ := Aside0.mk (blk_below (g := gb166) (o := .cells #[.int .i64 a0_0, .slice A0_1 l0_1.length c0_1] 34 (0, 0)) (by (with_reducible repeat (first | refine blk_drewN ?_ _ | refine blk_drew ?_ | refine blk_alloc ?_ _)); exact BK166.out) hb); have n1_ := Aside0.mk (below_step (by repeat (first | (with_reducible first | exact HB.out | apply below_alloc | apply pw_below_drewN | apply below_drew1 | refine below_set ?_ GE166.out) | exact HB.out)) hb); have n2_ := Aside0.mk (hbox); have n3_ := Aside0.mk ((by rw [hg]; exact (below_size (by repeat (first | (with_reducible first | exact HB.out | apply below_alloc | apply pw_below_drewN | apply below_drew1 | refine below_set ?_ GE166.out) | exact HB.out))) : w.heap.size ≤ gb167)); have n4_ := Aside0.mk ((by rw [hg]; exact (below_size (by repeat (first | (with_reducible first | exact HB.out | apply below_alloc | apply pw_below_drewN | apply below_drew1 | refine below_set ?_ GE166.out) | exact HB.out))) : w.heap.size ≤ gb167)); have n5_ := Aside0.mk ((by rw [hg]; exact Nat.ne_of_lt (blk_lt (g := gb166) (o := .cells #[.int .i64 a0_0, .slice A0_1 l0_1.length c0_1] 34 (0, 0)) (by (with_reducible repeat (first | refine blk_drewN ?_ _ | refine blk_drew ?_ | refine blk_alloc ?_ _)); exact BK166.out)) : gb166 ≠ gb167)); have n6_ := Aside0.mk ((by rw [hg]; exact Nat.ne_of_gt (blk_lt (g := gb166) (o := .cells #[.int .i64 a0_0, .slice A0_1 l0_1.length c0_1] 34 (0, 0)) (by (with_reducible repeat (first | refine blk_drewN ?_ _ | refine blk_drew ?_ | refine blk_alloc ?_ _)); exact BK166.out)) : gb167 ≠ gb166)); clear BK166; clear HB; have BK166 := n0_; have HB := n1_; have BK167 := n2_; have GW167 := n3_; have GE167 := n4_; have NB166_167 := n5_; have NB167_166 := n6_; clear n0_ n1_ n2_ n3_ n4_ n5_ n6_; clear hb hbox hg; have hnb8 := NB166_167.out; have hnc8 := NB167_166.out; have hcz9_0 : w7.cell? ⟨gb166, 0, none⟩ = some (.int .i64 a0_0) := (blk_cell BK166.out 0).trans rfl; have hcz9_1 : w7.cell? ⟨gb166, 1, none⟩ = some (.slice A0_1 l0_1.length c0_1) := (blk_cell BK166.out 1).trans rfl; have hfz9_0 := blk_frozen BK166.out 0; have hfz9_1 := blk_frozen BK166.out 1; have hcz10_0 : w7.cell? ⟨gb167, 0, none⟩ = some (.int .i64 a1_0) := (blk_cell BK167.out 0).trans rfl; have hcz10_1 : w7.cell? ⟨gb167, 1, none⟩ = some (.slice A1_1 l1_1.length c1_1) := (blk_cell BK167.out 1).trans rfl; have hfz10_0 := blk_frozen BK167.out 0; have hfz10_1 := blk_frozen BK167.out 1) | ((with_reducible refine gate_callee (f := 40) rfl ?_); refine goesL_ (some 14) rfl rfl Try.func40 (by kernel_rfl) rfl #[.slice A0_1 l0_1.length c0_1, .slice A1_1 l1_1.length c1_1] rfl (by (try simp only [List.map_toArray, List.map_cons, List.map_nil]); first | done | rfl | (simp only [List.length_drop, List.length_take]; rfl)) ?_; (with_reducible refine (laws_eqIntS.calls k _ _ l0_1 _ _ l1_1 true _ ?side1 ?side2 ?side3 ?side4 A4.out).mono ?_); (case side1 => repeat (first | exact (Kd.C_below HR0_1.out HB.out) | (with_reducible refine Kd.C_alloc ?_ _) | (with_reducible refine Kd.C_drewN ?_ _) | (with_reducible refine Kd.C_drew ?_))); (case side2 => exact HC0_1.out); (case side3 => repeat (first | exact (Kd.C_below HR1_1.out HB.out) | (with_reducible refine Kd.C_alloc ?_ _) | (with_reducible refine Kd.C_drewN ?_ _) | (with_reducible refine Kd.C_drew ?_))); (case side4 => exact HC1_1.out); rintro e w' ⟨rfl, ⟨nd, rfl⟩⟩; refine ⟨_, rfl, ?_⟩))
      go_ret
      exact ⟨by first | rfl | (simp [errW_none, errW_some] <;> rfl) | (simp [*, errW_none, errW_some] <;> rfl), by repeat (first | (with_reducible first | exact HB.out | apply below_alloc | apply pw_below_drewN | apply below_drew1 | refine below_set ?_ GE166.out | refine below_set ?_ GE167.out) | exact HB.out)⟩
    · replace c5 := Bool.eq_false_iff.mpr c5
      subst c5
      have H1 : (some false) = some r := by rw [if_neg (show ¬ (false = true) by decide)] at H; exact H
      clear H
      have H := H1
      clear H1
      obtain rfl := Option.some.inj H
      go_enter Try.func55, Try.ntmps55
      go_wp2_with (first | ((with_reducible refine gate_dst (N := 2) rfl ?_); refine box_event ?hg (N := 2) ?hd (cs := #[.int .i64 a0_0, .slice A0_1 l0_1.length c0_1]) (t := 34) ?hr ?_; (case hd => rfl); (case hg => rfl); (case hr => first | (go_simp; done) | (go_simp; rfl)); intro gb166 hg w11 hbox hb; have n0_ := Aside0.mk (below_step (by repeat (first | (with_reducible first | exact HB.out | apply below_alloc | apply pw_below_drewN | apply below_drew1) | exact HB.out)) hb); have n1_ := Aside0.mk (hbox); have n2_ := Aside0.mk ((by rw [hg]; exact (below_size (by repeat (first | (with_reducible first | exact HB.out | apply below_alloc | apply pw_below_drewN | apply below_drew1) | exact HB.out))) : w.heap.size ≤ gb166)); have n3_ := Aside0.mk ((by rw [hg]; exact (below_size (by repeat (first | (with_reducible first | exact HB.out | apply below_alloc | apply pw_below_drewN | apply below_drew1) | exact HB.out))) : w.heap.size ≤ gb166)); clear HB; have HB := n0_; have BK166 := n1_; have GW166 := n2_; have GE166 := n3_; clear n0_ n1_ n2_ n3_; clear hb hbox hg) | ((with_reducible refine gate_dst (N := 3) rfl ?_); refine box_event ?hg (N := 3) ?hd (cs := #[.int .i64 a1_0, .slice A1_1 l1_1.length c1_1]) (t := 34) ?hr ?_; (case hd => rfl); (case hg => rfl); (case hr => first | (go_simp; done) | (go_simp; rfl)); intro gb167 hg w12 hbox hb; have n0_ := Aside0.mk (blk_below (g := gb166) (o := .cells #[.int .i64 a0_0, .slice A0_1 l0_1.length c0_1] 34 (0, 0)) (by (with_reducible repeat (first | refine blk_drewN ?_ _ | refine blk_drew ?_ | refine blk_alloc ?_ _)); exact BK166.out) hb); have n1_ := Aside0.mk (below_step (by repeat (first | (with_reducible first | exact HB.out | apply below_alloc | apply pw_below_drewN | apply below_drew1 | refine below_set ?_ GE166.out) | exact HB.out)) hb); have n2_ := Aside0.mk (hbox); have n3_ := Aside0.mk ((by rw [hg]; exact (below_size (by repeat (first | (with_reducible first | exact HB.out | apply below_alloc | apply pw_below_drewN | apply below_drew1 | refine below_set ?_ GE166.out) | exact HB.out))) : w.heap.size ≤ gb167)); have n4_ := Aside0.mk ((by rw [hg]; exact (below_size (by repeat (first | (with_reducible first | exact HB.out | apply below_alloc | apply pw_below_drewN | apply below_drew1 | refine below_set ?_ GE166.out) | exact HB.out))) : w.heap.size ≤ gb167)); have n5_ := Aside0.mk ((by rw [hg]; exact Nat.ne_of_lt (blk_lt (g := gb166) (o := .cells #[.int .i64 a0_0, .slice A0_1 l0_1.length c0_1] 34 (0, 0)) (by (with_reducible repeat (first | refine blk_drewN ?_ _ | refine blk_drew ?_ | refine blk_alloc ?_ _)); exact BK166.out)) : gb166 ≠ gb167)); have n6_ := Aside0.mk ((by rw [hg]; exact Nat.ne_of_gt (blk_lt (g := gb166) (o := .cells #[.int .i64 a0_0, .slice A0_1 l0_1.length c0_1] 34 (0, 0)) (by (with_reducible repeat (first | refine blk_drewN ?_ _ | refine blk_drew ?_ | refine blk_alloc ?_ _)); exact BK166.out)) : gb167 ≠ gb166)); clear BK166; clear HB; have BK166 := n0_; have HB := n1_; have BK167 := n2_; have GW167 := n3_; have GE167 := n4_; have NB166_167 := n5_; have NB167_166 := n6_; clear n0_ n1_ n2_ n3_ n4_ n5_ n6_; clear hb hbox hg; have hnb13 := NB166_167.out; have hnc13 := NB167_166.out; have hcz14_0 : w12.cell? ⟨gb166, 0, none⟩ = some (.int .i64 a0_0) := (blk_cell BK166.out 0).trans rfl; have hcz14_1 : w12.cell? ⟨gb166, 1, none⟩ = some (.slice A0_1 l0_1.length c0_1) := (blk_cell BK166.out 1).trans rfl; have hfz14_0 := blk_frozen BK166.out 0; have hfz14_1 := blk_frozen BK166.out 1; have hcz15_0 : w12.cell? ⟨gb167, 0, none⟩ = some (.int .i64 a1_0) := (blk_cell BK167.out 0).trans rfl; have hcz15_1 : w12.cell? ⟨gb167, 1, none⟩ = some (.slice A1_1 l1_1.length c1_1) := (blk_cell BK167.out 1).trans rfl; have hfz15_0 := blk_frozen BK167.out 0; have hfz15_1 := blk_frozen BK167.out 1) | ((with_reducible refine gate_callee (f := 40) rfl ?_); refine goesL_ (some 14) rfl rfl Try.func40 (by kernel_rfl) rfl #[.slice A0_1 l0_1.length c0_1, .slice A1_1 l1_1.length c1_1] rfl (by (try simp only [List.map_toArray, List.map_cons, List.map_nil]); first | done | rfl | (simp only [List.length_drop, List.length_take]; rfl)) ?_; (with_reducible refine (laws_eqIntS.calls k _ _ l0_1 _ _ l1_1 false _ ?side1 ?side2 ?side3 ?side4 A4.out).mono ?_); (case side1 => repeat (first | exact (Kd.C_below HR0_1.out HB.out) | (with_reducible refine Kd.C_alloc ?_ _) | (with_reducible refine Kd.C_drewN ?_ _) | (with_reducible refine Kd.C_drew ?_))); (case side2 => exact HC0_1.out); (case side3 => repeat (first | exact (Kd.C_below HR1_1.out HB.out) | (with_reducible refine Kd.C_alloc ?_ _) | (with_reducible refine Kd.C_drewN ?_ _) | (with_reducible refine Kd.C_drew ?_))); (case side4 => exact HC1_1.out); rintro e w' ⟨rfl, ⟨nd, rfl⟩⟩; refine ⟨_, rfl, ?_⟩))
      go_ret
      exact ⟨by first | rfl | (simp [errW_none, errW_some] <;> rfl) | (simp [*, errW_none, errW_some] <;> rfl), by repeat (first | (with_reducible first | exact HB.out | apply below_alloc | apply pw_below_drewN | apply below_drew1 | refine below_set ?_ GE166.out | refine below_set ?_ GE167.out) | exact HB.out)⟩
  · rw [if_neg c3] at H
    have c3b0 : (a0_0 == a1_0) = false := beq_eq_false_iff_ne.mpr c3
    have c3b1 : (a0_0 != a1_0) = true := bne_iff_ne.mpr c3
    obtain rfl := Option.some.inj H
    go_enter Try.func55, Try.ntmps55
    go_wp2_with (first | ((with_reducible refine gate_dst (N := 2) rfl ?_); refine box_event ?hg (N := 2) ?hd (cs := #[.int .i64 a0_0, .slice A0_1 l0_1.length c0_1]) (t := 34) ?hr ?_; (case hd => rfl); (case hg => rfl); (case hr => first | (go_simp; done) | (go_simp; rfl)); intro gb166 hg w16 hbox hb; have n0_ := Aside0.mk (below_step (by repeat (first | (with_reducible first | exact HB.out | apply below_alloc | apply pw_below_drewN | apply below_drew1) | exact HB.out)) hb); have n1_ := Aside0.mk (hbox); have n2_ := Aside0.mk ((by rw [hg]; exact (below_size (by repeat (first | (with_reducible first | exact HB.out | apply below_alloc | apply pw_below_drewN | apply below_drew1) | exact HB.out))) : w.heap.size ≤ gb166)); have n3_ := Aside0.mk ((by rw [hg]; exact (below_size (by repeat (first | (with_reducible first | exact HB.out | apply below_alloc | apply pw_below_drewN | apply below_drew1) | exact HB.out))) : w.heap.size ≤ gb166)); clear HB; have HB := n0_; have BK166 := n1_; have GW166 := n2_; have GE166 := n3_; clear n0_ n1_ n2_ n3_; clear hb hbox hg) | ((with_reducible refine gate_dst (N := 3) rfl ?_); refine box_event ?hg (N := 3) ?hd (cs := #[.int .i64 a1_0, .slice A1_1 l1_1.length c1_1]) (t := 34) ?hr ?_; (case hd => rfl); (case hg => rfl); (case hr => first | (go_simp; done) | (go_simp; rfl)); intro gb167 hg w17 hbox hb; have n0_ := Aside0.mk (blk_below (g := gb166) (o := .cells #[.int .i64 a0_0, .slice A0_1 l0_1.length c0_1] 34 (0, 0)) (by (with_reducible repeat (first | refine blk_drewN ?_ _ | refine blk_drew ?_ | refine blk_alloc ?_ _)); exact BK166.out) hb); have n1_ := Aside0.mk (below_step (by repeat (first | (with_reducible first | exact HB.out | apply below_alloc | apply pw_below_drewN | apply below_drew1 | refine below_set ?_ GE166.out) | exact HB.out)) hb); have n2_ := Aside0.mk (hbox); have n3_ := Aside0.mk ((by rw [hg]; exact (below_size (by repeat (first | (with_reducible first | exact HB.out | apply below_alloc | apply pw_below_drewN | apply below_drew1 | refine below_set ?_ GE166.out) | exact HB.out))) : w.heap.size ≤ gb167)); have n4_ := Aside0.mk ((by rw [hg]; exact (below_size (by repeat (first | (with_reducible first | exact HB.out | apply below_alloc | apply pw_below_drewN | apply below_drew1 | refine below_set ?_ GE166.out) | exact HB.out))) : w.heap.size ≤ gb167)); have n5_ := Aside0.mk ((by rw [hg]; exact Nat.ne_of_lt (blk_lt (g := gb166) (o := .cells #[.int .i64 a0_0, .slice A0_1 l0_1.length c0_1] 34 (0, 0)) (by (with_reducible repeat (first | refine blk_drewN ?_ _ | refine blk_drew ?_ | refine blk_alloc ?_ _)); exact BK166.out)) : gb166 ≠ gb167)); have n6_ := Aside0.mk ((by rw [hg]; exact Nat.ne_of_gt (blk_lt (g := gb166) (o := .cells #[.int .i64 a0_0, .slice A0_1 l0_1.length c0_1] 34 (0, 0)) (by (with_reducible repeat (first | refine blk_drewN ?_ _ | refine blk_drew ?_ | refine blk_alloc ?_ _)); exact BK166.out)) : gb167 ≠ gb166)); clear BK166; clear HB; have BK166 := n0_; have HB := n1_; have BK167 := n2_; have GW167 := n3_; have GE167 := n4_; have NB166_167 := n5_; have NB167_166 := n6_; clear n0_ n1_ n2_ n3_ n4_ n5_ n6_; clear hb hbox hg; have hnb18 := NB166_167.out; have hnc18 := NB167_166.out; have hcz19_0 : w17.cell? ⟨gb166, 0, none⟩ = some (.int .i64 a0_0) := (blk_cell BK166.out 0).trans rfl; have hcz19_1 : w17.cell? ⟨gb166, 1, none⟩ = some (.slice A0_1 l0_1.length c0_1) := (blk_cell BK166.out 1).trans rfl; have hfz19_0 := blk_frozen BK166.out 0; have hfz19_1 := blk_frozen BK166.out 1; have hcz20_0 : w17.cell? ⟨gb167, 0, none⟩ = some (.int .i64 a1_0) := (blk_cell BK167.out 0).trans rfl; have hcz20_1 : w17.cell? ⟨gb167, 1, none⟩ = some (.slice A1_1 l1_1.length c1_1) := (blk_cell BK167.out 1).trans rfl; have hfz20_0 := blk_frozen BK167.out 0; have hfz20_1 := blk_frozen BK167.out 1))
    go_ret
    exact ⟨by first | rfl | (simp [errW_none, errW_some] <;> rfl) | (simp [*, errW_none, errW_some] <;> rfl), by repeat (first | (with_reducible first | exact HB.out | apply below_alloc | apply pw_below_drewN | apply below_drew1 | refine below_set ?_ GE166.out | refine below_set ?_ GE167.out) | exact HB.out)⟩

end Go.Proofs.Ytfcbeodndplenaa.K

/- Function 22, laws_eqClassS: what it answers, and the walk. (Printed or laid by this session's program wip/pr.py.) -/
namespace Go.Proofs.Ytfcbeodndplenaa.K
open Go.RowKit Go.Proofs.YtfcbeodndplenaaW.PrintWords Go.Proofs.YtfcbeodndplenaaW.PrintLast Go.Proofs.YtfcbeodndplenaaW.PrintMore
attribute [local go_sem] max2_int min2_int max_two min_two max_three min_three max_four min_four
set_option linter.unusedVariables false
set_option linter.unusedSimpArgs false

/-! ### laws_eqClassS: function 22 -/
def laws_eqClassS.l0 : Nat → List (S34) → List (S34) → Int → Option (Bool)
  | 0, _, _, _ => none
  | k + 1, x0, x1, x5 => if x5 < (x0.length : Int) then (if 0 ≤ x5 then (if x5 < (x1.length : Int) then ((laws_eqClass.f k ((rd_T34 x0 x5).f0) ((rd_T34 x0 x5).f1) ((rd_T34 x1 x5).f0) ((rd_T34 x1 x5).f1)).bind fun t171 => (if t171 = true then (laws_eqClassS.l0 k x0 x1 (wrap64 (x5 + 1))) else (some false))) else (none)) else (none)) else (some true)
def laws_eqClassS.f (k : Nat) (l0 : List (S34)) (l1 : List (S34)) : Option (Bool) := if (l0.length : Int) = (l1.length : Int) then (laws_eqClassS.l0 k l0 l1 0) else (some false)
theorem laws_eqClassS.mono_l : ∀ k, (∀ y0 y1 y2, LeO (laws_eqClassS.l0 k y0 y1 y2) (laws_eqClassS.l0 (k + 1) y0 y1 y2))
  | 0 => fun _ _ _ r h => by simp [laws_eqClassS.l0] at h
  | k + 1 => by
    have ih0 := laws_eqClassS.mono_l k
    · intro y0 y1 y2
      unfold laws_eqClassS.l0
      repeat' first
      | (with_reducible exact ih0 _ _ _)
      | (with_reducible exact laws_eqClass.mono _ _ _ _ _)
      | (with_reducible exact LeO.refl _)
      | (with_reducible exact LeO.none _)
      | (with_reducible refine LeO.ite ?_ ?_)
      | (with_reducible refine LeO.bind ?_ (fun _ => ?_))
      | exact ih0 _ _ _
      | exact laws_eqClass.mono _ _ _ _ _
      | exact LeO.none _
      | refine LeO.ite ?_ ?_
      | refine LeO.bind ?_ (fun _ => ?_)
theorem laws_eqClassS.mono : ∀ a0 a1 k, LeO (laws_eqClassS.f k a0 a1) (laws_eqClassS.f (k + 1) a0 a1) := by
  intro a0 a1 k
  have ih0 := laws_eqClassS.mono_l k
  unfold laws_eqClassS.f
  repeat' first
      | (with_reducible exact ih0 _ _ _)
      | (with_reducible exact laws_eqClass.mono _ _ _ _ _)
      | (with_reducible exact LeO.refl _)
      | (with_reducible exact LeO.none _)
      | (with_reducible refine LeO.ite ?_ ?_)
      | (with_reducible refine LeO.bind ?_ (fun _ => ?_))
      | exact ih0 _ _ _
      | exact laws_eqClass.mono _ _ _ _ _
      | exact LeO.none _
      | refine LeO.ite ?_ ?_
      | refine LeO.bind ?_ (fun _ => ?_)
def laws_eqClassS.T6 : Bool × List (List Nat × List Nat) := (true, [([], []), ([], []), ([0, 1], [0, 1]), ([2], [2]), ([], []), ([], []), ([4, 5], [4, 5]), ([6], [6]), ([3, 7], [3, 7]), ([8], [8])])
def laws_eqClassS.B6 : List Nat := [0, 0, 3, 7, 0, 0, 48, 112, 255, 511]
theorem laws_eqClassS.tab6 : rtab .any (opsOf Try.f22 6) = laws_eqClassS.T6 := by kernel_rfl
theorem laws_eqClassS.bits6 : waitsOk laws_eqClassS.T6.2 laws_eqClassS.B6 = true := by kernel_rfl
set_option maxHeartbeats 8000000 in
set_option maxRecDepth 100000 in
theorem laws_eqClassS.calls (k : Nat) (A0 : Option Addr) (c0 : Nat) (l0 : List (S34)) (A1 : Option Addr) (c1 : Nat) (l1 : List (S34)) (r : Bool) (w : World) (hr0 : Kd.C k34 w A0 l0.length l0) (hc0 : l0.length ≤ c0) (hr1 : Kd.C k34 w A1 l1.length l1) (hc1 : l1.length ≤ c1) (h : laws_eqClassS.f k l0 l1 = some r) :
    Calls Try.prog 22 #[.slice A0 l0.length c0, .slice A1 l1.length c1] w fun e w' => e = .returned (.bool r) ∧ Below w.heap.size w w' := by
  have hu34 := Try.underlying34
  have HR0 := Aside0.mk hr0
  have HC0 := Aside0.mk hc0
  clear hr0 hc0
  have HR1 := Aside0.mk hr1
  have HC1 := Aside0.mk hc1
  clear hr1 hc1
  have HB := Aside0.mk (Below.refl w.heap.size w)
  have H : (if (l0.length : Int) = (l1.length : Int) then (laws_eqClassS.l0 k l0 l1 0) else (some false)) = some r := h
  clear h
  by_cases c3 : (l0.length : Int) = (l1.length : Int)
  · rw [if_pos c3] at H
    have c3b0 : ((l0.length : Int) == (l1.length : Int)) = true := beq_iff_eq.mpr c3
    have c3b1 : ((l0.length : Int) != (l1.length : Int)) = false := bne_eq_false_iff_eq.mpr c3
    have c3b2 : (l0.length == l1.length) = true := by first | simpa using c3 | (simp at c3 ⊢; omega)
    clear c3
    have H' := Aside0.mk H
    clear H
    go_enter Try.func22, Try.ntmps22
    go_wp2
    go_loopg [5] k (fun kq v5 w' => ∃ (x5_1 : Int), v5 = .int .i64 x5_1 ∧ Aside0 (laws_eqClassS.l0 kq l0 l1 x5_1 = some r) ∧ Aside0 (kq ≤ k) ∧ Aside0 (Below w.heap.size w w'))
    case atStart => exact ⟨(0), (by first | rfl | (simp; done) | (simp [*]; done)), H', ⟨Nat.le_refl _⟩, ⟨by repeat (first | (with_reducible first | exact HB.out | apply below_alloc | apply pw_below_drewN | apply below_drew1) | exact HB.out)⟩⟩
    case round =>
      clear H'
      try clear c1
      try clear c2
      try clear p2
      try clear c3
      try clear c3b0
      try clear c3b1
      try clear c3b2
      obtain ⟨x5_1, rfl, HA, HK1, HB⟩ := hrel
      cases gk with
      | zero => exact absurd HA.out (by simp [laws_eqClassS.l0])
      | succ k1 =>
        have H := HA.out
        clear HA
        simp only [laws_eqClassS.l0] at H
        by_cases c4 : x5_1 < (l0.length : Int)
        · rw [if_pos c4] at H
          have c4b0 : decide (x5_1 < (l0.length : Int)) = true := decide_eq_true c4
          clear c4
          by_cases c5 : 0 ≤ x5_1
          · rw [if_pos c5] at H
            have c5b0 : decide (0 ≤ x5_1) = true := decide_eq_true c5
            clear c5
            by_cases c6 : x5_1 < (l1.length : Int)
            · rw [if_pos c6] at H
              have c6b0 : decide (x5_1 < (l1.length : Int)) = true := decide_eq_true c6
              clear c6
              replace H := Option.bind_eq_some_iff.mp H
              obtain ⟨t171, A70, H⟩ := H
              replace H : (if t171 = true then (laws_eqClassS.l0 k1 l0 l1 (wrap64 (x5_1 + 1))) else (some false)) = some r := H
              have A7 := Aside0.mk A70
              clear A70
              by_cases c8 : t171 = true
              · subst c8
                have H1 : (laws_eqClassS.l0 k1 l0 l1 (wrap64 (x5_1 + 1))) = some r := by rw [if_pos rfl] at H; exact H
                clear H
                have H := H1
                clear H1
                have H' := Aside0.mk H
                clear H
                try go_wp2
                have n0_ := Aside0.mk (below_drew1 HB.out)
                clear HB
                have HB := n0_
                clear n0_
                have p169 : 0 ≤ (x5_1 : Int) := of_decide_eq_true (by first | (with_reducible assumption) | assumption)
                have q169 : x5_1 < (l0.length : Int) := of_decide_eq_true (by first | (with_reducible assumption) | assumption)
                obtain ⟨ad169, A169_1, c169_1, e169, hx169_0, hx169_1, hl169_1, hi169_1⟩ := at_T34 HR0.out x5_1 p169 q169
                have hw169_1 := hx169_1
                have hw169_0 := hx169_0
                cases e169
                replace hx169_0 := (HB.out.cell (World.block_lt_of_cell? w _ hx169_0)).trans hx169_0
                replace hx169_1 := (HB.out.cell (World.block_lt_of_cell? w _ hx169_1)).trans hx169_1
                have HR169_1 := Aside0.mk hi169_1
                have HC169_1 := Aside0.mk hl169_1
                clear hi169_1 hl169_1
                replace p169 := eq_true p169
                replace q169 := eq_true q169
                have p170 : 0 ≤ (x5_1 : Int) := of_decide_eq_true (by first | (with_reducible assumption) | assumption)
                have q170 : x5_1 < (l1.length : Int) := of_decide_eq_true (by first | (with_reducible assumption) | assumption)
                obtain ⟨ad170, A170_1, c170_1, e170, hx170_0, hx170_1, hl170_1, hi170_1⟩ := at_T34 HR1.out x5_1 p170 q170
                have hw170_1 := hx170_1
                have hw170_0 := hx170_0
                cases e170
                replace hx170_0 := (HB.out.cell (World.block_lt_of_cell? w _ hx170_0)).trans hx170_0
                replace hx170_1 := (HB.out.cell (World.block_lt_of_cell? w _ hx170_1)).trans hx170_1
                have HR170_1 := Aside0.mk hi170_1
                have HC170_1 := Aside0.mk hl170_1
                clear hi170_1 hl170_1
                replace p170 := eq_true p170
                replace q170 := eq_true q170
                refine start_ (n := 10) (S := fun w' => w'.cell? (ad169.add ((x5_1).toNat * 2)) = some (.int .i64 ((rd_T34 l0 x5_1).f0)) ∧ w'.cell? ⟨(ad169.add ((x5_1).toNat * 2)).block, (ad169.add ((x5_1).toNat * 2)).off + 1, none⟩ = some (.slice A169_1 ((rd_T34 l0 x5_1).f1).length c169_1) ∧ w'.cell? (ad170.add ((x5_1).toNat * 2)) = some (.int .i64 ((rd_T34 l1 x5_1).f0)) ∧ w'.cell? ⟨(ad170.add ((x5_1).toNat * 2)).block, (ad170.add ((x5_1).toNat * 2)).off + 1, none⟩ = some (.slice A170_1 ((rd_T34 l1 x5_1).f1).length c170_1)) (ds := []) #[false, false, false, false, false, false, false, false, false, false] (by kernel_rfl) rfl rfl ⟨((HB.out.cell (World.block_lt_of_cell? w _ hw169_0)).trans hw169_0), ((HB.out.cell (World.block_lt_of_cell? w _ hw169_1)).trans hw169_1), ((HB.out.cell (World.block_lt_of_cell? w _ hw170_0)).trans hw170_0), ((HB.out.cell (World.block_lt_of_cell? w _ hw170_1)).trans hw170_1)⟩ (fun hHeld => ?_); refine with_tabW laws_eqClassS.tab6 laws_eqClassS.bits6 (fun HT_ HW_ => ?_)
                generalize wr.drew = w9 at HB HR169_1 HR170_1 hx169_0 hx169_1 hx170_0 hx170_1 hHeld ⊢
                refine pure_ (i := 0) (N := some 17) (v := ?_) (a' := ?_) #[true, false, false, false, false, false, false, false, false, false] rfl rfl (any_of HT_.out (by kernel_rfl)) (fun _ _ _ h => h) (Or.inl ⟨by rfl, ?_⟩) ?_ ?_
                rotate_left
                · intro w'
                  go_simp
                  with_reducible rfl
                rotate_left
                · simp only [Act.put, List.setIfInBounds_toArray, List.set_cons_zero, List.set_cons_succ, i64_w, i32_w]
                  rfl
                refine pure_ (i := 1) (N := some 18) (v := ?_) (a' := ?_) #[true, true, false, false, false, false, false, false, false, false] rfl rfl (any_of HT_.out (by kernel_rfl)) (fun _ _ _ h => h) (Or.inl ⟨by rfl, ?_⟩) ?_ ?_
                rotate_left
                · intro w'
                  go_simp
                  with_reducible rfl
                rotate_left
                · simp only [Act.put, List.setIfInBounds_toArray, List.set_cons_zero, List.set_cons_succ, i64_w, i32_w]
                  rfl
                refine pure_ (i := 2) (N := some 19) (v := ?_) (a' := ?_) #[true, true, true, false, false, false, false, false, false, false] rfl rfl (any_of HT_.out (by kernel_rfl)) (fun _ _ _ h => h) (Or.inl ⟨by rfl, ?_⟩) ?_ ?_
                rotate_left
                · intro w'
                  go_simp
                  with_reducible rfl
                rotate_left
                · simp only [Act.put, List.setIfInBounds_toArray, List.set_cons_zero, List.set_cons_succ, i64_w, i32_w]
                  rfl
                refine pure_ (i := 4) (N := some 21) (v := ?_) (a' := ?_) #[true, true, true, false, true, false, false, false, false, false] rfl rfl (any_of HT_.out (by kernel_rfl)) (fun _ _ _ h => h) (Or.inl ⟨by rfl, ?_⟩) ?_ ?_
                rotate_left
                · intro w'
                  go_simp
                  with_reducible rfl
                rotate_left
                · simp only [Act.put, List.setIfInBounds_toArray, List.set_cons_zero, List.set_cons_succ, i64_w, i32_w]
                  rfl
                refine pure_ (i := 5) (N := some 22) (v := ?_) (a' := ?_) #[true, true, true, false, true, true, false, false, false, false] rfl rfl (any_of HT_.out (by kernel_rfl)) (fun _ _ _ h => h) (Or.inl ⟨by rfl, ?_⟩) ?_ ?_
                rotate_left
                · intro w'
                  go_simp
                  with_reducible rfl
                rotate_left
                · simp only [Act.put, List.setIfInBounds_toArray, List.set_cons_zero, List.set_cons_succ, i64_w, i32_w]
                  rfl
                refine pure_ (i := 6) (N := some 23) (v := ?_) (a' := ?_) #[true, true, true, false, true, true, true, false, false, false] rfl rfl (any_of HT_.out (by kernel_rfl)) (fun _ _ _ h => h) (Or.inl ⟨by rfl, ?_⟩) ?_ ?_
                rotate_left
                · intro w'
                  go_simp
                  with_reducible rfl
                rotate_left
                · simp only [Act.put, List.setIfInBounds_toArray, List.set_cons_zero, List.set_cons_succ, i64_w, i32_w]
                  rfl
                refine take_ (i := 3) (N := some 20) (v := ?_) (a' := ?_) #[true, true, true, true, true, true, true, false, false, false] rfl rfl (take_ofW HT_.out HW_.out (by kernel_rfl)) (fun _ _ _ h => h) (Or.inl ⟨by rfl, ?_⟩) hHeld ?_ ?_
                rotate_left
                · rintro w' ⟨s0, s1, s2, s3⟩
                  go_simp
                  with_reducible rfl
                rotate_left
                · simp only [Act.put, List.setIfInBounds_toArray, List.set_cons_zero, List.set_cons_succ, i64_w, i32_w]
                  rfl
                refine take_ (i := 7) (N := some 24) (v := ?_) (a' := ?_) #[true, true, true, true, true, true, true, true, false, false] rfl rfl (take_ofW HT_.out HW_.out (by kernel_rfl)) (fun _ _ _ h => h) (Or.inl ⟨by rfl, ?_⟩) hHeld ?_ ?_
                rotate_left
                · rintro w' ⟨s0, s1, s2, s3⟩
                  go_simp
                  with_reducible rfl
                rotate_left
                · simp only [Act.put, List.setIfInBounds_toArray, List.set_cons_zero, List.set_cons_succ, i64_w, i32_w]
                  rfl
                refine one_ (i := 8) (N := some 25) #[true, true, true, true, true, true, true, true, true, false] rfl rfl (one_of HT_.out (by kernel_rfl)) (by decide) (fun K hK => ?_)
                refine goes_ Try.func55 (by kernel_rfl) rfl #[.agg #[.int .i64 ((rd_T34 l0 x5_1).f0), .slice A169_1 ((rd_T34 l0 x5_1).f1).length c169_1], .agg #[.int .i64 ((rd_T34 l1 x5_1).f0), .slice A170_1 ((rd_T34 l1 x5_1).f1).length c170_1]] (by rfl) rfl rfl (by (try simp only [List.map_toArray, List.map_cons, List.map_nil]); first | done | rfl | (simp only [List.length_drop, List.length_take]; rfl)) ?_
                with_reducible refine (laws_eqClass.calls k1 ((rd_T34 l0 x5_1).f0) _ _ ((rd_T34 l0 x5_1).f1) ((rd_T34 l1 x5_1).f0) _ _ ((rd_T34 l1 x5_1).f1) true _ ?side1 ?side2 ?side3 ?side4 A7.out).mono ?_
                (case side1 => repeat (first | exact (Kd.C_below HR169_1.out HB.out) | (with_reducible refine Kd.C_alloc ?_ _) | (with_reducible refine Kd.C_drewN ?_ _) | (with_reducible refine Kd.C_drew ?_)))
                (case side2 => exact HC169_1.out)
                (case side3 => repeat (first | exact (Kd.C_below HR170_1.out HB.out) | (with_reducible refine Kd.C_alloc ?_ _) | (with_reducible refine Kd.C_drewN ?_ _) | (with_reducible refine Kd.C_drew ?_)))
                (case side4 => exact HC170_1.out)
                rintro e w10 ⟨rfl, hb⟩
                refine ⟨_, rfl, ?_⟩
                have n0_ := Aside0.mk (below_step (by repeat (first | (with_reducible first | exact HB.out | apply below_alloc | apply pw_below_drewN | apply below_drew1) | exact HB.out)) hb)
                clear HB
                have HB := n0_
                clear n0_
                (try clear hb)
                (try clear hb2)
                (try clear hk)
                (try clear hi)
                refine hK.out _ _ ⟨((HB.out.cell (World.block_lt_of_cell? w _ hw169_0)).trans hw169_0), ((HB.out.cell (World.block_lt_of_cell? w _ hw169_1)).trans hw169_1), ((HB.out.cell (World.block_lt_of_cell? w _ hw170_0)).trans hw170_0), ((HB.out.cell (World.block_lt_of_cell? w _ hw170_1)).trans hw170_1)⟩ (fun hHeld => ?_)
                clear hK K
                refine norm_ (a' := ?_) ?_ ?_
                rotate_left
                · show Act.put _ (some 25) _ = _
                  simp only [Act.put, List.setIfInBounds_toArray, List.set_cons_zero, List.set_cons_succ, i64_w, i32_w]
                  rfl
                refine pure_ (i := 9) (N := some 26) (v := ?_) (a' := ?_) #[true, true, true, true, true, true, true, true, true, true] rfl rfl (any_of HT_.out (by kernel_rfl)) (fun _ _ _ h => h) (Or.inl ⟨by rfl, ?_⟩) ?_ ?_
                rotate_left
                · intro w'
                  go_simp
                  with_reducible rfl
                rotate_left
                · simp only [Act.put, List.setIfInBounds_toArray, List.set_cons_zero, List.set_cons_succ, i64_w, i32_w]
                  rfl
                refine done_ (done_of HT_.out (by kernel_rfl)) ?_
                try go_wp2
                go_roundg k1
                case measure => have := HK1.out; omega
                case rel => exact ⟨(wrap64 (x5_1 + 1)), (by first | rfl | (simp; done) | (simp [*]; done)), H', ⟨by have := HK1.out; omega⟩, ⟨by repeat (first | (with_reducible first | exact HB.out | apply below_alloc | apply pw_below_drewN | apply below_drew1) | exact HB.out)⟩⟩
              · replace c8 := Bool.eq_false_iff.mpr c8
                subst c8
                have H1 : (some false) = some r := by rw [if_neg (show ¬ (false = true) by decide)] at H; exact H
                clear H
                have H := H1
                clear H1
                obtain rfl := Option.some.inj H
                try go_wp2
                have n0_ := Aside0.mk (below_drew1 HB.out)
                clear HB
                have HB := n0_
                clear n0_
                have p169 : 0 ≤ (x5_1 : Int) := of_decide_eq_true (by first | (with_reducible assumption) | assumption)
                have q169 : x5_1 < (l0.length : Int) := of_decide_eq_true (by first | (with_reducible assumption) | assumption)
                obtain ⟨ad169, A169_1, c169_1, e169, hx169_0, hx169_1, hl169_1, hi169_1⟩ := at_T34 HR0.out x5_1 p169 q169
                have hw169_1 := hx169_1
                have hw169_0 := hx169_0
                cases e169
                replace hx169_0 := (HB.out.cell (World.block_lt_of_cell? w _ hx169_0)).trans hx169_0
                replace hx169_1 := (HB.out.cell (World.block_lt_of_cell? w _ hx169_1)).trans hx169_1
                have HR169_1 := Aside0.mk hi169_1
                have HC169_1 := Aside0.mk hl169_1
                clear hi169_1 hl169_1
                replace p169 := eq_true p169
                replace q169 := eq_true q169
                have p170 : 0 ≤ (x5_1 : Int) := of_decide_eq_true (by first | (with_reducible assumption) | assumption)
                have q170 : x5_1 < (l1.length : Int) := of_decide_eq_true (by first | (with_reducible assumption) | assumption)
                obtain ⟨ad170, A170_1, c170_1, e170, hx170_0, hx170_1, hl170_1, hi170_1⟩ := at_T34 HR1.out x5_1 p170 q170
                have hw170_1 := hx170_1
                have hw170_0 := hx170_0
                cases e170
                replace hx170_0 := (HB.out.cell (World.block_lt_of_cell? w _ hx170_0)).trans hx170_0
                replace hx170_1 := (HB.out.cell (World.block_lt_of_cell? w _ hx170_1)).trans hx170_1
                have HR170_1 := Aside0.mk hi170_1
                have HC170_1 := Aside0.mk hl170_1
                clear hi170_1 hl170_1
                replace p170 := eq_true p170
                replace q170 := eq_true q170
                refine start_ (n := 10) (S := fun w' => w'.cell? (ad169.add ((x5_1).toNat * 2)) = some (.int .i64 ((rd_T34 l0 x5_1).f0)) ∧ w'.cell? ⟨(ad169.add ((x5_1).toNat * 2)).block, (ad169.add ((x5_1).toNat * 2)).off + 1, none⟩ = some (.slice A169_1 ((rd_T34 l0 x5_1).f1).length c169_1) ∧ w'.cell? (ad170.add ((x5_1).toNat * 2)) = some (.int .i64 ((rd_T34 l1 x5_1).f0)) ∧ w'.cell? ⟨(ad170.add ((x5_1).toNat * 2)).block, (ad170.add ((x5_1).toNat * 2)).off + 1, none⟩ = some (.slice A170_1 ((rd_T34 l1 x5_1).f1).length c170_1)) (ds := []) #[false, false, false, false, false, false, false, false, false, false] (by kernel_rfl) rfl rfl ⟨((HB.out.cell (World.block_lt_of_cell? w _ hw169_0)).trans hw169_0), ((HB.out.cell (World.block_lt_of_cell? w _ hw169_1)).trans hw169_1), ((HB.out.cell (World.block_lt_of_cell? w _ hw170_0)).trans hw170_0), ((HB.out.cell (World.block_lt_of_cell? w _ hw170_1)).trans hw170_1)⟩ (fun hHeld => ?_); refine with_tabW laws_eqClassS.tab6 laws_eqClassS.bits6 (fun HT_ HW_ => ?_)
                generalize wr.drew = w11 at HB HR169_1 HR170_1 hx169_0 hx169_1 hx170_0 hx170_1 hHeld ⊢
                refine pure_ (i := 0) (N := some 17) (v := ?_) (a' := ?_) #[true, false, false, false, false, false, false, false, false, false] rfl rfl (any_of HT_.out (by kernel_rfl)) (fun _ _ _ h => h) (Or.inl ⟨by rfl, ?_⟩) ?_ ?_
                rotate_left
                · intro w'
                  go_simp
                  with_reducible rfl
                rotate_left
                · simp only [Act.put, List.setIfInBounds_toArray, List.set_cons_zero, List.set_cons_succ, i64_w, i32_w]
                  rfl
                refine pure_ (i := 1) (N := some 18) (v := ?_) (a' := ?_) #[true, true, false, false, false, false, false, false, false, false] rfl rfl (any_of HT_.out (by kernel_rfl)) (fun _ _ _ h => h) (Or.inl ⟨by rfl, ?_⟩) ?_ ?_
                rotate_left
                · intro w'
                  go_simp
                  with_reducible rfl
                rotate_left
                · simp only [Act.put, List.setIfInBounds_toArray, List.set_cons_zero, List.set_cons_succ, i64_w, i32_w]
                  rfl
                refine pure_ (i := 2) (N := some 19) (v := ?_) (a' := ?_) #[true, true, true, false, false, false, false, false, false, false] rfl rfl (any_of HT_.out (by kernel_rfl)) (fun _ _ _ h => h) (Or.inl ⟨by rfl, ?_⟩) ?_ ?_
                rotate_left
                · intro w'
                  go_simp
                  with_reducible rfl
                rotate_left
                · simp only [Act.put, List.setIfInBounds_toArray, List.set_cons_zero, List.set_cons_succ, i64_w, i32_w]
                  rfl
                refine pure_ (i := 4) (N := some 21) (v := ?_) (a' := ?_) #[true, true, true, false, true, false, false, false, false, false] rfl rfl (any_of HT_.out (by kernel_rfl)) (fun _ _ _ h => h) (Or.inl ⟨by rfl, ?_⟩) ?_ ?_
                rotate_left
                · intro w'
                  go_simp
                  with_reducible rfl
                rotate_left
                · simp only [Act.put, List.setIfInBounds_toArray, List.set_cons_zero, List.set_cons_succ, i64_w, i32_w]
                  rfl
                refine pure_ (i := 5) (N := some 22) (v := ?_) (a' := ?_) #[true, true, true, false, true, true, false, false, false, false] rfl rfl (any_of HT_.out (by kernel_rfl)) (fun _ _ _ h => h) (Or.inl ⟨by rfl, ?_⟩) ?_ ?_
                rotate_left
                · intro w'
                  go_simp
                  with_reducible rfl
                rotate_left
                · simp only [Act.put, List.setIfInBounds_toArray, List.set_cons_zero, List.set_cons_succ, i64_w, i32_w]
                  rfl
                refine pure_ (i := 6) (N := some 23) (v := ?_) (a' := ?_) #[true, true, true, false, true, true, true, false, false, false] rfl rfl (any_of HT_.out (by kernel_rfl)) (fun _ _ _ h => h) (Or.inl ⟨by rfl, ?_⟩) ?_ ?_
                rotate_left
                · intro w'
                  go_simp
                  with_reducible rfl
                rotate_left
                · simp only [Act.put, List.setIfInBounds_toArray, List.set_cons_zero, List.set_cons_succ, i64_w, i32_w]
                  rfl
                refine take_ (i := 3) (N := some 20) (v := ?_) (a' := ?_) #[true, true, true, true, true, true, true, false, false, false] rfl rfl (take_ofW HT_.out HW_.out (by kernel_rfl)) (fun _ _ _ h => h) (Or.inl ⟨by rfl, ?_⟩) hHeld ?_ ?_
                rotate_left
                · rintro w' ⟨s0, s1, s2, s3⟩
                  go_simp
                  with_reducible rfl
                rotate_left
                · simp only [Act.put, List.setIfInBounds_toArray, List.set_cons_zero, List.set_cons_succ, i64_w, i32_w]
                  rfl
                refine take_ (i := 7) (N := some 24) (v := ?_) (a' := ?_) #[true, true, true, true, true, true, true, true, false, false] rfl rfl (take_ofW HT_.out HW_.out (by kernel_rfl)) (fun _ _ _ h => h) (Or.inl ⟨by rfl, ?_⟩) hHeld ?_ ?_
                rotate_left
                · rintro w' ⟨s0, s1, s2, s3⟩
                  go_simp
                  with_reducible rfl
                rotate_left
                · simp only [Act.put, List.setIfInBounds_toArray, List.set_cons_zero, List.set_cons_succ, i64_w, i32_w]
                  rfl
                refine one_ (i := 8) (N := some 25) #[true, true, true, true, true, true, true, true, true, false] rfl rfl (one_of HT_.out (by kernel_rfl)) (by decide) (fun K hK => ?_)
                refine goes_ Try.func55 (by kernel_rfl) rfl #[.agg #[.int .i64 ((rd_T34 l0 x5_1).f0), .slice A169_1 ((rd_T34 l0 x5_1).f1).length c169_1], .agg #[.int .i64 ((rd_T34 l1 x5_1).f0), .slice A170_1 ((rd_T34 l1 x5_1).f1).length c170_1]] (by rfl) rfl rfl (by (try simp only [List.map_toArray, List.map_cons, List.map_nil]); first | done | rfl | (simp only [List.length_drop, List.length_take]; rfl)) ?_
                with_reducible refine (laws_eqClass.calls k1 ((rd_T34 l0 x5_1).f0) _ _ ((rd_T34 l0 x5_1).f1) ((rd_T34 l1 x5_1).f0) _ _ ((rd_T34 l1 x5_1).f1) false _ ?side1 ?side2 ?side3 ?side4 A7.out).mono ?_
                (case side1 => repeat (first | exact (Kd.C_below HR169_1.out HB.out) | (with_reducible refine Kd.C_alloc ?_ _) | (with_reducible refine Kd.C_drewN ?_ _) | (with_reducible refine Kd.C_drew ?_)))
                (case side2 => exact HC169_1.out)
                (case side3 => repeat (first | exact (Kd.C_below HR170_1.out HB.out) | (with_reducible refine Kd.C_alloc ?_ _) | (with_reducible refine Kd.C_drewN ?_ _) | (with_reducible refine Kd.C_drew ?_)))
                (case side4 => exact HC170_1.out)
                rintro e w12 ⟨rfl, hb⟩
                refine ⟨_, rfl, ?_⟩
                have n0_ := Aside0.mk (below_step (by repeat (first | (with_reducible first | exact HB.out | apply below_alloc | apply pw_below_drewN | apply below_drew1) | exact HB.out)) hb)
                clear HB
                have HB := n0_
                clear n0_
                (try clear hb)
                (try clear hb2)
                (try clear hk)
                (try clear hi)
                refine hK.out _ _ ⟨((HB.out.cell (World.block_lt_of_cell? w _ hw169_0)).trans hw169_0), ((HB.out.cell (World.block_lt_of_cell? w _ hw169_1)).trans hw169_1), ((HB.out.cell (World.block_lt_of_cell? w _ hw170_0)).trans hw170_0), ((HB.out.cell (World.block_lt_of_cell? w _ hw170_1)).trans hw170_1)⟩ (fun hHeld => ?_)
                clear hK K
                refine norm_ (a' := ?_) ?_ ?_
                rotate_left
                · show Act.put _ (some 25) _ = _
                  simp only [Act.put, List.setIfInBounds_toArray, List.set_cons_zero, List.set_cons_succ, i64_w, i32_w]
                  rfl
                refine pure_ (i := 9) (N := some 26) (v := ?_) (a' := ?_) #[true, true, true, true, true, true, true, true, true, true] rfl rfl (any_of HT_.out (by kernel_rfl)) (fun _ _ _ h => h) (Or.inl ⟨by rfl, ?_⟩) ?_ ?_
                rotate_left
                · intro w'
                  go_simp
                  with_reducible rfl
                rotate_left
                · simp only [Act.put, List.setIfInBounds_toArray, List.set_cons_zero, List.set_cons_succ, i64_w, i32_w]
                  rfl
                refine done_ (done_of HT_.out (by kernel_rfl)) ?_
                try go_wp2
                go_ret
                exact ⟨by first | rfl | (simp [errW_none, errW_some] <;> rfl) | (simp [*, errW_none, errW_some] <;> rfl), by repeat (first | (with_reducible first | exact HB.out | apply below_alloc | apply pw_below_drewN | apply below_drew1) | exact HB.out)⟩
            · rw [if_neg c6] at H
              exact absurd H (by simp)
          · rw [if_neg c5] at H
            exact absurd H (by simp)
        · rw [if_neg c4] at H
          have c4b0 : decide (x5_1 < (l0.length : Int)) = false := decide_eq_false c4
          clear c4
          obtain rfl := Option.some.inj H
          go_wp2
          go_ret
          exact ⟨by first | rfl | (simp [errW_none, errW_some] <;> rfl) | (simp [*, errW_none, errW_some] <;> rfl), by repeat (first | (with_reducible first | exact HB.out | apply below_alloc | apply pw_below_drewN | apply below_drew1) | exact HB.out)⟩
  · rw [if_neg c3] at H
    have c3b0 : ((l0.length : Int) == (l1.length : Int)) = false := beq_eq_false_iff_ne.mpr c3
    have c3b1 : ((l0.length : Int) != (l1.length : Int)) = true := bne_iff_ne.mpr c3
    have c3b2 : (l0.length == l1.length) = false := by first | simpa using c3 | (simp at c3 ⊢; omega)
    obtain rfl := Option.some.inj H
    go_enter Try.func22, Try.ntmps22
    go_wp2
    go_ret
    exact ⟨by first | rfl | (simp [errW_none, errW_some] <;> rfl) | (simp [*, errW_none, errW_some] <;> rfl), by repeat (first | (with_reducible first | exact HB.out | apply below_alloc | apply pw_below_drewN | apply below_drew1) | exact HB.out)⟩

end Go.Proofs.Ytfcbeodndplenaa.K

/- Function 5, laws_FnExactTypeJoin: what it answers, and the walk. (Printed or laid by this session's program wip/pr.py.) -/
namespace Go.Proofs.Ytfcbeodndplenaa.K
open Go.RowKit Go.Proofs.YtfcbeodndplenaaW.PrintWords Go.Proofs.YtfcbeodndplenaaW.PrintLast Go.Proofs.YtfcbeodndplenaaW.PrintMore
attribute [local go_sem] max2_int min2_int max_two min_two max_three min_three max_four min_four
set_option linter.unusedVariables false
set_option linter.unusedSimpArgs false

/-! ### laws_FnExactTypeJoin: function 5 -/
def laws_FnExactTypeJoin.f (k : Nat) (l0 : List (S80)) (a1 : Int) (a2 : Int) : Option (Bool) := (laws_szClassS.f k l0 1048576).bind fun t172 => (if t172 < 0 then (some true) else ((laws_toClassS.f k l0).bind fun t173 => ((spec_TypeJoin.f k t173 a1 a2).bind fun t176 => ((laws_toClassS.f k l0).bind fun t177 => ((impl_TypeJoin.f k t177 a1 a2).bind fun t180 => (if t180 = t176 then ((laws_toClassS.f k l0).bind fun t181 => ((laws_eqClassS.f k t177 t181).bind fun t184 => (if t184 = true then (some true) else (some false)))) else (some false)))))))
theorem laws_FnExactTypeJoin.mono : ∀ a0 a1 a2 k, LeO (laws_FnExactTypeJoin.f k a0 a1 a2) (laws_FnExactTypeJoin.f (k + 1) a0 a1 a2) := by
  intro a0 a1 a2 k
  unfold laws_FnExactTypeJoin.f
  repeat' first
      | (with_reducible exact impl_TypeJoin.mono _ _ _ _)
      | (with_reducible exact laws_eqClassS.mono _ _ _)
      | (with_reducible exact laws_szClassS.mono _ _ _)
      | (with_reducible exact laws_toClassS.mono _ _)
      | (with_reducible exact spec_TypeJoin.mono _ _ _ _)
      | (with_reducible exact LeO.refl _)
      | (with_reducible exact LeO.none _)
      | (with_reducible refine LeO.ite ?_ ?_)
      | (with_reducible refine LeO.bind ?_ (fun _ => ?_))
      | exact impl_TypeJoin.mono _ _ _ _
      | exact laws_eqClassS.mono _ _ _
      | exact laws_szClassS.mono _ _ _
      | exact laws_toClassS.mono _ _
      | exact spec_TypeJoin.mono _ _ _ _
      | exact LeO.none _
      | refine LeO.ite ?_ ?_
      | refine LeO.bind ?_ (fun _ => ?_)
set_option maxHeartbeats 8000000 in
set_option maxRecDepth 100000 in
theorem laws_FnExactTypeJoin.calls (k : Nat) (A0 : Option Addr) (c0 : Nat) (l0 : List (S80)) (a1 : Int) (a2 : Int) (r : Bool) (w : World) (hr_ : Aside0 (r = true)) (hr0 : Kd.C k80 w A0 l0.length l0) (hc0 : l0.length ≤ c0) (h : laws_FnExactTypeJoin.f k l0 a1 a2 = some r) :
    Calls Try.prog 5 #[.slice A0 l0.length c0, .int .i64 a1, .int .i64 a2] w fun e w' => e = .returned (.bool r) ∧ Below w.heap.size w w' := by
  have HR0 := Aside0.mk hr0
  have HC0 := Aside0.mk hc0
  clear hr0 hc0
  have HB := Aside0.mk (Below.refl w.heap.size w)
  have H : ((laws_szClassS.f k l0 1048576).bind fun t172 => (if t172 < 0 then (some true) else ((laws_toClassS.f k l0).bind fun t173 => ((spec_TypeJoin.f k t173 a1 a2).bind fun t176 => ((laws_toClassS.f k l0).bind fun t177 => ((impl_TypeJoin.f k t177 a1 a2).bind fun t180 => (if t180 = t176 then ((laws_toClassS.f k l0).bind fun t181 => ((laws_eqClassS.f k t177 t181).bind fun t184 => (if t184 = true then (some true) else (some false)))) else (some false)))))))) = some r := h
  clear h
  replace H := Option.bind_eq_some_iff.mp H
  obtain ⟨t172, A40, H⟩ := H
  replace H : (if t172 < 0 then (some true) else ((laws_toClassS.f k l0).bind fun t173 => ((spec_TypeJoin.f k t173 a1 a2).bind fun t176 => ((laws_toClassS.f k l0).bind fun t177 => ((impl_TypeJoin.f k t177 a1 a2).bind fun t180 => (if t180 = t176 then ((laws_toClassS.f k l0).bind fun t181 => ((laws_eqClassS.f k t177 t181).bind fun t184 => (if t184 = true then (some true) else (some false)))) else (some false))))))) = some r := H
  have A4 := Aside0.mk A40
  clear A40
  by_cases c5 : t172 < 0
  · rw [if_pos c5] at H
    have c5b0 : decide (t172 < 0) = true := decide_eq_true c5
    clear c5
    obtain rfl := Option.some.inj H
    go_enter Try.func5, Try.ntmps5
    go_wp2_with (first | ((with_reducible refine gate_callee (f := 18) rfl ?_); refine goesL_ (some 13) rfl rfl Try.func18 (by kernel_rfl) rfl #[.slice A0 l0.length c0, .int .i64 1048576] rfl (by (try simp only [List.map_toArray, List.map_cons, List.map_nil]); first | done | rfl | (simp only [List.length_drop, List.length_take]; rfl)) ?_; (with_reducible refine (laws_szClassS.calls k _ _ l0 1048576 t172 _ ?side1 ?side2 A4.out).mono ?_); (case side1 => repeat (first | exact HR0.out | (with_reducible refine Kd.C_alloc ?_ _) | (with_reducible refine Kd.C_drewN ?_ _) | (with_reducible refine Kd.C_drew ?_))); (case side2 => exact HC0.out); rintro e w6 ⟨rfl, hb⟩; refine ⟨_, rfl, ?_⟩; have n0_ := Aside0.mk (below_step (by repeat (first | (with_reducible first | exact HB.out | apply below_alloc | apply pw_below_drewN | apply below_drew1) | exact HB.out)) hb); clear HB; have HB := n0_; clear n0_; (try clear hb); (try clear hb2); (try clear hk); (try clear hi)))
    go_ret
    exact ⟨by first | rfl | (simp [errW_none, errW_some] <;> rfl) | (simp [*, errW_none, errW_some] <;> rfl), by repeat (first | (with_reducible first | exact HB.out | apply below_alloc | apply pw_below_drewN | apply below_drew1) | exact HB.out)⟩
  · rw [if_neg c5] at H
    have c5b0 : decide (t172 < 0) = false := decide_eq_false c5
    clear c5
    replace H := Option.bind_eq_some_iff.mp H
    obtain ⟨t173, A70, H⟩ := H
    replace H : ((spec_TypeJoin.f k t173 a1 a2).bind fun t176 => ((laws_toClassS.f k l0).bind fun t177 => ((impl_TypeJoin.f k t177 a1 a2).bind fun t180 => (if t180 = t176 then ((laws_toClassS.f k l0).bind fun t181 => ((laws_eqClassS.f k t177 t181).bind fun t184 => (if t184 = true then (some true) else (some false)))) else (some false))))) = some r := H
    have A7 := Aside0.mk A70
    clear A70
    replace H := Option.bind_eq_some_iff.mp H
    obtain ⟨t176, A80, H⟩ := H
    replace H : ((laws_toClassS.f k l0).bind fun t177 => ((impl_TypeJoin.f k t177 a1 a2).bind fun t180 => (if t180 = t176 then ((laws_toClassS.f k l0).bind fun t181 => ((laws_eqClassS.f k t177 t181).bind fun t184 => (if t184 = true then (some true) else (some false)))) else (some false)))) = some r := H
    have A8 := Aside0.mk A80
    clear A80
    replace H := Option.bind_eq_some_iff.mp H
    obtain ⟨t177, A90, H⟩ := H
    replace H : ((impl_TypeJoin.f k t177 a1 a2).bind fun t180 => (if t180 = t176 then ((laws_toClassS.f k l0).bind fun t181 => ((laws_eqClassS.f k t177 t181).bind fun t184 => (if t184 = true then (some true) else (some false)))) else (some false))) = some r := H
    have A9 := Aside0.mk A90
    clear A90
    replace H := Option.bind_eq_some_iff.mp H
    obtain ⟨t180, A100, H⟩ := H
    replace H : (if t180 = t176 then ((laws_toClassS.f k l0).bind fun t181 => ((laws_eqClassS.f k t177 t181).bind fun t184 => (if t184 = true then (some true) else (some false)))) else (some false)) = some r := H
    have A10 := Aside0.mk A100
    clear A100
    by_cases c11 : t180 = t176
    · rw [if_pos c11] at H
      have c11b0 : (t180 == t176) = true := beq_iff_eq.mpr c11
      have c11b1 : (t180 != t176) = false := bne_eq_false_iff_eq.mpr c11
      clear c11
      replace H := Option.bind_eq_some_iff.mp H
      obtain ⟨t181, A120, H⟩ := H
      replace H : ((laws_eqClassS.f k t177 t181).bind fun t184 => (if t184 = true then (some true) else (some false))) = some r := H
      have A12 := Aside0.mk A120
      clear A120
      replace H := Option.bind_eq_some_iff.mp H
      obtain ⟨t184, A130, H⟩ := H
      replace H : (if t184 = true then (some true) else (some false)) = some r := H
      have A13 := Aside0.mk A130
      clear A130
      by_cases c14 : t184 = true
      · subst c14
        have H1 : (some true) = some r := by rw [if_pos rfl] at H; exact H
        clear H
        have H := H1
        clear H1
        obtain rfl := Option.some.inj H
        go_enter Try.func5, Try.ntmps5
        go_wp2_with (first | ((with_reducible refine gate_callee (f := 18) rfl ?_); refine goesL_ (some 13) rfl rfl Try.func18 (by kernel_rfl) rfl #[.slice A0 l0.length c0, .int .i64 1048576] rfl (by (try simp only [List.map_toArray, List.map_cons, List.map_nil]); first | done | rfl | (simp only [List.length_drop, List.length_take]; rfl)) ?_; (with_reducible refine (laws_szClassS.calls k _ _ l0 1048576 t172 _ ?side1 ?side2 A4.out).mono ?_); (case side1 => repeat (first | exact HR0.out | (with_reducible refine Kd.C_alloc ?_ _) | (with_reducible refine Kd.C_drewN ?_ _) | (with_reducible refine Kd.C_drew ?_))); (case side2 => exact HC0.out); rintro e w15 ⟨rfl, hb⟩; refine ⟨_, rfl, ?_⟩; have n0_ := Aside0.mk (below_step (by repeat (first | (with_reducible first | exact HB.out | apply below_alloc | apply pw_below_drewN | apply below_drew1) | exact HB.out)) hb); clear HB; have HB := n0_; clear n0_; (try clear hb); (try clear hb2); (try clear hk); (try clear hi)) | ((with_reducible refine gate_callee (f := 20) rfl ?_); refine goesL_ (some 17) rfl rfl Try.func20 (by kernel_rfl) rfl #[.slice A0 l0.length c0] rfl (by (try simp only [List.map_toArray, List.map_cons, List.map_nil]); first | done | rfl | (simp only [List.length_drop, List.length_take]; rfl)) ?_; (with_reducible refine (laws_toClassS.calls k _ _ l0 t173 _ ?side1 ?side2 A7.out).mono ?_); (case side1 => repeat (first | exact (Kd.C_below HR0.out HB.out) | (with_reducible refine Kd.C_alloc ?_ _) | (with_reducible refine Kd.C_drewN ?_ _) | (with_reducible refine Kd.C_drew ?_))); (case side2 => exact HC0.out); rintro e w16 ⟨v174, rfl, ho0, hb⟩; refine ⟨_, rfl, ?_⟩; have n0_ := Aside0.mk (Kd.S_lower ho0 (below_size (by repeat (first | (with_reducible first | exact HB.out | apply below_alloc | apply pw_below_drewN | apply below_drew1) | exact HB.out)))); have n1_ := Aside0.mk (below_step (by repeat (first | (with_reducible first | exact HB.out | apply below_alloc | apply pw_below_drewN | apply below_drew1) | exact HB.out)) hb); clear HB; have HO175 := n0_; have HB := n1_; clear n0_ n1_; (try clear hb); (try clear hb2); (try clear hk); (try clear hi); (try clear ho0); obtain ⟨Ao17, co17, eo17⟩ := Kd.S_slice HO175.out; subst eo17) | ((with_reducible refine gate_callee (f := 19) rfl ?_); refine goesL_ (some 20) rfl rfl Try.func19 (by kernel_rfl) rfl #[.slice Ao17 t173.length co17, .int .i64 a1, .int .i64 a2] rfl (by (try simp only [List.map_toArray, List.map_cons, List.map_nil]); first | done | rfl | (simp only [List.length_drop, List.length_take]; rfl)) ?_; (with_reducible refine (spec_TypeJoin.calls k _ _ t173 a1 a2 t176 _ ?side1 ?side2 A8.out).mono ?_); (case side1 => repeat (first | exact (Kd.S_reads' HO175.out).2.2 | (with_reducible refine Kd.C_alloc ?_ _) | (with_reducible refine Kd.C_drewN ?_ _) | (with_reducible refine Kd.C_drew ?_))); (case side2 => exact (Kd.S_reads' HO175.out).2.1); rintro e w18 ⟨rfl, hb⟩; refine ⟨_, rfl, ?_⟩; have n0_ := Aside0.mk (Kd.S_below (by (with_reducible repeat (first | apply Kd.S_alloc | apply Kd.S_drewN | apply Kd.S_drew)); exact HO175.out) hb); have n1_ := Aside0.mk (below_step (by repeat (first | (with_reducible first | exact HB.out | apply below_alloc | apply pw_below_drewN | apply below_drew1) | exact HB.out)) hb); clear HO175; clear HB; have HO175 := n0_; have HB := n1_; clear n0_ n1_; (try clear hb); (try clear hb2); (try clear hk); (try clear hi)) | ((with_reducible refine gate_callee (f := 20) rfl ?_); refine goesL_ (some 22) rfl rfl Try.func20 (by kernel_rfl) rfl #[.slice A0 l0.length c0] rfl (by (try simp only [List.map_toArray, List.map_cons, List.map_nil]); first | done | rfl | (simp only [List.length_drop, List.length_take]; rfl)) ?_; (with_reducible refine (laws_toClassS.calls k _ _ l0 t177 _ ?side1 ?side2 A9.out).mono ?_); (case side1 => repeat (first | exact (Kd.C_below HR0.out HB.out) | (with_reducible refine Kd.C_alloc ?_ _) | (with_reducible refine Kd.C_drewN ?_ _) | (with_reducible refine Kd.C_drew ?_))); (case side2 => exact HC0.out); rintro e w19 ⟨v178, rfl, ho0, hb⟩; refine ⟨_, rfl, ?_⟩; have n0_ := Aside0.mk (Kd.S_elder' (by (with_reducible repeat (first | apply Kd.S_alloc | apply Kd.S_drewN | apply Kd.S_drew)); exact HO175.out) (Kd.S_base ho0) hb); have n1_ := Aside0.mk (Kd.S_lower (Kd.S_new' ho0 (Kd.S_lt (by (with_reducible repeat (first | apply Kd.S_alloc | apply Kd.S_drewN | apply Kd.S_drew)); exact HO175.out))) (below_size (by repeat (first | (with_reducible first | exact HB.out | apply below_alloc | apply pw_below_drewN | apply below_drew1) | exact HB.out)))); have n2_ := Aside0.mk (below_step (by repeat (first | (with_reducible first | exact HB.out | apply below_alloc | apply pw_below_drewN | apply below_drew1) | exact HB.out)) hb); clear HO175; clear HB; have HO175 := n0_; have HO179 := n1_; have HB := n2_; clear n0_ n1_ n2_; (try clear hb); (try clear hb2); (try clear hk); (try clear hi); (try clear ho0); obtain ⟨Ao20, co20, eo20⟩ := Kd.S_slice HO179.out; subst eo20) | ((with_reducible refine gate_callee (f := 21) rfl ?_); refine goesL_ (some 26) rfl rfl Try.func21 (by kernel_rfl) rfl #[.slice Ao20 t177.length co20, .int .i64 a1, .int .i64 a2] rfl (by (try simp only [List.map_toArray, List.map_cons, List.map_nil]); first | done | rfl | (simp only [List.length_drop, List.length_take]; rfl)) ?_; (with_reducible refine (impl_TypeJoin.calls k _ _ t177 a1 a2 t180 _ ?side1 ?side2 A10.out).mono ?_); (case side1 => repeat (first | exact (Kd.S_reads' HO179.out).2.2 | (with_reducible refine Kd.C_alloc ?_ _) | (with_reducible refine Kd.C_drewN ?_ _) | (with_reducible refine Kd.C_drew ?_))); (case side2 => exact (Kd.S_reads' HO179.out).2.1); rintro e w21 ⟨rfl, hb⟩; refine ⟨_, rfl, ?_⟩; have n0_ := Aside0.mk (Kd.S_below (by (with_reducible repeat (first | apply Kd.S_alloc | apply Kd.S_drewN | apply Kd.S_drew)); exact HO175.out) hb); have n1_ := Aside0.mk (Kd.S_below (by (with_reducible repeat (first | apply Kd.S_alloc | apply Kd.S_drewN | apply Kd.S_drew)); exact HO179.out) hb); have n2_ := Aside0.mk (below_step (by repeat (first | (with_reducible first | exact HB.out | apply below_alloc | apply pw_below_drewN | apply below_drew1) | exact HB.out)) hb); clear HO175; clear HO179; clear HB; have HO175 := n0_; have HO179 := n1_; have HB := n2_; clear n0_ n1_ n2_; (try clear hb); (try clear hb2); (try clear hk); (try clear hi)) | ((with_reducible refine gate_callee (f := 20) rfl ?_); refine goesL_ (some 32) rfl rfl Try.func20 (by kernel_rfl) rfl #[.slice A0 l0.length c0] rfl (by (try simp only [List.map_toArray, List.map_cons, List.map_nil]); first | done | rfl | (simp only [List.length_drop, List.length_take]; rfl)) ?_; (with_reducible refine (laws_toClassS.calls k _ _ l0 t181 _ ?side1 ?side2 A12.out).mono ?_); (case side1 => repeat (first | exact (Kd.C_below HR0.out HB.out) | (with_reducible refine Kd.C_alloc ?_ _) | (with_reducible refine Kd.C_drewN ?_ _) | (with_reducible refine Kd.C_drew ?_))); (case side2 => exact HC0.out); rintro e w22 ⟨v182, rfl, ho0, hb⟩; refine ⟨_, rfl, ?_⟩; have n0_ := Aside0.mk (Kd.S_elder' (by (with_reducible repeat (first | apply Kd.S_alloc | apply Kd.S_drewN | apply Kd.S_drew)); exact HO175.out) (Kd.S_base ho0) hb); have n1_ := Aside0.mk (Kd.S_elder' (by (with_reducible repeat (first | apply Kd.S_alloc | apply Kd.S_drewN | apply Kd.S_drew)); exact HO179.out) (Kd.S_base ho0) hb); have n2_ := Aside0.mk (Kd.S_lower (Kd.S_new' (Kd.S_new' ho0 (Kd.S_lt (by (with_reducible repeat (first | apply Kd.S_alloc | apply Kd.S_drewN | apply Kd.S_drew)); exact HO175.out))) (Kd.S_lt (by (with_reducible repeat (first | apply Kd.S_alloc | apply Kd.S_drewN | apply Kd.S_drew)); exact HO179.out))) (below_size (by repeat (first | (with_reducible first | exact HB.out | apply below_alloc | apply pw_below_drewN | apply below_drew1) | exact HB.out)))); have n3_ := Aside0.mk (below_step (by repeat (first | (with_reducible first | exact HB.out | apply below_alloc | apply pw_below_drewN | apply below_drew1) | exact HB.out)) hb); clear HO175; clear HO179; clear HB; have HO175 := n0_; have HO179 := n1_; have HO183 := n2_; have HB := n3_; clear n0_ n1_ n2_ n3_; (try clear hb); (try clear hb2); (try clear hk); (try clear hi); (try clear ho0); obtain ⟨Ao23, co23, eo23⟩ := Kd.S_slice HO183.out; subst eo23) | ((with_reducible refine gate_callee (f := 22) rfl ?_); refine goesL_ (some 33) rfl rfl Try.func22 (by kernel_rfl) rfl #[.slice Ao20 t177.length co20, .slice Ao23 t181.length co23] rfl (by (try simp only [List.map_toArray, List.map_cons, List.map_nil]); first | done | rfl | (simp only [List.length_drop, List.length_take]; rfl)) ?_; (with_reducible refine (laws_eqClassS.calls k _ _ t177 _ _ t181 true _ ?side1 ?side2 ?side3 ?side4 A13.out).mono ?_); (case side1 => repeat (first | exact (Kd.S_reads' HO179.out).2.2 | (with_reducible refine Kd.C_alloc ?_ _) | (with_reducible refine Kd.C_drewN ?_ _) | (with_reducible refine Kd.C_drew ?_))); (case side2 => exact (Kd.S_reads' HO179.out).2.1); (case side3 => repeat (first | exact (Kd.S_reads' HO183.out).2.2 | (with_reducible refine Kd.C_alloc ?_ _) | (with_reducible refine Kd.C_drewN ?_ _) | (with_reducible refine Kd.C_drew ?_))); (case side4 => exact (Kd.S_reads' HO183.out).2.1); rintro e w24 ⟨rfl, hb⟩; refine ⟨_, rfl, ?_⟩; have n0_ := Aside0.mk (Kd.S_below (by (with_reducible repeat (first | apply Kd.S_alloc | apply Kd.S_drewN | apply Kd.S_drew)); exact HO175.out) hb); have n1_ := Aside0.mk (Kd.S_below (by (with_reducible repeat (first | apply Kd.S_alloc | apply Kd.S_drewN | apply Kd.S_drew)); exact HO179.out) hb); have n2_ := Aside0.mk (Kd.S_below (by (with_reducible repeat (first | apply Kd.S_alloc | apply Kd.S_drewN | apply Kd.S_drew)); exact HO183.out) hb); have n3_ := Aside0.mk (below_step (by repeat (first | (with_reducible first | exact HB.out | apply below_alloc | apply pw_below_drewN | apply below_drew1) | exact HB.out)) hb); clear HO175; clear HO179; clear HO183; clear HB; have HO175 := n0_; have HO179 := n1_; have HO183 := n2_; have HB := n3_; clear n0_ n1_ n2_ n3_; (try clear hb); (try clear hb2); (try clear hk); (try clear hi)))
        go_ret
        exact ⟨by first | rfl | (simp [errW_none, errW_some] <;> rfl) | (simp [*, errW_none, errW_some] <;> rfl), by repeat (first | (with_reducible first | exact HB.out | apply below_alloc | apply pw_below_drewN | apply below_drew1) | exact HB.out)⟩
      · replace c14 := Bool.eq_false_iff.mpr c14
        subst c14
        have H1 : (some false) = some r := by rw [if_neg (show ¬ (false = true) by decide)] at H; exact H
        clear H
        have H := H1
        clear H1
        exact absurd ((Option.some.inj H).trans hr_.out) (by decide)
    · rw [if_neg c11] at H
      have c11b0 : (t180 == t176) = false := beq_eq_false_iff_ne.mpr c11
      have c11b1 : (t180 != t176) = true := bne_iff_ne.mpr c11
      exact absurd ((Option.some.inj H).trans hr_.out) (by decide)

end Go.Proofs.Ytfcbeodndplenaa.K

/- Library text Open. (Printed or laid by this session's program wip/pr.py.) -/
namespace Go.Proofs.Ytfcbeodndplenaa.K
open Go.RowKit Go.Proofs.YtfcbeodndplenaaW.PrintWords Go.Proofs.YtfcbeodndplenaaW.PrintLast Go.Proofs.YtfcbeodndplenaaW.PrintMore
attribute [local go_sem] max2_int min2_int max_two min_two max_three min_three max_four min_four
set_option linter.unusedVariables false
set_option linter.unusedSimpArgs false

-- IMPORT Derived.Deep.Slices
-- IMPORT Derived.Deep.Fields
-- IMPORT Derived.ChangeSame
-- IMPORT Derived.ProofKit
-- IMPORT Derived.OpenShut
-- IMPORT Derived.ShutString
-- IMPORT Derived.ChangeOld
-- IMPORT Derived.SizedLaws
section
open Go.ChangeShapes Go.WideShapes Go.ChangeAt Go.Deep
/-- What reads as data of type t is told by kind d, and is good. -/
def Opens {H α : Type} (enc : TypeId × Value → H) (P : Program) (w : World) (d : Kd α) (G : α → Prop) (t : TypeId) : Prop :=
  ∀ (fuel : Nat) (cs : List Value) (x : DataW H × List MemPlace), DataW.trod enc P w 0 (fun _ => true) true fuel t cs = some x → ∃ a : α, d.K w a cs ∧ G a
variable {H α : Type} {enc : TypeId × Value → H} {P : Program} {w : World} {d : Kd α} {G : α → Prop} {t e : TypeId}
theorem opens_int {k : IntKind} (ht : P.underlying t = some (.int k)) : Opens enc P w (Kd.int k) (fun n => (Lit.int k n).wf = true) t := by
  intro fuel cs x h
  obtain ⟨n, rfl, _, hw⟩ := DataW.trod_int ht h
  exact ⟨n, rfl, hw⟩
theorem opens_bool (ht : P.underlying t = some .bool) : Opens enc P w Kd.bool (fun _ => True) t := by
  intro fuel cs x h
  obtain ⟨b, rfl, _⟩ := DataW.trod_bool ht h
  exact ⟨b, rfl, trivial⟩
/-- What is good of a list. -/
def GL (G : α → Prop) (xs : List α) : Prop := xs.length ≤ 9223372036854775807 ∧ ∀ x ∈ xs, G x
theorem list_of {Q : Nat → α → Prop} : ∀ n : Nat, (∀ i, i < n → ∃ p, Q i p) → ∃ xs : List α, xs.length = n ∧ ∀ i p, xs[i]? = some p → Q i p
  | 0, _ => ⟨[], rfl, fun i p h => by simp at h⟩
  | n + 1, h => by
    obtain ⟨xs, hl, hx⟩ := list_of n (fun i hi => h i (by omega))
    obtain ⟨p, hp⟩ := h n (by omega)
    refine ⟨xs ++ [p], by simp [hl], fun i q hq => ?_⟩
    by_cases hi : i < n
    · rw [List.getElem?_append_left (by omega)] at hq
      exact hx i q hq
    · have : i = n := by
        have := (List.getElem?_eq_some_iff.1 hq).1
        simp at this; omega
      subst this
      rw [List.getElem?_append_right (by omega)] at hq
      simp [hl] at hq
      subst hq
      exact hp
theorem opens_slice (ht : P.underlying t = some (.slice e)) (hs : d.sz = P.cellsOf e) (he : Opens enc P w d G e) : Opens enc P w (Kd.slice e d) (GL G) t := by
  intro fuel cs x h
  rcases open_slice ht h with ⟨rfl, _⟩ | ⟨a, len, cap, m, n, D, Pl, rfl, hb, hl, hm, hmm, hx, hi⟩
  · exact ⟨[], ⟨none, 0, rfl, Nat.le_refl _, Kd.C_nil _ _⟩, by simp [GL]⟩
  · have hmc : m = cap := by simpa using hmm
    obtain ⟨xs, hlen, hxs⟩ := list_of (Q := fun i p => ∃ c, c.length = d.sz ∧ d.K w p c ∧ (∀ j u, c[j]? = some u → w.cell? (a.add (i * d.sz + j)) = some u) ∧ G p) len (fun i hil => by
      obtain ⟨cs', hc, ht'⟩ := hi i (by omega)
      obtain ⟨p, hK, hG⟩ := he n cs' _ ht'
      obtain ⟨_, hcl, hat⟩ := World.cells?_some hc
      refine ⟨p, cs', d.K_len hK, hK, fun j u hu => ?_, hG⟩
      have hj : j < P.cellsOf e := by rw [← hcl]; exact (List.getElem?_eq_some_iff.1 hu).1
      have := hat j hj
      rw [Go.Deep.add_add] at this
      rw [hs, this, hu])
    subst hlen
    refine ⟨xs, ⟨some a, cap, rfl, hl, rfl, ?_, fun _ => ⟨a, rfl, fun j p hj => ?_⟩⟩, ?_, fun x hx => ?_⟩
    · have : maxLen = 9223372036854775807 := rfl
      omega
    · obtain ⟨c, h1, h2, h3, _⟩ := hxs j p hj
      exact ⟨c, h1, h2, h3⟩
    · have : maxLen = 9223372036854775807 := rfl
      omega
    · obtain ⟨i, hi', rfl⟩ := List.getElem_of_mem hx
      obtain ⟨c, _, _, _, hG⟩ := hxs i _ (List.getElem?_eq_getElem hi')
      exact hG
end

end Go.Proofs.Ytfcbeodndplenaa.K

/- What is good of the statements' arguments, and how they are opened. (Printed or laid by this session's program wip/pr.py.) -/
namespace Go.Proofs.Ytfcbeodndplenaa.K
open Go.RowKit Go.Proofs.YtfcbeodndplenaaW.PrintWords Go.Proofs.YtfcbeodndplenaaW.PrintLast Go.Proofs.YtfcbeodndplenaaW.PrintMore
attribute [local go_sem] max2_int min2_int max_two min_two max_three min_three max_four min_four
set_option linter.unusedVariables false
set_option linter.unusedSimpArgs false

section
open Go.ChangeShapes Go.WideShapes Go.ChangeAt Go.Deep
/-- What is good of a value of type 80. -/
def G80 (x : S80) : Prop := (fun n : Int => (Lit.int .i64 n).wf = true) x.f0 ∧ (GL (fun n : Int => (Lit.int .i64 n).wf = true)) x.f1
set_option maxRecDepth 100000 in
theorem opens80 {H : Type} {enc : TypeId × Value → H} {w : World} : Opens enc Try.prog w k80 G80 80 := by
  intro fuel cs x h
  obtain ⟨xs, n, rfl, hx, hl, hxs, hg⟩ := DataW.trod_struct Try.underlying80 h
  have hl2 : cs.length = 2 := hl.trans (by kernel_rfl)
  clear hx hl h
  match cs, hl2, hg with
  | [c0, c1], _, hg =>
    have g0 := hg 0 _ rfl
    obtain ⟨y0, e0⟩ : ∃ y, xs[0]? = some y := ⟨xs[0]'(by rw [hxs]; decide), List.getElem?_eq_getElem _⟩
    obtain ⟨a0, K0, G0_⟩ := (opens_int Try.underlying3) n _ _ (g0.trans e0)
    have g1 := hg 1 _ rfl
    obtain ⟨y1, e1⟩ : ∃ y, xs[1]? = some y := ⟨xs[1]'(by rw [hxs]; decide), List.getElem?_eq_getElem _⟩
    obtain ⟨a1, K1, G1_⟩ := (opens_slice Try.underlying22 (by kernel_rfl) (opens_int Try.underlying3)) n _ _ (g1.trans e1)
    exact ⟨⟨a0, a1⟩, ⟨[c0], [c1], rfl, K0, K1⟩, ⟨G0_, G1_⟩⟩
end
end Go.Proofs.Ytfcbeodndplenaa.K

/- The pure statement of laws_FnExactTypeJoin. (Printed or laid by this session's program wip/pr.py.) -/
namespace Go.Proofs.Ytfcbeodndplenaa.K
open Go.RowKit Go.Proofs.YtfcbeodndplenaaW.PrintWords Go.Proofs.YtfcbeodndplenaaW.PrintLast Go.Proofs.YtfcbeodndplenaaW.PrintMore
attribute [local go_sem] max2_int min2_int max_two min_two max_three min_three max_four min_four
set_option linter.unusedVariables false
set_option linter.unusedSimpArgs false

/-- The one pure statement of laws_FnExactTypeJoin. -/
def laws_FnExactTypeJoin.Pure : Prop := ∀ (a0 : List (S80)) (a1 : Int) (a2 : Int), (GL G80) a0 → (fun n : Int => (Lit.int .i64 n).wf = true) a1 → (fun n : Int => (Lit.int .i64 n).wf = true) a2 → ∃ k, laws_FnExactTypeJoin.f k a0 a1 a2 = some true
end Go.Proofs.Ytfcbeodndplenaa.K

/- Plain laws of classes: when they are ok, which is below which, and the types in each other, without Go. -/
namespace Go.Proofs.Ytfcbeodndplenaa.Pure
open Go.RowKit Go.Proofs.Ytfcbeodndplenaa.K Go.Proofs.YtfcbeodndplenaaW.PrintWords Go.Proofs.YtfcbeodndplenaaW.PrintLast Go.Proofs.YtfcbeodndplenaaW.PrintMore
set_option linter.unusedVariables false
set_option linter.unusedSimpArgs false
abbrev Cs := List S34
def sup (cs : Cs) (c : Int) : Int := (rd_T34 cs c).f0
def flds (cs : Cs) (c : Int) : List Int := (rd_T34 cs c).f1
/-- May a field be of a type. -/
def fldOk (n t : Int) : Bool := decide (t = 1 ∨ t = 3 ∨ t = 4 ∨ (8 ≤ t ∧ t < 8 + n))
/-- Is a class ok at its place. -/
def clsOk (cs : Cs) (i : Int) : Bool :=
  (flds cs i).all (fldOk cs.length) &&
    (if i = 0 then decide (sup cs 0 = -1 ∧ flds cs 0 = []) else if i = 1 then decide (sup cs 1 = 0 ∧ flds cs 1 = [1]) else decide ((0 ≤ sup cs i ∧ sup cs i < i) ∧ (flds cs i).length ≤ 2))
/-- Are classes ok. -/
def csOk (cs : Cs) : Bool := decide (2 ≤ cs.length ∧ cs.length ≤ 5) && (List.range cs.length).all (fun i : Nat => clsOk cs i)

theorem csOk_len {cs : Cs} (h : csOk cs = true) : 2 ≤ cs.length ∧ cs.length ≤ 5 := by
  simp only [csOk, Bool.and_eq_true, decide_eq_true_eq] at h; exact h.1
theorem csOk_at {cs : Cs} (h : csOk cs = true) {i : Int} (h0 : 0 ≤ i) (h1 : i < cs.length) : clsOk cs i = true := by
  simp only [csOk, Bool.and_eq_true, decide_eq_true_eq, List.all_eq_true, List.mem_range] at h
  have := h.2 i.toNat (by omega)
  rwa [Int.toNat_of_nonneg h0] at this
theorem csOk_root {cs : Cs} (h : csOk cs = true) : sup cs 0 = -1 ∧ flds cs 0 = [] := by
  have hl := csOk_len h
  have := csOk_at h (i := 0) (by omega) (by omega)
  simp only [clsOk, if_true, Bool.and_eq_true, decide_eq_true_eq] at this
  exact this.2
theorem csOk_sup {cs : Cs} (h : csOk cs = true) {i : Int} (h0 : 0 < i) (h1 : i < cs.length) : 0 ≤ sup cs i ∧ sup cs i < i := by
  have := csOk_at h (i := i) (by omega) h1
  simp only [clsOk, Bool.and_eq_true] at this
  have h2 := this.2
  rw [if_neg (by omega)] at h2
  by_cases h3 : i = 1
  · subst h3
    simp only [if_true, decide_eq_true_eq] at h2
    omega
  · rw [if_neg h3, decide_eq_true_eq] at h2
    exact h2.1

/-- Is a class another one, or below it, in so many steps. -/
def upN (cs : Cs) : Nat → Int → Int → Bool
  | 0, a, b => decide (a = b)
  | n + 1, a, b => decide (a = b) || (decide (0 < a) && upN cs n (sup cs a) b)
/-- Is a class another one, or below it. -/
def up (cs : Cs) (a b : Int) : Bool := upN cs a.toNat a b
theorem upN_more {cs : Cs} (h : csOk cs = true) : ∀ (n : Nat) (a b : Int), 0 ≤ a → a < cs.length → a.toNat ≤ n → upN cs (n + 1) a b = upN cs n a b
  | 0, a, b, h0, h1, hn => by
    have : a = 0 := by omega
    subst this
    simp [upN]
  | n + 1, a, b, h0, h1, hn => by
    have e1 : upN cs (n + 1 + 1) a b = (decide (a = b) || (decide (0 < a) && upN cs (n + 1) (sup cs a) b)) := rfl
    have e2 : upN cs (n + 1) a b = (decide (a = b) || (decide (0 < a) && upN cs n (sup cs a) b)) := rfl
    rw [e1, e2]
    by_cases hp : 0 < a
    · have hs := csOk_sup h hp h1
      rw [upN_more h n (sup cs a) b (by omega) (by omega) (by omega)]
    · simp [hp]
theorem upN_eq {cs : Cs} (h : csOk cs = true) {a b : Int} (h0 : 0 ≤ a) (h1 : a < cs.length) : ∀ d : Nat, upN cs (a.toNat + d) a b = up cs a b
  | 0 => rfl
  | d + 1 => by rw [← Nat.add_assoc, upN_more h _ a b h0 h1 (by omega), upN_eq h h0 h1 d]
theorem up_step {cs : Cs} (h : csOk cs = true) {a : Int} (b : Int) (h0 : 0 ≤ a) (h1 : a < cs.length) : up cs a b = (decide (a = b) || (decide (0 < a) && up cs (sup cs a) b)) := by
  rw [← upN_eq h h0 h1 1, upN]
  by_cases hp : 0 < a
  · have hs := csOk_sup h hp h1
    have e := upN_eq h (a := sup cs a) (b := b) hs.1 (by omega) (a.toNat - (sup cs a).toNat)
    rw [show (sup cs a).toNat + (a.toNat - (sup cs a).toNat) = a.toNat from by omega] at e
    rw [e]
  · simp [hp]
theorem up_refl (cs : Cs) (a : Int) : up cs a a = true := by
  unfold up
  cases a.toNat <;> simp [upN]
/-- Induction along what is above. -/
theorem cls_ind {cs : Cs} (h : csOk cs = true) {P : Int → Prop} (h00 : P 0) (hs : ∀ a : Int, 0 < a → a < cs.length → P (sup cs a) → P a) : ∀ a : Int, 0 ≤ a → a < cs.length → P a := by
  suffices H : ∀ (n : Nat) (a : Int), a.toNat ≤ n → 0 ≤ a → a < cs.length → P a from fun a h0 h1 => H a.toNat a (Nat.le_refl _) h0 h1
  intro n
  induction n with
  | zero => intro a hn h0 h1; have : a = 0 := by omega
            subst this; exact h00
  | succ n ih =>
    intro a hn h0 h1
    by_cases hp : 0 < a
    · have := csOk_sup h hp h1
      exact hs a hp h1 (ih _ (by omega) (by omega) (by omega))
    · have : a = 0 := by omega
      subst this; exact h00
theorem up_le {cs : Cs} (h : csOk cs = true) {b : Int} : ∀ a : Int, 0 ≤ a → a < cs.length → up cs a b = true → b ≤ a ∧ 0 ≤ b := by
  refine cls_ind h ?_ ?_
  · intro hu
    rw [up_step h b (by omega) (by have := csOk_len h; omega)] at hu
    simp at hu; omega
  · intro a hp h1 ih hu
    have hs := csOk_sup h hp h1
    rw [up_step h b (by omega) h1] at hu
    simp only [Bool.or_eq_true, decide_eq_true_eq, Bool.and_eq_true] at hu
    rcases hu with hu | hu
    · omega
    · have := ih hu.2; omega
theorem up_trans {cs : Cs} (h : csOk cs = true) {b c : Int} (hbc : up cs b c = true) : ∀ a : Int, 0 ≤ a → a < cs.length → up cs a b = true → up cs a c = true := by
  refine cls_ind h ?_ ?_
  · intro hu
    rw [up_step h b (by omega) (by have := csOk_len h; omega)] at hu
    simp at hu
    subst hu; exact hbc
  · intro a hp h1 ih hu
    rw [up_step h b (by omega) h1] at hu
    simp only [Bool.or_eq_true, decide_eq_true_eq, Bool.and_eq_true] at hu
    rcases hu with hu | hu
    · subst hu; exact hbc
    · rw [up_step h c (by omega) h1, ih hu.2]; simp [hp]
theorem up_anti {cs : Cs} (h : csOk cs = true) {a b : Int} (ha : 0 ≤ a) (ha1 : a < cs.length) (hb : 0 ≤ b) (hb1 : b < cs.length) (h1 : up cs a b = true) (h2 : up cs b a = true) : a = b := by
  have := up_le h a ha ha1 h1
  have := up_le h b hb hb1 h2
  omega
theorem up_root {cs : Cs} (h : csOk cs = true) : ∀ a : Int, 0 ≤ a → a < cs.length → up cs a 0 = true := by
  refine cls_ind h (up_refl cs 0) ?_
  intro a hp h1 ih
  rw [up_step h 0 (by omega) h1, ih]; simp [hp]

/-- The program's walk upwards. -/
theorem impl_classUp_eq {cs : Cs} (h : csOk cs = true) (b : Int) : ∀ a : Int, 0 ≤ a → a < cs.length → ∀ k : Nat, a.toNat + 2 ≤ k → impl_classUp.f k cs a b = some (up cs a b) := by
  have hl := csOk_len h
  refine cls_ind h ?_ ?_
  · intro k hk
    obtain ⟨k, rfl⟩ : ∃ m, k = m + 1 := ⟨k - 1, by omega⟩
    obtain ⟨k, rfl⟩ : ∃ m, k = m + 1 := ⟨k - 1, by omega⟩
    simp only [impl_classUp.f, impl_classUp.l0]
    rw [if_pos (by omega), up_step h b (by omega) (by omega)]
    by_cases hb : (0 : Int) = b
    · rw [if_pos hb]; simp [hb]
    · rw [if_neg hb, if_pos (by omega), if_pos (by omega), show (rd_T34 cs 0).f0 = -1 from (csOk_root h).1, if_neg (by omega)]
      simp [hb]
  · intro a hp h1 ih k hk
    obtain ⟨k, rfl⟩ : ∃ m, k = m + 1 := ⟨k - 1, by omega⟩
    have hs := csOk_sup h hp h1
    simp only [impl_classUp.f, impl_classUp.l0]
    rw [if_pos (by omega), up_step h b (by omega) h1]
    by_cases hb : a = b
    · rw [if_pos hb]; simp [hb]
    · rw [if_neg hb, if_pos (by omega), if_pos (by omega)]
      have := ih k (by omega)
      simp only [impl_classUp.f] at this
      rw [show (rd_T34 cs a).f0 = sup cs a from rfl, this]
      simp [hb, hp]
/-- The specification's. -/
theorem spec_l2Up_eq {cs : Cs} (h : csOk cs = true) {b : Int} (hb : 0 ≤ b) : ∀ a : Int, 0 ≤ a → a < cs.length → ∀ k : Nat, a.toNat + 1 ≤ k → spec_l2Up.f k cs a b = some (up cs a b) := by
  have hl := csOk_len h
  refine cls_ind h ?_ ?_
  · intro k hk
    obtain ⟨k, rfl⟩ : ∃ m, k = m + 1 := ⟨k - 1, by omega⟩
    simp only [spec_l2Up.f, spec_l2Up.l0]
    rw [if_neg (by omega), up_step h b (by omega) (by omega)]
    by_cases e : (0 : Int) = b
    · simp [e]
    · simp [e]
  · intro a hp h1 ih k hk
    obtain ⟨k, rfl⟩ : ∃ m, k = m + 1 := ⟨k - 1, by omega⟩
    have hs := csOk_sup h hp h1
    simp only [spec_l2Up.f, spec_l2Up.l0]
    rw [up_step h b (by omega) h1]
    by_cases hab : a > b
    · rw [if_pos hab, if_pos (by omega), if_pos (by omega)]
      have := ih k (by omega)
      simp only [spec_l2Up.f] at this
      rw [show (rd_T34 cs a).f0 = sup cs a from rfl, this]
      simp [hp, show ¬ a = b from by omega]
    · rw [if_neg hab]
      by_cases e : a = b
      · simp [e]
      · have hno : up cs (sup cs a) b = false := by
          cases hq : up cs (sup cs a) b with
          | false => rfl
          | true => have := up_le h _ hs.1 (by omega) hq; omega
        rw [hno]
        simp [e]

end Go.Proofs.Ytfcbeodndplenaa.Pure

/- Small plain laws of numbers and of rounds. -/
namespace Go.Proofs.Ytfcbeodndplenaa.Pure
open Go.RowKit Go.Proofs.Ytfcbeodndplenaa.K Go.Proofs.YtfcbeodndplenaaW.PrintWords Go.Proofs.YtfcbeodndplenaaW.PrintLast Go.Proofs.YtfcbeodndplenaaW.PrintMore
set_option linter.unusedVariables false
set_option linter.unusedSimpArgs false
theorem evp {α : Type} {c : Prop} [Decidable c] {f g : Nat → Option α} {r : α} (h : c) (k : Ev f r) : Ev (fun n => if c then f n else g n) r := Ev.congr (fun _ => if_pos h) k
theorem evn {α : Type} {c : Prop} [Decidable c] {f g : Nat → Option α} {r : α} (h : ¬ c) (k : Ev g r) : Ev (fun n => if c then f n else g n) r := Ev.congr (fun _ => if_neg h) k

theorem wrap_inc {i n : Int} (h0 : 0 ≤ i) (h : i < n) (hn : n ≤ 4611686018427387904) : wrap64 (i + 1) = i + 1 := by
  unfold wrap64; omega

theorem rd_cast (xs : List Int) (i : Nat) : rd xs (i : Int) = xs.getD i 0 := by simp [rd]

theorem drop_getD {α : Type} (xs : List α) (i : Nat) (d : α) (h : i < xs.length) : xs.drop i = xs.getD i d :: xs.drop (i + 1) := by
  rw [List.drop_eq_getElem_cons h]; simp [List.getD_eq_getElem?_getD, h]


theorem wrap64_of {n : Int} (h : -9223372036854775808 ≤ n) (h' : n ≤ 9223372036854775807) : wrap64 n = n := by unfold wrap64; omega

end Go.Proofs.Ytfcbeodndplenaa.Pure

/- Plain law of the specification's range test. -/
namespace Go.Proofs.Ytfcbeodndplenaa.Pure
open Go.RowKit Go.Proofs.Ytfcbeodndplenaa.K Go.Proofs.YtfcbeodndplenaaW.PrintWords Go.Proofs.YtfcbeodndplenaaW.PrintLast Go.Proofs.YtfcbeodndplenaaW.PrintMore
set_option linter.unusedVariables false
set_option linter.unusedSimpArgs false
theorem spec_l6In_eq (a b c : Int) : spec_l6In.f a b c = some (decide (b ≤ a ∧ a ≤ c)) := by
  unfold spec_l6In.f
  by_cases h : a ≥ b
  · rw [if_pos h]; simp [show b ≤ a from h]
  · rw [if_neg h]; simp [show ¬ b ≤ a from h]

end Go.Proofs.Ytfcbeodndplenaa.Pure

/- Plain law: both words for 'classes are ok' say csOk. -/
namespace Go.Proofs.Ytfcbeodndplenaa.Pure
open Go.RowKit Go.Proofs.Ytfcbeodndplenaa.K Go.Proofs.YtfcbeodndplenaaW.PrintWords Go.Proofs.YtfcbeodndplenaaW.PrintLast Go.Proofs.YtfcbeodndplenaaW.PrintMore
set_option linter.unusedVariables false
set_option linter.unusedSimpArgs false
theorem all_drop (fs : List Int) (P : Int → Bool) (i : Nat) (h : i < fs.length) : (fs.drop i).all P = (P (fs.getD i 0) && (fs.drop (i + 1)).all P) := by
  rw [drop_getD fs i 0 h, List.all_cons]
theorem spec_l2Field_eq (cs : Cs) (t : Int) (hl : cs.length ≤ 1000) : spec_l2Field.f cs t = some (fldOk cs.length t) := by
  unfold spec_l2Field.f fldOk
  by_cases c1 : t = 1
  · rw [if_pos c1]; simp [c1]
  rw [if_neg c1]
  by_cases c2 : t = 3
  · rw [if_pos c2]; simp [c2]
  rw [if_neg c2]
  by_cases c3 : t = 4
  · rw [if_pos c3]; simp [c3]
  rw [if_neg c3, wrap64_of (n := 8 + (cs.length : Int)) (by omega) (by omega), wrap64_of (by omega) (by omega), spec_l6In_eq]
  simp only [Option.bind_some, Option.some.injEq]
  rw [Bool.eq_iff_iff]; simp only [decide_eq_true_eq]; omega
/-- What the specification asks of a class behind its fields. -/
def clsTail (cs : Cs) (i su : Int) (fs : List Int) : Bool :=
  if i = 0 then decide (su = -1 ∧ fs = []) else if i = 1 then decide (su = 0 ∧ fs = [1]) else decide ((0 ≤ su ∧ su < i) ∧ fs.length ≤ 2)
theorem len_nil (fs : List Int) : ((fs.length : Int) == 0) = decide (fs = []) := by cases fs <;> simp; omega
theorem spec_l2Class_l0 (cs : Cs) (c su : Int) (fs : List Int) (hl : cs.length ≤ 1000) (hf : fs.length ≤ 140737488355328) (hc : 0 ≤ c ∧ c < 1000) (d : Nat) : ∀ (k i : Nat), i ≤ fs.length → fs.length - i = d → d < k →
    spec_l2Class.l0 k cs c i su fs = some ((fs.drop i).all (fldOk cs.length) && clsTail cs c su fs) := by
  induction d with
  | zero =>
    intro k i hi hd hk
    obtain ⟨k, rfl⟩ : ∃ m, k = m + 1 := ⟨k - 1, by omega⟩
    have : i = fs.length := by omega
    subst this
    simp only [spec_l2Class.l0]
    rw [if_neg (by omega), List.drop_length]
    simp only [List.all_nil, Bool.true_and]
    unfold clsTail
    by_cases c0 : c = 0
    · rw [if_pos c0, if_pos c0]
      by_cases s0 : su = -1
      · rw [if_pos s0, len_nil]; simp [s0]
      · rw [if_neg s0]; simp [s0]
    rw [if_neg c0, if_neg c0]
    by_cases c1 : c = 1
    · rw [if_pos c1, if_pos c1]
      by_cases s0 : su = 0
      · rw [if_pos s0]
        by_cases l1 : (fs.length : Int) = 1
        · rw [if_pos l1, if_pos (by omega)]
          obtain ⟨x, rfl⟩ := List.length_eq_one_iff.1 (show fs.length = 1 by omega)
          by_cases e : x = 1
          · simp [rd, s0, e]
          · simp [rd, s0, e]
        · rw [if_neg l1]
          have : fs ≠ [1] := fun e => l1 (by rw [e]; rfl)
          simp [this]
      · rw [if_neg s0]; simp [s0]
    rw [if_neg c1, if_neg c1, wrap64_of (by omega) (by omega), spec_l6In_eq]
    simp only [Option.bind_some, decide_eq_true_eq]
    by_cases z : 0 ≤ su ∧ su ≤ c - 1
    · rw [if_pos z]
      congr 1
      rw [Bool.eq_iff_iff]; simp only [decide_eq_true_eq]; omega
    · rw [if_neg z]
      congr 1
      rw [Bool.eq_iff_iff]; simp only [decide_eq_true_eq, Bool.false_eq_true, false_iff]; omega
  | succ d ih =>
    intro k i hi hd hk
    obtain ⟨k, rfl⟩ : ∃ m, k = m + 1 := ⟨k - 1, by omega⟩
    simp only [spec_l2Class.l0]
    rw [if_pos (by omega), if_pos (by omega), spec_l2Field_eq cs _ hl, rd_cast, all_drop fs _ i (by omega)]
    simp only [Option.bind_some]
    cases hq : fldOk cs.length (fs.getD i 0) with
    | false => simp
    | true =>
      simp only [if_true, Bool.true_and]
      rw [wrap_inc (n := fs.length) (by omega) (by omega) (by omega), show ((i : Int) + 1) = ((i + 1 : Nat) : Int) from by omega]
      exact ih k (i + 1) (by omega) (by omega) (by omega)
/-- All fields of all classes are so many at most. -/
def fewF (cs : Cs) : Prop := ∀ i : Int, (flds cs i).length ≤ 1048576
theorem spec_l2Class_eq {cs : Cs} (hl : cs.length ≤ 1000) (hf : fewF cs) {i : Int} (h0 : 0 ≤ i) (h1 : i < cs.length) (k : Nat) (hk : 1048577 ≤ k) : spec_l2Class.f k cs i = some (clsOk cs i) := by
  unfold spec_l2Class.f
  rw [if_pos h0, if_pos h1]
  have := hf i
  have e := spec_l2Class_l0 cs i (sup cs i) (flds cs i) hl (by omega) ⟨h0, by omega⟩ (flds cs i).length k 0 (by omega) (by omega) (by omega)
  have e2 : spec_l2Class.l0 k cs i 0 (sup cs i) (flds cs i) = some (clsOk cs i) := by
    rw [show ((0 : Nat) : Int) = 0 from rfl] at e
    rw [e, List.drop_zero]
    unfold clsOk clsTail
    by_cases c0 : i = 0
    · subst c0; rfl
    by_cases c1 : i = 1
    · subst c1; rfl
    rw [if_neg c0, if_neg c1, if_neg c0, if_neg c1]
  exact e2
theorem range_all_drop (n i : Nat) (P : Nat → Bool) (h : i < n) : ((List.range n).drop i).all P = (P i && ((List.range n).drop (i + 1)).all P) := by
  rw [List.drop_eq_getElem_cons (by simpa using h), List.all_cons]; simp
theorem spec_ClassesOk_l0 {cs : Cs} (hl : cs.length ≤ 1000) (hf : fewF cs) (d : Nat) : ∀ (k i : Nat), i ≤ cs.length → cs.length - i = d → d + 1048577 ≤ k →
    spec_ClassesOk.l0 k cs i = some (((List.range cs.length).drop i).all (fun j : Nat => clsOk cs j)) := by
  induction d with
  | zero =>
    intro k i hi hd hk
    obtain ⟨k, rfl⟩ : ∃ m, k = m + 1 := ⟨k - 1, by omega⟩
    have : i = cs.length := by omega
    subst this
    simp only [spec_ClassesOk.l0]
    rw [if_neg (by omega), List.drop_of_length_le (by simp)]
    rfl
  | succ d ih =>
    intro k i hi hd hk
    obtain ⟨k, rfl⟩ : ∃ m, k = m + 1 := ⟨k - 1, by omega⟩
    simp only [spec_ClassesOk.l0]
    rw [if_pos (by omega), spec_l2Class_eq hl hf (by omega) (by omega) k (by omega), range_all_drop _ _ _ (by omega)]
    simp only [Option.bind_some]
    cases hq : clsOk cs i with
    | false => simp
    | true =>
      simp only [if_true, Bool.true_and]
      rw [wrap_inc (n := cs.length) (by omega) (by omega) (by omega), show ((i : Int) + 1) = ((i + 1 : Nat) : Int) from by omega]
      exact ih k (i + 1) (by omega) (by omega) (by omega)
theorem spec_ClassesOk_eq {cs : Cs} (hf : fewF cs) (k : Nat) (hk : 2000000 ≤ k) : spec_ClassesOk.f k cs = some (csOk cs) := by
  unfold spec_ClassesOk.f csOk
  rw [spec_l6In_eq]
  simp only [Option.bind_some, decide_eq_true_eq]
  by_cases hl : (2 : Int) ≤ cs.length ∧ (cs.length : Int) ≤ 5
  · rw [if_pos hl, show decide (2 ≤ cs.length ∧ cs.length ≤ 5) = true from decide_eq_true (by omega)]
    have := spec_ClassesOk_l0 (cs := cs) (by omega) hf cs.length k 0 (by omega) (by omega) (by omega)
    rw [show ((0 : Nat) : Int) = 0 from rfl] at this
    rw [this, List.drop_zero, Bool.true_and]
  · rw [if_neg hl, show decide (2 ≤ cs.length ∧ cs.length ≤ 5) = false from decide_eq_false (by omega), Bool.false_and]
theorem impl_fieldType_eq (cs : Cs) (t : Int) (hl : cs.length ≤ 1000) : impl_fieldType.f cs.length t = some (fldOk cs.length t) := by
  unfold impl_fieldType.f kOk fldOk
  rw [if_pos (by omega)]
  congr 1
  rw [Bool.eq_iff_iff]; simp only [Bool.and_eq_true, decide_eq_true_eq]; omega
/-- What the program asks of each class in its loop. -/
def clsQ (cs : Cs) (i : Int) : Bool := (decide (i ≤ 1) || decide (0 ≤ sup cs i ∧ sup cs i < i)) && (decide ((flds cs i).length ≤ 2) && (flds cs i).all (fldOk cs.length))
theorem impl_ClassesOk_l1 (cs : Cs) (hl : cs.length ≤ 1000) (i : Nat) (hi : i < 1000) (fs : List Int) (hf : fs.length ≤ 2) (R : Bool) (K : Nat) (hR : ∀ k, K ≤ k → impl_ClassesOk.l0 k cs cs cs.length ((i + 1 : Nat) : Int) = some R) (d : Nat) : ∀ (k j : Nat), j ≤ fs.length → fs.length - j = d → K + d + 1 ≤ k →
    impl_ClassesOk.l1 k cs cs cs.length i fs fs.length j = some ((fs.drop j).all (fldOk cs.length) && R) := by
  induction d with
  | zero =>
    intro k j hj hd hk
    obtain ⟨k, rfl⟩ : ∃ m, k = m + 1 := ⟨k - 1, by omega⟩
    have : j = fs.length := by omega
    subst this
    simp only [impl_ClassesOk.l1]
    rw [if_neg (by omega), List.drop_length, wrap_inc (n := 1000) (by omega) (by omega) (by omega), show ((i : Int) + 1) = ((i + 1 : Nat) : Int) from by omega, hR k (by omega)]
    simp
  | succ d ih =>
    intro k j hj hd hk
    obtain ⟨k, rfl⟩ : ∃ m, k = m + 1 := ⟨k - 1, by omega⟩
    simp only [impl_ClassesOk.l1]
    rw [if_pos (by omega), if_pos (by omega), if_pos (by omega), rd_cast, impl_fieldType_eq cs _ hl, all_drop fs _ j (by omega)]
    simp only [Option.bind_some]
    cases hq : fldOk cs.length (fs.getD j 0) with
    | false => simp
    | true =>
      simp only [if_true, Bool.true_and]
      rw [wrap_inc (n := fs.length) (by omega) (by omega) (by omega), show ((j : Int) + 1) = ((j + 1 : Nat) : Int) from by omega]
      exact ih k (j + 1) (by omega) (by omega) (by omega)
theorem impl_ClassesOk_l0 (cs : Cs) (hl : cs.length ≤ 5) (d : Nat) : ∀ (i : Nat), i ≤ cs.length → cs.length - i = d → ∀ k, 10 * d + 10 ≤ k →
    impl_ClassesOk.l0 k cs cs cs.length i = some (((List.range cs.length).drop i).all (fun j : Nat => clsQ cs j)) := by
  induction d with
  | zero =>
    intro i hi hd k hk
    obtain ⟨k, rfl⟩ : ∃ m, k = m + 1 := ⟨k - 1, by omega⟩
    have : i = cs.length := by omega
    subst this
    simp only [impl_ClassesOk.l0]
    rw [if_neg (by omega), List.drop_of_length_le (by simp)]
    rfl
  | succ d ih =>
    intro i hi hd k hk
    obtain ⟨k, rfl⟩ : ∃ m, k = m + 1 := ⟨k - 1, by omega⟩
    obtain ⟨k, rfl⟩ : ∃ m, k = m + 1 := ⟨k - 1, by omega⟩
    rw [range_all_drop _ _ _ (by omega)]
    have hj : impl_ClassesOk.j4 (k + 1) cs cs cs.length i false (sup cs i) (flds cs i) = some (decide ((flds cs i).length ≤ 2) && ((flds cs i).all (fldOk cs.length) && ((List.range cs.length).drop (i + 1)).all (fun j : Nat => clsQ cs j))) := by
      simp only [impl_ClassesOk.j4]
      rw [if_neg (by simp)]
      by_cases h2 : ((flds cs i).length : Int) > 2
      · rw [if_pos h2, decide_eq_false (by omega)]; rfl
      · rw [if_neg h2, decide_eq_true (show (flds cs i).length ≤ 2 by omega), Bool.true_and]
        have := impl_ClassesOk_l1 cs (by omega) i (by omega) (flds cs i) (by omega) _ (10 * d + 10) (fun k hk => ih (i + 1) (by omega) (by omega) k hk) (flds cs i).length k 0 (by omega) (by omega) (by omega)
        rw [show ((0 : Nat) : Int) = 0 from rfl, List.drop_zero] at this
        exact this
    have hjt : impl_ClassesOk.j4 (k + 1) cs cs cs.length i true (sup cs i) (flds cs i) = some false := by simp [impl_ClassesOk.j4]
    simp only [impl_ClassesOk.l0]
    rw [if_pos (by omega), if_pos (by omega), if_pos (by omega)]
    rw [show (rd_T34 cs (i : Int)).f0 = sup cs i from rfl, show (rd_T34 cs (i : Int)).f1 = flds cs i from rfl]
    have hQ : clsQ cs i = ((decide ((i : Int) ≤ 1) || decide (0 ≤ sup cs i ∧ sup cs i < i)) && (decide ((flds cs i).length ≤ 2) && (flds cs i).all (fldOk cs.length))) := rfl
    rw [hQ]
    generalize ((List.range cs.length).drop (i + 1)).all (fun j : Nat => clsQ cs j) = T at *
    by_cases h1 : (i : Int) > 1
    · rw [if_pos h1]
      by_cases hs : sup cs i < 0
      · rw [if_pos hs, hjt, decide_eq_false (show ¬ (i : Int) ≤ 1 by omega), decide_eq_false (show ¬ (0 ≤ sup cs i ∧ sup cs i < i) by omega)]; rfl
      · rw [if_neg hs]
        by_cases hs2 : sup cs i ≥ i
        · rw [decide_eq_true hs2, hjt, decide_eq_false (show ¬ (i : Int) ≤ 1 by omega), decide_eq_false (show ¬ (0 ≤ sup cs i ∧ sup cs i < i) by omega)]; rfl
        · rw [decide_eq_false hs2, hj, decide_eq_true (show (0 ≤ sup cs i ∧ sup cs i < i) by omega)]
          simp [Bool.and_assoc]
    · rw [if_neg h1, hj, decide_eq_true (show (i : Int) ≤ 1 by omega)]
      simp [Bool.and_assoc]
theorem impl_ClassesOk_eq (cs : Cs) (k : Nat) (hk : 1000 ≤ k) : impl_ClassesOk.f k cs = some (csOk cs) := by
  obtain ⟨k, rfl⟩ : ∃ m, k = m + 1 := ⟨k - 1, by omega⟩
  obtain ⟨k, rfl⟩ : ∃ m, k = m + 1 := ⟨k - 1, by omega⟩
  obtain ⟨k, rfl⟩ : ∃ m, k = m + 1 := ⟨k - 1, by omega⟩
  unfold impl_ClassesOk.f
  by_cases h2 : (cs.length : Int) < 2
  · rw [if_pos h2]
    simp only [impl_ClassesOk.j0, if_true]
    unfold csOk
    rw [decide_eq_false (by omega), Bool.false_and]
  rw [if_neg h2]
  by_cases h5 : (cs.length : Int) > 5
  · rw [decide_eq_true h5]
    simp only [impl_ClassesOk.j0, if_true]
    unfold csOk
    rw [decide_eq_false (by omega), Bool.false_and]
  rw [decide_eq_false h5]
  -- what fails tells false
  have no : ∀ i : Int, 0 ≤ i → i < cs.length → clsOk cs i = false → csOk cs = false := by
    intro i h0 h1 hc
    cases hq : csOk cs with
    | false => rfl
    | true => rw [csOk_at hq h0 h1] at hc; cases hc
  simp only [impl_ClassesOk.j0, Bool.false_eq_true, if_false]
  rw [if_pos (by omega)]
  rw [show (rd_T34 cs 0).f0 = sup cs 0 from rfl, show (rd_T34 cs 0).f1 = flds cs 0 from rfl]
  by_cases r0 : sup cs 0 = -1
  case neg =>
    rw [if_neg r0]
    simp only [impl_ClassesOk.j1, if_true]
    rw [no 0 (by omega) (by omega) (by unfold clsOk; simp [r0])]
  rw [if_pos r0]
  by_cases f0 : flds cs 0 = []
  case neg =>
    have : (((flds cs 0).length : Int) != 0) = true := by
      cases hq : flds cs 0 with
      | nil => exact absurd hq f0
      | cons x t => simp; omega
    rw [this]
    simp only [impl_ClassesOk.j1, if_true]
    rw [no 0 (by omega) (by omega) (by unfold clsOk; simp [f0])]
  rw [show (((flds cs 0).length : Int) != 0) = false by rw [f0]; rfl]
  simp only [impl_ClassesOk.j1, Bool.false_eq_true, if_false]
  rw [if_pos (by omega)]
  rw [show (rd_T34 cs 1).f0 = sup cs 1 from rfl, show (rd_T34 cs 1).f1 = flds cs 1 from rfl]
  have n1 : ¬ (sup cs 1 = 0 ∧ flds cs 1 = [1]) → csOk cs = false := fun z => no 1 (by omega) (by omega) (by unfold clsOk; rw [if_neg (by omega), if_pos rfl, decide_eq_false z, Bool.and_false])
  by_cases r1 : sup cs 1 = 0
  case neg =>
    rw [if_neg r1]
    simp only [impl_ClassesOk.j2, if_true]
    rw [n1 (fun z => r1 z.1)]
  rw [if_pos r1]
  by_cases l1 : ((flds cs 1).length : Int) = 1
  case neg =>
    rw [if_neg l1]
    simp only [impl_ClassesOk.j2, if_true]
    rw [n1 (fun z => l1 (by rw [z.2]; rfl))]
  rw [if_pos l1, if_pos (by omega)]
  obtain ⟨x, hx⟩ := List.length_eq_one_iff.1 (show (flds cs 1).length = 1 by omega)
  by_cases e1 : x = 1
  case neg =>
    rw [show (rd (flds cs 1) 0 != 1) = true by rw [hx]; simp [rd, e1]]
    simp only [impl_ClassesOk.j2, if_true]
    rw [n1 (fun z => e1 (by rw [hx] at z; simpa using z.2))]
  rw [show (rd (flds cs 1) 0 != 1) = false by rw [hx]; simp [rd, e1]]
  simp only [impl_ClassesOk.j2, Bool.false_eq_true, if_false]
  have := impl_ClassesOk_l0 cs (by omega) cs.length 0 (by omega) (by omega) k (by omega)
  rw [show ((0 : Nat) : Int) = 0 from rfl, List.drop_zero] at this
  rw [this]
  congr 1
  unfold csOk
  rw [decide_eq_true (show 2 ≤ cs.length ∧ cs.length ≤ 5 by omega), Bool.true_and, Bool.eq_iff_iff]
  simp only [List.all_eq_true, List.mem_range]
  refine forall_congr' fun i => forall_congr' fun hi => ?_
  unfold clsQ clsOk
  simp only [Bool.and_eq_true, Bool.or_eq_true, decide_eq_true_eq]
  by_cases i0 : (i : Int) = 0
  · rw [i0, if_pos rfl, decide_eq_true_eq, r0, f0]; simp
  by_cases i1 : (i : Int) = 1
  · rw [i1, if_neg (by omega), if_pos rfl, decide_eq_true_eq, r1, hx, e1]; simp
  rw [if_neg i0, if_neg i1, decide_eq_true_eq]
  constructor
  · rintro ⟨h1 | h1, h3, h4⟩
    · omega
    · exact ⟨h4, h1, h3⟩
  · rintro ⟨h4, h1, h3⟩
    exact ⟨Or.inr h1, h3, h4⟩

end Go.Proofs.Ytfcbeodndplenaa.Pure

/- Plain law of the comparer of lists of numbers. -/
namespace Go.Proofs.Ytfcbeodndplenaa.Pure
open Go.RowKit Go.Proofs.Ytfcbeodndplenaa.K Go.Proofs.YtfcbeodndplenaaW.PrintWords Go.Proofs.YtfcbeodndplenaaW.PrintLast Go.Proofs.YtfcbeodndplenaaW.PrintMore
set_option linter.unusedVariables false
set_option linter.unusedSimpArgs false
theorem eqIntS_l0 (xs ys : List Int) (hl : xs.length = ys.length) (hb : xs.length ≤ 140737488355328) (d : Nat) : ∀ (k : Nat) (i : Nat), i ≤ xs.length → xs.length - i = d → d < k →
    laws_eqIntS.l0 k xs ys i = some (decide (xs.drop i = ys.drop i)) := by
  induction d with
  | zero =>
    intro k i hi hd hk
    obtain ⟨k, rfl⟩ : ∃ m, k = m + 1 := ⟨k - 1, by omega⟩
    have : i = xs.length := by omega
    subst this
    simp only [laws_eqIntS.l0]
    rw [if_neg (by omega)]
    simp [hl]
  | succ d ih =>
    intro k i hi hd hk
    obtain ⟨k, rfl⟩ : ∃ m, k = m + 1 := ⟨k - 1, by omega⟩
    simp only [laws_eqIntS.l0]
    rw [if_pos (by omega), if_pos (by omega), if_pos (by omega), wrap_inc (n := xs.length) (by omega) (by omega) (by omega), rd_cast, rd_cast, drop_getD xs i 0 (by omega), drop_getD ys i 0 (by omega)]
    by_cases h : xs.getD i 0 = ys.getD i 0
    · rw [if_pos h]
      have := ih k (i + 1) (by omega) (by omega) (by omega)
      rw [show ((i : Int) + 1) = ((i + 1 : Nat) : Int) from by omega, this]
      simp only [List.cons.injEq, h, true_and]
    · rw [if_neg h]
      simp only [List.cons.injEq, h, false_and, decide_false]

theorem eqIntS_ev (xs ys : List Int) (hb : xs.length ≤ 140737488355328) : Ev (fun k => laws_eqIntS.f k xs ys) (decide (xs = ys)) := by
  by_cases hl : xs.length = ys.length
  · refine Ev.of (k := xs.length + 1) (laws_eqIntS.mono xs ys) ?_
    simp only [laws_eqIntS.f]
    rw [if_pos (by omega)]
    have := eqIntS_l0 xs ys hl hb xs.length (xs.length + 1) 0 (by omega) (by omega) (by omega)
    simpa using this
  · refine Ev.of (k := 0) (laws_eqIntS.mono xs ys) ?_
    simp only [laws_eqIntS.f]
    rw [if_neg (by omega)]
    have : xs ≠ ys := fun h => hl (by rw [h])
    simp [this]


end Go.Proofs.Ytfcbeodndplenaa.Pure

/- Plain laws of the statements' own words on classes: their size, their copy, their comparer. -/
namespace Go.Proofs.Ytfcbeodndplenaa.Pure
open Go.RowKit Go.Proofs.Ytfcbeodndplenaa.K Go.Proofs.YtfcbeodndplenaaW.PrintWords Go.Proofs.YtfcbeodndplenaaW.PrintLast Go.Proofs.YtfcbeodndplenaaW.PrintMore
set_option linter.unusedVariables false
set_option linter.unusedSimpArgs false
abbrev Ls := List S80
def toC (c : S80) : S34 := ⟨c.f0, c.f1⟩
def toCs (l : Ls) : Cs := l.map toC
theorem toIntS_l0 (d : Nat) : ∀ (k : Nat) (pre post : List Int) (xs : List Int), xs.length = pre.length + post.length → xs.take pre.length = pre → post.length = d → d < k → pre.length + d ≤ 140737488355328 →
    laws_toIntS.l0 k xs (pre ++ post) (pre.length : Int) = some xs := by
  induction d with
  | zero =>
    intro k pre post xs hl ht hd hk hc
    obtain ⟨k, rfl⟩ : ∃ m, k = m + 1 := ⟨k - 1, by omega⟩
    obtain rfl : post = [] := List.eq_nil_of_length_eq_zero hd
    simp only [laws_toIntS.l0]
    simp only [List.length_nil, Nat.add_zero] at hl
    rw [if_neg (by omega)]
    rw [← hl, List.take_length] at ht
    rw [ht]; simp
  | succ d ih =>
    intro k pre post xs hl ht hd hk hc
    obtain ⟨k, rfl⟩ : ∃ m, k = m + 1 := ⟨k - 1, by omega⟩
    obtain ⟨x, post, rfl⟩ : ∃ x t, post = x :: t := by cases post with | nil => simp at hd | cons x t => exact ⟨x, t, rfl⟩
    simp only [List.length_cons] at hl hd
    simp only [laws_toIntS.l0]
    rw [if_pos (by omega), if_pos (by omega), if_pos (by simp only [List.length_append, List.length_cons]; omega), wrap_inc (n := 4611686018427387904) (by omega) (by omega) (by omega)]
    have e : (pre ++ x :: post).set ((pre.length : Int).toNat) (rd xs pre.length) = (pre ++ [rd xs pre.length]) ++ post := by simp
    rw [e]
    have := ih k (pre ++ [rd xs pre.length]) post xs (by simp only [List.length_append, List.length_cons, List.length_nil]; omega) (by
      rw [List.length_append, List.length_singleton, List.take_succ_eq_append_getElem (by omega), ht, rd_cast]
      simp [List.getD_eq_getElem?_getD, show pre.length < xs.length by omega]) (by omega) (by omega) (by simp only [List.length_append, List.length_cons, List.length_nil]; omega)
    rw [show ((pre.length : Int) + 1) = (((pre ++ [rd xs pre.length]).length : Nat) : Int) from by simp, this]
theorem toIntS_eq (xs : List Int) (hx : xs.length ≤ 35184372088832) (k : Nat) (hk : xs.length < k) : laws_toIntS.f k xs = some xs := by
  unfold laws_toIntS.f
  rw [if_pos (by omega), if_pos (by omega), Int.toNat_natCast]
  have := toIntS_l0 xs.length k [] (List.replicate xs.length 0) xs (by simp) (by simp) (by simp) hk (by simp; omega)
  simpa using this
/-- All fields of all classes are so many at most. -/
def fewL (l : Ls) : Prop := ∀ c ∈ l, c.f1.length ≤ 1048576
theorem toClassS_l0 (d : Nat) : ∀ (k : Nat) (l : Ls) (pre : Cs) (post : Cs), l.length = pre.length + post.length → (l.take pre.length).map toC = pre → post.length = d → d + 1048578 ≤ k → fewL l → pre.length + d ≤ 140737488355328 →
    laws_toClassS.l0 k l (pre ++ post) (pre.length : Int) = some (toCs l) := by
  induction d with
  | zero =>
    intro k l pre post hl ht hd hk hf hc
    obtain ⟨k, rfl⟩ : ∃ m, k = m + 1 := ⟨k - 1, by omega⟩
    obtain rfl : post = [] := List.eq_nil_of_length_eq_zero hd
    simp only [laws_toClassS.l0]
    simp only [List.length_nil, Nat.add_zero] at hl
    rw [if_neg (by omega)]
    rw [← hl, List.take_length] at ht
    unfold toCs
    rw [ht]; simp
  | succ d ih =>
    intro k l pre post hl ht hd hk hf hc
    obtain ⟨k, rfl⟩ : ∃ m, k = m + 1 := ⟨k - 1, by omega⟩
    obtain ⟨x, post, rfl⟩ : ∃ x t, post = x :: t := by cases post with | nil => simp at hd | cons x t => exact ⟨x, t, rfl⟩
    simp only [List.length_cons] at hl hd
    have hlt : pre.length < l.length := by omega
    have hrd : rd_T80 l pre.length = l[pre.length] := by simp [rd_T80, List.getD_eq_getElem?_getD, hlt]
    have hfl := hf l[pre.length] (List.getElem_mem _)
    simp only [laws_toClassS.l0, laws_toClass.f]
    rw [if_pos (by omega), if_pos (by omega), hrd, toIntS_eq _ (by omega) k (by omega)]
    simp only [Option.bind_some]
    rw [if_pos (by simp only [List.length_append, List.length_cons]; omega), wrap_inc (n := 4611686018427387904) (by omega) (by omega) (by omega)]
    have e : (pre ++ x :: post).set ((pre.length : Int).toNat) (toC l[pre.length]) = (pre ++ [toC l[pre.length]]) ++ post := by simp
    show laws_toClassS.l0 k l ((pre ++ x :: post).set ((pre.length : Int).toNat) (toC l[pre.length])) _ = _
    rw [e]
    have := ih k l (pre ++ [toC l[pre.length]]) post (by simp only [List.length_append, List.length_cons, List.length_nil]; omega) (by
      rw [List.length_append, List.length_singleton, List.take_succ_eq_append_getElem hlt, List.map_append, ht]; simp) (by omega) (by omega) hf (by simp only [List.length_append, List.length_cons, List.length_nil]; omega)
    rw [show ((pre.length : Int) + 1) = (((pre ++ [toC l[pre.length]]).length : Nat) : Int) from by simp, this]
theorem toClassS_eq (l : Ls) (hf : fewL l) (hl : l.length ≤ 1048576) (k : Nat) (hk : 4000000 ≤ k) : laws_toClassS.f k l = some (toCs l) := by
  unfold laws_toClassS.f
  rw [if_pos (by omega), if_pos (by omega), Int.toNat_natCast]
  have := toClassS_l0 l.length k l [] (List.replicate l.length z34) (by simp) (by simp) (by simp) (by omega) hf (by simp; omega)
  simpa using this
theorem szIntS_eq (xs : List Int) (a : Int) (h : xs.length ≤ 9223372036854775807) (ha : 0 ≤ a ∧ a ≤ 1048576) : laws_szIntS.f xs a = some (if (xs.length : Int) ≤ a then a - xs.length else -1) := by
  unfold laws_szIntS.f
  rw [wrap64_of (by omega) (by omega)]
  by_cases q : (xs.length : Int) ≤ a
  · rw [if_neg (by omega), if_pos q]
  · rw [if_pos (by omega), if_neg q]
theorem szClass_eq (s : Int) (xs : List Int) (a : Int) (h : xs.length ≤ 9223372036854775807) (ha : 0 ≤ a ∧ a ≤ 1048576) : laws_szClass.f s xs a = some (if (xs.length : Int) ≤ a then a - xs.length else -1) := by
  unfold laws_szClass.f
  rw [szIntS_eq xs a h ha]
  simp only [Option.bind_some]
  split
  · rw [if_neg (by omega)]
  · rw [if_pos (by omega)]
theorem szClassS_l0 (l : Ls) (hg : ∀ c ∈ l, c.f1.length ≤ 9223372036854775807) (hl : l.length ≤ 1048576) (d : Nat) : ∀ (i : Nat) (a : Int) (k : Nat), i ≤ l.length → l.length - i = d → 0 ≤ a ∧ a ≤ 1048576 → d < k →
    ∃ r, laws_szClassS.l0 k l a i = some r ∧ r ≤ 1048576 ∧ (0 ≤ r → ∀ j : Nat, i ≤ j → ∀ c, l[j]? = some c → c.f1.length ≤ 1048576) := by
  induction d with
  | zero =>
    intro i a k hi hd ha hk
    obtain ⟨k, rfl⟩ : ∃ m, k = m + 1 := ⟨k - 1, by omega⟩
    refine ⟨a, ?_, ha.2, fun _ j hj c hc => ?_⟩
    · simp only [laws_szClassS.l0]; rw [if_neg (by omega)]
    · have := (List.getElem?_eq_some_iff.1 hc).1; omega
  | succ d ih =>
    intro i a k hi hd ha hk
    obtain ⟨k, rfl⟩ : ∃ m, k = m + 1 := ⟨k - 1, by omega⟩
    have hlt : i < l.length := by omega
    have hrd : rd_T80 l i = l[i] := by simp [rd_T80, List.getD_eq_getElem?_getD, hlt]
    simp only [laws_szClassS.l0]
    rw [if_pos (by omega), if_pos (by omega), hrd, szClass_eq _ _ a (hg _ (List.getElem_mem _)) ha]
    simp only [Option.bind_some]
    by_cases q : (l[i].f1.length : Int) ≤ a
    · rw [if_pos q, if_neg (by omega), wrap_inc (n := l.length) (by omega) (by omega) (by omega)]
      obtain ⟨r, h1, h2, h3⟩ := ih (i + 1) (a - l[i].f1.length) k (by omega) (by omega) (by omega) (by omega)
      refine ⟨r, by rw [show ((i : Int) + 1) = ((i + 1 : Nat) : Int) from by omega]; exact h1, h2, fun hr j hj c hc => ?_⟩
      by_cases e : j = i
      · subst e
        rw [List.getElem?_eq_getElem hlt] at hc
        obtain rfl := Option.some.inj hc
        omega
      · exact h3 hr j (by omega) c hc
    · rw [if_neg q, if_pos (by omega)]
      exact ⟨-1, rfl, by omega, fun hr => by omega⟩
theorem szClassS_eq (l : Ls) (hg : GL G80 l) (k : Nat) (hk : 1048578 ≤ k) : ∃ r, laws_szClassS.f k l 1048576 = some r ∧ r ≤ 1048576 ∧ (0 ≤ r → l.length ≤ 1048576 ∧ fewL l) := by
  unfold laws_szClassS.f
  have h1 := hg.1
  rw [wrap64_of (by omega) (by omega)]
  by_cases q : (1048576 : Int) - l.length < 0
  · rw [if_pos q]; exact ⟨-1, rfl, by omega, fun h => by omega⟩
  · rw [if_neg q]
    obtain ⟨r, h2, h3, h4⟩ := szClassS_l0 l (fun c hc => (hg.2 c hc).2.1) (by omega) l.length 0 (1048576 - l.length) k (by omega) (by omega) (by omega) (by omega)
    refine ⟨r, h2, h3, fun hr => ⟨by omega, fun c hc => ?_⟩⟩
    obtain ⟨j, hj, rfl⟩ := List.getElem_of_mem hc
    exact h4 hr j (by omega) _ (List.getElem?_eq_getElem hj)
theorem fewF_of {l : Ls} (h : fewL l) : fewF (toCs l) := by
  intro i
  unfold flds rd_T34 toCs
  rw [List.getD_eq_getElem?_getD, List.getElem?_map]
  cases hq : l[i.toNat]? with
  | none => simp [z34]
  | some c => simpa [toC] using h c (List.mem_of_getElem? hq)
/-- Who is compared with itself is the same. -/
theorem eqClassS_l0 (cs : Cs) (hf : fewF cs) (hl : cs.length ≤ 1048576) (d : Nat) : ∀ (i k : Nat), i ≤ cs.length → cs.length - i = d → d + 1048578 ≤ k → laws_eqClassS.l0 k cs cs i = some true := by
  induction d with
  | zero =>
    intro i k hi hd hk
    obtain ⟨k, rfl⟩ : ∃ m, k = m + 1 := ⟨k - 1, by omega⟩
    simp only [laws_eqClassS.l0]; rw [if_neg (by omega)]
  | succ d ih =>
    intro i k hi hd hk
    obtain ⟨k, rfl⟩ : ∃ m, k = m + 1 := ⟨k - 1, by omega⟩
    simp only [laws_eqClassS.l0, laws_eqClass.f]
    have hq := hf i
    have e := eqIntS_l0 (flds cs i) (flds cs i) rfl (by omega) (flds cs i).length k 0 (by omega) (by omega) (by omega)
    have e2 : laws_eqIntS.f k (rd_T34 cs i).f1 (rd_T34 cs i).f1 = some true := by
      unfold laws_eqIntS.f
      rw [if_pos rfl]
      exact e.trans (by simp)
    rw [if_pos (by omega), if_pos (by omega), if_pos (by omega)]
    simp only [if_true, e2, Option.bind_some]
    rw [wrap_inc (n := cs.length) (by omega) (by omega) (by omega), show ((i : Int) + 1) = ((i + 1 : Nat) : Int) from by omega]
    exact ih (i + 1) k (by omega) (by omega) (by omega)
theorem eqClassS_self (cs : Cs) (hf : fewF cs) (hl : cs.length ≤ 1048576) (k : Nat) (hk : 4000000 ≤ k) : laws_eqClassS.f k cs cs = some true := by
  unfold laws_eqClassS.f
  rw [if_pos rfl]
  exact eqClassS_l0 cs hf hl cs.length 0 k (by omega) (by omega) (by omega)

end Go.Proofs.Ytfcbeodndplenaa.Pure

/- Plain laws of types: which is in which, and the least in which two are, without Go. -/
namespace Go.Proofs.Ytfcbeodndplenaa.Pure
open Go.RowKit Go.Proofs.Ytfcbeodndplenaa.K Go.Proofs.YtfcbeodndplenaaW.PrintWords Go.Proofs.YtfcbeodndplenaaW.PrintLast Go.Proofs.YtfcbeodndplenaaW.PrintMore
set_option linter.unusedVariables false
set_option linter.unusedSimpArgs false
/-- A type's number. -/
def tOk (cs : Cs) (t : Int) : Prop := (0 ≤ t ∧ t ≤ 4) ∨ (8 ≤ t ∧ t < 8 + (cs.length : Int))
instance (cs : Cs) (t : Int) : Decidable (tOk cs t) := inferInstanceAs (Decidable (_ ∨ _))
/-- May what is of a type stand where another one is told. -/
def tIn (cs : Cs) (a b : Int) : Bool :=
  if a = b ∨ b = 0 then true else if a = 2 then decide (2 ≤ b) else if a < 2 ∨ b < 8 then false else if a < 8 then decide (b = 8) else up cs (a - 8) (b - 8)
theorem kOk_eq (cs : Cs) (t : Int) : kOk cs.length t = decide (tOk cs t) := rfl
theorem tIn_cls {cs : Cs} {a b : Int} (ha : 8 ≤ a) (hb : 8 ≤ b) : tIn cs a b = up cs (a - 8) (b - 8) := by
  unfold tIn
  by_cases e : a = b
  · rw [if_pos (Or.inl e), e, up_refl]
  · rw [if_neg (by omega), if_neg (by omega), if_neg (by omega), if_neg (by omega)]
/-- The program's kinds. -/
theorem kndIn_eq {cs : Cs} (h : csOk cs = true) {a b : Int} (ha : tOk cs a) (hb : tOk cs b) : kndIn cs a b = some (tIn cs a b) := by
  have hl := csOk_len h
  unfold tOk at ha hb
  unfold kndIn tIn
  by_cases c1 : a = b ∨ b = 0
  · rw [if_pos c1, if_pos c1]
  · rw [if_neg c1, if_neg c1]
    by_cases c2 : a = 2
    · rw [if_pos c2, if_pos c2]
      have : (!decide (b = 1)) = decide (2 ≤ b) := by
        rw [Bool.eq_iff_iff]; simp; omega
      rw [this]
    · rw [if_neg c2, if_neg c2]
      by_cases c3 : a = 3 ∨ a = 4
      · rw [if_pos c3]
        by_cases c4 : b < 8
        · rw [if_pos (Or.inr c4), decide_eq_false (by omega)]
        · rw [if_neg (by omega), if_pos (by omega)]
      · rw [if_neg c3]
        by_cases c4 : 8 ≤ a
        · rw [if_pos c4]
          by_cases c5 : 8 ≤ b
          · rw [if_pos c5, if_neg (by omega), if_neg (by omega), impl_classUp_eq h (b - 8) (a - 8) (by omega) (by omega) 100 (by omega)]
          · rw [if_neg c5, if_pos (by omega)]
        · rw [if_neg c4, if_pos (by omega)]
/-- The specification's. -/
theorem spec_l2In_eq {cs : Cs} (h : csOk cs = true) {a b : Int} (ha : tOk cs a) (hb : tOk cs b) (k : Nat) (hk : 20 ≤ k) : spec_l2In.f k cs a b = some (tIn cs a b) := by
  have hl := csOk_len h
  obtain ⟨k, rfl⟩ : ∃ m, k = m + 1 := ⟨k - 1, by omega⟩
  obtain ⟨k, rfl⟩ : ∃ m, k = m + 1 := ⟨k - 1, by omega⟩
  unfold tOk at ha hb
  unfold spec_l2In.f tIn
  by_cases c0 : a = b
  · rw [if_pos c0, if_pos (Or.inl c0)]; simp [spec_l2In.j0]
  rw [if_neg c0]
  by_cases c1 : b = 0
  · rw [if_pos (Or.inr c1)]; simp [spec_l2In.j0, c1]
  rw [if_neg (by omega)]
  simp only [spec_l2In.j0, spec_l2Ref.f, Option.bind_some]
  rw [if_neg (by simp [c1])]
  by_cases c2 : a = 2
  · rw [if_pos c2, if_pos c2]
  rw [if_neg c2, if_neg c2]
  by_cases c3 : a < 2
  · rw [if_neg (by simp; omega), if_pos (Or.inl c3)]; simp [spec_l2In.j1]
  rw [if_pos (by simp; omega)]
  by_cases c4 : b < 8
  · rw [if_pos (Or.inr c4)]; simp [spec_l2In.j1, c4]
  rw [if_neg (by omega)]
  simp only [spec_l2In.j1]
  rw [if_neg (by simp; omega)]
  by_cases c5 : a < 8
  · rw [if_pos c5, if_pos c5]
    by_cases e : b = 8 <;> simp [e]
  · rw [if_neg c5, if_neg c5, wrap64_of (by omega) (by omega), wrap64_of (by omega) (by omega), spec_l2Up_eq h (b := b - 8) (by omega) (a - 8) (by omega) (by omega) k (by omega)]
    rfl
/-- It is an order, with none on top. -/
theorem tIn_anti {cs : Cs} (h : csOk cs = true) {a b : Int} (ha : tOk cs a) (hb : tOk cs b) (h1 : tIn cs a b = true) (h2 : tIn cs b a = true) : a = b := by
  unfold tOk at ha hb
  by_cases e : 8 ≤ a ∧ 8 ≤ b
  · rw [tIn_cls e.1 e.2] at h1
    rw [tIn_cls e.2 e.1] at h2
    have := up_anti h (a := a - 8) (b := b - 8) (by omega) (by omega) (by omega) (by omega) h1 h2
    omega
  · unfold tIn at h1 h2
    split at h1
    · split at h2
      · omega
      · split at h2
        · simp at h2; omega
        · split at h2
          · simp at h2
          · omega
    · split at h1
      · simp only [decide_eq_true_eq] at h1
        split at h2
        · omega
        · split at h2
          · omega
          · split at h2
            · simp at h2
            · omega
      · split at h1
        · simp at h1
        · split at h1
          · simp only [decide_eq_true_eq] at h1
            split at h2
            · omega
            · split at h2
              · omega
              · split at h2
                · simp at h2
                · omega
          · omega
theorem tIn_refl (cs : Cs) (a : Int) : tIn cs a a = true := by simp [tIn]
theorem tIn_none (cs : Cs) (a : Int) : tIn cs a 0 = true := by simp [tIn]
/-- The nearest class above both, the program's words of the specification. -/
theorem l2Join_spec {cs : Cs} (h : csOk cs = true) {b : Int} (hb : 0 ≤ b) (hb1 : b < cs.length) : ∀ a : Int, 0 ≤ a → a < cs.length → ∃ j, (∀ k : Nat, a.toNat + 10 ≤ k → spec_l2Join.f k cs a b = some j) ∧ 0 ≤ j ∧ j < cs.length ∧ up cs a j = true ∧ up cs b j = true ∧ ∀ c, up cs a c = true → up cs b c = true → up cs j c = true := by
  have hl := csOk_len h
  have key : ∀ a : Int, 0 ≤ a → a < cs.length → up cs b a = true → ∃ j, (∀ k : Nat, a.toNat + 10 ≤ k → spec_l2Join.f k cs a b = some j) ∧ 0 ≤ j ∧ j < cs.length ∧ up cs a j = true ∧ up cs b j = true ∧ ∀ c, up cs a c = true → up cs b c = true → up cs j c = true := by
    intro a h0 h1 hu
    refine ⟨a, fun k hk => ?_, h0, h1, up_refl cs a, hu, fun c hc _ => hc⟩
    obtain ⟨k, rfl⟩ : ∃ m, k = m + 1 := ⟨k - 1, by omega⟩
    simp only [spec_l2Join.f, spec_l2Join.l0]
    rw [spec_l2Up_eq h h0 b hb hb1 k (by omega), hu]
    rfl
  refine cls_ind h (key 0 (by omega) (by omega) (up_root h b hb hb1)) ?_
  intro a hp h1 ih
  cases hu : up cs b a with
  | true => exact key a (by omega) h1 hu
  | false =>
    have hs := csOk_sup h hp h1
    obtain ⟨j, hk, j0, j1, ja, jb, jm⟩ := ih
    refine ⟨j, fun k hk2 => ?_, j0, j1, ?_, jb, fun c hc hcb => ?_⟩
    · obtain ⟨k, rfl⟩ : ∃ m, k = m + 1 := ⟨k - 1, by omega⟩
      have := hk k (by omega)
      simp only [spec_l2Join.f] at this
      simp only [spec_l2Join.f, spec_l2Join.l0]
      rw [spec_l2Up_eq h (by omega) b hb hb1 k (by omega), hu]
      simp only [Option.bind_some, Bool.false_eq_true, if_false]
      rw [if_pos (by omega), if_pos (by omega)]
      exact this
    · rw [up_step h j (by omega) h1, ja]; simp [hp]
    · rw [up_step h c (by omega) h1] at hc
      simp only [Bool.or_eq_true, decide_eq_true_eq, Bool.and_eq_true] at hc
      rcases hc with hc | hc
      · subst hc; rw [hu] at hcb; cases hcb
      · exact jm c hc.2 hcb
/-- The least type in which two are: the specification tells one. -/
theorem l2Meets_spec {cs : Cs} (h : csOk cs = true) {a b : Int} (ha : tOk cs a) (hb : tOk cs b) : ∃ m, (∀ k : Nat, 40 ≤ k → spec_l2Meets.f k cs a b = some m) ∧ tOk cs m ∧ tIn cs a m = true ∧ tIn cs b m = true ∧ ∀ c, tOk cs c → tIn cs a c = true → tIn cs b c = true → tIn cs m c = true := by
  have hl := csOk_len h
  by_cases c1 : tIn cs a b = true
  · refine ⟨b, fun k hk => ?_, hb, c1, tIn_refl cs b, fun c _ _ hc => hc⟩
    unfold spec_l2Meets.f
    rw [spec_l2In_eq h ha hb k (by omega), c1]; rfl
  by_cases c2 : tIn cs b a = true
  · refine ⟨a, fun k hk => ?_, ha, tIn_refl cs a, c2, fun c _ hc _ => hc⟩
    unfold spec_l2Meets.f
    rw [spec_l2In_eq h ha hb k (by omega), Bool.not_eq_true _ |>.mp c1, spec_l2In_eq h hb ha k (by omega), c2]; rfl
  have c1 := Bool.not_eq_true _ |>.mp c1
  have c2 := Bool.not_eq_true _ |>.mp c2
  have ha' := ha
  have hb' := hb
  unfold tOk at ha hb
  by_cases c3 : a < 2 ∨ b < 2
  · refine ⟨0, fun k hk => ?_, by unfold tOk; omega, tIn_none cs a, tIn_none cs b, fun c hc h1 h2 => ?_⟩
    · obtain ⟨k, rfl⟩ : ∃ m, k = m + 1 := ⟨k - 1, by omega⟩
      unfold spec_l2Meets.f
      rw [spec_l2In_eq h ha' hb' (k + 1) (by omega), c1, spec_l2In_eq h hb' ha' (k + 1) (by omega), c2]
      simp only [spec_l2Ref.f, Option.bind_some, Bool.false_eq_true, if_false]
      by_cases c4 : a < 2
      · rw [if_neg (by simp; omega)]; simp [spec_l2Meets.j0]
      · rw [if_pos (by simp; omega)]
        have : decide (b ≥ 2) = false := decide_eq_false (by omega)
        rw [this]; simp [spec_l2Meets.j0]
    · have : c = 0 := by
        unfold tOk at hc
        unfold tIn at c1 c2 h1 h2
        split at c1 <;> try (simp at c1; done)
        split at c2 <;> try (simp at c2; done)
        split at h1
        · split at h2
          · omega
          · split at h2
            · simp only [decide_eq_true_eq] at h2
              rename_i z1 z2 z3 z4 z5
              by_cases q : c = 0
              · exact q
              · exfalso
                have : a = c := by omega
                subst this
                rw [if_pos z5] at c2
                simp at c2; omega
            · split at h2
              · simp at h2
              · omega
        · split at h1
          · simp only [decide_eq_true_eq] at h1
            rename_i z1 z2 z3 z4
            split at h2
            · rename_i z5
              by_cases q : b = c
              · subst q
                rw [if_pos z4] at c1
                simp at c1; omega
              · omega
            · split at h2
              · omega
              · split at h2
                · simp at h2
                · omega
          · split at h1
            · simp at h1
            · split at h2
              · omega
              · split at h2
                · omega
                · split at h2
                  · simp at h2
                  · omega
      subst this
      exact tIn_none cs 0
  have a2 : a ≠ 2 := fun e => by
    subst e
    unfold tIn at c1
    split at c1
    · simp at c1
    · simp at c1; omega
  have b2 : b ≠ 2 := fun e => by
    subst e
    unfold tIn at c2
    split at c2
    · simp at c2
    · simp at c2; omega
  have low : ∀ {x c : Int}, 3 ≤ x → x < 8 → tIn cs x c = true → c = x ∨ c = 0 ∨ c = 8 := by
    intro x c h1 h2 hc
    unfold tIn at hc
    split at hc
    · omega
    · rw [if_neg (by omega)] at hc
      split at hc
      · simp at hc
      · try simp only [if_pos h2, decide_eq_true_eq] at hc
        omega
  by_cases c4 : a < 8 ∨ b < 8
  · have in8 : ∀ {x : Int}, 3 ≤ x → x < 8 + (cs.length : Int) → tIn cs x 8 = true := by
      intro x h1 h2
      by_cases q : 8 ≤ x
      · rw [tIn_cls q (by omega)]; exact up_root h _ (by omega) (by omega)
      · unfold tIn
        rw [if_neg (by omega), if_neg (by omega), if_neg (by omega), if_pos (by omega)]
        rfl
    refine ⟨8, fun k hk => ?_, by unfold tOk; omega, in8 (by omega) (by omega), in8 (by omega) (by omega), fun c hc h1 h2 => ?_⟩
    · obtain ⟨k, rfl⟩ : ∃ m, k = m + 1 := ⟨k - 1, by omega⟩
      unfold spec_l2Meets.f
      rw [spec_l2In_eq h ha' hb' (k + 1) (by omega), c1, spec_l2In_eq h hb' ha' (k + 1) (by omega), c2]
      simp only [spec_l2Ref.f, Option.bind_some, Bool.false_eq_true, if_false]
      rw [if_pos (by simp; omega), show decide (b ≥ 2) = true from decide_eq_true (by omega)]
      simp only [spec_l2Meets.j0, Bool.not_true, Bool.false_eq_true, if_false]
      by_cases q : a < 8
      · rw [if_pos q]
      · rw [if_neg q, if_pos (by omega)]
    · rcases c4 with q | q
      · rcases low (by omega) q h1 with e | e | e
        · subst e; rw [h2] at c2; cases c2
        · subst e; exact tIn_none cs 8
        · subst e; exact tIn_refl cs 8
      · rcases low (by omega) q h2 with e | e | e
        · subst e; rw [h1] at c1; cases c1
        · subst e; exact tIn_none cs 8
        · subst e; exact tIn_refl cs 8
  obtain ⟨j, hj, j0, j1, ja, jb, jm⟩ := l2Join_spec h (b := b - 8) (by omega) (by omega) (a - 8) (by omega) (by omega)
  refine ⟨8 + j, fun k hk => ?_, by unfold tOk; omega, ?_, ?_, fun c hc h1 h2 => ?_⟩
  · obtain ⟨k, rfl⟩ : ∃ m, k = m + 1 := ⟨k - 1, by omega⟩
    unfold spec_l2Meets.f
    rw [spec_l2In_eq h ha' hb' (k + 1) (by omega), c1, spec_l2In_eq h hb' ha' (k + 1) (by omega), c2]
    simp only [spec_l2Ref.f, Option.bind_some, Bool.false_eq_true, if_false]
    rw [if_pos (by simp; omega), show decide (b ≥ 2) = true from decide_eq_true (by omega)]
    simp only [spec_l2Meets.j0, Bool.not_true, Bool.false_eq_true, if_false]
    rw [if_neg (by omega), if_neg (by omega), wrap64_of (by omega) (by omega), wrap64_of (by omega) (by omega), hj k (by omega)]
    simp only [Option.bind_some]
    rw [wrap64_of (by omega) (by omega)]
  · rw [tIn_cls (by omega) (by omega), show 8 + j - 8 = j from by omega]; exact ja
  · rw [tIn_cls (by omega) (by omega), show 8 + j - 8 = j from by omega]; exact jb
  · by_cases q : 8 ≤ c
    · rw [tIn_cls (by omega) q] at h1 h2
      rw [tIn_cls (by omega) q, show 8 + j - 8 = j from by omega]
      exact jm _ h1 h2
    · have : c = 0 := by
        unfold tIn at h1
        by_cases z : a = c ∨ c = 0
        · omega
        · rw [if_neg z, if_neg (by omega), if_pos (by omega)] at h1; cases h1
      subst this; exact tIn_none cs _
/-- The program's search: the first that counts and is under all that count. -/
theorem nearIn_eq {cn : Int → Option Bool} {un : Int → Int → Option Bool} {c : Int → Bool} {u : Int → Int → Bool} {one : Int} : ∀ {l : List Int}, (∀ t ∈ l, cn t = some (c t) ∧ un one t = some (u one t)) → nearIn cn un one l = some (l.all (fun t => !(c t) || u one t))
  | [], _ => rfl
  | o :: os, h => by
    obtain ⟨h1, h2⟩ := h o List.mem_cons_self
    have ih := nearIn_eq (l := os) (fun t ht => h t (List.mem_cons_of_mem _ ht))
    simp only [nearIn, h1, Option.bind_some]
    cases hc : c o with
    | false => simp [hc, ih]
    | true =>
      simp only [if_true, h2, Option.bind_some]
      cases hu : u one o with
      | false => simp [hc, hu]
      | true => simp [hc, hu, ih]
theorem nearOut_eq {cn : Int → Option Bool} {un : Int → Int → Option Bool} {c : Int → Bool} {u : Int → Int → Bool} {all : List Int} : ∀ {l : List Int}, (∀ t ∈ l, cn t = some (c t) ∧ ∀ s ∈ all, cn s = some (c s) ∧ un t s = some (u t s)) → nearOut cn un all l = some (l.find? (fun t => c t && all.all (fun s => !(c s) || u t s)))
  | [], _ => rfl
  | o :: os, h => by
    obtain ⟨h1, h2⟩ := h o List.mem_cons_self
    have ih := nearOut_eq (l := os) (fun t ht => h t (List.mem_cons_of_mem _ ht))
    simp only [nearOut, h1, Option.bind_some]
    cases hc : c o with
    | false => simp [hc, ih]
    | true =>
      simp only [if_true, nearIn_eq h2, Option.bind_some]
      cases hu : all.all (fun s => !(c s) || u o s) with
      | false => rw [List.find?_cons_of_neg (by simp [hc, hu])]; simp [ih]
      | true => rw [List.find?_cons_of_pos (by simp [hc, hu])]; simp
/-- The program's least type is the specification's. -/
theorem typeJoin_eq {cs : Cs} (h : csOk cs = true) (a b : Int) : ∃ m, impl_typeJoin.f cs a b = some m ∧ (tOk cs a → tOk cs b → ∀ k : Nat, 40 ≤ k → spec_l2Meets.f k cs a b = some m) ∧ (¬ (tOk cs a ∧ tOk cs b) → m = 0) := by
  have hl := csOk_len h
  unfold impl_typeJoin.f
  rw [if_pos (by omega)]
  by_cases ho : tOk cs a ∧ tOk cs b
  · obtain ⟨ha, hb⟩ := ho
    rw [if_pos ⟨by rw [kOk_eq]; exact decide_eq_true ha, by rw [kOk_eq]; exact decide_eq_true hb⟩]
    obtain ⟨m, hm, mo, ma, mb, ml⟩ := l2Meets_spec h ha hb
    have hall : ∀ t, t ∈ allK cs.length ↔ tOk cs t := by
      intro t
      unfold allK tOk
      simp only [List.mem_append, List.mem_cons, List.mem_map, List.mem_range, List.not_mem_nil, or_false]
      constructor
      · rintro (q | ⟨i, hi, rfl⟩) <;> omega
      · rintro (q | q)
        · left; omega
        · right; exact ⟨(t - 8).toNat, by omega, by omega⟩
    have hcn : ∀ t, tOk cs t → cnF cs a b t = some (tIn cs a t && tIn cs b t) := by
      intro t ht
      unfold cnF
      rw [kndIn_eq h ha ht, kndIn_eq h hb ht]
      simp only [Option.bind_some]
      cases tIn cs a t <;> simp
    rw [nearOut_eq (c := fun t => tIn cs a t && tIn cs b t) (u := tIn cs) (fun t ht => ⟨hcn t ((hall t).1 ht), fun s hs => ⟨hcn s ((hall s).1 hs), kndIn_eq h ((hall t).1 ht) ((hall s).1 hs)⟩⟩)]
    refine ⟨m, ?_, fun _ _ => hm, fun z => absurd ⟨ha, hb⟩ z⟩
    have hf : (allK cs.length).find? (fun t => (tIn cs a t && tIn cs b t) && (allK cs.length).all (fun s => !(tIn cs a s && tIn cs b s) || tIn cs t s)) = some m := by
      cases hq : (allK cs.length).find? (fun t => (tIn cs a t && tIn cs b t) && (allK cs.length).all (fun s => !(tIn cs a s && tIn cs b s) || tIn cs t s)) with
      | none =>
        have := List.find?_eq_none.1 hq m ((hall m).2 mo)
        refine absurd ?_ this
        simp only [ma, mb, Bool.and_self, Bool.true_and, List.all_eq_true]
        intro s hs
        cases h1 : tIn cs a s <;> cases h2 : tIn cs b s <;> simp
        exact ml s ((hall s).1 hs) h1 h2
      | some x =>
        have hx := List.find?_some hq
        have hxm := List.mem_of_find?_eq_some hq
        simp only [Bool.and_eq_true, List.all_eq_true] at hx
        obtain ⟨⟨xa, xb⟩, xl⟩ := hx
        have hxo := (hall x).1 hxm
        have h1 := xl m ((hall m).2 mo)
        rw [ma, mb] at h1
        simp at h1
        rw [tIn_anti h hxo mo h1 (ml x hxo xa xb)]
    rw [hf]; rfl
  · rw [if_neg (by rw [kOk_eq, kOk_eq, decide_eq_true_eq, decide_eq_true_eq]; exact ho)]
    exact ⟨0, rfl, fun ha hb => absurd ⟨ha, hb⟩ ho, fun _ => rfl⟩

end Go.Proofs.Ytfcbeodndplenaa.Pure
