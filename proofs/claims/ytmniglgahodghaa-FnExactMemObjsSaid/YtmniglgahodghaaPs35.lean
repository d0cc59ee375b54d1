import Derived.Test.YtmniglgahodghaaPs24
import Derived.Test.YtmniglgahodghaaPs34
import Derived.Test.YtmniglgahodghaaPs25
import Derived.Test.YtmniglgahodghaaPs30
import Derived.Test.YtmniglgahodghaaPs33
import Derived.Deep.Slices
import Derived.Deep.Fields
import Derived.ChangeSame
import Derived.ProofKit
import Derived.OpenShut
import Derived.ShutString
import Derived.ChangeOld
import Derived.SizedLaws
import Derived.Test.YtmniglgahodghaaPs31
import Derived.Test.YtmniglgahodghaaPs26
import Derived.Test.YtmniglgahodghaaPs32
namespace Go.Proofs.Ytmniglgahodghaa.K
open Go.RowKit Go.Proofs.YtmniglgahodghaaW.PrintWords Go.Proofs.YtmniglgahodghaaW.PrintLast Go.Proofs.YtmniglgahodghaaW.PrintMore
attribute [local go_sem] max2_int min2_int max_two min_two max_three min_three max_four min_four
set_option linter.unusedVariables false
set_option linter.unusedSimpArgs false
def laws_szMem.f (l0_0 : List Int) (a0_1 : Int) (a0_2 : Int) (a0_3 : Int) (l0_4 : List Bool) (a1 : Int) : Option (Int) := (laws_szIntS.f l0_0 a1).bind fun t106 => (if t106 < 0 then (some (-1)) else ((laws_szBoolS.f l0_4 t106).bind fun t107 => (if t107 < 0 then (some (-1)) else (some t107))))
set_option maxHeartbeats 8000000 in
set_option maxRecDepth 100000 in
theorem laws_szMem.calls (A0_0 : Option Addr) (c0_0 : Nat) (l0_0 : List Int) (a0_1 : Int) (a0_2 : Int) (a0_3 : Int) (A0_4 : Option Addr) (c0_4 : Nat) (l0_4 : List Bool) (a1 : Int) (r : Int) (w : World) (hr0_0 : Kd.C (Kd.int .i64) w A0_0 l0_0.length l0_0) (hc0_0 : l0_0.length ≤ c0_0) (hr0_4 : Kd.C Kd.bool w A0_4 l0_4.length l0_4) (hc0_4 : l0_4.length ≤ c0_4) (h : laws_szMem.f l0_0 a0_1 a0_2 a0_3 l0_4 a1 = some r) :
  Calls Try.prog 8 #[.agg #[.slice A0_0 l0_0.length c0_0, .int .i64 a0_1, .int .i64 a0_2, .int .i64 a0_3, .slice A0_4 l0_4.length c0_4], .int .i64 a1] w fun e w' => e = .returned (.int .i64 r) ∧ Below w.heap.size w w' := by
 have hu26 := Try.underlying26
 have HR0_0 := Aside0.mk hr0_0
 have HC0_0 := Aside0.mk hc0_0
 clear hr0_0 hc0_0
 have HR0_4 := Aside0.mk hr0_4
 have HC0_4 := Aside0.mk hc0_4
 clear hr0_4 hc0_4
 have HB := Aside0.mk (Below.refl w.heap.size w)
 have H : ((laws_szIntS.f l0_0 a1).bind fun t106 => (if t106 < 0 then (some (-1)) else ((laws_szBoolS.f l0_4 t106).bind fun t107 => (if t107 < 0 then (some (-1)) else (some t107))))) = some r := h
 clear h
 replace H := Option.bind_eq_some_iff.mp H
 obtain ⟨t106, A30, H⟩ := H
 try dsimp only at H
 have A3 := Aside0.mk A30
 clear A30
 by_cases c4 : t106 < 0
 ·rw [if_pos c4] at H
  have c4b0 : decide (t106 < 0) = true := decide_eq_true c4
  clear c4
  obtain rfl := Option.some.inj H
  go_enter Try.func8, Try.ntmps8
  go_wp2_with (first | ((with_reducible refine gate_dst (N := 2) rfl ?_); refine box_event ?hg (N := 2) ?hd (cs := #[.slice A0_0 l0_0.length c0_0, .int .i64 a0_1, .int .i64 a0_2, .int .i64 a0_3, .slice A0_4 l0_4.length c0_4]) (t := 26) ?hr ?_; (case hd => rfl); (case hg => rfl); (case hr => first | (go_simp; done) | (go_simp; rfl)); intro gb105 hg w5 hbox hb; have BK105 := Aside0.mk (hbox); have GW105 := Aside0.mk ((by rw [hg]; exact (below_size z1) : w.heap.size ≤ gb105)); have GE105 := Aside0.mk ((by rw [hg]; exact (below_size z1) : w.heap.size ≤ gb105)); replace HB := Aside0.mk (below_step z1 hb); clear hb hbox hg; obtain ⟨hcz6_0, hcz6_1, hcz6_2, hcz6_3, hcz6_4, hfz6_0, hfz6_1, hfz6_2, hfz6_3, hfz6_4⟩ := cbf5 BK105) | ((with_reducible refine gate_callee (f := 32) rfl ?_); refine goesL_ (some 8) rfl rfl Try.func32 (by kernel_rfl) rfl #[.slice A0_0 l0_0.length c0_0, .int .i64 a1] rfl z2 ?_; (with_reducible refine (laws_szIntS.calls _ _ l0_0 a1 t106 _ ?side1 ?side2 A3.out).mono ?_); (case side1 => repeat (first | exact (Kd.C_below HR0_0.out HB.out) | (with_reducible refine Kd.C_alloc ?_ _) | (with_reducible refine Kd.C_drewN ?_ _) | (with_reducible refine Kd.C_drew ?_))); (case side2 => exact HC0_0.out); rintro e w' ⟨rfl, ⟨nd, rfl⟩⟩; refine ⟨_, rfl, ?_⟩))
  go_ret
  exact ⟨by first | rfl | (simp [errW_none, errW_some] <;> rfl) | (simp [*, errW_none, errW_some] <;> rfl), by repeat (first | (with_reducible first | exact HB.out | apply below_alloc | apply pw_below_drewN | apply below_drew1 | refine below_set ?_ GE105.out) | exact HB.out)⟩
 ·rw [if_neg c4] at H
  have c4b0 : decide (t106 < 0) = false := decide_eq_false c4
  clear c4
  replace H := Option.bind_eq_some_iff.mp H
  obtain ⟨t107, A70, H⟩ := H
  try dsimp only at H
  have A7 := Aside0.mk A70
  clear A70
  by_cases c8 : t107 < 0
  ·rw [if_pos c8] at H
   have c8b0 : decide (t107 < 0) = true := decide_eq_true c8
   clear c8
   obtain rfl := Option.some.inj H
   go_enter Try.func8, Try.ntmps8
   go_wp2_with (first | ((with_reducible refine gate_dst (N := 2) rfl ?_); refine box_event ?hg (N := 2) ?hd (cs := #[.slice A0_0 l0_0.length c0_0, .int .i64 a0_1, .int .i64 a0_2, .int .i64 a0_3, .slice A0_4 l0_4.length c0_4]) (t := 26) ?hr ?_; (case hd => rfl); (case hg => rfl); (case hr => first | (go_simp; done) | (go_simp; rfl)); intro gb105 hg w9 hbox hb; have BK105 := Aside0.mk (hbox); have GW105 := Aside0.mk ((by rw [hg]; exact (below_size z1) : w.heap.size ≤ gb105)); have GE105 := Aside0.mk ((by rw [hg]; exact (below_size z1) : w.heap.size ≤ gb105)); replace HB := Aside0.mk (below_step z1 hb); clear hb hbox hg; obtain ⟨hcz10_0, hcz10_1, hcz10_2, hcz10_3, hcz10_4, hfz10_0, hfz10_1, hfz10_2, hfz10_3, hfz10_4⟩ := cbf5 BK105) | ((with_reducible refine gate_callee (f := 32) rfl ?_); refine goesL_ (some 8) rfl rfl Try.func32 (by kernel_rfl) rfl #[.slice A0_0 l0_0.length c0_0, .int .i64 a1] rfl z2 ?_; (with_reducible refine (laws_szIntS.calls _ _ l0_0 a1 t106 _ ?side1 ?side2 A3.out).mono ?_); (case side1 => repeat (first | exact (Kd.C_below HR0_0.out HB.out) | (with_reducible refine Kd.C_alloc ?_ _) | (with_reducible refine Kd.C_drewN ?_ _) | (with_reducible refine Kd.C_drew ?_))); (case side2 => exact HC0_0.out); rintro e w' ⟨rfl, ⟨nd, rfl⟩⟩; refine ⟨_, rfl, ?_⟩) | ((with_reducible refine gate_callee (f := 33) rfl ?_); refine goesL_ (some 14) rfl rfl Try.func33 (by kernel_rfl) rfl #[.slice A0_4 l0_4.length c0_4, .int .i64 t106] rfl z2 ?_; (with_reducible refine (laws_szBoolS.calls _ _ l0_4 t106 t107 _ ?side1 ?side2 A7.out).mono ?_); (case side1 => repeat (first | exact (Kd.C_below HR0_4.out (by repeat (first | (with_reducible first | exact HB.out | apply below_alloc | apply pw_below_drewN | apply below_drew1 | refine below_set ?_ GE105.out) | exact HB.out))) | (with_reducible refine Kd.C_alloc ?_ _) | (with_reducible refine Kd.C_drewN ?_ _) | (with_reducible refine Kd.C_drew ?_))); (case side2 => exact HC0_4.out); rintro e w' ⟨rfl, ⟨nd, rfl⟩⟩; refine ⟨_, rfl, ?_⟩))
   go_ret
   exact ⟨by first | rfl | (simp [errW_none, errW_some] <;> rfl) | (simp [*, errW_none, errW_some] <;> rfl), by repeat (first | (with_reducible first | exact HB.out | apply below_alloc | apply pw_below_drewN | apply below_drew1 | refine below_set ?_ GE105.out) | exact HB.out)⟩
  ·rw [if_neg c8] at H
   have c8b0 : decide (t107 < 0) = false := decide_eq_false c8
   clear c8
   obtain rfl := Option.some.inj H
   go_enter Try.func8, Try.ntmps8
   go_wp2_with (first | ((with_reducible refine gate_dst (N := 2) rfl ?_); refine box_event ?hg (N := 2) ?hd (cs := #[.slice A0_0 l0_0.length c0_0, .int .i64 a0_1, .int .i64 a0_2, .int .i64 a0_3, .slice A0_4 l0_4.length c0_4]) (t := 26) ?hr ?_; (case hd => rfl); (case hg => rfl); (case hr => first | (go_simp; done) | (go_simp; rfl)); intro gb105 hg w11 hbox hb; have BK105 := Aside0.mk (hbox); have GW105 := Aside0.mk ((by rw [hg]; exact (below_size z1) : w.heap.size ≤ gb105)); have GE105 := Aside0.mk ((by rw [hg]; exact (below_size z1) : w.heap.size ≤ gb105)); replace HB := Aside0.mk (below_step z1 hb); clear hb hbox hg; obtain ⟨hcz12_0, hcz12_1, hcz12_2, hcz12_3, hcz12_4, hfz12_0, hfz12_1, hfz12_2, hfz12_3, hfz12_4⟩ := cbf5 BK105) | ((with_reducible refine gate_callee (f := 32) rfl ?_); refine goesL_ (some 8) rfl rfl Try.func32 (by kernel_rfl) rfl #[.slice A0_0 l0_0.length c0_0, .int .i64 a1] rfl z2 ?_; (with_reducible refine (laws_szIntS.calls _ _ l0_0 a1 t106 _ ?side1 ?side2 A3.out).mono ?_); (case side1 => repeat (first | exact (Kd.C_below HR0_0.out HB.out) | (with_reducible refine Kd.C_alloc ?_ _) | (with_reducible refine Kd.C_drewN ?_ _) | (with_reducible refine Kd.C_drew ?_))); (case side2 => exact HC0_0.out); rintro e w' ⟨rfl, ⟨nd, rfl⟩⟩; refine ⟨_, rfl, ?_⟩) | ((with_reducible refine gate_callee (f := 33) rfl ?_); refine goesL_ (some 14) rfl rfl Try.func33 (by kernel_rfl) rfl #[.slice A0_4 l0_4.length c0_4, .int .i64 t106] rfl z2 ?_; (with_reducible refine (laws_szBoolS.calls _ _ l0_4 t106 t107 _ ?side1 ?side2 A7.out).mono ?_); (case side1 => repeat (first | exact (Kd.C_below HR0_4.out (by repeat (first | (with_reducible first | exact HB.out | apply below_alloc | apply pw_below_drewN | apply below_drew1 | refine below_set ?_ GE105.out) | exact HB.out))) | (with_reducible refine Kd.C_alloc ?_ _) | (with_reducible refine Kd.C_drewN ?_ _) | (with_reducible refine Kd.C_drew ?_))); (case side2 => exact HC0_4.out); rintro e w' ⟨rfl, ⟨nd, rfl⟩⟩; refine ⟨_, rfl, ?_⟩))
   go_ret
   exact ⟨by first | rfl | (simp [errW_none, errW_some] <;> rfl) | (simp [*, errW_none, errW_some] <;> rfl), by repeat (first | (with_reducible first | exact HB.out | apply below_alloc | apply pw_below_drewN | apply below_drew1 | refine below_set ?_ GE105.out) | exact HB.out)⟩
end Go.Proofs.Ytmniglgahodghaa.K
namespace Go.Proofs.Ytmniglgahodghaa.K
open Go.RowKit Go.Proofs.YtmniglgahodghaaW.PrintWords Go.Proofs.YtmniglgahodghaaW.PrintLast Go.Proofs.YtmniglgahodghaaW.PrintMore
attribute [local go_sem] max2_int min2_int max_two min_two max_three min_three max_four min_four
set_option linter.unusedVariables false
set_option linter.unusedSimpArgs false
end Go.Proofs.Ytmniglgahodghaa.K
namespace Go.Proofs.Ytmniglgahodghaa.K
open Go.RowKit Go.Proofs.YtmniglgahodghaaW.PrintWords Go.Proofs.YtmniglgahodghaaW.PrintLast Go.Proofs.YtmniglgahodghaaW.PrintMore
attribute [local go_sem] max2_int min2_int max_two min_two max_three min_three max_four min_four
set_option linter.unusedVariables false
set_option linter.unusedSimpArgs false
open Classical in
noncomputable def laws_FnExactMemObjs.f (k : Nat) (l0 : List (S56)) (l1_0 : List Int) (a1_1 : Int) (a1_2 : Int) (a1_3 : Int) (l1_4 : List Bool) : Option (Bool) :=
 (laws_szClassS.f k l0 1048576).bind fun t => if t < 0 then some true else (laws_szMem.f l1_0 a1_1 a1_2 a1_3 l1_4 t).bind fun t2 => if t2 < 0 then some true else
 (laws_toClassS.f k l0).bind fun cs => (laws_toMem.f k l1_0 a1_1 a1_2 a1_3 l1_4).bind fun M => if M = (l1_0, a1_1, a1_2, a1_3, l1_4) ∧ cs.length ≤ 1048576 then
 (spec_MemObjs.f k cs l1_0 a1_1 a1_2 a1_3 l1_4).bind fun w_ => (impl_MemObjs.f k cs l1_0 a1_1 a1_2 a1_3 l1_4).bind fun v_ =>
 (laws_eqObjS.f k w_ w_).bind fun e0 =>
 (laws_eqClassS.f k cs cs).bind fun ec =>
 (laws_eqMem.f k l1_0 a1_1 a1_2 a1_3 l1_4 l1_0 a1_1 a1_2 a1_3 l1_4).bind fun em =>
 (mcs k cs 1).bind fun k1 =>
 (laws_markMem.f k l1_0 a1_1 a1_2 a1_3 l1_4 k1).bind fun km =>
 (mobjs k w_ 1).bind fun m0 =>
 (laws_heldObjS.f k m0.2 1).bind fun q0 =>
 if w_ = v_ ∧ (e0 = true ∧ ec = true ∧ em = true) ∧ 0 ≤ km.1 ∧ q0 = m0.1 ∧ 0 ≤ q0 ∧ w_.length ≤ 1048576 then some true else none
 else none
set_option maxHeartbeats 64000000 in
set_option maxRecDepth 100000 in
theorem laws_FnExactMemObjs.calls (k : Nat) (A0 : Option Addr) (c0 : Nat) (l0 : List (S56)) (A1_0 : Option Addr) (c1_0 : Nat) (l1_0 : List Int) (a1_1 : Int) (a1_2 : Int) (a1_3 : Int) (A1_4 : Option Addr) (c1_4 : Nat) (l1_4 : List Bool) (r : Bool) (w : World) (hr_ : Aside0 (r = true)) (hr0 : Kd.C k56 w A0 l0.length l0) (hc0 : l0.length ≤ c0) (hr1_0 : Kd.C (Kd.int .i64) w A1_0 l1_0.length l1_0) (hc1_0 : l1_0.length ≤ c1_0) (hr1_4 : Kd.C Kd.bool w A1_4 l1_4.length l1_4) (hc1_4 : l1_4.length ≤ c1_4) (h : laws_FnExactMemObjs.f k l0 l1_0 a1_1 a1_2 a1_3 l1_4 = some r) :
  Calls Try.prog 4 #[.slice A0 l0.length c0, .agg #[.slice A1_0 l1_0.length c1_0, .int .i64 a1_1, .int .i64 a1_2, .int .i64 a1_3, .slice A1_4 l1_4.length c1_4]] w fun e w' => e = .returned (.bool r) ∧ Below w.heap.size w w' := by
 obtain rfl := hr_.out
 have HR0 := Aside0.mk hr0
 have HC0 := Aside0.mk hc0
 have HR1_0 := Aside0.mk hr1_0
 have HC1_0 := Aside0.mk hc1_0
 have HR1_4 := Aside0.mk hr1_4
 have HC1_4 := Aside0.mk hc1_4
 clear hr0 hc0 hr1_0 hc1_0 hr1_4 hc1_4 hr_
 have HB0 := Aside0.mk (below_alloc (Below.refl w.heap.size w) (.cells #[.slice A1_0 l1_0.length c1_0, .int .i64 a1_1, .int .i64 a1_2, .int .i64 a1_3, .slice A1_4 l1_4.length c1_4] 26 (0, 0)))
 have BM0 := Aside0.mk (blk_new w (.cells #[.slice A1_0 l1_0.length c1_0, .int .i64 a1_1, .int .i64 a1_2, .int .i64 a1_3, .slice A1_4 l1_4.length c1_4] 26 (0, 0)))
 unfold laws_FnExactMemObjs.f at h
 obtain ⟨t, h1, h⟩ := Option.bind_eq_some_iff.mp h
 have H1 := Aside0.mk h1
 clear h1
 by_cases c1 : t < 0
 ·have d1 : decide (t < 0) = true := decide_eq_true c1
  go_enter Try.func4, Try.ntmps4
  go_wp2_with fail
  go_at_call 7
  refine (laws_szClassS.calls k A0 c0 l0 1048576 t _ (Kd.C_below HR0.out HB0.out) HC0.out H1.out).mono ?_
  rintro e w1 ⟨rfl, hb⟩
  have HB := Aside0.mk (below_step HB0.out hb)
  have BM := Aside0.mk ((hb.block _ (blk_lt BM0.out)).trans BM0.out)
  clear hb HB0 BM0
  go_wp2
  go_ret
  exact ⟨rfl, HB.out⟩
 rw [if_neg c1] at h
 have d1 : decide (t < 0) = false := decide_eq_false c1
 obtain ⟨t2, h2, h⟩ := Option.bind_eq_some_iff.mp h
 have H2 := Aside0.mk h2
 clear h2
 go_enter Try.func4, Try.ntmps4
 go_wp2_with fail
 go_at_call 7
 refine (laws_szClassS.calls k A0 c0 l0 1048576 t _ (Kd.C_below HR0.out HB0.out) HC0.out H1.out).mono ?_
 rintro e w1 ⟨rfl, hb⟩
 have HB := Aside0.mk (below_step HB0.out hb)
 have BM := Aside0.mk ((hb.block _ (blk_lt BM0.out)).trans BM0.out)
 clear hb HB0 BM0
 have mc0 := (blk_cell BM.out 0).trans rfl; have mc1 := (blk_cell BM.out 1).trans rfl; have mc2 := (blk_cell BM.out 2).trans rfl; have mc3 := (blk_cell BM.out 3).trans rfl; have mc4 := (blk_cell BM.out 4).trans rfl
 go_wp2_with fail
 go_at_call 8
 refine (laws_szMem.calls A1_0 c1_0 l1_0 a1_1 a1_2 a1_3 A1_4 c1_4 l1_4 t t2 _ (Kd.C_below HR1_0.out HB.out) HC1_0.out (Kd.C_below HR1_4.out HB.out) HC1_4.out H2.out).mono ?_
 rintro e w2 ⟨rfl, hb⟩
 clear mc0 mc1 mc2 mc3 mc4
 replace HB := Aside0.mk (below_step HB.out hb)
 replace BM := Aside0.mk ((hb.block _ (blk_lt BM.out)).trans BM.out)
 clear hb
 by_cases c2 : t2 < 0
 ·have d2 : decide (t2 < 0) = true := decide_eq_true c2
  go_wp2
  go_ret
  exact ⟨rfl, HB.out⟩
 rw [if_neg c2] at h
 have d2 : decide (t2 < 0) = false := decide_eq_false c2
 obtain ⟨cs, h3, h⟩ := Option.bind_eq_some_iff.mp h
 have H3 := Aside0.mk h3
 obtain ⟨M, h4, h⟩ := Option.bind_eq_some_iff.mp h
 split at h
 case isFalse => simp at h
 case isTrue hM =>
 obtain ⟨rfl, hcl⟩ := hM
 have H4 := Aside0.mk h4
 have HCL := Aside0.mk hcl
 obtain ⟨r0, h5, h⟩ := Option.bind_eq_some_iff.mp h
 have H5 := Aside0.mk h5
 obtain ⟨v_, h6, h⟩ := Option.bind_eq_some_iff.mp h
 obtain ⟨e0, he0, h⟩ := Option.bind_eq_some_iff.mp h
 obtain ⟨ec, hec, h⟩ := Option.bind_eq_some_iff.mp h
 obtain ⟨em, hem, h⟩ := Option.bind_eq_some_iff.mp h
 obtain ⟨k1, hk1, h⟩ := Option.bind_eq_some_iff.mp h
 obtain ⟨⟨k2, y0, y1⟩, hkm, h⟩ := Option.bind_eq_some_iff.mp h
 obtain ⟨⟨m0, u0⟩, hm0, h⟩ := Option.bind_eq_some_iff.mp h
 obtain ⟨q0, hq0, h⟩ := Option.bind_eq_some_iff.mp h
 split at h
 case isFalse => simp at h
 case isTrue hE =>
 obtain ⟨rfl, ⟨rfl, rfl, rfl⟩, hk2, hq, h0q0, hlo⟩ := hE
 have HLO := Aside0.mk hlo
 dsimp only at hk2 hq h0q0 h6 he0 hec hem hk1 hkm hm0 hq0
 subst hq
 have H6 := Aside0.mk h6
 have He0 := Aside0.mk he0
 have Hec := Aside0.mk hec
 have Hem := Aside0.mk hem
 have Hk1 := Aside0.mk hk1
 have Hkm := Aside0.mk hkm
 have Hm0 := Aside0.mk hm0
 have Hq0 := Aside0.mk hq0
 have dk : decide (k2 < 0) = false := decide_eq_false (by omega)
 have dq0 : decide (q0 < 0) = false := decide_eq_false (by omega)
 have dn : (q0 != q0) = false := by simp
 clear h h3 h4 h5 h6 he0 hec hem hk1 hkm hm0 hq0 hcl hk2 h0q0 c1 c2
 have mc0 := (blk_cell BM.out 0).trans rfl; have mc1 := (blk_cell BM.out 1).trans rfl; have mc2 := (blk_cell BM.out 2).trans rfl; have mc3 := (blk_cell BM.out 3).trans rfl; have mc4 := (blk_cell BM.out 4).trans rfl
 go_wp2
 refine start_ (n := 6) (S := fun w' => Aside0 (Below w2.heap.size w2 w') ∧ w'.cell? (⟨w.heap.size, 0, none⟩) = some (.slice A1_0 l1_0.length c1_0) ∧ w'.cell? (⟨w.heap.size, 1, none⟩) = some (.int .i64 a1_1) ∧ w'.cell? (⟨w.heap.size, 2, none⟩) = some (.int .i64 a1_2) ∧ w'.cell? (⟨w.heap.size, 3, none⟩) = some (.int .i64 a1_3) ∧ w'.cell? (⟨w.heap.size, 4, none⟩) = some (.slice A1_4 l1_4.length c1_4)) (ds := []) #[false, false, false, false, false, false] (by kernel_rfl) rfl rfl ⟨⟨below_drew1 (Below.refl _ _)⟩, (by go_simp), (by go_simp), (by go_simp), (by go_simp), (by go_simp)⟩ (fun hHeld => ?_)
 refine pS 0 24 #[true, false, false, false, false, false] ?_
 refine tS 2 26 #[true, false, true, false, false, false] rfl rfl (by kernel_rfl) hHeld z4 ?_
 refine one_ (i := 1) (N := some 25) #[true, true, true, false, false, false] rfl rfl (by kernel_rfl) (by decide) (fun K hK => ?_)
 refine goes_ Try.func10 (by kernel_rfl) rfl #[.slice A0 l0.length c0] (by rfl) rfl rfl z6 ?_
 with_reducible refine (laws_toClassS.calls k A0 c0 l0 cs _ (Kd.C_below HR0.out (below_step HB.out hHeld.1.out)) HC0.out H3.out).mono ?_
 rintro e wa ⟨vc, rfl, hc, hba⟩
 have HVC := Aside0.mk hc
 obtain ⟨AVC, cVC, rfl⟩ := Kd.S_slice hc
 refine ⟨_, rfl, ?_⟩
 refine hK.out _ _ ⟨⟨below_step hHeld.1.out hba⟩, (pw_cell_below hba hHeld.2.1), (pw_cell_below hba hHeld.2.2.1), (pw_cell_below hba hHeld.2.2.2.1), (pw_cell_below hba hHeld.2.2.2.2.1), (pw_cell_below hba hHeld.2.2.2.2.2)⟩ (fun hHeld => ?_)
 clear hK K
 refine norm_ (a' := ?_) ?_ ?_
 rotate_left
 ·show Act.put _ (some 25) _ = _
  simp only [Act.put, lA1, lA2, lA3, i64_w, i32_w]
  rfl
 refine one_ (i := 3) (N := some 27) #[true, true, true, true, false, false] rfl rfl (by kernel_rfl) (by decide) (fun K hK => ?_)
 refine goes_ Try.func11 (by kernel_rfl) rfl #[.agg #[.slice A1_0 l1_0.length c1_0, .int .i64 a1_1, .int .i64 a1_2, .int .i64 a1_3, .slice A1_4 l1_4.length c1_4]] (by rfl) rfl rfl z6 ?_
 with_reducible refine (laws_toMem.calls k A1_0 c1_0 l1_0 a1_1 a1_2 a1_3 A1_4 c1_4 l1_4 l1_0 a1_1 a1_2 a1_3 l1_4 _ (Kd.C_below HR1_0.out (below_step HB.out hHeld.1.out)) HC1_0.out (Kd.C_below HR1_4.out (below_step HB.out hHeld.1.out)) HC1_4.out H4.out).mono ?_
 rintro e wb ⟨vm, vn, rfl, hm_, hn_, hbb⟩
 have HVM := Aside0.mk hm_
 have HVN := Aside0.mk hn_
 have HBB := Aside0.mk hbb
 obtain ⟨AVM, cVM, rfl⟩ := Kd.R_slice hm_
 obtain ⟨AVN, cVN, rfl⟩ := Kd.R_slice hn_
 refine ⟨_, rfl, ?_⟩
 refine hK.out _ _ ⟨⟨below_step hHeld.1.out hbb⟩, (pw_cell_below hbb hHeld.2.1), (pw_cell_below hbb hHeld.2.2.1), (pw_cell_below hbb hHeld.2.2.2.1), (pw_cell_below hbb hHeld.2.2.2.2.1), (pw_cell_below hbb hHeld.2.2.2.2.2)⟩ (fun hHeld => ?_)
 clear hK K
 refine norm_ (a' := ?_) ?_ ?_
 rotate_left
 ·show Act.put _ (some 27) _ = _
  simp only [Act.put, lA1, lA2, lA3, i64_w, i32_w]
  rfl
 refine one_ (i := 4) (N := some 28) #[true, true, true, true, true, false] rfl rfl (by kernel_rfl) (by decide) (fun K hK => ?_)
 refine goes_ Try.func18 (by kernel_rfl) rfl #[.slice AVC cs.length cVC, .agg #[.slice AVM l1_0.length cVM, .int .i64 a1_1, .int .i64 a1_2, .int .i64 a1_3, .slice AVN l1_4.length cVN]] (by rfl) rfl rfl z6 ?_
 with_reducible refine (spec_MemObjs.calls k AVC cVC cs AVM cVM l1_0 a1_1 a1_2 a1_3 AVN cVN l1_4 r0 _ (Kd.C_below (Kd.R_reads' (Kd.S_R HVC.out)).2.2 HBB.out) (Kd.R_reads' (Kd.S_R HVC.out)).2.1 (Kd.C_below (Kd.R_reads' HVM.out).2.2 (Below.refl _ _)) (Kd.R_reads' HVM.out).2.1 (Kd.C_below (Kd.R_reads' HVN.out).2.2 (Below.refl _ _)) (Kd.R_reads' HVN.out).2.1 H5.out).mono ?_
 rintro e W8 ⟨vw0, rfl, hv0, hbc⟩
 have HVw0 := Aside0.mk hv0
 have HWB := Aside0.mk (below_size (below_step HB.out hHeld.1.out))
 have HWc := Aside0.mk (below_step hHeld.1.out hbc)
 refine ⟨_, rfl, ?_⟩
 refine hK.out _ _ ⟨⟨below_step hHeld.1.out hbc⟩, (pw_cell_below hbc hHeld.2.1), (pw_cell_below hbc hHeld.2.2.1), (pw_cell_below hbc hHeld.2.2.2.1), (pw_cell_below hbc hHeld.2.2.2.2.1), (pw_cell_below hbc hHeld.2.2.2.2.2)⟩ (fun hHeld => ?_)
 clear hK K
 refine norm_ (a' := ?_) ?_ ?_
 rotate_left
 ·show Act.put _ (some 28) _ = _
  simp only [Act.put, lA1, lA2, lA3, i64_w, i32_w]
  rfl
 refine pS 5 6 #[true, true, true, true, true, true] ?_
 refine done_ (by kernel_rfl) ?_
 have HW8 := HWc
 clear HWc hHeld HVC HVM HVN HBB
 clear mc0 mc1 mc2 mc3 mc4
 obtain ⟨s3, hs3⟩ : ∃ s, s = W8.heap.size := ⟨_, rfl⟩
 replace HB := Aside0.mk (below_step HB.out HW8.out)
 replace BM := Aside0.mk ((HW8.out.block _ (blk_lt BM.out)).trans BM.out)
 have HO := Aside0.mk (show w.heap.size < s3 from by rw [hs3]; exact blk_lt BM.out)
 have HW0 := Aside0.mk (show Kd.S k86 86 W8 w.heap.size (fun k_ => k_ < s3) vw0 r0 from Kd.S_lower (Kd.S_mono (Kd.S_bound HVw0.out) (fun k_ hk_ => by rw [hs3]; exact hk_.2.2.1)) (by exact HWB.out))
 obtain ⟨AW0, cW0, rfl⟩ := Kd.S_slice HW0.out
 clear HWB HW8 HVw0
 go_wp2_with fail
 go_at_call 10
 refine (laws_toClassS.calls k A0 c0 l0 cs _ (Kd.C_below HR0.out HB.out) HC0.out H3.out).mono ?_
 rintro e w6 ⟨vx, rfl, hx, hb⟩
 replace HB := Aside0.mk (below_step HB.out hb)
 replace BM := Aside0.mk ((hb.block _ (blk_lt BM.out)).trans BM.out)
 replace HW0 := Aside0.mk (Kd.S_below HW0.out hb)
 obtain ⟨s4, hs4⟩ : ∃ s, s = w6.heap.size := ⟨_, rfl⟩
 have HX0 := Aside0.mk (show Kd.S k69 69 w6 w.heap.size (fun k_ => s3 ≤ k_ ∧ k_ < s4) vx cs from Kd.S_lower (Kd.S_mono (Kd.S_bound hx) (fun k_ hk_ => ⟨by rw [hs3]; exact hk_.2.1, by rw [hs4]; exact hk_.2.2.1⟩)) (by have := HO.out; omega))
 have HOn := Aside0.mk (show w.heap.size < s3 ∧ s3 ≤ s4 from ⟨HO.out, by rw [hs3, hs4]; exact hb.size⟩)
 clear HO
 have HO := HOn
 clear HOn
 clear hx hb hs3
 obtain ⟨AX0, cX0, rfl⟩ := Kd.S_slice HX0.out
 have mc0 := (blk_cell BM.out 0).trans rfl; have mc1 := (blk_cell BM.out 1).trans rfl; have mc2 := (blk_cell BM.out 2).trans rfl; have mc3 := (blk_cell BM.out 3).trans rfl; have mc4 := (blk_cell BM.out 4).trans rfl
 go_wp2_with fail
 go_at_call 11
 refine (laws_toMem.calls k A1_0 c1_0 l1_0 a1_1 a1_2 a1_3 A1_4 c1_4 l1_4 l1_0 a1_1 a1_2 a1_3 l1_4 _ (Kd.C_below HR1_0.out HB.out) HC1_0.out (Kd.C_below HR1_4.out HB.out) HC1_4.out H4.out).mono ?_
 rintro e w7 ⟨vm, vn, rfl, hm_, hn_, hb⟩
 clear mc0 mc1 mc2 mc3 mc4
 replace HB := Aside0.mk (below_step HB.out hb)
 replace BM := Aside0.mk ((hb.block _ (blk_lt BM.out)).trans BM.out)
 replace HW0 := Aside0.mk (Kd.S_below HW0.out hb)
 replace HX0 := Aside0.mk (Kd.S_below HX0.out hb)
 obtain ⟨s5, hs5⟩ : ∃ s, s = w7.heap.size := ⟨_, rfl⟩
 have HX1 := Aside0.mk (show Kd.R (Kd.int .i64) 3 w7 w.heap.size (fun k_ => s4 ≤ k_ ∧ k_ < s5) vm l1_0 from Kd.R_lower (Kd.R_mono (Kd.R_bound hm_) (fun k_ hk_ => ⟨by rw [hs4]; exact hk_.2.1, by rw [hs5]; exact hk_.2.2.1⟩)) (by have := HO.out; omega))
 have HX2 := Aside0.mk (show Kd.R Kd.bool 4 w7 w.heap.size (fun k_ => s4 ≤ k_ ∧ k_ < s5) vn l1_4 from Kd.R_lower (Kd.R_mono (Kd.R_bound hn_) (fun k_ hk_ => ⟨by rw [hs4]; exact hk_.2.1, by rw [hs5]; exact hk_.2.2.1⟩)) (by have := HO.out; omega))
 have HOn := Aside0.mk (show w.heap.size < s3 ∧ s3 ≤ s4 ∧ s4 ≤ s5 from ⟨HO.out.1, HO.out.2, by rw [hs4, hs5]; exact hb.size⟩)
 clear HO
 have HO := HOn
 clear HOn
 clear hm_ hn_ hb hs4
 obtain ⟨AX, cX, rfl⟩ := Kd.R_slice HX1.out
 obtain ⟨AY, cY, rfl⟩ := Kd.R_slice HX2.out
 go_wp2_with fail
 go_at_call 19
 have BX := Aside0.mk (show (w7.alloc (.cells #[.slice AX l1_0.length cX, .int .i64 a1_1, .int .i64 a1_2, .int .i64 a1_3, .slice AY l1_4.length cY] 29 (0, 0))).heap[w7.heap.size]? = some (.cells #[.slice AX l1_0.length cX, .int .i64 a1_1, .int .i64 a1_2, .int .i64 a1_3, .slice AY l1_4.length cY] 29 (0, 0)) from blk_new w7 _)
 have hb : Below w7.heap.size w7 (w7.alloc (.cells #[.slice AX l1_0.length cX, .int .i64 a1_1, .int .i64 a1_2, .int .i64 a1_3, .slice AY l1_4.length cY] 29 (0, 0))) := below_alloc (Below.refl _ _) _
 generalize w7.alloc (.cells #[.slice AX l1_0.length cX, .int .i64 a1_1, .int .i64 a1_2, .int .i64 a1_3, .slice AY l1_4.length cY] 29 (0, 0)) = w7b at BX hb ⊢
 replace HB := Aside0.mk (below_step HB.out hb)
 replace BM := Aside0.mk ((hb.block _ (blk_lt BM.out)).trans BM.out)
 replace HW0 := Aside0.mk (Kd.S_below HW0.out hb)
 replace HX0 := Aside0.mk (Kd.S_below HX0.out hb)
 replace HX1 := Aside0.mk (Kd.R_below HX1.out hb)
 replace HX2 := Aside0.mk (Kd.R_below HX2.out hb)
 obtain ⟨gx, hgx⟩ : ∃ g, g = w7.heap.size := ⟨_, rfl⟩
 rw [← hgx] at BX
 try rw [← hgx]
 obtain ⟨s6, hs6⟩ : ∃ s, s = w7b.heap.size := ⟨_, rfl⟩
 have HOn := Aside0.mk (show w.heap.size < s3 ∧ s3 ≤ s4 ∧ s4 ≤ s5 ∧ s5 ≤ gx from ⟨HO.out.1, HO.out.2.1, HO.out.2.2, by rw [hs5, hgx]; exact Nat.le_refl _⟩)
 clear HO
 have HO := HOn
 clear HOn
 have HOn := Aside0.mk (show w.heap.size < s3 ∧ s3 ≤ s4 ∧ s4 ≤ s5 ∧ s5 ≤ gx ∧ gx < s6 from ⟨HO.out.1, HO.out.2.1, HO.out.2.2.1, HO.out.2.2.2, by rw [hs6]; exact blk_lt BX.out⟩)
 clear HO
 have HO := HOn
 clear HOn
 clear hb hs5 hgx
 refine (impl_MemObjs.calls k AX0 cX0 cs AX cX l1_0 a1_1 a1_2 a1_3 AY cY l1_4 r0 _ (Kd.R_reads' (Kd.S_R HX0.out)).2.2 (Kd.R_reads' (Kd.S_R HX0.out)).2.1 (Kd.R_reads' HX1.out).2.2 (Kd.R_reads' HX1.out).2.1 (Kd.R_reads' HX2.out).2.2 (Kd.R_reads' HX2.out).2.1 H6.out).mono ?_
 rintro e w9 ⟨vg0, rfl, hg0, hb⟩
 replace HB := Aside0.mk (below_step HB.out hb)
 replace BM := Aside0.mk ((hb.block _ (blk_lt BM.out)).trans BM.out)
 replace HW0 := Aside0.mk (Kd.S_below HW0.out hb)
 replace HX0 := Aside0.mk (Kd.S_below HX0.out hb)
 replace HX1 := Aside0.mk (Kd.R_below HX1.out hb)
 replace HX2 := Aside0.mk (Kd.R_below HX2.out hb)
 replace BX := Aside0.mk ((hb.block _ (blk_lt BX.out)).trans BX.out)
 obtain ⟨s7, hs7⟩ : ∃ s, s = w9.heap.size := ⟨_, rfl⟩
 have HG0 := Aside0.mk (show Kd.S k86 86 w9 w.heap.size (fun k_ => s6 ≤ k_ ∧ k_ < s7) vg0 r0 from Kd.S_lower (Kd.S_mono (Kd.S_bound hg0) (fun k_ hk_ => ⟨by rw [hs6]; exact hk_.2.1, by rw [hs7]; exact hk_.2.2.1⟩)) (by have := HO.out; omega))
 obtain ⟨AG0, cG0, rfl⟩ := Kd.S_slice HG0.out
 have HOn := Aside0.mk (show w.heap.size < s3 ∧ s3 ≤ s4 ∧ s4 ≤ s5 ∧ s5 ≤ gx ∧ gx < s6 ∧ s6 ≤ s7 from ⟨HO.out.1, HO.out.2.1, HO.out.2.2.1, HO.out.2.2.2.1, HO.out.2.2.2.2, by rw [hs6, hs7]; exact hb.size⟩)
 clear HO
 have HO := HOn
 clear HOn
 clear hb hs6 hg0
 go_wp2_with fail
 go_at_call 20
 refine (laws_eqObjS.calls k AG0 cG0 r0 AW0 cW0 r0 true _ (Kd.R_reads' (Kd.S_R HG0.out)).2.2 (Kd.R_reads' (Kd.S_R HG0.out)).2.1 (Kd.R_reads' (Kd.S_R HW0.out)).2.2 (Kd.R_reads' (Kd.S_R HW0.out)).2.1 He0.out).mono ?_
 rintro e wq ⟨rfl, hb⟩
 replace HB := Aside0.mk (below_step HB.out hb)
 replace BM := Aside0.mk ((hb.block _ (blk_lt BM.out)).trans BM.out)
 replace HW0 := Aside0.mk (Kd.S_below HW0.out hb)
 replace HX0 := Aside0.mk (Kd.S_below HX0.out hb)
 replace HX1 := Aside0.mk (Kd.R_below HX1.out hb)
 replace HX2 := Aside0.mk (Kd.R_below HX2.out hb)
 replace BX := Aside0.mk ((hb.block _ (blk_lt BX.out)).trans BX.out)
 replace HG0 := Aside0.mk (Kd.S_below HG0.out hb)
 clear hb
 clear hs7
 go_wp2_with fail
 go_at_call 10
 refine (laws_toClassS.calls k A0 c0 l0 cs _ (Kd.C_below HR0.out HB.out) HC0.out H3.out).mono ?_
 rintro e w11 ⟨vt, rfl, ht, hb⟩
 replace HB := Aside0.mk (below_step HB.out hb)
 replace BM := Aside0.mk ((hb.block _ (blk_lt BM.out)).trans BM.out)
 replace HW0 := Aside0.mk (Kd.S_below HW0.out hb)
 replace HX0 := Aside0.mk (Kd.S_below HX0.out hb)
 replace HX1 := Aside0.mk (Kd.R_below HX1.out hb)
 replace HX2 := Aside0.mk (Kd.R_below HX2.out hb)
 replace BX := Aside0.mk ((hb.block _ (blk_lt BX.out)).trans BX.out)
 replace HG0 := Aside0.mk (Kd.S_below HG0.out hb)
 have HT := Aside0.mk ht
 clear hb ht
 obtain ⟨AT, cT, rfl⟩ := Kd.S_slice HT.out
 go_wp2_with fail
 go_at_call 14
 refine (laws_eqClassS.calls k AX0 cX0 cs AT cT cs true _ (Kd.R_reads' (Kd.S_R HX0.out)).2.2 (Kd.R_reads' (Kd.S_R HX0.out)).2.1 (Kd.R_reads' (Kd.S_R HT.out)).2.2 (Kd.R_reads' (Kd.S_R HT.out)).2.1 Hec.out).mono ?_
 rintro e w12 ⟨rfl, hb⟩
 replace HB := Aside0.mk (below_step HB.out hb)
 replace BM := Aside0.mk ((hb.block _ (blk_lt BM.out)).trans BM.out)
 replace HW0 := Aside0.mk (Kd.S_below HW0.out hb)
 replace HX0 := Aside0.mk (Kd.S_below HX0.out hb)
 replace HX1 := Aside0.mk (Kd.R_below HX1.out hb)
 replace HX2 := Aside0.mk (Kd.R_below HX2.out hb)
 replace BX := Aside0.mk ((hb.block _ (blk_lt BX.out)).trans BX.out)
 replace HG0 := Aside0.mk (Kd.S_below HG0.out hb)
 clear hb HT
 have mc0 := (blk_cell BM.out 0).trans rfl; have mc1 := (blk_cell BM.out 1).trans rfl; have mc2 := (blk_cell BM.out 2).trans rfl; have mc3 := (blk_cell BM.out 3).trans rfl; have mc4 := (blk_cell BM.out 4).trans rfl
 have n0 := (blk_cell BX.out 0).trans rfl; have n1 := (blk_cell BX.out 1).trans rfl; have n2 := (blk_cell BX.out 2).trans rfl; have n3 := (blk_cell BX.out 3).trans rfl; have n4 := (blk_cell BX.out 4).trans rfl
 go_wp2
 refine start_ (n := 5) (S := fun w' => Aside0 (Below w12.heap.size w12 w') ∧ w'.cell? (⟨w.heap.size, 0, none⟩) = some (.slice A1_0 l1_0.length c1_0) ∧ w'.cell? (⟨w.heap.size, 1, none⟩) = some (.int .i64 a1_1) ∧ w'.cell? (⟨w.heap.size, 2, none⟩) = some (.int .i64 a1_2) ∧ w'.cell? (⟨w.heap.size, 3, none⟩) = some (.int .i64 a1_3) ∧ w'.cell? (⟨w.heap.size, 4, none⟩) = some (.slice A1_4 l1_4.length c1_4) ∧ w'.cell? (⟨gx, 0, none⟩) = some (.slice AX l1_0.length cX) ∧ w'.cell? (⟨gx, 1, none⟩) = some (.int .i64 a1_1) ∧ w'.cell? (⟨gx, 2, none⟩) = some (.int .i64 a1_2) ∧ w'.cell? (⟨gx, 3, none⟩) = some (.int .i64 a1_3) ∧ w'.cell? (⟨gx, 4, none⟩) = some (.slice AY l1_4.length cY)) (ds := []) #[false, false, false, false, false] (by kernel_rfl) rfl rfl ⟨⟨below_drew1 (Below.refl _ _)⟩, (by go_simp), (by go_simp), (by go_simp), (by go_simp), (by go_simp), (by go_simp), (by go_simp), (by go_simp), (by go_simp), (by go_simp)⟩ (fun hHeld => ?_)
 refine tS 0 45 #[true, false, false, false, false] rfl rfl (by kernel_rfl) hHeld z11 ?_
 refine tS 1 46 #[true, true, false, false, false] rfl rfl (by kernel_rfl) hHeld z11 ?_
 refine one_ (i := 2) (N := some 47) #[true, true, true, false, false] rfl rfl (by kernel_rfl) (by decide) (fun K hK => ?_)
 refine goes_ Try.func11 (by kernel_rfl) rfl #[.agg #[.slice A1_0 l1_0.length c1_0, .int .i64 a1_1, .int .i64 a1_2, .int .i64 a1_3, .slice A1_4 l1_4.length c1_4]] (by rfl) rfl rfl z6 ?_
 with_reducible refine (laws_toMem.calls k A1_0 c1_0 l1_0 a1_1 a1_2 a1_3 A1_4 c1_4 l1_4 l1_0 a1_1 a1_2 a1_3 l1_4 _ (Kd.C_below HR1_0.out (below_step HB.out hHeld.1.out)) HC1_0.out (Kd.C_below HR1_4.out (below_step HB.out hHeld.1.out)) HC1_4.out H4.out).mono ?_
 rintro e wb ⟨vm, vn, rfl, hm_, hn_, hbb⟩
 have HVM := Aside0.mk hm_
 have HVN := Aside0.mk hn_
 have HBB := Aside0.mk hbb
 obtain ⟨AVM, cVM, rfl⟩ := Kd.R_slice hm_
 obtain ⟨AVN, cVN, rfl⟩ := Kd.R_slice hn_
 refine ⟨_, rfl, ?_⟩
 refine hK.out _ _ ⟨⟨below_step hHeld.1.out hbb⟩, (pw_cell_below hbb hHeld.2.1), (pw_cell_below hbb hHeld.2.2.1), (pw_cell_below hbb hHeld.2.2.2.1), (pw_cell_below hbb hHeld.2.2.2.2.1), (pw_cell_below hbb hHeld.2.2.2.2.2.1), (pw_cell_below hbb hHeld.2.2.2.2.2.2.1), (pw_cell_below hbb hHeld.2.2.2.2.2.2.2.1), (pw_cell_below hbb hHeld.2.2.2.2.2.2.2.2.1), (pw_cell_below hbb hHeld.2.2.2.2.2.2.2.2.2.1), (pw_cell_below hbb hHeld.2.2.2.2.2.2.2.2.2.2)⟩ (fun hHeld => ?_)
 clear hK K
 refine norm_ (a' := ?_) ?_ ?_
 rotate_left
 ·show Act.put _ (some 47) _ = _
  simp only [Act.put, lA1, lA2, lA3, i64_w, i32_w]
  rfl
 refine one_ (i := 3) (N := some 48) #[true, true, true, true, false] rfl rfl (by kernel_rfl) (by decide) (fun K hK => ?_)
 refine goes_ Try.func13 (by kernel_rfl) rfl #[.agg #[.slice AX l1_0.length cX, .int .i64 a1_1, .int .i64 a1_2, .int .i64 a1_3, .slice AY l1_4.length cY], .agg #[.slice AVM l1_0.length cVM, .int .i64 a1_1, .int .i64 a1_2, .int .i64 a1_3, .slice AVN l1_4.length cVN]] (by rfl) rfl rfl z6 ?_
 with_reducible refine (laws_eqMem.calls k AX cX l1_0 a1_1 a1_2 a1_3 AY cY l1_4 AVM cVM l1_0 a1_1 a1_2 a1_3 AVN cVN l1_4 true _ (Kd.C_below (Kd.R_reads' HX1.out).2.2 hHeld.1.out) (Kd.R_reads' HX1.out).2.1 (Kd.C_below (Kd.R_reads' HX2.out).2.2 hHeld.1.out) (Kd.R_reads' HX2.out).2.1 (Kd.C_below (Kd.R_reads' HVM.out).2.2 (Below.refl _ _)) (Kd.R_reads' HVM.out).2.1 (Kd.C_below (Kd.R_reads' HVN.out).2.2 (Below.refl _ _)) (Kd.R_reads' HVN.out).2.1 Hem.out).mono ?_
 rintro e wc ⟨rfl, hbc⟩
 refine ⟨_, rfl, ?_⟩
 refine hK.out _ _ ⟨⟨below_step hHeld.1.out hbc⟩, (pw_cell_below hbc hHeld.2.1), (pw_cell_below hbc hHeld.2.2.1), (pw_cell_below hbc hHeld.2.2.2.1), (pw_cell_below hbc hHeld.2.2.2.2.1), (pw_cell_below hbc hHeld.2.2.2.2.2.1), (pw_cell_below hbc hHeld.2.2.2.2.2.2.1), (pw_cell_below hbc hHeld.2.2.2.2.2.2.2.1), (pw_cell_below hbc hHeld.2.2.2.2.2.2.2.2.1), (pw_cell_below hbc hHeld.2.2.2.2.2.2.2.2.2.1), (pw_cell_below hbc hHeld.2.2.2.2.2.2.2.2.2.2)⟩ (fun hHeld => ?_)
 clear hK K
 refine norm_ (a' := ?_) ?_ ?_
 rotate_left
 ·show Act.put _ (some 48) _ = _
  simp only [Act.put, lA1, lA2, lA3, i64_w, i32_w]
  rfl
 refine pS 4 49 #[true, true, true, true, true] ?_
 refine done_ (by kernel_rfl) ?_
 have hb := hHeld.1.out
 clear hHeld
 replace HB := Aside0.mk (below_step HB.out hb)
 replace BM := Aside0.mk ((hb.block _ (blk_lt BM.out)).trans BM.out)
 replace HW0 := Aside0.mk (Kd.S_below HW0.out hb)
 replace HX0 := Aside0.mk (Kd.S_below HX0.out hb)
 replace HX1 := Aside0.mk (Kd.R_below HX1.out hb)
 replace HX2 := Aside0.mk (Kd.R_below HX2.out hb)
 replace BX := Aside0.mk ((hb.block _ (blk_lt BX.out)).trans BX.out)
 replace HG0 := Aside0.mk (Kd.S_below HG0.out hb)
 clear hb HVM HVN HBB
 clear mc0 mc1 mc2 mc3 mc4
 clear n0 n1 n2 n3 n4
 go_wp2_with fail
 go_at_call 15
 refine (laws_markClassS.calls k (fun k_ => s3 ≤ k_ ∧ k_ < s4) AX0 cs.length cX0 cs 1 k1 w _ HB.out HX0.out HCL.out Hk1.out).mono ?_
 rintro e w14 ⟨rfl, hB_, hk⟩
 replace HB := Aside0.mk hB_
 replace BM := Aside0.mk (blk_kept BM.out hk (by intro hs; have := HO.out; omega))
 replace HW0 := Aside0.mk (Kd.S_kept HW0.out hk (fun k_ hk_ hs_ => by have := HO.out; omega))
 replace HX1 := Aside0.mk (Kd.R_kept HX1.out hk (fun k_ hk_ hs_ => by have := HO.out; omega))
 replace HX2 := Aside0.mk (Kd.R_kept HX2.out hk (fun k_ hk_ hs_ => by have := HO.out; omega))
 replace BX := Aside0.mk (blk_kept BX.out hk (by intro hs_; have := HO.out; omega))
 replace HG0 := Aside0.mk (Kd.S_kept HG0.out hk (fun k_ hk_ hs_ => by have := HO.out; omega))
 clear hk hB_ HX0
 have n0 := (blk_cell BX.out 0).trans rfl; have n1 := (blk_cell BX.out 1).trans rfl; have n2 := (blk_cell BX.out 2).trans rfl; have n3 := (blk_cell BX.out 3).trans rfl; have n4 := (blk_cell BX.out 4).trans rfl
 go_wp2_with fail
 go_at_call 16
 refine (laws_markMem.calls k (fun k_ => s4 ≤ k_ ∧ k_ < s5) _ l1_0 a1_1 a1_2 a1_3 (fun k_ => s4 ≤ k_ ∧ k_ < s5) _ l1_4 k1 k2 y0 y1 w _ HB.out HX1.out HX2.out Hkm.out).mono ?_
 rintro e w15 ⟨rfl, _, _, hB_, hk⟩
 clear n0 n1 n2 n3 n4
 replace HB := Aside0.mk hB_
 replace BM := Aside0.mk (blk_kept BM.out hk (by intro hs; have := HO.out; omega))
 replace HW0 := Aside0.mk (Kd.S_kept HW0.out hk (fun k_ hk_ hs_ => by have := HO.out; omega))
 replace HG0 := Aside0.mk (Kd.S_kept HG0.out hk (fun k_ hk_ hs_ => by have := HO.out; omega))
 clear hk hB_ HX1 HX2 BX
 go_wp2_with fail
 go_at_call 20
 refine (laws_eqObjS.calls k AG0 cG0 r0 AW0 cW0 r0 true _ (Kd.R_reads' (Kd.S_R HG0.out)).2.2 (Kd.R_reads' (Kd.S_R HG0.out)).2.1 (Kd.R_reads' (Kd.S_R HW0.out)).2.2 (Kd.R_reads' (Kd.S_R HW0.out)).2.1 He0.out).mono ?_
 rintro e wq ⟨rfl, hb⟩
 replace HB := Aside0.mk (below_step HB.out hb)
 replace BM := Aside0.mk ((hb.block _ (blk_lt BM.out)).trans BM.out)
 replace HW0 := Aside0.mk (Kd.S_below HW0.out hb)
 replace HG0 := Aside0.mk (Kd.S_below HG0.out hb)
 clear hb
 go_wp2_with fail
 go_at_call 21
 refine (laws_markObjS.calls k (fun k_ => s6 ≤ k_ ∧ k_ < s7) AG0 r0.length cG0 r0 1 q0 u0 w _ HB.out HG0.out HLO.out Hm0.out).mono ?_
 rintro e w16 ⟨rfl, hg_, hB_, hk⟩
 replace HB := Aside0.mk hB_
 replace BM := Aside0.mk (blk_kept BM.out hk (by intro hs; have := HO.out; omega))
 replace HW0 := Aside0.mk (Kd.S_kept HW0.out hk (fun k_ hk_ hs_ => by have := HO.out; omega))
 replace HG0 := Aside0.mk hg_
 clear hk hB_ hg_
 have HL0 := Aside0.mk (Kd.R_reads' (Kd.S_R HG0.out)).1
 rw [HL0.out] at HG0
 go_wp2_with fail
 go_at_call 22
 try rw [HL0.out]
 refine (laws_heldObjS.calls k AG0 cG0 u0 1 q0 _ (Kd.R_reads' (Kd.S_R HG0.out)).2.2 (Kd.R_reads' (Kd.S_R HG0.out)).2.1 Hq0.out).mono ?_
 rintro e w17 ⟨rfl, hd_⟩
 have hb := hd_.below
 replace HB := Aside0.mk (below_step HB.out hb)
 replace BM := Aside0.mk ((hb.block _ (blk_lt BM.out)).trans BM.out)
 replace HW0 := Aside0.mk (Kd.S_below HW0.out hb)
 replace HG0 := Aside0.mk (Kd.S_below HG0.out hb)
 clear hb hd_
 have mc0 := (blk_cell BM.out 0).trans rfl; have mc1 := (blk_cell BM.out 1).trans rfl; have mc2 := (blk_cell BM.out 2).trans rfl; have mc3 := (blk_cell BM.out 3).trans rfl; have mc4 := (blk_cell BM.out 4).trans rfl
 go_wp2
 refine start_ (n := 6) (S := fun w' => Aside0 (Below w17.heap.size w17 w') ∧ w'.cell? (⟨w.heap.size, 0, none⟩) = some (.slice A1_0 l1_0.length c1_0) ∧ w'.cell? (⟨w.heap.size, 1, none⟩) = some (.int .i64 a1_1) ∧ w'.cell? (⟨w.heap.size, 2, none⟩) = some (.int .i64 a1_2) ∧ w'.cell? (⟨w.heap.size, 3, none⟩) = some (.int .i64 a1_3) ∧ w'.cell? (⟨w.heap.size, 4, none⟩) = some (.slice A1_4 l1_4.length c1_4)) (ds := []) #[false, false, false, false, false, false] (by kernel_rfl) rfl rfl ⟨⟨below_drew1 (Below.refl _ _)⟩, (by go_simp), (by go_simp), (by go_simp), (by go_simp), (by go_simp)⟩ (fun hHeld => ?_)
 refine pS 0 75 #[true, false, false, false, false, false] ?_
 refine tS 2 77 #[true, false, true, false, false, false] rfl rfl (by kernel_rfl) hHeld z4 ?_
 refine one_ (i := 1) (N := some 76) #[true, true, true, false, false, false] rfl rfl (by kernel_rfl) (by decide) (fun K hK => ?_)
 refine goes_ Try.func10 (by kernel_rfl) rfl #[.slice A0 l0.length c0] (by rfl) rfl rfl z6 ?_
 with_reducible refine (laws_toClassS.calls k A0 c0 l0 cs _ (Kd.C_below HR0.out (below_step HB.out hHeld.1.out)) HC0.out H3.out).mono ?_
 rintro e wa ⟨vc, rfl, hc, hba⟩
 have HVC := Aside0.mk hc
 obtain ⟨AVC, cVC, rfl⟩ := Kd.S_slice hc
 refine ⟨_, rfl, ?_⟩
 refine hK.out _ _ ⟨⟨below_step hHeld.1.out hba⟩, (pw_cell_below hba hHeld.2.1), (pw_cell_below hba hHeld.2.2.1), (pw_cell_below hba hHeld.2.2.2.1), (pw_cell_below hba hHeld.2.2.2.2.1), (pw_cell_below hba hHeld.2.2.2.2.2)⟩ (fun hHeld => ?_)
 clear hK K
 refine norm_ (a' := ?_) ?_ ?_
 rotate_left
 ·show Act.put _ (some 76) _ = _
  simp only [Act.put, lA1, lA2, lA3, i64_w, i32_w]
  rfl
 refine one_ (i := 3) (N := some 78) #[true, true, true, true, false, false] rfl rfl (by kernel_rfl) (by decide) (fun K hK => ?_)
 refine goes_ Try.func11 (by kernel_rfl) rfl #[.agg #[.slice A1_0 l1_0.length c1_0, .int .i64 a1_1, .int .i64 a1_2, .int .i64 a1_3, .slice A1_4 l1_4.length c1_4]] (by rfl) rfl rfl z6 ?_
 with_reducible refine (laws_toMem.calls k A1_0 c1_0 l1_0 a1_1 a1_2 a1_3 A1_4 c1_4 l1_4 l1_0 a1_1 a1_2 a1_3 l1_4 _ (Kd.C_below HR1_0.out (below_step HB.out hHeld.1.out)) HC1_0.out (Kd.C_below HR1_4.out (below_step HB.out hHeld.1.out)) HC1_4.out H4.out).mono ?_
 rintro e wb ⟨vm, vn, rfl, hm_, hn_, hbb⟩
 have HVM := Aside0.mk hm_
 have HVN := Aside0.mk hn_
 have HBB := Aside0.mk hbb
 obtain ⟨AVM, cVM, rfl⟩ := Kd.R_slice hm_
 obtain ⟨AVN, cVN, rfl⟩ := Kd.R_slice hn_
 refine ⟨_, rfl, ?_⟩
 refine hK.out _ _ ⟨⟨below_step hHeld.1.out hbb⟩, (pw_cell_below hbb hHeld.2.1), (pw_cell_below hbb hHeld.2.2.1), (pw_cell_below hbb hHeld.2.2.2.1), (pw_cell_below hbb hHeld.2.2.2.2.1), (pw_cell_below hbb hHeld.2.2.2.2.2)⟩ (fun hHeld => ?_)
 clear hK K
 refine norm_ (a' := ?_) ?_ ?_
 rotate_left
 ·show Act.put _ (some 78) _ = _
  simp only [Act.put, lA1, lA2, lA3, i64_w, i32_w]
  rfl
 refine one_ (i := 4) (N := some 79) #[true, true, true, true, true, false] rfl rfl (by kernel_rfl) (by decide) (fun K hK => ?_)
 refine goes_ Try.func19 (by kernel_rfl) rfl #[.slice AVC cs.length cVC, .agg #[.slice AVM l1_0.length cVM, .int .i64 a1_1, .int .i64 a1_2, .int .i64 a1_3, .slice AVN l1_4.length cVN]] (by rfl) rfl rfl z6 ?_
 with_reducible refine (impl_MemObjs.calls k AVC cVC cs AVM cVM l1_0 a1_1 a1_2 a1_3 AVN cVN l1_4 r0 _ (Kd.C_below (Kd.R_reads' (Kd.S_R HVC.out)).2.2 HBB.out) (Kd.R_reads' (Kd.S_R HVC.out)).2.1 (Kd.C_below (Kd.R_reads' HVM.out).2.2 (Below.refl _ _)) (Kd.R_reads' HVM.out).2.1 (Kd.C_below (Kd.R_reads' HVN.out).2.2 (Below.refl _ _)) (Kd.R_reads' HVN.out).2.1 H6.out).mono ?_
 rintro e W8 ⟨vw0, rfl, hv0, hbc⟩
 have HVw0 := Aside0.mk hv0
 have HWB := Aside0.mk (below_size (below_step HB.out hHeld.1.out))
 have HWc := Aside0.mk (below_step hHeld.1.out hbc)
 refine ⟨_, rfl, ?_⟩
 refine hK.out _ _ ⟨⟨below_step hHeld.1.out hbc⟩, (pw_cell_below hbc hHeld.2.1), (pw_cell_below hbc hHeld.2.2.1), (pw_cell_below hbc hHeld.2.2.2.1), (pw_cell_below hbc hHeld.2.2.2.2.1), (pw_cell_below hbc hHeld.2.2.2.2.2)⟩ (fun hHeld => ?_)
 clear hK K
 refine norm_ (a' := ?_) ?_ ?_
 rotate_left
 ·show Act.put _ (some 79) _ = _
  simp only [Act.put, lA1, lA2, lA3, i64_w, i32_w]
  rfl
 refine pS 5 13 #[true, true, true, true, true, true] ?_
 refine done_ (by kernel_rfl) ?_
 have HW8 := HWc
 clear HWc hHeld HVC HVM HVN HBB
 clear mc0 mc1 mc2 mc3 mc4
 replace HB := Aside0.mk (below_step HB.out HW8.out)
 replace BM := Aside0.mk ((HW8.out.block _ (blk_lt BM.out)).trans BM.out)
 replace HW0 := Aside0.mk (Kd.S_below HW0.out HW8.out)
 replace HG0 := Aside0.mk (Kd.S_below HG0.out HW8.out)
 have HH0 := HVw0
 obtain ⟨AH0, cH0, rfl⟩ := Kd.S_slice HH0.out
 go_wp2_with fail
 go_at_call 20
 try rw [← HL0.out]
 refine (laws_eqObjS.calls k AH0 cH0 r0 AW0 cW0 r0 true _ (Kd.R_reads' (Kd.S_R HH0.out)).2.2 (Kd.R_reads' (Kd.S_R HH0.out)).2.1 (Kd.R_reads' (Kd.S_R HW0.out)).2.2 (Kd.R_reads' (Kd.S_R HW0.out)).2.1 He0.out).mono ?_
 rintro e wq ⟨rfl, hb⟩
 replace HB := Aside0.mk (below_step HB.out hb)
 replace BM := Aside0.mk ((hb.block _ (blk_lt BM.out)).trans BM.out)
 replace HW0 := Aside0.mk (Kd.S_below HW0.out hb)
 replace HG0 := Aside0.mk (Kd.S_below HG0.out hb)
 replace HH0 := Aside0.mk (Kd.S_below HH0.out hb)
 clear hb
 go_wp2_with fail
 go_at_call 22
 try rw [HL0.out]
 refine (laws_heldObjS.calls k AG0 cG0 u0 1 q0 _ (Kd.R_reads' (Kd.S_R HG0.out)).2.2 (Kd.R_reads' (Kd.S_R HG0.out)).2.1 Hq0.out).mono ?_
 rintro e w17 ⟨rfl, hd_⟩
 have hb := hd_.below
 replace HB := Aside0.mk (below_step HB.out hb)
 replace BM := Aside0.mk ((hb.block _ (blk_lt BM.out)).trans BM.out)
 replace HW0 := Aside0.mk (Kd.S_below HW0.out hb)
 replace HG0 := Aside0.mk (Kd.S_below HG0.out hb)
 replace HH0 := Aside0.mk (Kd.S_below HH0.out hb)
 clear hb hd_
 go_wp2
 go_ret
 exact ⟨rfl, HB.out⟩
end Go.Proofs.Ytmniglgahodghaa.K
namespace Go.Proofs.Ytmniglgahodghaa.K
open Go.RowKit Go.Proofs.YtmniglgahodghaaW.PrintWords Go.Proofs.YtmniglgahodghaaW.PrintLast Go.Proofs.YtmniglgahodghaaW.PrintMore
attribute [local go_sem] max2_int min2_int max_two min_two max_three min_three max_four min_four
set_option linter.unusedVariables false
set_option linter.unusedSimpArgs false
section
open Go.ChangeShapes Go.WideShapes Go.ChangeAt Go.Deep
def Opens {H α : Type} (enc : TypeId × Value → H) (P : Program) (w : World) (d : Kd α) (G : α → Prop) (t : TypeId) : Prop :=
  ∀ (fuel : Nat) (cs : List Value) (x : DataW H × List MemPlace), DataW.trod enc P w 0 (fun _ => true) true fuel t cs = some x → ∃ a : α, d.K w a cs ∧ G a
variable {H α : Type} {enc : TypeId × Value → H} {P : Program} {w : World} {d : Kd α} {G : α → Prop} {t e : TypeId}
theorem opens_int {k : IntKind} (ht : P.underlying t = some (.int k)) : Opens enc P w (Kd.int k) (fun n => (Lit.int k n).wf = true) t := by
 intro fuel cs x h
 obtain ⟨n, rfl, _, hw⟩ := DataW.trod_int ht h
 exact ⟨n, rfl, hw⟩
theorem opens_bool (ht : P.underlying t = some .bool) : Opens enc P w Kd.bool (fun _ => True) t := by
 intro fuel cs x h
 obtain ⟨b, rfl, _⟩ := DataW.trod_bool ht h
 exact ⟨b, rfl, trivial⟩
def GL (G : α → Prop) (xs : List α) : Prop := xs.length ≤ 9223372036854775807 ∧ ∀ x ∈ xs, G x
theorem list_of {Q : Nat → α → Prop} : ∀ n : Nat, (∀ i, i < n → ∃ p, Q i p) → ∃ xs : List α, xs.length = n ∧ ∀ i p, xs[i]? = some p → Q i p
  | 0, _ => ⟨[], rfl, fun i p h => by simp at h⟩
  | n + 1, h => by
    obtain ⟨xs, hl, hx⟩ := list_of n (fun i hi => h i (by omega))
    obtain ⟨p, hp⟩ := h n (by omega)
    refine ⟨xs ++ [p], by simp [hl], fun i q hq => ?_⟩
    by_cases hi : i < n
    · rw [List.getElem?_append_left (by omega)] at hq
      exact hx i q hq
    · have : i = n := by
        have := (List.getElem?_eq_some_iff.1 hq).1
        simp at this; omega
      subst this
      rw [List.getElem?_append_right (by omega)] at hq
      simp [hl] at hq
      subst hq
      exact hp
theorem opens_slice (ht : P.underlying t = some (.slice e)) (hs : d.sz = P.cellsOf e) (he : Opens enc P w d G e) : Opens enc P w (Kd.slice e d) (GL G) t := by
 intro fuel cs x h
 rcases open_slice ht h with ⟨rfl, _⟩ | ⟨a, len, cap, m, n, D, Pl, rfl, hb, hl, hm, hmm, hx, hi⟩
 ·exact ⟨[], ⟨none, 0, rfl, Nat.le_refl _, Kd.C_nil _ _⟩, by simp [GL]⟩
 ·have hmc : m = cap := by simpa using hmm
  obtain ⟨xs, hlen, hxs⟩ := list_of (Q := fun i p => ∃ c, c.length = d.sz ∧ d.K w p c ∧ (∀ j u, c[j]? = some u → w.cell? (a.add (i * d.sz + j)) = some u) ∧ G p) len (fun i hil => by
   obtain ⟨cs', hc, ht'⟩ := hi i (by omega)
   obtain ⟨p, hK, hG⟩ := he n cs' _ ht'
   obtain ⟨_, hcl, hat⟩ := World.cells?_some hc
   refine ⟨p, cs', d.K_len hK, hK, fun j u hu => ?_, hG⟩
   have hj : j < P.cellsOf e := by rw [← hcl]; exact (List.getElem?_eq_some_iff.1 hu).1
   have := hat j hj
   rw [Go.Deep.add_add] at this
   rw [hs, this, hu])
  subst hlen
  refine ⟨xs, ⟨some a, cap, rfl, hl, rfl, ?_, fun _ => ⟨a, rfl, fun j p hj => ?_⟩⟩, ?_, fun x hx => ?_⟩
  ·have : maxLen = 9223372036854775807 := rfl
   omega
  ·obtain ⟨c, h1, h2, h3, _⟩ := hxs j p hj
   exact ⟨c, h1, h2, h3⟩
  ·have : maxLen = 9223372036854775807 := rfl
   omega
  ·obtain ⟨i, hi', rfl⟩ := List.getElem_of_mem hx
   obtain ⟨c, _, _, _, hG⟩ := hxs i _ (List.getElem?_eq_getElem hi')
   exact hG
end
end Go.Proofs.Ytmniglgahodghaa.K
namespace Go.Proofs.Ytmniglgahodghaa.K
open Go.RowKit Go.Proofs.YtmniglgahodghaaW.PrintWords Go.Proofs.YtmniglgahodghaaW.PrintLast Go.Proofs.YtmniglgahodghaaW.PrintMore
attribute [local go_sem] max2_int min2_int max_two min_two max_three min_three max_four min_four
set_option linter.unusedVariables false
set_option linter.unusedSimpArgs false
section
open Go.ChangeShapes Go.WideShapes Go.ChangeAt Go.Deep
def G56 (x : S56) : Prop := (fun n : Int => (Lit.int .i64 n).wf = true) x.f0 ∧ (GL (fun n : Int => (Lit.int .i64 n).wf = true)) x.f1
set_option maxRecDepth 100000 in
theorem opens56 {H : Type} {enc : TypeId × Value → H} {w : World} : Opens enc Try.prog w k56 G56 56 := by
  intro fuel cs x h
  obtain ⟨xs, n, rfl, hx, hl, hxs, hg⟩ := DataW.trod_struct Try.underlying56 h
  have hl2 : cs.length = 2 := hl.trans (by kernel_rfl)
  clear hx hl h
  match cs, hl2, hg with
  | [c0, c1], _, hg =>
    have g0 := hg 0 _ rfl
    obtain ⟨y0, e0⟩ : ∃ y, xs[0]? = some y := ⟨xs[0]'(by rw [hxs]; decide), List.getElem?_eq_getElem _⟩
    obtain ⟨a0, K0, G0_⟩ := (opens_int Try.underlying3) n _ _ (g0.trans e0)
    have g1 := hg 1 _ rfl
    obtain ⟨y1, e1⟩ : ∃ y, xs[1]? = some y := ⟨xs[1]'(by rw [hxs]; decide), List.getElem?_eq_getElem _⟩
    obtain ⟨a1, K1, G1_⟩ := (opens_slice Try.underlying23 (by kernel_rfl) (opens_int Try.underlying3)) n _ _ (g1.trans e1)
    exact ⟨⟨a0, a1⟩, ⟨[c0], [c1], rfl, K0, K1⟩, ⟨G0_, G1_⟩⟩
def G26 (x : S26) : Prop := (GL (fun n : Int => (Lit.int .i64 n).wf = true)) x.f0 ∧ (fun n : Int => (Lit.int .i64 n).wf = true) x.f1 ∧ (fun n : Int => (Lit.int .i64 n).wf = true) x.f2 ∧ (fun n : Int => (Lit.int .i64 n).wf = true) x.f3 ∧ (GL (fun _ : Bool => True)) x.f4
set_option maxRecDepth 100000 in
theorem opens26 {H : Type} {enc : TypeId × Value → H} {w : World} : Opens enc Try.prog w k26 G26 26 := by
  intro fuel cs x h
  obtain ⟨xs, n, rfl, hx, hl, hxs, hg⟩ := DataW.trod_struct Try.underlying26 h
  have hl2 : cs.length = 5 := hl.trans (by kernel_rfl)
  clear hx hl h
  match cs, hl2, hg with
  | [c0, c1, c2, c3, c4], _, hg =>
    have g0 := hg 0 _ rfl
    obtain ⟨y0, e0⟩ : ∃ y, xs[0]? = some y := ⟨xs[0]'(by rw [hxs]; decide), List.getElem?_eq_getElem _⟩
    obtain ⟨a0, K0, G0_⟩ := (opens_slice Try.underlying23 (by kernel_rfl) (opens_int Try.underlying3)) n _ _ (g0.trans e0)
    have g1 := hg 1 _ rfl
    obtain ⟨y1, e1⟩ : ∃ y, xs[1]? = some y := ⟨xs[1]'(by rw [hxs]; decide), List.getElem?_eq_getElem _⟩
    obtain ⟨a1, K1, G1_⟩ := (opens_int Try.underlying3) n _ _ (g1.trans e1)
    have g2 := hg 2 _ rfl
    obtain ⟨y2, e2⟩ : ∃ y, xs[2]? = some y := ⟨xs[2]'(by rw [hxs]; decide), List.getElem?_eq_getElem _⟩
    obtain ⟨a2, K2, G2_⟩ := (opens_int Try.underlying3) n _ _ (g2.trans e2)
    have g3 := hg 3 _ rfl
    obtain ⟨y3, e3⟩ : ∃ y, xs[3]? = some y := ⟨xs[3]'(by rw [hxs]; decide), List.getElem?_eq_getElem _⟩
    obtain ⟨a3, K3, G3_⟩ := (opens_int Try.underlying3) n _ _ (g3.trans e3)
    have g4 := hg 4 _ rfl
    obtain ⟨y4, e4⟩ : ∃ y, xs[4]? = some y := ⟨xs[4]'(by rw [hxs]; decide), List.getElem?_eq_getElem _⟩
    obtain ⟨a4, K4, G4_⟩ := (opens_slice Try.underlying24 (by kernel_rfl) (opens_bool Try.underlying4)) n _ _ (g4.trans e4)
    exact ⟨⟨a0, a1, a2, a3, a4⟩, ⟨[c0], [c1, c2, c3, c4], rfl, K0, ⟨[c1], [c2, c3, c4], rfl, K1, ⟨[c2], [c3, c4], rfl, K2, ⟨[c3], [c4], rfl, K3, K4⟩⟩⟩⟩, ⟨G0_, G1_, G2_, G3_, G4_⟩⟩
end
end Go.Proofs.Ytmniglgahodghaa.K
namespace Go.Proofs.Ytmniglgahodghaa.K
open Go.RowKit Go.Proofs.YtmniglgahodghaaW.PrintWords Go.Proofs.YtmniglgahodghaaW.PrintLast Go.Proofs.YtmniglgahodghaaW.PrintMore
attribute [local go_sem] max2_int min2_int max_two min_two max_three min_three max_four min_four
set_option linter.unusedVariables false
set_option linter.unusedSimpArgs false
def laws_FnExactMemObjs.Pure : Prop := ∀ (a0 : List (S56)) (a1 : S26), (GL G56) a0 → G26 a1 → ∃ k, laws_FnExactMemObjs.f k a0 a1.f0 a1.f1 a1.f2 a1.f3 a1.f4 = some true
end Go.Proofs.Ytmniglgahodghaa.K
namespace Go.Proofs.Ytmniglgahodghaa.Pure
open Go.RowKit Go.Proofs.Ytmniglgahodghaa.K Go.Proofs.YtmniglgahodghaaW.PrintWords Go.Proofs.YtmniglgahodghaaW.PrintLast Go.Proofs.YtmniglgahodghaaW.PrintMore
set_option linter.unusedVariables false
set_option linter.unusedSimpArgs false
theorem evp {α : Type} {c : Prop} [Decidable c] {f g : Nat → Option α} {r : α} (h : c) (k : Ev f r) : Ev (fun n => if c then f n else g n) r := Ev.congr (fun _ => if_pos h) k
theorem evn {α : Type} {c : Prop} [Decidable c] {f g : Nat → Option α} {r : α} (h : ¬ c) (k : Ev g r) : Ev (fun n => if c then f n else g n) r := Ev.congr (fun _ => if_neg h) k
theorem wrap_inc {i n : Int} (h0 : 0 ≤ i) (h : i < n) (hn : n ≤ 4611686018427387904) : wrap64 (i + 1) = i + 1 := by
  unfold wrap64; omega
theorem rd_cast (xs : List Int) (i : Nat) : rd xs (i : Int) = xs.getD i 0 := by simp [rd]
theorem drop_getD {α : Type} (xs : List α) (i : Nat) (d : α) (h : i < xs.length) : xs.drop i = xs.getD i d :: xs.drop (i + 1) := by
  rw [List.drop_eq_getElem_cons h]; simp [List.getD_eq_getElem?_getD, h]
theorem wrap64_of {n : Int} (h : -9223372036854775808 ≤ n) (h' : n ≤ 9223372036854775807) : wrap64 n = n := by unfold wrap64; omega
end Go.Proofs.Ytmniglgahodghaa.Pure
namespace Go.Proofs.Ytmniglgahodghaa.Pure
open Go.RowKit Go.Proofs.Ytmniglgahodghaa.K Go.Proofs.YtmniglgahodghaaW.PrintWords Go.Proofs.YtmniglgahodghaaW.PrintLast Go.Proofs.YtmniglgahodghaaW.PrintMore
set_option linter.unusedVariables false
set_option linter.unusedSimpArgs false
abbrev Cs := List S69
def sup (cs : Cs) (c : Int) : Int := (rd_T69 cs c).f0
def flds (cs : Cs) (c : Int) : List Int := (rd_T69 cs c).f1
def fldOk (n t : Int) : Bool := decide (t = 1 ∨ t = 3 ∨ t = 4 ∨ (8 ≤ t ∧ t < 8 + n))
def clsOk (cs : Cs) (i : Int) : Bool :=
  (flds cs i).all (fldOk cs.length) &&
    (if i = 0 then decide (sup cs 0 = -1 ∧ flds cs 0 = []) else if i = 1 then decide (sup cs 1 = 0 ∧ flds cs 1 = [1]) else decide ((0 ≤ sup cs i ∧ sup cs i < i) ∧ (flds cs i).length ≤ 2))
def csOk (cs : Cs) : Bool := decide (2 ≤ cs.length ∧ cs.length ≤ 5) && (List.range cs.length).all (fun i : Nat => clsOk cs i)
theorem csOk_len {cs : Cs} (h : csOk cs = true) : 2 ≤ cs.length ∧ cs.length ≤ 5 := by
  simp only [csOk, Bool.and_eq_true, decide_eq_true_eq] at h; exact h.1
theorem csOk_at {cs : Cs} (h : csOk cs = true) {i : Int} (h0 : 0 ≤ i) (h1 : i < cs.length) : clsOk cs i = true := by
 simp only [csOk, Bool.and_eq_true, decide_eq_true_eq, List.all_eq_true, List.mem_range] at h
 have := h.2 i.toNat (by omega)
 rwa [Int.toNat_of_nonneg h0] at this
theorem csOk_sup {cs : Cs} (h : csOk cs = true) {i : Int} (h0 : 0 < i) (h1 : i < cs.length) : 0 ≤ sup cs i ∧ sup cs i < i := by
 have := csOk_at h (i := i) (by omega) h1
 simp only [clsOk, Bool.and_eq_true] at this
 have h2 := this.2
 rw [if_neg (by omega)] at h2
 by_cases h3 : i = 1
 ·subst h3
  simp only [if_true, decide_eq_true_eq] at h2
  omega
 ·rw [if_neg h3, decide_eq_true_eq] at h2
  exact h2.1
def upN (cs : Cs) : Nat → Int → Int → Bool
  | 0, a, b => decide (a = b)
  | n + 1, a, b => decide (a = b) || (decide (0 < a) && upN cs n (sup cs a) b)
theorem upN_more {cs : Cs} (h : csOk cs = true) : ∀ (n : Nat) (a b : Int), 0 ≤ a → a < cs.length → a.toNat ≤ n → upN cs (n + 1) a b = upN cs n a b
 | 0, a, b, h0, h1, hn => by
  have : a = 0 := by omega
  subst this
  simp [upN]
 | n + 1, a, b, h0, h1, hn => by
  have e1 : upN cs (n + 1 + 1) a b = (decide (a = b) || (decide (0 < a) && upN cs (n + 1) (sup cs a) b)) := rfl
  have e2 : upN cs (n + 1) a b = (decide (a = b) || (decide (0 < a) && upN cs n (sup cs a) b)) := rfl
  rw [e1, e2]
  by_cases hp : 0 < a
  ·have hs := csOk_sup h hp h1
   rw [upN_more h n (sup cs a) b (by omega) (by omega) (by omega)]
  ·simp [hp]
theorem cls_ind {cs : Cs} (h : csOk cs = true) {P : Int → Prop} (h00 : P 0) (hs : ∀ a : Int, 0 < a → a < cs.length → P (sup cs a) → P a) : ∀ a : Int, 0 ≤ a → a < cs.length → P a := by
  suffices H : ∀ (n : Nat) (a : Int), a.toNat ≤ n → 0 ≤ a → a < cs.length → P a from fun a h0 h1 => H a.toNat a (Nat.le_refl _) h0 h1
  intro n
  induction n with
  | zero => intro a hn h0 h1; have : a = 0 := by omega
            subst this; exact h00
  | succ n ih =>
    intro a hn h0 h1
    by_cases hp : 0 < a
    · have := csOk_sup h hp h1
      exact hs a hp h1 (ih _ (by omega) (by omega) (by omega))
    · have : a = 0 := by omega
      subst this; exact h00
end Go.Proofs.Ytmniglgahodghaa.Pure
namespace Go.Proofs.Ytmniglgahodghaa.Pure
open Go.RowKit Go.Proofs.Ytmniglgahodghaa.K Go.Proofs.YtmniglgahodghaaW.PrintWords Go.Proofs.YtmniglgahodghaaW.PrintLast Go.Proofs.YtmniglgahodghaaW.PrintMore
set_option linter.unusedVariables false
set_option linter.unusedSimpArgs false
theorem spec_l6In_eq (a b c : Int) : spec_l6In.f a b c = some (decide (b ≤ a ∧ a ≤ c)) := by
 unfold spec_l6In.f
 by_cases h : a ≥ b
 ·rw [if_pos h]; simp [show b ≤ a from h]
 ·rw [if_neg h]; simp [show ¬ b ≤ a from h]
end Go.Proofs.Ytmniglgahodghaa.Pure
namespace Go.Proofs.Ytmniglgahodghaa.Pure
open Go.RowKit Go.Proofs.Ytmniglgahodghaa.K Go.Proofs.YtmniglgahodghaaW.PrintWords Go.Proofs.YtmniglgahodghaaW.PrintLast Go.Proofs.YtmniglgahodghaaW.PrintMore
set_option linter.unusedVariables false
set_option linter.unusedSimpArgs false
theorem fields_same (cs : Cs) : ∀ (k : Nat) (a : Int), spec_l2Fields.f k cs a = impl_classFields.f k cs a
  | 0, a => by rw [spec_l2Fields.f, impl_classFields.f]
  | k + 1, a => by rw [spec_l2Fields.f, impl_classFields.f, fields_same cs k]
theorem csOk_two {cs : Cs} (h : csOk cs = true) {i : Int} (h0 : 0 ≤ i) (h1 : i < cs.length) : (flds cs i).length ≤ 2 := by
 have h2 := csOk_at h h0 h1
 unfold clsOk at h2
 simp only [Bool.and_eq_true] at h2
 have h3 := h2.2
 by_cases c0 : i = 0
 ·rw [if_pos c0, decide_eq_true_eq] at h3
  rw [c0, h3.2]; simp
 rw [if_neg c0] at h3
 by_cases c1 : i = 1
 ·rw [if_pos c1, decide_eq_true_eq] at h3
  rw [c1, h3.2]; simp
 rw [if_neg c1, decide_eq_true_eq] at h3
 exact h3.2
theorem classFields_ev {cs : Cs} (h : csOk cs = true) : ∀ a : Int, 0 ≤ a → a < cs.length → ∃ fs, fs.length ≤ 2 * a.toNat ∧ ∀ k, a.toNat + 1 ≤ k → impl_classFields.f k cs a = some fs := by
 refine cls_ind h ⟨[], by simp, fun k hk => ?_⟩ ?_
 ·obtain ⟨k, rfl⟩ : ∃ m, k = m + 1 := ⟨k - 1, by omega⟩
  rw [impl_classFields.f, if_pos rfl]
 ·intro a ha hl ⟨fs, hfs, hk⟩
  have hs := csOk_sup h ha hl
  have h2 := csOk_two h (by omega) hl
  refine ⟨fs ++ flds cs a, by rw [List.length_append]; omega, fun k hk2 => ?_⟩
  obtain ⟨k, rfl⟩ : ∃ m, k = m + 1 := ⟨k - 1, by omega⟩
  have e := hk k (by omega)
  rw [impl_classFields.f, if_neg (by omega), if_pos (by omega), if_pos hl]
  show ((impl_classFields.f k cs (sup cs a)).bind fun t => if t.length + (flds cs a).length < 17592186044416 then some (t ++ flds cs a) else none) = _
  rw [e, Option.bind_some, if_pos (by have := csOk_len h; omega)]
def cfl (cs : Cs) (a : Int) : List Int := (impl_classFields.f 10 cs a).getD []
theorem cfl_eq {cs : Cs} (h : csOk cs = true) {a : Int} (h0 : 0 ≤ a) (h1 : a < cs.length) : (cfl cs a).length ≤ 8 ∧ ∀ k, 10 ≤ k → impl_classFields.f k cs a = some (cfl cs a) := by
 have hl := csOk_len h
 obtain ⟨fs, hf, hk⟩ := classFields_ev h a h0 h1
 have e : cfl cs a = fs := by unfold cfl; rw [hk 10 (by omega)]; rfl
 rw [e]
 exact ⟨by omega, fun k hk2 => hk k (by omega)⟩
def allF (cs : Cs) : List (List Int) := (List.range cs.length).map (fun i : Nat => cfl cs i)
theorem allF_len (cs : Cs) : (allF cs).length = cs.length := by unfold allF; simp
theorem allF_at (cs : Cs) {c : Int} (h0 : 0 ≤ c) (h1 : c < cs.length) : rdL (allF cs) c = cfl cs c := by
 have h2 : c.toNat < cs.length := by omega
 unfold rdL allF
 rw [List.getD_eq_getElem?_getD, List.getElem?_map, List.getElem?_range h2]
 show cfl cs ((c.toNat : Nat) : Int) = _
 rw [Int.toNat_of_nonneg h0]
theorem allF_short {cs : Cs} (h : csOk cs = true) : FShort (allF cs) := by
 intro c h0 h1
 rw [allF_len] at h1
 rw [allF_at cs h0 h1]
 have := (cfl_eq h h0 h1).1
 omega
theorem allF_all {cs : Cs} (h : csOk cs = true) : (allF cs).all (fun r => decide (r.length ≤ 4294967296)) = true := by
 rw [List.all_eq_true]
 intro r hr
 obtain ⟨i, hi, rfl⟩ := List.getElem_of_mem hr
 have h2 := allF_short h (i : Int) (by omega) (by omega)
 unfold rdL at h2
 rw [Int.toNat_natCast, List.getD_eq_getElem?_getD, List.getElem?_eq_getElem hi] at h2
 exact decide_eq_true h2
theorem allFields_l0 {cs : Cs} (h : csOk cs = true) (d : Nat) : ∀ (k i : Nat), i + d = cs.length → d + 11 ≤ k → impl_allFields.l0 k cs ((List.range i).map (fun j : Nat => cfl cs j)) cs.length i = some (allF cs) := by
 have hl := csOk_len h
 induction d with
 | zero =>
  intro k i hi hk
  obtain ⟨k, rfl⟩ : ∃ m, k = m + 1 := ⟨k - 1, by omega⟩
  rw [impl_allFields.l0, if_neg (by omega)]
  unfold allF
  rw [show i = cs.length by omega]
 | succ d ih =>
  intro k i hi hk
  obtain ⟨k, rfl⟩ : ∃ m, k = m + 1 := ⟨k - 1, by omega⟩
  rw [impl_allFields.l0, if_pos (by omega), (cfl_eq h (a := (i : Int)) (by omega) (by omega)).2 k (by omega)]
  simp only [Option.bind_some]
  rw [if_pos (by simp; omega), wrap_inc (n := 1000) (by omega) (by omega) (by omega)]
  have := ih k (i + 1) (by omega) (by omega)
  rw [List.range_succ, List.map_append] at this
  exact this
theorem allFields_eq {cs : Cs} (h : csOk cs = true) (k : Nat) (hk : 20 ≤ k) : impl_allFields.f k cs = some (allF cs) := by
 have hl := csOk_len h
 have := allFields_l0 h cs.length k 0 (by omega) (by omega)
 unfold impl_allFields.f
 exact this
theorem measN_c {cs : Cs} {c : Int} (n : Int) (h0 : 0 ≤ c) (h1 : c < cs.length) : measN (allF cs) c n = 1 + (cfl cs c).length := by
  unfold measN
  rw [if_neg (by omega), allF_len, if_pos ⟨h0, h1⟩, allF_at cs h0 h1]
theorem l21Size_eq {cs : Cs} (h : csOk cs = true) {ws : List Int} (hw : ws.length ≤ 1048576) {i e : Int} (h0 : 0 ≤ i) (he : e ≤ ws.length) (k : Nat) (hk : 20 ≤ k) :
  spec_l21Size.f k cs ws i e = some (if i < e then mstep ws (allF cs) e i else 0) := by
 have hl := csOk_len h
 unfold spec_l21Size.f
 by_cases c0 : i < e
 case neg => rw [if_pos (by omega), if_neg c0]
 case pos =>
 rw [if_neg (by omega), if_pos h0, if_pos (by omega), spec_l6In_eq, if_pos c0, wrap64_of (n := (cs.length : Int) - 1) (by omega) (by omega)]
 simp only [Option.bind_some, decide_eq_true_eq]
 obtain ⟨c, hc⟩ : ∃ c, c = rd ws i := ⟨_, rfl⟩
 unfold mstep
 rw [← hc]
 by_cases c1 : 0 ≤ c ∧ c ≤ (cs.length : Int) - 1
 ·have c1' : c < (cs.length : Int) := by omega
  obtain ⟨f1, f2⟩ := cfl_eq h c1.1 c1'
  rw [if_pos c1, fields_same, f2 k (by omega), if_neg (by omega), measN_c 0 c1.1 c1']
  simp only [Option.bind_some]
  rw [wrap64_of (n := 1 + ((cfl cs c).length : Int)) (by omega) (by omega), wrap64_of (n := i + (1 + ((cfl cs c).length : Int))) (by omega) (by omega)]
  by_cases c2 : i + (1 + ((cfl cs c).length : Int)) > e
  ·rw [if_pos c2, if_neg (by omega)]
  ·rw [if_neg c2, if_pos (by omega)]
 rw [if_neg c1]
 obtain ⟨k, rfl⟩ : ∃ m, k = m + 2 := ⟨k - 2, by omega⟩
 have w1 : wrap64 (i + 1) = i + 1 := wrap64_of (by omega) (by omega)
 have key : ∀ b : Bool, (b = true ↔ (c = -1 ∨ c = -2)) → spec_l21Size.j0 (k + 2) ws i e 0 b = some (if c < 0 then (if i + 1 < e then (if measN (allF cs) c (rd ws (i + 1)) ≤ e - i then measN (allF cs) c (rd ws (i + 1)) else 0) else 0) else (if measN (allF cs) c 0 ≤ e - i then measN (allF cs) c 0 else 0)) := by
  intro b hb
  rw [spec_l21Size.j0]
  by_cases c2 : c = -1 ∨ c = -2
  ·rw [if_pos (hb.mpr c2), w1, if_pos (show c < 0 by omega)]
   by_cases c3 : i + 1 ≥ e
   ·rw [if_pos c3, spec_l21Size.j1, if_pos rfl, if_neg (show ¬ i + 1 < e by omega)]
   rw [if_neg c3, if_pos (show 0 ≤ i + 1 by omega), if_pos (show i + 1 < (ws.length : Int) by omega), spec_l6In_eq, if_pos (show i + 1 < e by omega)]
   simp only [Option.bind_some]
   obtain ⟨n, hn⟩ : ∃ n, n = rd ws (i + 1) := ⟨_, rfl⟩
   rw [← hn]
   have m1 : measN (allF cs) c n = if 0 ≤ n ∧ n ≤ 6 then 2 + n else 0 := by unfold measN; rw [if_pos c2]
   rw [m1, spec_l21Size.j1]
   by_cases c4 : 0 ≤ n ∧ n ≤ 6
   ·rw [decide_eq_true c4, if_neg (by simp), w1, if_pos (show 0 ≤ i + 1 by omega), if_pos (show i + 1 < (ws.length : Int) by omega), if_pos c4, ← hn, wrap64_of (n := 2 + n) (by omega) (by omega), wrap64_of (n := i + (2 + n)) (by omega) (by omega)]
    by_cases c5 : i + (2 + n) > e
    ·rw [if_pos c5, if_neg (by omega)]
    ·rw [if_neg c5, if_pos (by omega)]
   ·rw [decide_eq_false c4, if_pos (by simp), if_neg c4, if_pos (by omega)]
  ·rw [if_neg (fun hh => c2 (hb.mp hh)), wrap64_of (n := i + 0) (by omega) (by omega), if_neg (by omega)]
   have m0 : ∀ n, measN (allF cs) c n = 0 := fun n => by unfold measN; rw [if_neg c2, allF_len, if_neg (by omega)]
   rw [m0, m0]
   by_cases c3 : c < 0
   ·rw [if_pos c3]
    by_cases c4 : i + 1 < e
    ·rw [if_pos c4, if_pos (by omega)]
    ·rw [if_neg c4]
   ·rw [if_neg c3, if_pos (by omega)]
 by_cases c2 : c = -1
 ·rw [if_pos c2, key true (by simp [c2])]
 ·rw [if_neg c2, key _ (by simp [c2])]
end Go.Proofs.Ytmniglgahodghaa.Pure
namespace Go.Proofs.Ytmniglgahodghaa.Pure
open Go.RowKit Go.Proofs.Ytmniglgahodghaa.K Go.Proofs.YtmniglgahodghaaW.PrintWords Go.Proofs.YtmniglgahodghaaW.PrintLast Go.Proofs.YtmniglgahodghaaW.PrintMore
set_option linter.unusedVariables false
set_option linter.unusedSimpArgs false
theorem all_drop (fs : List Int) (P : Int → Bool) (i : Nat) (h : i < fs.length) : (fs.drop i).all P = (P (fs.getD i 0) && (fs.drop (i + 1)).all P) := by
  rw [drop_getD fs i 0 h, List.all_cons]
theorem spec_l2Field_eq (cs : Cs) (t : Int) (hl : cs.length ≤ 1000) : spec_l2Field.f cs t = some (fldOk cs.length t) := by
 unfold spec_l2Field.f fldOk
 by_cases c1 : t = 1
 ·rw [if_pos c1]; simp [c1]
 rw [if_neg c1]
 by_cases c2 : t = 3
 ·rw [if_pos c2]; simp [c2]
 rw [if_neg c2]
 by_cases c3 : t = 4
 ·rw [if_pos c3]; simp [c3]
 rw [if_neg c3, wrap64_of (n := 8 + (cs.length : Int)) (by omega) (by omega), wrap64_of (by omega) (by omega), spec_l6In_eq]
 simp only [Option.bind_some, Option.some.injEq]
 rw [Bool.eq_iff_iff]; simp only [decide_eq_true_eq]; omega
def clsTail (cs : Cs) (i su : Int) (fs : List Int) : Bool :=
  if i = 0 then decide (su = -1 ∧ fs = []) else if i = 1 then decide (su = 0 ∧ fs = [1]) else decide ((0 ≤ su ∧ su < i) ∧ fs.length ≤ 2)
theorem len_nil (fs : List Int) : ((fs.length : Int) == 0) = decide (fs = []) := by cases fs <;> simp; omega
theorem spec_l2Class_l0 (cs : Cs) (c su : Int) (fs : List Int) (hl : cs.length ≤ 1000) (hf : fs.length ≤ 140737488355328) (hc : 0 ≤ c ∧ c < 1000) (d : Nat) : ∀ (k i : Nat), i ≤ fs.length → fs.length - i = d → d < k →
  spec_l2Class.l0 k cs c i su fs = some ((fs.drop i).all (fldOk cs.length) && clsTail cs c su fs) := by
 induction d with
 | zero =>
  intro k i hi hd hk
  obtain ⟨k, rfl⟩ : ∃ m, k = m + 1 := ⟨k - 1, by omega⟩
  have : i = fs.length := by omega
  subst this
  simp only [spec_l2Class.l0]
  rw [if_neg (by omega), List.drop_length]
  simp only [List.all_nil, Bool.true_and]
  unfold clsTail
  by_cases c0 : c = 0
  ·rw [if_pos c0, if_pos c0]
   by_cases s0 : su = -1
   ·rw [if_pos s0, len_nil]; simp [s0]
   ·rw [if_neg s0]; simp [s0]
  rw [if_neg c0, if_neg c0]
  by_cases c1 : c = 1
  ·rw [if_pos c1, if_pos c1]
   by_cases s0 : su = 0
   ·rw [if_pos s0]
    by_cases l1 : (fs.length : Int) = 1
    ·rw [if_pos l1, if_pos (by omega)]
     obtain ⟨x, rfl⟩ := List.length_eq_one_iff.1 (show fs.length = 1 by omega)
     by_cases e : x = 1
     ·simp [rd, s0, e]
     ·simp [rd, s0, e]
    ·rw [if_neg l1]
     have : fs ≠ [1] := fun e => l1 (by rw [e]; rfl)
     simp [this]
   ·rw [if_neg s0]; simp [s0]
  rw [if_neg c1, if_neg c1, wrap64_of (by omega) (by omega), spec_l6In_eq]
  simp only [Option.bind_some, decide_eq_true_eq]
  by_cases z : 0 ≤ su ∧ su ≤ c - 1
  ·rw [if_pos z]
   congr 1
   rw [Bool.eq_iff_iff]; simp only [decide_eq_true_eq]; omega
  ·rw [if_neg z]
   congr 1
   rw [Bool.eq_iff_iff]; simp only [decide_eq_true_eq, Bool.false_eq_true, false_iff]; omega
 | succ d ih =>
  intro k i hi hd hk
  obtain ⟨k, rfl⟩ : ∃ m, k = m + 1 := ⟨k - 1, by omega⟩
  simp only [spec_l2Class.l0]
  rw [if_pos (by omega), if_pos (by omega), spec_l2Field_eq cs _ hl, rd_cast, all_drop fs _ i (by omega)]
  simp only [Option.bind_some]
  cases hq : fldOk cs.length (fs.getD i 0) with
  | false => simp
  | true =>
   simp only [if_true, Bool.true_and]
   rw [wrap_inc (n := fs.length) (by omega) (by omega) (by omega), show ((i : Int) + 1) = ((i + 1 : Nat) : Int) from by omega]
   exact ih k (i + 1) (by omega) (by omega) (by omega)
def fewF (cs : Cs) : Prop := ∀ i : Int, (flds cs i).length ≤ 1048576
theorem spec_l2Class_eq {cs : Cs} (hl : cs.length ≤ 1000) (hf : fewF cs) {i : Int} (h0 : 0 ≤ i) (h1 : i < cs.length) (k : Nat) (hk : 1048577 ≤ k) : spec_l2Class.f k cs i = some (clsOk cs i) := by
 unfold spec_l2Class.f
 rw [if_pos h0, if_pos h1]
 have := hf i
 have e := spec_l2Class_l0 cs i (sup cs i) (flds cs i) hl (by omega) ⟨h0, by omega⟩ (flds cs i).length k 0 (by omega) (by omega) (by omega)
 have e2 : spec_l2Class.l0 k cs i 0 (sup cs i) (flds cs i) = some (clsOk cs i) := by
  rw [show ((0 : Nat) : Int) = 0 from rfl] at e
  rw [e, List.drop_zero]
  unfold clsOk clsTail
  by_cases c0 : i = 0
  ·subst c0; rfl
  by_cases c1 : i = 1
  ·subst c1; rfl
  rw [if_neg c0, if_neg c1, if_neg c0, if_neg c1]
 exact e2
theorem range_all_drop (n i : Nat) (P : Nat → Bool) (h : i < n) : ((List.range n).drop i).all P = (P i && ((List.range n).drop (i + 1)).all P) := by
  rw [List.drop_eq_getElem_cons (by simpa using h), List.all_cons]; simp
theorem spec_ClassesOk_l0 {cs : Cs} (hl : cs.length ≤ 1000) (hf : fewF cs) (d : Nat) : ∀ (k i : Nat), i ≤ cs.length → cs.length - i = d → d + 1048577 ≤ k →
  spec_ClassesOk.l0 k cs i = some (((List.range cs.length).drop i).all (fun j : Nat => clsOk cs j)) := by
 induction d with
 | zero =>
  intro k i hi hd hk
  obtain ⟨k, rfl⟩ : ∃ m, k = m + 1 := ⟨k - 1, by omega⟩
  have : i = cs.length := by omega
  subst this
  simp only [spec_ClassesOk.l0]
  rw [if_neg (by omega), List.drop_of_length_le (by simp)]
  rfl
 | succ d ih =>
  intro k i hi hd hk
  obtain ⟨k, rfl⟩ : ∃ m, k = m + 1 := ⟨k - 1, by omega⟩
  simp only [spec_ClassesOk.l0]
  rw [if_pos (by omega), spec_l2Class_eq hl hf (by omega) (by omega) k (by omega), range_all_drop _ _ _ (by omega)]
  simp only [Option.bind_some]
  cases hq : clsOk cs i with
  | false => simp
  | true =>
   simp only [if_true, Bool.true_and]
   rw [wrap_inc (n := cs.length) (by omega) (by omega) (by omega), show ((i : Int) + 1) = ((i + 1 : Nat) : Int) from by omega]
   exact ih k (i + 1) (by omega) (by omega) (by omega)
theorem spec_ClassesOk_eq {cs : Cs} (hf : fewF cs) (k : Nat) (hk : 2000000 ≤ k) : spec_ClassesOk.f k cs = some (csOk cs) := by
 unfold spec_ClassesOk.f csOk
 rw [spec_l6In_eq]
 simp only [Option.bind_some, decide_eq_true_eq]
 by_cases hl : (2 : Int) ≤ cs.length ∧ (cs.length : Int) ≤ 5
 ·rw [if_pos hl, show decide (2 ≤ cs.length ∧ cs.length ≤ 5) = true from decide_eq_true (by omega)]
  have := spec_ClassesOk_l0 (cs := cs) (by omega) hf cs.length k 0 (by omega) (by omega) (by omega)
  rw [show ((0 : Nat) : Int) = 0 from rfl] at this
  rw [this, List.drop_zero, Bool.true_and]
 ·rw [if_neg hl, show decide (2 ≤ cs.length ∧ cs.length ≤ 5) = false from decide_eq_false (by omega), Bool.false_and]
theorem impl_fieldType_eq (cs : Cs) (t : Int) (hl : cs.length ≤ 1000) : impl_fieldType.f cs.length t = some (fldOk cs.length t) := by
 unfold impl_fieldType.f kOk fldOk
 rw [if_pos (by omega)]
 congr 1
 rw [Bool.eq_iff_iff]; simp only [Bool.and_eq_true, decide_eq_true_eq]; omega
def clsQ (cs : Cs) (i : Int) : Bool := (decide (i ≤ 1) || decide (0 ≤ sup cs i ∧ sup cs i < i)) && (decide ((flds cs i).length ≤ 2) && (flds cs i).all (fldOk cs.length))
theorem impl_ClassesOk_l1 (cs : Cs) (hl : cs.length ≤ 1000) (i : Nat) (hi : i < 1000) (fs : List Int) (hf : fs.length ≤ 2) (R : Bool) (K : Nat) (hR : ∀ k, K ≤ k → impl_ClassesOk.l0 k cs cs cs.length ((i + 1 : Nat) : Int) = some R) (d : Nat) : ∀ (k j : Nat), j ≤ fs.length → fs.length - j = d → K + d + 1 ≤ k →
  impl_ClassesOk.l1 k cs cs cs.length i fs fs.length j = some ((fs.drop j).all (fldOk cs.length) && R) := by
 induction d with
 | zero =>
  intro k j hj hd hk
  obtain ⟨k, rfl⟩ : ∃ m, k = m + 1 := ⟨k - 1, by omega⟩
  have : j = fs.length := by omega
  subst this
  simp only [impl_ClassesOk.l1]
  rw [if_neg (by omega), List.drop_length, wrap_inc (n := 1000) (by omega) (by omega) (by omega), show ((i : Int) + 1) = ((i + 1 : Nat) : Int) from by omega, hR k (by omega)]
  simp
 | succ d ih =>
  intro k j hj hd hk
  obtain ⟨k, rfl⟩ : ∃ m, k = m + 1 := ⟨k - 1, by omega⟩
  simp only [impl_ClassesOk.l1]
  rw [if_pos (by omega), if_pos (by omega), if_pos (by omega), rd_cast, impl_fieldType_eq cs _ hl, all_drop fs _ j (by omega)]
  simp only [Option.bind_some]
  cases hq : fldOk cs.length (fs.getD j 0) with
  | false => simp
  | true =>
   simp only [if_true, Bool.true_and]
   rw [wrap_inc (n := fs.length) (by omega) (by omega) (by omega), show ((j : Int) + 1) = ((j + 1 : Nat) : Int) from by omega]
   exact ih k (j + 1) (by omega) (by omega) (by omega)
theorem impl_ClassesOk_l0 (cs : Cs) (hl : cs.length ≤ 5) (d : Nat) : ∀ (i : Nat), i ≤ cs.length → cs.length - i = d → ∀ k, 10 * d + 10 ≤ k →
  impl_ClassesOk.l0 k cs cs cs.length i = some (((List.range cs.length).drop i).all (fun j : Nat => clsQ cs j)) := by
 induction d with
 | zero =>
  intro i hi hd k hk
  obtain ⟨k, rfl⟩ : ∃ m, k = m + 1 := ⟨k - 1, by omega⟩
  have : i = cs.length := by omega
  subst this
  simp only [impl_ClassesOk.l0]
  rw [if_neg (by omega), List.drop_of_length_le (by simp)]
  rfl
 | succ d ih =>
  intro i hi hd k hk
  obtain ⟨k, rfl⟩ : ∃ m, k = m + 1 := ⟨k - 1, by omega⟩
  obtain ⟨k, rfl⟩ : ∃ m, k = m + 1 := ⟨k - 1, by omega⟩
  rw [range_all_drop _ _ _ (by omega)]
  have hj : impl_ClassesOk.j4 (k + 1) cs cs cs.length i false (sup cs i) (flds cs i) = some (decide ((flds cs i).length ≤ 2) && ((flds cs i).all (fldOk cs.length) && ((List.range cs.length).drop (i + 1)).all (fun j : Nat => clsQ cs j))) := by
   simp only [impl_ClassesOk.j4]
   rw [if_neg (by simp)]
   by_cases h2 : ((flds cs i).length : Int) > 2
   ·rw [if_pos h2, decide_eq_false (by omega)]; rfl
   ·rw [if_neg h2, decide_eq_true (show (flds cs i).length ≤ 2 by omega), Bool.true_and]
    have := impl_ClassesOk_l1 cs (by omega) i (by omega) (flds cs i) (by omega) _ (10 * d + 10) (fun k hk => ih (i + 1) (by omega) (by omega) k hk) (flds cs i).length k 0 (by omega) (by omega) (by omega)
    rw [show ((0 : Nat) : Int) = 0 from rfl, List.drop_zero] at this
    exact this
  have hjt : impl_ClassesOk.j4 (k + 1) cs cs cs.length i true (sup cs i) (flds cs i) = some false := by simp [impl_ClassesOk.j4]
  simp only [impl_ClassesOk.l0]
  rw [if_pos (by omega), if_pos (by omega), if_pos (by omega)]
  rw [show (rd_T69 cs (i : Int)).f0 = sup cs i from rfl, show (rd_T69 cs (i : Int)).f1 = flds cs i from rfl]
  have hQ : clsQ cs i = ((decide ((i : Int) ≤ 1) || decide (0 ≤ sup cs i ∧ sup cs i < i)) && (decide ((flds cs i).length ≤ 2) && (flds cs i).all (fldOk cs.length))) := rfl
  rw [hQ]
  generalize ((List.range cs.length).drop (i + 1)).all (fun j : Nat => clsQ cs j) = T at *
  by_cases h1 : (i : Int) > 1
  ·rw [if_pos h1]
   by_cases hs : sup cs i < 0
   ·rw [if_pos hs, hjt, decide_eq_false (show ¬ (i : Int) ≤ 1 by omega), decide_eq_false (show ¬ (0 ≤ sup cs i ∧ sup cs i < i) by omega)]; rfl
   ·rw [if_neg hs]
    by_cases hs2 : sup cs i ≥ i
    ·rw [decide_eq_true hs2, hjt, decide_eq_false (show ¬ (i : Int) ≤ 1 by omega), decide_eq_false (show ¬ (0 ≤ sup cs i ∧ sup cs i < i) by omega)]; rfl
    ·rw [decide_eq_false hs2, hj, decide_eq_true (show (0 ≤ sup cs i ∧ sup cs i < i) by omega)]
     simp [Bool.and_assoc]
  ·rw [if_neg h1, hj, decide_eq_true (show (i : Int) ≤ 1 by omega)]
   simp [Bool.and_assoc]
theorem impl_ClassesOk_eq (cs : Cs) (k : Nat) (hk : 1000 ≤ k) : impl_ClassesOk.f k cs = some (csOk cs) := by
 obtain ⟨k, rfl⟩ : ∃ m, k = m + 1 := ⟨k - 1, by omega⟩
 obtain ⟨k, rfl⟩ : ∃ m, k = m + 1 := ⟨k - 1, by omega⟩
 obtain ⟨k, rfl⟩ : ∃ m, k = m + 1 := ⟨k - 1, by omega⟩
 unfold impl_ClassesOk.f
 by_cases h2 : (cs.length : Int) < 2
 ·rw [if_pos h2]
  simp only [impl_ClassesOk.j0, if_true]
  unfold csOk
  rw [decide_eq_false (by omega), Bool.false_and]
 rw [if_neg h2]
 by_cases h5 : (cs.length : Int) > 5
 ·rw [decide_eq_true h5]
  simp only [impl_ClassesOk.j0, if_true]
  unfold csOk
  rw [decide_eq_false (by omega), Bool.false_and]
 rw [decide_eq_false h5]
 have no : ∀ i : Int, 0 ≤ i → i < cs.length → clsOk cs i = false → csOk cs = false := by
  intro i h0 h1 hc
  cases hq : csOk cs with
  | false => rfl
  | true => rw [csOk_at hq h0 h1] at hc; cases hc
 simp only [impl_ClassesOk.j0, Bool.false_eq_true, if_false]
 rw [if_pos (by omega)]
 rw [show (rd_T69 cs 0).f0 = sup cs 0 from rfl, show (rd_T69 cs 0).f1 = flds cs 0 from rfl]
 by_cases r0 : sup cs 0 = -1
 case neg =>
  rw [if_neg r0]
  simp only [impl_ClassesOk.j1, if_true]
  rw [no 0 (by omega) (by omega) (by unfold clsOk; simp [r0])]
 rw [if_pos r0]
 by_cases f0 : flds cs 0 = []
 case neg =>
  have : (((flds cs 0).length : Int) != 0) = true := by
   cases hq : flds cs 0 with
   | nil => exact absurd hq f0
   | cons x t => simp; omega
  rw [this]
  simp only [impl_ClassesOk.j1, if_true]
  rw [no 0 (by omega) (by omega) (by unfold clsOk; simp [f0])]
 rw [show (((flds cs 0).length : Int) != 0) = false by rw [f0]; rfl]
 simp only [impl_ClassesOk.j1, Bool.false_eq_true, if_false]
 rw [if_pos (by omega)]
 rw [show (rd_T69 cs 1).f0 = sup cs 1 from rfl, show (rd_T69 cs 1).f1 = flds cs 1 from rfl]
 have n1 : ¬ (sup cs 1 = 0 ∧ flds cs 1 = [1]) → csOk cs = false := fun z => no 1 (by omega) (by omega) (by unfold clsOk; rw [if_neg (by omega), if_pos rfl, decide_eq_false z, Bool.and_false])
 by_cases r1 : sup cs 1 = 0
 case neg =>
  rw [if_neg r1]
  simp only [impl_ClassesOk.j2, if_true]
  rw [n1 (fun z => r1 z.1)]
 rw [if_pos r1]
 by_cases l1 : ((flds cs 1).length : Int) = 1
 case neg =>
  rw [if_neg l1]
  simp only [impl_ClassesOk.j2, if_true]
  rw [n1 (fun z => l1 (by rw [z.2]; rfl))]
 rw [if_pos l1, if_pos (by omega)]
 obtain ⟨x, hx⟩ := List.length_eq_one_iff.1 (show (flds cs 1).length = 1 by omega)
 by_cases e1 : x = 1
 case neg =>
  rw [show (rd (flds cs 1) 0 != 1) = true by rw [hx]; simp [rd, e1]]
  simp only [impl_ClassesOk.j2, if_true]
  rw [n1 (fun z => e1 (by rw [hx] at z; simpa using z.2))]
 rw [show (rd (flds cs 1) 0 != 1) = false by rw [hx]; simp [rd, e1]]
 simp only [impl_ClassesOk.j2, Bool.false_eq_true, if_false]
 have := impl_ClassesOk_l0 cs (by omega) cs.length 0 (by omega) (by omega) k (by omega)
 rw [show ((0 : Nat) : Int) = 0 from rfl, List.drop_zero] at this
 rw [this]
 congr 1
 unfold csOk
 rw [decide_eq_true (show 2 ≤ cs.length ∧ cs.length ≤ 5 by omega), Bool.true_and, Bool.eq_iff_iff]
 simp only [List.all_eq_true, List.mem_range]
 refine forall_congr' fun i => forall_congr' fun hi => ?_
 unfold clsQ clsOk
 simp only [Bool.and_eq_true, Bool.or_eq_true, decide_eq_true_eq]
 by_cases i0 : (i : Int) = 0
 ·rw [i0, if_pos rfl, decide_eq_true_eq, r0, f0]; simp
 by_cases i1 : (i : Int) = 1
 ·rw [i1, if_neg (by omega), if_pos rfl, decide_eq_true_eq, r1, hx, e1]; simp
 rw [if_neg i0, if_neg i1, decide_eq_true_eq]
 constructor
 ·rintro ⟨h1 | h1, h3, h4⟩
  ·omega
  ·exact ⟨h4, h1, h3⟩
 ·rintro ⟨h4, h1, h3⟩
  exact ⟨Or.inr h1, h3, h4⟩
end Go.Proofs.Ytmniglgahodghaa.Pure
namespace Go.Proofs.Ytmniglgahodghaa.Pure
open Go.RowKit Go.Proofs.Ytmniglgahodghaa.K Go.Proofs.YtmniglgahodghaaW.PrintWords Go.Proofs.YtmniglgahodghaaW.PrintLast Go.Proofs.YtmniglgahodghaaW.PrintMore
set_option linter.unusedVariables false
set_option linter.unusedSimpArgs false
theorem rdB_cast (xs : List Bool) (i : Nat) : rdOf false xs (i : Int) = xs.getD i false := by simp [rdOf]
theorem eqBoolS_l0 (xs ys : List Bool) (hl : xs.length = ys.length) (hb : xs.length ≤ 140737488355328) (d : Nat) : ∀ (k : Nat) (i : Nat), i ≤ xs.length → xs.length - i = d → d < k →
  laws_eqBoolS.l0 k xs ys i = some (decide (xs.drop i = ys.drop i)) := by
 induction d with
 | zero =>
  intro k i hi hd hk
  obtain ⟨k, rfl⟩ : ∃ m, k = m + 1 := ⟨k - 1, by omega⟩
  have : i = xs.length := by omega
  subst this
  simp only [laws_eqBoolS.l0]
  rw [if_neg (by omega)]
  simp [hl]
 | succ d ih =>
  intro k i hi hd hk
  obtain ⟨k, rfl⟩ : ∃ m, k = m + 1 := ⟨k - 1, by omega⟩
  simp only [laws_eqBoolS.l0]
  rw [if_pos (by omega), if_pos (by omega), if_pos (by omega), wrap_inc (n := xs.length) (by omega) (by omega) (by omega), rdB_cast, rdB_cast, drop_getD xs i false (by omega), drop_getD ys i false (by omega)]
  by_cases h : xs.getD i false = ys.getD i false
  ·rw [if_neg (by rw [h]; simp)]
   have := ih k (i + 1) (by omega) (by omega) (by omega)
   rw [show ((i : Int) + 1) = ((i + 1 : Nat) : Int) from by omega, this]
   simp only [List.cons.injEq, h, true_and]
  ·rw [if_pos (by simpa using h)]
   simp only [List.cons.injEq, h, false_and, decide_false]
theorem eqBoolS_ev (xs ys : List Bool) (hb : xs.length ≤ 140737488355328) : Ev (fun k => laws_eqBoolS.f k xs ys) (decide (xs = ys)) := by
 by_cases hl : xs.length = ys.length
 ·refine Ev.of (k := xs.length + 1) (laws_eqBoolS.mono xs ys) ?_
  simp only [laws_eqBoolS.f]
  rw [if_pos (by omega)]
  have := eqBoolS_l0 xs ys hl hb xs.length (xs.length + 1) 0 (by omega) (by omega) (by omega)
  simpa using this
 ·refine Ev.of (k := 0) (laws_eqBoolS.mono xs ys) ?_
  simp only [laws_eqBoolS.f]
  rw [if_neg (by omega)]
  have : xs ≠ ys := fun h => hl (by rw [h])
  simp [this]
end Go.Proofs.Ytmniglgahodghaa.Pure
namespace Go.Proofs.Ytmniglgahodghaa.Pure
open Go.RowKit Go.Proofs.Ytmniglgahodghaa.K Go.Proofs.YtmniglgahodghaaW.PrintWords Go.Proofs.YtmniglgahodghaaW.PrintLast Go.Proofs.YtmniglgahodghaaW.PrintMore
set_option linter.unusedVariables false
set_option linter.unusedSimpArgs false
theorem eqIntS_l0 (xs ys : List Int) (hl : xs.length = ys.length) (hb : xs.length ≤ 140737488355328) (d : Nat) : ∀ (k : Nat) (i : Nat), i ≤ xs.length → xs.length - i = d → d < k →
  laws_eqIntS.l0 k xs ys i = some (decide (xs.drop i = ys.drop i)) := by
 induction d with
 | zero =>
  intro k i hi hd hk
  obtain ⟨k, rfl⟩ : ∃ m, k = m + 1 := ⟨k - 1, by omega⟩
  have : i = xs.length := by omega
  subst this
  simp only [laws_eqIntS.l0]
  rw [if_neg (by omega)]
  simp [hl]
 | succ d ih =>
  intro k i hi hd hk
  obtain ⟨k, rfl⟩ : ∃ m, k = m + 1 := ⟨k - 1, by omega⟩
  simp only [laws_eqIntS.l0]
  rw [if_pos (by omega), if_pos (by omega), if_pos (by omega), wrap_inc (n := xs.length) (by omega) (by omega) (by omega), rd_cast, rd_cast, drop_getD xs i 0 (by omega), drop_getD ys i 0 (by omega)]
  by_cases h : xs.getD i 0 = ys.getD i 0
  ·rw [if_pos h]
   have := ih k (i + 1) (by omega) (by omega) (by omega)
   rw [show ((i : Int) + 1) = ((i + 1 : Nat) : Int) from by omega, this]
   simp only [List.cons.injEq, h, true_and]
  ·rw [if_neg h]
   simp only [List.cons.injEq, h, false_and, decide_false]
theorem eqIntS_ev (xs ys : List Int) (hb : xs.length ≤ 140737488355328) : Ev (fun k => laws_eqIntS.f k xs ys) (decide (xs = ys)) := by
 by_cases hl : xs.length = ys.length
 ·refine Ev.of (k := xs.length + 1) (laws_eqIntS.mono xs ys) ?_
  simp only [laws_eqIntS.f]
  rw [if_pos (by omega)]
  have := eqIntS_l0 xs ys hl hb xs.length (xs.length + 1) 0 (by omega) (by omega) (by omega)
  simpa using this
 ·refine Ev.of (k := 0) (laws_eqIntS.mono xs ys) ?_
  simp only [laws_eqIntS.f]
  rw [if_neg (by omega)]
  have : xs ≠ ys := fun h => hl (by rw [h])
  simp [this]
end Go.Proofs.Ytmniglgahodghaa.Pure
namespace Go.Proofs.Ytmniglgahodghaa.Pure
open Go.RowKit Go.Proofs.Ytmniglgahodghaa.K Go.Proofs.YtmniglgahodghaaW.PrintWords Go.Proofs.YtmniglgahodghaaW.PrintLast Go.Proofs.YtmniglgahodghaaW.PrintMore
set_option linter.unusedVariables false
set_option linter.unusedSimpArgs false
theorem eqMem_ev (x0 : List Int) (x1 x2 x3 : Int) (x4 : List Bool) (y0 : List Int) (y1 y2 y3 : Int) (y4 : List Bool) (h0 : x0.length ≤ 140737488355328) (h4 : x4.length ≤ 140737488355328) :
  Ev (fun k => laws_eqMem.f k x0 x1 x2 x3 x4 y0 y1 y2 y3 y4) (decide (x0 = y0 ∧ x1 = y1 ∧ x2 = y2 ∧ x3 = y3 ∧ x4 = y4)) := by
 simp only [laws_eqMem.f]
 refine (eqIntS_ev x0 y0 h0).bind ?_
 by_cases e0 : x0 = y0
 ·simp only [e0, decide_true, if_true, true_and]
  by_cases e1 : x1 = y1
  ·simp only [e1, if_true, true_and]
   by_cases e2 : x2 = y2
   ·simp only [e2, if_true, true_and]
    by_cases e3 : x3 = y3
    ·simp only [e3, if_true, true_and]
     refine (eqBoolS_ev x4 y4 h4).bind ?_
     by_cases e4 : x4 = y4
     ·simp only [e4, decide_true, if_true]; exact Ev.now _
     ·simp only [e4, decide_false, if_false, Bool.false_eq_true]; exact Ev.now _
    ·simp only [e3, if_false, false_and, decide_false]; exact Ev.now _
   ·simp only [e2, if_false, false_and, decide_false]; exact Ev.now _
  ·simp only [e1, if_false, false_and, decide_false]; exact Ev.now _
 ·simp only [e0, decide_false, if_false, Bool.false_eq_true, false_and]; exact Ev.now _
end Go.Proofs.Ytmniglgahodghaa.Pure
namespace Go.Proofs.Ytmniglgahodghaa.Pure
open Go.RowKit Go.Proofs.Ytmniglgahodghaa.K Go.Proofs.YtmniglgahodghaaW.PrintWords Go.Proofs.YtmniglgahodghaaW.PrintLast Go.Proofs.YtmniglgahodghaaW.PrintMore
set_option linter.unusedVariables false
set_option linter.unusedSimpArgs false
abbrev Ls := List S56
def toC (c : S56) : S69 := ⟨c.f0, c.f1⟩
def toCs (l : Ls) : Cs := l.map toC
theorem toIntS_l0 (d : Nat) : ∀ (k : Nat) (pre post : List Int) (xs : List Int), xs.length = pre.length + post.length → xs.take pre.length = pre → post.length = d → d < k → pre.length + d ≤ 140737488355328 →
  laws_toIntS.l0 k xs (pre ++ post) (pre.length : Int) = some xs := by
 induction d with
 | zero =>
  intro k pre post xs hl ht hd hk hc
  obtain ⟨k, rfl⟩ : ∃ m, k = m + 1 := ⟨k - 1, by omega⟩
  obtain rfl : post = [] := List.eq_nil_of_length_eq_zero hd
  simp only [laws_toIntS.l0]
  simp only [List.length_nil, Nat.add_zero] at hl
  rw [if_neg (by omega)]
  rw [← hl, List.take_length] at ht
  rw [ht]; simp
 | succ d ih =>
  intro k pre post xs hl ht hd hk hc
  obtain ⟨k, rfl⟩ : ∃ m, k = m + 1 := ⟨k - 1, by omega⟩
  obtain ⟨x, post, rfl⟩ : ∃ x t, post = x :: t := by cases post with | nil => simp at hd | cons x t => exact ⟨x, t, rfl⟩
  simp only [List.length_cons] at hl hd
  simp only [laws_toIntS.l0]
  rw [if_pos (by omega), if_pos (by omega), if_pos (by simp only [List.length_append, List.length_cons]; omega), wrap_inc (n := 4611686018427387904) (by omega) (by omega) (by omega)]
  have e : (pre ++ x :: post).set ((pre.length : Int).toNat) (rd xs pre.length) = (pre ++ [rd xs pre.length]) ++ post := by simp
  rw [e]
  have := ih k (pre ++ [rd xs pre.length]) post xs (by simp only [List.length_append, List.length_cons, List.length_nil]; omega) (by
   rw [List.length_append, List.length_singleton, List.take_succ_eq_append_getElem (by omega), ht, rd_cast]
   simp [List.getD_eq_getElem?_getD, show pre.length < xs.length by omega]) (by omega) (by omega) (by simp only [List.length_append, List.length_cons, List.length_nil]; omega)
  rw [show ((pre.length : Int) + 1) = (((pre ++ [rd xs pre.length]).length : Nat) : Int) from by simp, this]
theorem toIntS_eq (xs : List Int) (hx : xs.length ≤ 35184372088832) (k : Nat) (hk : xs.length < k) : laws_toIntS.f k xs = some xs := by
 unfold laws_toIntS.f
 rw [if_pos (by omega), if_pos (by omega), Int.toNat_natCast]
 have := toIntS_l0 xs.length k [] (List.replicate xs.length 0) xs (by simp) (by simp) (by simp) hk (by simp; omega)
 simpa using this
def fewL (l : Ls) : Prop := ∀ c ∈ l, c.f1.length ≤ 1048576
theorem toClassS_l0 (d : Nat) : ∀ (k : Nat) (l : Ls) (pre : Cs) (post : Cs), l.length = pre.length + post.length → (l.take pre.length).map toC = pre → post.length = d → d + 1048578 ≤ k → fewL l → pre.length + d ≤ 140737488355328 →
  laws_toClassS.l0 k l (pre ++ post) (pre.length : Int) = some (toCs l) := by
 induction d with
 | zero =>
  intro k l pre post hl ht hd hk hf hc
  obtain ⟨k, rfl⟩ : ∃ m, k = m + 1 := ⟨k - 1, by omega⟩
  obtain rfl : post = [] := List.eq_nil_of_length_eq_zero hd
  simp only [laws_toClassS.l0]
  simp only [List.length_nil, Nat.add_zero] at hl
  rw [if_neg (by omega)]
  rw [← hl, List.take_length] at ht
  unfold toCs
  rw [ht]; simp
 | succ d ih =>
  intro k l pre post hl ht hd hk hf hc
  obtain ⟨k, rfl⟩ : ∃ m, k = m + 1 := ⟨k - 1, by omega⟩
  obtain ⟨x, post, rfl⟩ : ∃ x t, post = x :: t := by cases post with | nil => simp at hd | cons x t => exact ⟨x, t, rfl⟩
  simp only [List.length_cons] at hl hd
  have hlt : pre.length < l.length := by omega
  have hrd : rd_T56 l pre.length = l[pre.length] := by simp [rd_T56, List.getD_eq_getElem?_getD, hlt]
  have hfl := hf l[pre.length] (List.getElem_mem _)
  simp only [laws_toClassS.l0, laws_toClass.f]
  rw [if_pos (by omega), if_pos (by omega), hrd, toIntS_eq _ (by omega) k (by omega)]
  simp only [Option.bind_some]
  rw [if_pos (by simp only [List.length_append, List.length_cons]; omega), wrap_inc (n := 4611686018427387904) (by omega) (by omega) (by omega)]
  have e : (pre ++ x :: post).set ((pre.length : Int).toNat) (toC l[pre.length]) = (pre ++ [toC l[pre.length]]) ++ post := by simp
  show laws_toClassS.l0 k l ((pre ++ x :: post).set ((pre.length : Int).toNat) (toC l[pre.length])) _ = _
  rw [e]
  have := ih k l (pre ++ [toC l[pre.length]]) post (by simp only [List.length_append, List.length_cons, List.length_nil]; omega) (by
   rw [List.length_append, List.length_singleton, List.take_succ_eq_append_getElem hlt, List.map_append, ht]; simp) (by omega) (by omega) hf (by simp only [List.length_append, List.length_cons, List.length_nil]; omega)
  rw [show ((pre.length : Int) + 1) = (((pre ++ [toC l[pre.length]]).length : Nat) : Int) from by simp, this]
theorem toClassS_eq (l : Ls) (hf : fewL l) (hl : l.length ≤ 1048576) (k : Nat) (hk : 4000000 ≤ k) : laws_toClassS.f k l = some (toCs l) := by
 unfold laws_toClassS.f
 rw [if_pos (by omega), if_pos (by omega), Int.toNat_natCast]
 have := toClassS_l0 l.length k l [] (List.replicate l.length z69) (by simp) (by simp) (by simp) (by omega) hf (by simp; omega)
 simpa using this
theorem szIntS_eq (xs : List Int) (a : Int) (h : xs.length ≤ 9223372036854775807) (ha : 0 ≤ a ∧ a ≤ 1048576) : laws_szIntS.f xs a = some (if (xs.length : Int) ≤ a then a - xs.length else -1) := by
 unfold laws_szIntS.f
 rw [wrap64_of (by omega) (by omega)]
 by_cases q : (xs.length : Int) ≤ a
 ·rw [if_neg (by omega), if_pos q]
 ·rw [if_pos (by omega), if_neg q]
theorem szClass_eq (s : Int) (xs : List Int) (a : Int) (h : xs.length ≤ 9223372036854775807) (ha : 0 ≤ a ∧ a ≤ 1048576) : laws_szClass.f s xs a = some (if (xs.length : Int) ≤ a then a - xs.length else -1) := by
 unfold laws_szClass.f
 rw [szIntS_eq xs a h ha]
 simp only [Option.bind_some]
 split
 ·rw [if_neg (by omega)]
 ·rw [if_pos (by omega)]
theorem szClassS_l0 (l : Ls) (hg : ∀ c ∈ l, c.f1.length ≤ 9223372036854775807) (hl : l.length ≤ 1048576) (d : Nat) : ∀ (i : Nat) (a : Int) (k : Nat), i ≤ l.length → l.length - i = d → 0 ≤ a ∧ a ≤ 1048576 → d < k →
  ∃ r, laws_szClassS.l0 k l a i = some r ∧ r ≤ 1048576 ∧ (0 ≤ r → ∀ j : Nat, i ≤ j → ∀ c, l[j]? = some c → c.f1.length ≤ 1048576) := by
 induction d with
 | zero =>
  intro i a k hi hd ha hk
  obtain ⟨k, rfl⟩ : ∃ m, k = m + 1 := ⟨k - 1, by omega⟩
  refine ⟨a, ?_, ha.2, fun _ j hj c hc => ?_⟩
  ·simp only [laws_szClassS.l0]; rw [if_neg (by omega)]
  ·have := (List.getElem?_eq_some_iff.1 hc).1; omega
 | succ d ih =>
  intro i a k hi hd ha hk
  obtain ⟨k, rfl⟩ : ∃ m, k = m + 1 := ⟨k - 1, by omega⟩
  have hlt : i < l.length := by omega
  have hrd : rd_T56 l i = l[i] := by simp [rd_T56, List.getD_eq_getElem?_getD, hlt]
  simp only [laws_szClassS.l0]
  rw [if_pos (by omega), if_pos (by omega), hrd, szClass_eq _ _ a (hg _ (List.getElem_mem _)) ha]
  simp only [Option.bind_some]
  by_cases q : (l[i].f1.length : Int) ≤ a
  ·rw [if_pos q, if_neg (by omega), wrap_inc (n := l.length) (by omega) (by omega) (by omega)]
   obtain ⟨r, h1, h2, h3⟩ := ih (i + 1) (a - l[i].f1.length) k (by omega) (by omega) (by omega) (by omega)
   refine ⟨r, by rw [show ((i : Int) + 1) = ((i + 1 : Nat) : Int) from by omega]; exact h1, h2, fun hr j hj c hc => ?_⟩
   by_cases e : j = i
   ·subst e
    rw [List.getElem?_eq_getElem hlt] at hc
    obtain rfl := Option.some.inj hc
    omega
   ·exact h3 hr j (by omega) c hc
  ·rw [if_neg q, if_pos (by omega)]
   exact ⟨-1, rfl, by omega, fun hr => by omega⟩
theorem szClassS_eq (l : Ls) (hg : GL G56 l) (k : Nat) (hk : 1048578 ≤ k) : ∃ r, laws_szClassS.f k l 1048576 = some r ∧ r ≤ 1048576 ∧ (0 ≤ r → l.length ≤ 1048576 ∧ fewL l) := by
 unfold laws_szClassS.f
 have h1 := hg.1
 rw [wrap64_of (by omega) (by omega)]
 by_cases q : (1048576 : Int) - l.length < 0
 ·rw [if_pos q]; exact ⟨-1, rfl, by omega, fun h => by omega⟩
 ·rw [if_neg q]
  obtain ⟨r, h2, h3, h4⟩ := szClassS_l0 l (fun c hc => (hg.2 c hc).2.1) (by omega) l.length 0 (1048576 - l.length) k (by omega) (by omega) (by omega) (by omega)
  refine ⟨r, h2, h3, fun hr => ⟨by omega, fun c hc => ?_⟩⟩
  obtain ⟨j, hj, rfl⟩ := List.getElem_of_mem hc
  exact h4 hr j (by omega) _ (List.getElem?_eq_getElem hj)
theorem fewF_of {l : Ls} (h : fewL l) : fewF (toCs l) := by
 intro i
 unfold flds rd_T69 toCs
 rw [List.getD_eq_getElem?_getD, List.getElem?_map]
 cases hq : l[i.toNat]? with
 | none => simp [z69]
 | some c => simpa [toC] using h c (List.mem_of_getElem? hq)
theorem eqClassS_l0 (cs : Cs) (hf : fewF cs) (hl : cs.length ≤ 1048576) (d : Nat) : ∀ (i k : Nat), i ≤ cs.length → cs.length - i = d → d + 1048578 ≤ k → laws_eqClassS.l0 k cs cs i = some true := by
 induction d with
 | zero =>
  intro i k hi hd hk
  obtain ⟨k, rfl⟩ : ∃ m, k = m + 1 := ⟨k - 1, by omega⟩
  simp only [laws_eqClassS.l0]; rw [if_neg (by omega)]
 | succ d ih =>
  intro i k hi hd hk
  obtain ⟨k, rfl⟩ : ∃ m, k = m + 1 := ⟨k - 1, by omega⟩
  simp only [laws_eqClassS.l0, laws_eqClass.f]
  have hq := hf i
  have e := eqIntS_l0 (flds cs i) (flds cs i) rfl (by omega) (flds cs i).length k 0 (by omega) (by omega) (by omega)
  have e2 : laws_eqIntS.f k (rd_T69 cs i).f1 (rd_T69 cs i).f1 = some true := by
   unfold laws_eqIntS.f
   rw [if_pos rfl]
   exact e.trans (by simp)
  rw [if_pos (by omega), if_pos (by omega), if_pos (by omega)]
  simp only [if_true, e2, Option.bind_some]
  rw [wrap_inc (n := cs.length) (by omega) (by omega) (by omega), show ((i : Int) + 1) = ((i + 1 : Nat) : Int) from by omega]
  exact ih (i + 1) k (by omega) (by omega) (by omega)
theorem eqClassS_self (cs : Cs) (hf : fewF cs) (hl : cs.length ≤ 1048576) (k : Nat) (hk : 4000000 ≤ k) : laws_eqClassS.f k cs cs = some true := by
 unfold laws_eqClassS.f
 rw [if_pos rfl]
 exact eqClassS_l0 cs hf hl cs.length 0 k (by omega) (by omega) (by omega)
end Go.Proofs.Ytmniglgahodghaa.Pure
namespace Go.Proofs.Ytmniglgahodghaa.Pure
open Go.RowKit Go.Proofs.Ytmniglgahodghaa.K Go.Proofs.YtmniglgahodghaaW.PrintWords Go.Proofs.YtmniglgahodghaaW.PrintLast Go.Proofs.YtmniglgahodghaaW.PrintMore
set_option linter.unusedVariables false
set_option linter.unusedSimpArgs false
theorem toBoolS_l0 (d : Nat) : ∀ (k : Nat) (pre post : List Bool) (xs : List Bool), xs.length = pre.length + post.length → xs.take pre.length = pre → post.length = d → d < k → pre.length + d ≤ 140737488355328 →
  laws_toBoolS.l0 k xs (pre ++ post) (pre.length : Int) = some xs := by
 induction d with
 | zero =>
  intro k pre post xs hl ht hd hk hc
  obtain ⟨k, rfl⟩ : ∃ m, k = m + 1 := ⟨k - 1, by omega⟩
  obtain rfl : post = [] := List.eq_nil_of_length_eq_zero hd
  simp only [laws_toBoolS.l0]
  simp only [List.length_nil, Nat.add_zero] at hl
  rw [if_neg (by omega)]
  rw [← hl, List.take_length] at ht
  rw [ht]; simp
 | succ d ih =>
  intro k pre post xs hl ht hd hk hc
  obtain ⟨k, rfl⟩ : ∃ m, k = m + 1 := ⟨k - 1, by omega⟩
  obtain ⟨x, post, rfl⟩ : ∃ x t, post = x :: t := by cases post with | nil => simp at hd | cons x t => exact ⟨x, t, rfl⟩
  simp only [List.length_cons] at hl hd
  simp only [laws_toBoolS.l0]
  rw [if_pos (by omega), if_pos (by omega), if_pos (by simp only [List.length_append, List.length_cons]; omega), wrap_inc (n := 4611686018427387904) (by omega) (by omega) (by omega)]
  have e : (pre ++ x :: post).set ((pre.length : Int).toNat) (rdOf false xs pre.length) = (pre ++ [rdOf false xs pre.length]) ++ post := by simp
  rw [e]
  have := ih k (pre ++ [rdOf false xs pre.length]) post xs (by simp only [List.length_append, List.length_cons, List.length_nil]; omega) (by
   rw [List.length_append, List.length_singleton, List.take_succ_eq_append_getElem (by omega), ht, rdB_cast]
   simp [List.getD_eq_getElem?_getD, show pre.length < xs.length by omega]) (by omega) (by omega) (by simp only [List.length_append, List.length_cons, List.length_nil]; omega)
  rw [show ((pre.length : Int) + 1) = (((pre ++ [rdOf false xs pre.length]).length : Nat) : Int) from by simp, this]
theorem toBoolS_eq (xs : List Bool) (hx : xs.length ≤ 35184372088832) (k : Nat) (hk : xs.length < k) : laws_toBoolS.f k xs = some xs := by
 unfold laws_toBoolS.f
 rw [if_pos (by omega), if_pos (by omega), Int.toNat_natCast]
 have := toBoolS_l0 xs.length k [] (List.replicate xs.length false) xs (by simp) (by simp) (by simp) hk (by simp; omega)
 simpa using this
theorem szBoolS_eq (xs : List Bool) (a : Int) (h : xs.length ≤ 9223372036854775807) (ha : 0 ≤ a ∧ a ≤ 1048576) : laws_szBoolS.f xs a = some (if (xs.length : Int) ≤ a then a - xs.length else -1) := by
 unfold laws_szBoolS.f
 rw [wrap64_of (by omega) (by omega)]
 by_cases c : (xs.length : Int) ≤ a
 ·rw [if_neg (by omega), if_pos c]
 ·rw [if_pos (by omega), if_neg c]
theorem ev_from {α : Type} {f : Nat → Option α} {r : α} (K : Nat) (h : ∀ k, K ≤ k → f k = some r) : Ev f r := ⟨K, h⟩
theorem ev_bind_some {α β : Type} {a : α} {f : α → Nat → Option β} {r : β} (h : Ev (f a) r) : Ev (fun k => (some a).bind fun x => f x k) r := h
abbrev Ms := S26
theorem toMem_ev (M : Ms) (h0 : M.f0.length ≤ 1048576) (h4 : M.f4.length ≤ 1048576) : Ev (fun k => laws_toMem.f k M.f0 M.f1 M.f2 M.f3 M.f4) (M.f0, M.f1, M.f2, M.f3, M.f4) := by
 refine ev_from 1048577 (fun k hk => ?_)
 unfold laws_toMem.f
 rw [toIntS_eq M.f0 (by omega) k (by omega), Option.bind_some, toBoolS_eq M.f4 (by omega) k (by omega), Option.bind_some]
theorem small_ev (l : Ls) (M : Ms) (hl : GL G56 l) (hM : G26 M) {f : Nat → Option Bool}
  (h : l.length ≤ 1048576 → fewL l → M.f0.length ≤ 1048576 → M.f4.length ≤ 1048576 → Ev f true) :
  Ev (fun k => (laws_szClassS.f k l 1048576).bind fun t => if t < 0 then some true else ((laws_szMem.f M.f0 M.f1 M.f2 M.f3 M.f4 t).bind fun t2 => if t2 < 0 then some true else f k)) true := by
 obtain ⟨r, hr, r1, r2⟩ := szClassS_eq l hl 1048578 (Nat.le_refl _)
 have e1 : ∀ k, 1048578 ≤ k → laws_szClassS.f k l 1048576 = some r := fun k hk => at_rounds (g := fun k => laws_szClassS.f k l 1048576) (fun k => laws_szClassS.mono l 1048576 k) hk hr
 refine (ev_from 1048578 e1).bind ?_
 by_cases c : r < 0
 ·exact evp c (Ev.now _)
 refine evn c ?_
 obtain ⟨q1, q2⟩ := r2 (by omega)
 have g0 := hM.1.1
 have g4 := hM.2.2.2.2.1
 have e2 : laws_szMem.f M.f0 M.f1 M.f2 M.f3 M.f4 r = some (if (M.f0.length : Int) ≤ r then (if (M.f4.length : Int) ≤ r - M.f0.length then r - M.f0.length - M.f4.length else -1) else -1) := by
  unfold laws_szMem.f
  rw [szIntS_eq M.f0 r g0 (by omega), Option.bind_some]
  by_cases c1 : (M.f0.length : Int) ≤ r
  ·rw [if_pos c1, if_pos c1, if_neg (by omega), szBoolS_eq M.f4 _ g4 (by omega), Option.bind_some]
   by_cases c2 : (M.f4.length : Int) ≤ r - M.f0.length
   ·rw [if_pos c2, if_neg (by omega)]
   ·rw [if_neg c2, if_pos (by omega)]
  ·rw [if_neg c1, if_neg c1, if_pos (by omega)]
 rw [e2]
 refine ev_bind_some ?_
 by_cases c1 : (M.f0.length : Int) ≤ r
 ·by_cases c2 : (M.f4.length : Int) ≤ r - M.f0.length
  ·rw [if_pos c1, if_pos c2]
   refine evn (by omega) ?_
   exact h q1 q2 (by omega) (by omega)
  ·rw [if_pos c1, if_neg c2]
   exact evp (by omega) (Ev.now _)
 ·rw [if_neg c1]
  exact evp (by omega) (Ev.now _)
theorem toClassS_ev (l : Ls) (hf : fewL l) (hl : l.length ≤ 1048576) : Ev (fun k => laws_toClassS.f k l) (toCs l) := ev_from 4000000 (fun k hk => toClassS_eq l hf hl k hk)
theorem eqClassS_ev (l : Ls) (hf : fewL l) (hl : l.length ≤ 1048576) : Ev (fun k => laws_eqClassS.f k (toCs l) (toCs l)) true := ev_from 4000000 (fun k hk => eqClassS_self (toCs l) (fewF_of hf) (by unfold toCs; rw [List.length_map]; exact hl) k hk)
theorem eqMem_self (M : Ms) (h0 : M.f0.length ≤ 1048576) (h4 : M.f4.length ≤ 1048576) : Ev (fun k => laws_eqMem.f k M.f0 M.f1 M.f2 M.f3 M.f4 M.f0 M.f1 M.f2 M.f3 M.f4) true := by
  have := eqMem_ev M.f0 M.f1 M.f2 M.f3 M.f4 M.f0 M.f1 M.f2 M.f3 M.f4 (by omega) (by omega)
  simpa using this
end Go.Proofs.Ytmniglgahodghaa.Pure
namespace Go.Proofs.Ytmniglgahodghaa.K
open Go.RowKit Go.Proofs.YtmniglgahodghaaW.PrintWords Go.Proofs.YtmniglgahodghaaW.PrintLast Go.Proofs.YtmniglgahodghaaW.PrintMore
attribute [local go_sem] max2_int min2_int max_two min_two max_three min_three max_four min_four
set_option linter.unusedVariables false
set_option linter.unusedSimpArgs false
def laws_heldIntS.l0 : Nat → List Int → Int → Int → Option (Int)
  | 0, _, _, _ => none
  | k + 1, x0, x1, x5 => if x5 < (x0.length : Int) then (if 0 ≤ x5 then (if (rd x0 x5) = x1 then (laws_heldIntS.l0 k x0 (wrap64 (x1 + 1)) (wrap64 (x5 + 1))) else (some (-1))) else (none)) else (some x1)
def laws_heldIntS.f (k : Nat) (l0 : List Int) (a1 : Int) : Option (Int) := laws_heldIntS.l0 k l0 a1 0
end Go.Proofs.Ytmniglgahodghaa.K
namespace Go.Proofs.Ytmniglgahodghaa.Pure
open Go.RowKit Go.Proofs.Ytmniglgahodghaa.K Go.Proofs.YtmniglgahodghaaW.PrintWords Go.Proofs.YtmniglgahodghaaW.PrintLast Go.Proofs.YtmniglgahodghaaW.PrintMore
set_option linter.unusedVariables false
set_option linter.unusedSimpArgs false
def marksI : Nat → Int → List Int
  | 0, _ => []
  | n + 1, a => a :: marksI n (a + 1)
theorem markIntS_l0 (d : Nat) : ∀ (k : Nat) (pre post : List Int) (a : Int), post.length = d → d < k → 0 ≤ a → a + d ≤ 4611686018427387904 → pre.length + d ≤ 140737488355328 →
  laws_markIntS.l0 k (pre ++ post) a (pre.length : Int) = some (a + d, pre ++ marksI d a) := by
 induction d with
 | zero =>
  intro k pre post a hd hk ha hb hc
  obtain ⟨k, rfl⟩ : ∃ m, k = m + 1 := ⟨k - 1, by omega⟩
  obtain rfl : post = [] := List.eq_nil_of_length_eq_zero hd
  simp only [laws_markIntS.l0]
  rw [if_neg (by simp)]
  simp [marksI]
 | succ d ih =>
  intro k pre post a hd hk ha hb hc
  obtain ⟨k, rfl⟩ : ∃ m, k = m + 1 := ⟨k - 1, by omega⟩
  obtain ⟨x, post, rfl⟩ : ∃ x t, post = x :: t := by cases post with | nil => simp at hd | cons x t => exact ⟨x, t, rfl⟩
  simp only [laws_markIntS.l0]
  simp only [List.length_cons] at hd
  rw [if_pos (by simp only [List.length_append, List.length_cons]; omega), if_pos (by omega), wrap_inc (n := 4611686018427387904) ha (by omega) (by omega), wrap_inc (n := 4611686018427387904) (by omega) (by omega) (by omega)]
  have e : (pre ++ x :: post).set ((pre.length : Int).toNat) a = (pre ++ [a]) ++ post := by
   simp
  rw [e]
  have := ih k (pre ++ [a]) post (a + 1) (by omega) (by omega) (by omega) (by omega) (by simp; omega)
  rw [show ((pre.length : Int) + 1) = (((pre ++ [a]).length : Nat) : Int) from by simp, this]
  simp [marksI]
  omega
theorem markIntS_ev (xs : List Int) (a : Int) (ha : 0 ≤ a) (hb : a + xs.length ≤ 4611686018427387904) (hc : xs.length ≤ 140737488355328) :
  Ev (fun k => laws_markIntS.f k xs a) (a + xs.length, marksI xs.length a) := by
 refine Ev.of (k := xs.length + 1) (laws_markIntS.mono xs a) ?_
 have := markIntS_l0 xs.length (xs.length + 1) [] xs a rfl (by omega) ha hb (by simpa using hc)
 simpa [laws_markIntS.f] using this
end Go.Proofs.Ytmniglgahodghaa.Pure
namespace Go.Proofs.Ytmniglgahodghaa.Pure
open Go.RowKit Go.Proofs.Ytmniglgahodghaa.K Go.Proofs.YtmniglgahodghaaW.PrintWords Go.Proofs.YtmniglgahodghaaW.PrintLast Go.Proofs.YtmniglgahodghaaW.PrintMore
set_option linter.unusedVariables false
set_option linter.unusedSimpArgs false
theorem mcs_ev : ∀ (cs : Cs) (a : Int), 0 ≤ a → (∀ c ∈ cs, c.f1.length ≤ 1048576) → a + cs.length * 1048577 ≤ 2305843009213693952 → ∃ b, Ev (fun k => mcs k cs a) b ∧ 0 ≤ b ∧ b ≤ a + cs.length * 1048577
 | [], a, ha, _, _ => ⟨a, Ev.now _, ha, by simp⟩
 | x :: r, a, ha, hx, hb => by
  have h1 := hx x (List.mem_cons_self ..)
  simp only [List.length_cons] at hb ⊢
  obtain ⟨b, e, b0, b1⟩ := mcs_ev r (a + 1 + x.f1.length) (by omega) (fun c hc => hx c (List.mem_cons_of_mem _ hc)) (by omega)
  refine ⟨b, ?_, b0, by omega⟩
  have w : wrap64 (a + 1) = a + 1 := wrap64_of (by omega) (by omega)
  have := (markIntS_ev x.f1 (a + 1) (by omega) (by omega) (by omega)).bind (f := fun k p => mcs k r p.1) e
  simpa only [mcs, w] using this
end Go.Proofs.Ytmniglgahodghaa.Pure
namespace Go.Proofs.Ytmniglgahodghaa.Pure
open Go.RowKit Go.Proofs.Ytmniglgahodghaa.K Go.Proofs.YtmniglgahodghaaW.PrintWords Go.Proofs.YtmniglgahodghaaW.PrintLast Go.Proofs.YtmniglgahodghaaW.PrintMore
set_option linter.unusedVariables false
set_option linter.unusedSimpArgs false
def marksB : Nat → Int → List Bool
  | 0, _ => []
  | n + 1, a => (Int.tmod a 3 == 0) :: marksB n (a + 1)
theorem markBoolS_l0 (d : Nat) : ∀ (k : Nat) (pre post : List Bool) (a : Int), post.length = d → d < k → 0 ≤ a → a + d ≤ 4611686018427387904 → pre.length + d ≤ 140737488355328 →
  laws_markBoolS.l0 k (pre ++ post) a (pre.length : Int) = some (a + d, pre ++ marksB d a) := by
 induction d with
 | zero =>
  intro k pre post a hd hk ha hb hc
  obtain ⟨k, rfl⟩ : ∃ m, k = m + 1 := ⟨k - 1, by omega⟩
  obtain rfl : post = [] := List.eq_nil_of_length_eq_zero hd
  simp only [laws_markBoolS.l0]
  rw [if_neg (by simp)]
  simp [marksB]
 | succ d ih =>
  intro k pre post a hd hk ha hb hc
  obtain ⟨k, rfl⟩ : ∃ m, k = m + 1 := ⟨k - 1, by omega⟩
  obtain ⟨x, post, rfl⟩ : ∃ x t, post = x :: t := by cases post with | nil => simp at hd | cons x t => exact ⟨x, t, rfl⟩
  simp only [laws_markBoolS.l0]
  simp only [List.length_cons] at hd
  rw [if_pos (by simp only [List.length_append, List.length_cons]; omega), if_pos (by omega), wrap_inc (n := 4611686018427387904) ha (by omega) (by omega), wrap_inc (n := 4611686018427387904) (by omega) (by omega) (by omega)]
  have e : (pre ++ x :: post).set ((pre.length : Int).toNat) (Int.tmod a 3 == 0) = (pre ++ [Int.tmod a 3 == 0]) ++ post := by
   simp
  rw [e]
  have := ih k (pre ++ [Int.tmod a 3 == 0]) post (a + 1) (by omega) (by omega) (by omega) (by omega) (by simp; omega)
  rw [show ((pre.length : Int) + 1) = (((pre ++ [Int.tmod a 3 == 0]).length : Nat) : Int) from by simp, this]
  simp [marksB]
  omega
theorem markBoolS_ev (xs : List Bool) (a : Int) (ha : 0 ≤ a) (hb : a + xs.length ≤ 4611686018427387904) (hc : xs.length ≤ 140737488355328) :
  Ev (fun k => laws_markBoolS.f k xs a) (a + xs.length, marksB xs.length a) := by
 refine Ev.of (k := xs.length + 1) (laws_markBoolS.mono xs a) ?_
 have := markBoolS_l0 xs.length (xs.length + 1) [] xs a rfl (by omega) ha hb (by simpa using hc)
 simpa [laws_markBoolS.f] using this
end Go.Proofs.Ytmniglgahodghaa.Pure
namespace Go.Proofs.Ytmniglgahodghaa.Pure
open Go.RowKit Go.Proofs.Ytmniglgahodghaa.K Go.Proofs.YtmniglgahodghaaW.PrintWords Go.Proofs.YtmniglgahodghaaW.PrintLast Go.Proofs.YtmniglgahodghaaW.PrintMore
set_option linter.unusedVariables false
set_option linter.unusedSimpArgs false
theorem markMem_ev (x0 : List Int) (x1 x2 x3 : Int) (x4 : List Bool) (a : Int) (ha : 0 ≤ a) (hb : a + x0.length + x4.length ≤ 4611686018427387904) (h0 : x0.length ≤ 140737488355328) (h4 : x4.length ≤ 140737488355328) :
  Ev (fun k => laws_markMem.f k x0 x1 x2 x3 x4 a) (a + x0.length + x4.length, marksI x0.length a, marksB x4.length (a + x0.length)) := by
 simp only [laws_markMem.f]
 refine (markIntS_ev x0 a ha (by omega) h0).bind ?_
 refine (markBoolS_ev x4 (a + x0.length) (by omega) (by omega) h4).bind ?_
 exact Ev.now _
end Go.Proofs.Ytmniglgahodghaa.Pure
