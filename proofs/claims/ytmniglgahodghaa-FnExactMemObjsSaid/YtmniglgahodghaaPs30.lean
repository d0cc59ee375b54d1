import Derived.Test.YtmniglgahodghaaPs24
import Derived.Test.YtmniglgahodghaaPs28
import Derived.Test.YtmniglgahodghaaPs29
import Derived.BigRegion
namespace Go.Proofs.Ytmniglgahodghaa.K
open Go.RowKit Go.Proofs.YtmniglgahodghaaW.PrintWords Go.Proofs.YtmniglgahodghaaW.PrintLast Go.Proofs.YtmniglgahodghaaW.PrintMore
attribute [local go_sem] max2_int min2_int max_two min_two max_three min_three max_four min_four
set_option linter.unusedVariables false
set_option linter.unusedSimpArgs false
def spec_MemObjs.f (k : Nat) (l0 : List (S69)) (l1_0 : List Int) (a1_1 : Int) (a1_2 : Int) (a1_3 : Int) (l1_4 : List Bool) : Option ((List (S86))) := (spec_MemOk.f k l0 l1_0 a1_1 a1_2 a1_3 l1_4).bind fun t393 => (if t393 = true then ((spec_l21Objs.f k l0 l1_0 a1_1 a1_2 a1_3 l1_4).bind fun t394 => (some t394)) else (some (([] : List (S86)))))
set_option maxHeartbeats 8000000 in
set_option maxRecDepth 100000 in
theorem spec_MemObjs.calls (k : Nat) (A0 : Option Addr) (c0 : Nat) (l0 : List (S69)) (A1_0 : Option Addr) (c1_0 : Nat) (l1_0 : List Int) (a1_1 : Int) (a1_2 : Int) (a1_3 : Int) (A1_4 : Option Addr) (c1_4 : Nat) (l1_4 : List Bool) (r : List (S86)) (w : World) (hr0 : Kd.C k69 w A0 l0.length l0) (hc0 : l0.length ≤ c0) (hr1_0 : Kd.C (Kd.int .i64) w A1_0 l1_0.length l1_0) (hc1_0 : l1_0.length ≤ c1_0) (hr1_4 : Kd.C Kd.bool w A1_4 l1_4.length l1_4) (hc1_4 : l1_4.length ≤ c1_4) (h : spec_MemObjs.f k l0 l1_0 a1_1 a1_2 a1_3 l1_4 = some r) :
  Calls Try.prog 18 #[.slice A0 l0.length c0, .agg #[.slice A1_0 l1_0.length c1_0, .int .i64 a1_1, .int .i64 a1_2, .int .i64 a1_3, .slice A1_4 l1_4.length c1_4]] w fun e w' => ∃ v0_ : Value, e = .returned (v0_) ∧ Kd.S k86 86 w' w.heap.size (fun _ => True) v0_ r ∧ Below w.heap.size w w' := by
 have hu29 := Try.underlying29
 have HR0 := Aside0.mk hr0
 have HC0 := Aside0.mk hc0
 clear hr0 hc0
 have HR1_0 := Aside0.mk hr1_0
 have HC1_0 := Aside0.mk hc1_0
 clear hr1_0 hc1_0
 have HR1_4 := Aside0.mk hr1_4
 have HC1_4 := Aside0.mk hc1_4
 clear hr1_4 hc1_4
 have HB := Aside0.mk (Below.refl w.heap.size w)
 have H : ((spec_MemOk.f k l0 l1_0 a1_1 a1_2 a1_3 l1_4).bind fun t393 => (if t393 = true then ((spec_l21Objs.f k l0 l1_0 a1_1 a1_2 a1_3 l1_4).bind fun t394 => (some t394)) else (some (([] : List (S86)))))) = some r := h
 clear h
 replace H := Option.bind_eq_some_iff.mp H
 obtain ⟨t393, A30, H⟩ := H
 try dsimp only at H
 have A3 := Aside0.mk A30
 clear A30
 by_cases c4 : t393 = true
 ·subst c4
  rw [if_pos rfl] at H
  replace H := Option.bind_eq_some_iff.mp H
  obtain ⟨t394, A50, H⟩ := H
  try dsimp only at H
  have A5 := Aside0.mk A50
  clear A50
  obtain rfl := Option.some.inj H
  go_enter Try.func18, Try.ntmps18
  go_wp2_with (first | ((with_reducible refine gate_dst (N := 3) rfl ?_); refine box_event ?hg (N := 3) ?hd (cs := #[.slice A1_0 l1_0.length c1_0, .int .i64 a1_1, .int .i64 a1_2, .int .i64 a1_3, .slice A1_4 l1_4.length c1_4]) (t := 29) ?hr ?_; (case hd => rfl); (case hg => rfl); (case hr => first | (go_simp; done) | (go_simp; rfl)); intro gb392 hg w6 hbox hb; have BK392 := Aside0.mk (hbox); have GW392 := Aside0.mk ((by rw [hg]; exact (below_size z1) : w.heap.size ≤ gb392)); have GE392 := Aside0.mk ((by rw [hg]; exact (below_size z1) : w.heap.size ≤ gb392)); replace HB := Aside0.mk (below_step z1 hb); clear hb hbox hg; obtain ⟨hcz7_0, hcz7_1, hcz7_2, hcz7_3, hcz7_4, hfz7_0, hfz7_1, hfz7_2, hfz7_3, hfz7_4⟩ := cbf5 BK392) | ((with_reducible refine gate_callee (f := 34) rfl ?_); refine goesL_ (some 7) rfl rfl Try.func34 (by kernel_rfl) rfl #[.slice A0 l0.length c0, .agg #[.slice A1_0 l1_0.length c1_0, .int .i64 a1_1, .int .i64 a1_2, .int .i64 a1_3, .slice A1_4 l1_4.length c1_4]] rfl z2 ?_; (with_reducible refine (spec_MemOk.calls k _ _ l0 _ _ l1_0 a1_1 a1_2 a1_3 _ _ l1_4 true _ ?side1 ?side2 ?side3 ?side4 ?side5 ?side6 A3.out).mono ?_); (case side1 => repeat (first | exact (Kd.C_below HR0.out HB.out) | (with_reducible refine Kd.C_alloc ?_ _) | (with_reducible refine Kd.C_drewN ?_ _) | (with_reducible refine Kd.C_drew ?_))); (case side2 => exact HC0.out); (case side3 => repeat (first | exact (Kd.C_below HR1_0.out HB.out) | (with_reducible refine Kd.C_alloc ?_ _) | (with_reducible refine Kd.C_drewN ?_ _) | (with_reducible refine Kd.C_drew ?_))); (case side4 => exact HC1_0.out); (case side5 => repeat (first | exact (Kd.C_below HR1_4.out HB.out) | (with_reducible refine Kd.C_alloc ?_ _) | (with_reducible refine Kd.C_drewN ?_ _) | (with_reducible refine Kd.C_drew ?_))); (case side6 => exact HC1_4.out); rintro e w8 ⟨rfl, hb⟩; refine ⟨_, rfl, ?_⟩; replace BK392 := Aside0.mk (blk_below (g := gb392) (o := .cells #[.slice A1_0 l1_0.length c1_0, .int .i64 a1_1, .int .i64 a1_2, .int .i64 a1_3, .slice A1_4 l1_4.length c1_4] 29 (0, 0)) z54 hb); replace HB := Aside0.mk (below_step z33 hb); (try clear hb); (try clear hb2); (try clear hk); (try clear hi); obtain ⟨hcz9_0, hcz9_1, hcz9_2, hcz9_3, hcz9_4, hfz9_0, hfz9_1, hfz9_2, hfz9_3, hfz9_4⟩ := cbf5 BK392) | ((with_reducible refine gate_callee (f := 52) rfl ?_); refine goesL_ (some 12) rfl rfl Try.func52 (by kernel_rfl) rfl #[.slice A0 l0.length c0, .agg #[.slice A1_0 l1_0.length c1_0, .int .i64 a1_1, .int .i64 a1_2, .int .i64 a1_3, .slice A1_4 l1_4.length c1_4]] rfl z2 ?_; (with_reducible refine (spec_l21Objs.calls k _ _ l0 _ _ l1_0 a1_1 a1_2 a1_3 _ _ l1_4 t394 _ ?side1 ?side2 ?side3 ?side4 ?side5 ?side6 A5.out).mono ?_); (case side1 => repeat (first | exact (Kd.C_below HR0.out HB.out) | (with_reducible refine Kd.C_alloc ?_ _) | (with_reducible refine Kd.C_drewN ?_ _) | (with_reducible refine Kd.C_drew ?_))); (case side2 => exact HC0.out); (case side3 => repeat (first | exact (Kd.C_below HR1_0.out HB.out) | (with_reducible refine Kd.C_alloc ?_ _) | (with_reducible refine Kd.C_drewN ?_ _) | (with_reducible refine Kd.C_drew ?_))); (case side4 => exact HC1_0.out); (case side5 => repeat (first | exact (Kd.C_below HR1_4.out HB.out) | (with_reducible refine Kd.C_alloc ?_ _) | (with_reducible refine Kd.C_drewN ?_ _) | (with_reducible refine Kd.C_drew ?_))); (case side6 => exact HC1_4.out); rintro e w10 ⟨v395, rfl, ho0, hb⟩; refine ⟨_, rfl, ?_⟩; have HO396 := Aside0.mk (Kd.S_lower ho0 (below_size z33)); replace BK392 := Aside0.mk (blk_below (g := gb392) (o := .cells #[.slice A1_0 l1_0.length c1_0, .int .i64 a1_1, .int .i64 a1_2, .int .i64 a1_3, .slice A1_4 l1_4.length c1_4] 29 (0, 0)) z54 hb); replace HB := Aside0.mk (below_step z33 hb); (try clear hb); (try clear hb2); (try clear hk); (try clear hi); (try clear ho0)))
  go_ret
  exact ⟨_, by first | rfl | (simp [errW_none, errW_some] <;> rfl) | (simp [*, errW_none, errW_some] <;> rfl), by (with_reducible repeat (first | apply Kd.S_alloc | apply Kd.S_drewN | apply Kd.S_drew)); exact HO396.out, by repeat (first | (with_reducible first | exact HB.out | apply below_alloc | apply pw_below_drewN | apply below_drew1 | refine below_set ?_ GE392.out) | exact HB.out)⟩
 ·replace c4 := Bool.eq_false_iff.mpr c4
  subst c4
  rw [if_neg (show ¬ (false = true) by decide)] at H
  obtain ⟨y397, hy397⟩ : ∃ y_ : List (S86), y_ = (([] : List (S86))) := ⟨_, rfl⟩
  replace H : (some y397) = some r := by first | (rw [hy397]; with_reducible exact H) | (have H2_ := (Option.bind_some _ _).symm.trans H; rw [hy397]; with_reducible exact H2_) | (have H2_ := (Option.bind_some _ _).symm.trans H; with_reducible exact H2_) | with_reducible exact H | (rw [hy397]; exact H) | exact H
  have Ny397 := Aside0.mk hy397
  clear hy397
  obtain rfl := Option.some.inj H
  go_enter Try.func18, Try.ntmps18
  go_wp2_with (first | ((with_reducible refine gate_dst (N := 3) rfl ?_); refine box_event ?hg (N := 3) ?hd (cs := #[.slice A1_0 l1_0.length c1_0, .int .i64 a1_1, .int .i64 a1_2, .int .i64 a1_3, .slice A1_4 l1_4.length c1_4]) (t := 29) ?hr ?_; (case hd => rfl); (case hg => rfl); (case hr => first | (go_simp; done) | (go_simp; rfl)); intro gb392 hg w11 hbox hb; have BK392 := Aside0.mk (hbox); have GW392 := Aside0.mk ((by rw [hg]; exact (below_size z1) : w.heap.size ≤ gb392)); have GE392 := Aside0.mk ((by rw [hg]; exact (below_size z1) : w.heap.size ≤ gb392)); replace HB := Aside0.mk (below_step z1 hb); clear hb hbox hg; obtain ⟨hcz12_0, hcz12_1, hcz12_2, hcz12_3, hcz12_4, hfz12_0, hfz12_1, hfz12_2, hfz12_3, hfz12_4⟩ := cbf5 BK392) | ((with_reducible refine gate_callee (f := 34) rfl ?_); refine goesL_ (some 7) rfl rfl Try.func34 (by kernel_rfl) rfl #[.slice A0 l0.length c0, .agg #[.slice A1_0 l1_0.length c1_0, .int .i64 a1_1, .int .i64 a1_2, .int .i64 a1_3, .slice A1_4 l1_4.length c1_4]] rfl z2 ?_; (with_reducible refine (spec_MemOk.calls k _ _ l0 _ _ l1_0 a1_1 a1_2 a1_3 _ _ l1_4 false _ ?side1 ?side2 ?side3 ?side4 ?side5 ?side6 A3.out).mono ?_); (case side1 => repeat (first | exact (Kd.C_below HR0.out HB.out) | (with_reducible refine Kd.C_alloc ?_ _) | (with_reducible refine Kd.C_drewN ?_ _) | (with_reducible refine Kd.C_drew ?_))); (case side2 => exact HC0.out); (case side3 => repeat (first | exact (Kd.C_below HR1_0.out HB.out) | (with_reducible refine Kd.C_alloc ?_ _) | (with_reducible refine Kd.C_drewN ?_ _) | (with_reducible refine Kd.C_drew ?_))); (case side4 => exact HC1_0.out); (case side5 => repeat (first | exact (Kd.C_below HR1_4.out HB.out) | (with_reducible refine Kd.C_alloc ?_ _) | (with_reducible refine Kd.C_drewN ?_ _) | (with_reducible refine Kd.C_drew ?_))); (case side6 => exact HC1_4.out); rintro e w13 ⟨rfl, hb⟩; refine ⟨_, rfl, ?_⟩; replace BK392 := Aside0.mk (blk_below (g := gb392) (o := .cells #[.slice A1_0 l1_0.length c1_0, .int .i64 a1_1, .int .i64 a1_2, .int .i64 a1_3, .slice A1_4 l1_4.length c1_4] 29 (0, 0)) z54 hb); replace HB := Aside0.mk (below_step z33 hb); (try clear hb); (try clear hb2); (try clear hk); (try clear hi)) | ((with_reducible refine gate_dst (N := 9) rfl ?_); refine Kd.S_lit k86 _ 86 ?hg (N := 9) ?hd (xs := ([] : List (S86))) (inner := []) (ok := fun _ => True) (okp := fun _ => True) ?hr ?hp (fun _ hk => hk) trivial (Below.refl _ _) (Nat.le_refl _) (by simp) ?_; (case hd => rfl); (case hg => rfl); (case hr => first | (go_simp; done) | (go_simp; rfl)); (case hp => exact (Reps.none _ _)); intro v398 w14 ho15 hb hg_ hnew_; clear hg_ hnew_; (first | rw [← Ny397.out] at ho15 | (simp only [Int.reduceToNat] at ho15; rw [← Ny397.out] at ho15)); have HO399 := Aside0.mk (Kd.S_lower ho15 (below_size z33)); replace BK392 := Aside0.mk (blk_below (g := gb392) (o := .cells #[.slice A1_0 l1_0.length c1_0, .int .i64 a1_1, .int .i64 a1_2, .int .i64 a1_3, .slice A1_4 l1_4.length c1_4] 29 (0, 0)) z54 hb); replace HB := Aside0.mk (below_step z33 hb); clear hb ho15))
  go_ret
  exact ⟨_, by first | rfl | (simp [errW_none, errW_some] <;> rfl) | (simp [*, errW_none, errW_some] <;> rfl), by (with_reducible repeat (first | apply Kd.S_alloc | apply Kd.S_drewN | apply Kd.S_drew)); exact HO399.out, by repeat (first | (with_reducible first | exact HB.out | apply below_alloc | apply pw_below_drewN | apply below_drew1 | refine below_set ?_ GE392.out) | exact HB.out)⟩
end Go.Proofs.Ytmniglgahodghaa.K
namespace Go.Proofs.Ytmniglgahodghaa.K
open Go.RowKit Go.Proofs.YtmniglgahodghaaW.PrintWords Go.Proofs.YtmniglgahodghaaW.PrintLast Go.Proofs.YtmniglgahodghaaW.PrintMore
attribute [local go_sem] max2_int min2_int max_two min_two max_three min_three max_four min_four
set_option linter.unusedVariables false
set_option linter.unusedSimpArgs false
def kndV (t : Int) : Value :=
 if t = 0 then .iface 148 (.agg #[])
 else if t = 1 then .iface 143 (.agg #[])
 else if t = 2 then .iface 149 (.agg #[])
 else if t = 3 then .iface 145 (.agg #[.bool false])
 else if t = 4 then .iface 145 (.agg #[.bool true])
 else .iface 147 (.agg #[.int .i64 (t - 8)])
def kv (t : Int) : Prop := (0 ≤ t ∧ t ≤ 4) ∨ 8 ≤ t
def kOk (n t : Int) : Bool := decide ((0 ≤ t ∧ t ≤ 4) ∨ (8 ≤ t ∧ t < 8 + n))
def kndO (n t : Int) : Value := if kOk n t = true then kndV t else .nilIface
theorem kv_cases {t : Int} (h : kv t) : t = 0 ∨ t = 1 ∨ t = 2 ∨ t = 3 ∨ t = 4 ∨ 8 ≤ t := by unfold kv at h; omega
theorem kndV_cls {t : Int} (h : 8 ≤ t) : kndV t = .iface 147 (.agg #[.int .i64 (t - 8)]) := by
  unfold kndV
  rw [if_neg (by omega), if_neg (by omega), if_neg (by omega), if_neg (by omega), if_neg (by omega)]
theorem kind_int {s : Int} (hs : kv s) (W : World) : (Instr.typeAssert (kndV s) 140 143 true).run Try.prog W = .ok (.tuple #[.agg #[], .bool (decide (s = 1))]) W := by
 rcases kv_cases hs with rfl | rfl | rfl | rfl | rfl | hs
 all_goals first
  | (rw [kndV_cls hs, decide_eq_false (by omega)]; kernel_rfl)
  | kernel_rfl
theorem kind_arr {s : Int} (hs : kv s) (W : World) : (Instr.typeAssert (kndV s) 140 145 true).run Try.prog W = .ok (.tuple #[.agg #[.bool (decide (s = 4))], .bool (decide (s = 3 ∨ s = 4))]) W := by
 rcases kv_cases hs with rfl | rfl | rfl | rfl | rfl | hs
 all_goals first
  | (rw [kndV_cls hs, decide_eq_false (p := s = 4) (by omega), decide_eq_false (by omega)]; kernel_rfl)
  | kernel_rfl
def clsOf (t : Int) : Int := if 8 ≤ t then t - 8 else 0
theorem kind_class {s : Int} (hs : kv s) (W : World) : (Instr.typeAssert (kndV s) 140 147 true).run Try.prog W = .ok (.tuple #[.agg #[.int .i64 (clsOf s)], .bool (decide (8 ≤ s))]) W := by
 rcases kv_cases hs with rfl | rfl | rfl | rfl | rfl | hs
 all_goals first
  | (rw [kndV_cls hs, decide_eq_true hs, show clsOf s = s - 8 from if_pos hs]; kernel_rfl)
  | kernel_rfl
theorem nil_int (W : World) : (Instr.typeAssert .nilIface 140 143 true).run Try.prog W = .ok (.tuple #[.agg #[], .bool false]) W := by kernel_rfl
theorem nil_arr (W : World) : (Instr.typeAssert .nilIface 140 145 true).run Try.prog W = .ok (.tuple #[.agg #[.bool false], .bool false]) W := by kernel_rfl
theorem nil_class (W : World) : (Instr.typeAssert .nilIface 140 147 true).run Try.prog W = .ok (.tuple #[.agg #[.int .i64 0], .bool false]) W := by kernel_rfl
set_option maxHeartbeats 2000000 in
theorem impl_kindOf.calls (a0 a1 : Int) (w : World) (h0 : 0 ≤ a0) (h1 : a0 ≤ 281474976710656) :
  Calls Try.prog 131 #[.int .i64 a0, .int .i64 a1] w fun e w' => e = .returned (kndO a0 a1) ∧ Drawn0 w w' := by
 by_cases c0 : a1 = 0
 ·subst c0
  have HF := Aside0.mk (show kndO a0 0 = kndV 0 from if_pos (by simp [kOk]))
  go_enter Try.func131, Try.ntmps131
  go_wp2
  go_ret
  exact ⟨by rw [HF.out]; rfl, Drawn0.refl _⟩
 by_cases c1 : a1 = 1
 ·subst c1
  have HF := Aside0.mk (show kndO a0 1 = kndV 1 from if_pos (by simp [kOk]))
  go_enter Try.func131, Try.ntmps131
  go_wp2
  go_ret
  exact ⟨by rw [HF.out]; rfl, Drawn0.refl _⟩
 by_cases c2 : a1 = 2
 ·subst c2
  have HF := Aside0.mk (show kndO a0 2 = kndV 2 from if_pos (by simp [kOk]))
  go_enter Try.func131, Try.ntmps131
  go_wp2
  go_ret
  exact ⟨by rw [HF.out]; rfl, Drawn0.refl _⟩
 by_cases c3 : a1 = 3
 ·subst c3
  have HF := Aside0.mk (show kndO a0 3 = kndV 3 from if_pos (by simp [kOk]))
  go_enter Try.func131, Try.ntmps131
  go_wp2
  go_ret
  exact ⟨by rw [HF.out]; rfl, Drawn0.refl _⟩
 by_cases c4 : a1 = 4
 ·subst c4
  have HF := Aside0.mk (show kndO a0 4 = kndV 4 from if_pos (by simp [kOk]))
  go_enter Try.func131, Try.ntmps131
  go_wp2
  go_ret
  exact ⟨by rw [HF.out]; rfl, Drawn0.refl _⟩
 have d0 : (a1 == 0) = false := beq_eq_false_iff_ne.2 c0
 have d1 : (a1 == 1) = false := beq_eq_false_iff_ne.2 c1
 have d2 : (a1 == 2) = false := beq_eq_false_iff_ne.2 c2
 have d3 : (a1 == 3) = false := beq_eq_false_iff_ne.2 c3
 have d4 : (a1 == 4) = false := beq_eq_false_iff_ne.2 c4
 by_cases c5 : 8 ≤ a1
 ·by_cases c6 : a1 < 8 + a0
  ·have HF := Aside0.mk (show kndO a0 a1 = .iface 147 (.agg #[.int .i64 (a1 - 8)]) from (if_pos (by simp [kOk]; omega)).trans (kndV_cls c5))
   have d5 : decide (8 ≤ a1) = true := decide_eq_true c5
   have d6 : decide (a1 < 8 + a0) = true := decide_eq_true c6
   clear c0 c1 c2 c3 c4
   go_enter Try.func131, Try.ntmps131
   go_wp2
   go_ret
   exact ⟨by rw [HF.out]; rfl, Drawn0.refl _⟩
  ·have HF := Aside0.mk (show kndO a0 a1 = .nilIface from if_neg (by simp [kOk]; omega))
   have d5 : decide (8 ≤ a1) = true := decide_eq_true c5
   have d6 : decide (a1 < 8 + a0) = false := decide_eq_false c6
   clear c0 c1 c2 c3 c4
   go_enter Try.func131, Try.ntmps131
   go_wp2
   go_ret
   exact ⟨by rw [HF.out]; rfl, Drawn0.refl _⟩
 ·have HF := Aside0.mk (show kndO a0 a1 = .nilIface from if_neg (by simp [kOk]; omega))
  have d5 : decide (8 ≤ a1) = false := decide_eq_false c5
  clear c0 c1 c2 c3 c4
  go_enter Try.func131, Try.ntmps131
  go_wp2
  go_ret
  exact ⟨by rw [HF.out]; rfl, Drawn0.refl _⟩
def kOkF.f (n t : Int) : Option Bool := if 0 ≤ n ∧ n ≤ 281474976710656 then some (kOk n t) else none
end Go.Proofs.Ytmniglgahodghaa.K
namespace Go.Proofs.Ytmniglgahodghaa.K
open Go.RowKit Go.Proofs.YtmniglgahodghaaW.PrintWords Go.Proofs.YtmniglgahodghaaW.PrintLast Go.Proofs.YtmniglgahodghaaW.PrintMore
attribute [local go_sem] max2_int min2_int max_two min_two max_three min_three max_four min_four
set_option linter.unusedVariables false
set_option linter.unusedSimpArgs false
def impl_fieldType.f (a0 a1 : Int) : Option Bool := if 0 ≤ a0 ∧ a0 ≤ 281474976710656 then some (kOk a0 a1 && decide (a1 = 1 ∨ a1 = 3 ∨ a1 = 4 ∨ 8 ≤ a1)) else none
set_option maxHeartbeats 2000000 in
theorem impl_fieldType.calls (a0 : Int) (a1 : Int) (r : Bool) (w : World) (h : impl_fieldType.f a0 a1 = some r) :
  Calls Try.prog 112 #[.int .i64 a0, .int .i64 a1] w fun e w' => e = .returned (.bool r) ∧ Drawn0 w w' := by
 unfold impl_fieldType.f at h
 split at h
 case isFalse => simp at h
 case isTrue hb =>
  obtain ⟨h0, h1⟩ := hb
  have HR := Aside0.mk (Option.some.inj h)
  clear h
  by_cases hk : kOk a0 a1 = true
  ·have hv : kv a1 := by simp [kOk] at hk; unfold kv; omega
   have HO := Aside0.mk (show kndO a0 a1 = kndV a1 from if_pos hk)
   have t1 := kind_int hv
   have t2 := kind_arr hv
   have t3 := kind_class hv
   have HK := Aside0.mk hk
   clear hk hv
   go_enter Try.func112, Try.ntmps112
   go_wp2_with (go_at_call 131; refine (impl_kindOf.calls a0 a1 _ h0 h1).mono ?_; rintro e w' ⟨rfl, ⟨n, rfl⟩⟩; rw [HO.out])
   ·go_ret
    exact ⟨by show Ending.returned (.bool true) = _; rw [← HR.out, HK.out, decide_eq_true (by omega)]; rfl, Drawn0.step (Drawn0.refl _) _⟩
   ·go_ret
    exact ⟨by show Ending.returned (.bool false) = _; rw [← HR.out, HK.out, decide_eq_false (by omega)]; rfl, Drawn0.step (Drawn0.refl _) _⟩
  ·have HO := Aside0.mk (show kndO a0 a1 = .nilIface from if_neg hk)
   have HK := Aside0.mk (Bool.not_eq_true _ |>.mp hk)
   have t1 := nil_int
   have t2 := nil_arr
   have t3 := nil_class
   clear hk
   go_enter Try.func112, Try.ntmps112
   go_wp2_with (go_at_call 131; refine (impl_kindOf.calls a0 a1 _ h0 h1).mono ?_; rintro e w' ⟨rfl, ⟨n, rfl⟩⟩; rw [HO.out])
   go_ret
   exact ⟨by show Ending.returned (.bool false) = _; rw [← HR.out, HK.out]; rfl, Drawn0.step (Drawn0.refl _) _⟩
end Go.Proofs.Ytmniglgahodghaa.K
namespace Go.Proofs.Ytmniglgahodghaa.K
open Go.RowKit Go.Proofs.YtmniglgahodghaaW.PrintWords Go.Proofs.YtmniglgahodghaaW.PrintLast Go.Proofs.YtmniglgahodghaaW.PrintMore
attribute [local go_sem] max2_int min2_int max_two min_two max_three min_three max_four min_four
set_option linter.unusedVariables false
set_option linter.unusedSimpArgs false
mutual
def impl_ClassesOk.j0 : Nat → List (S69) → Bool → Option (Bool)
 | 0, _, _ => none
 | k + 1, x0, x15 => if x15 = true then (some false) else (if 0 < (x0.length : Int) then (if ((rd_T69 x0 0).f0) = (-1) then (impl_ClassesOk.j1 k x0 ((((rd_T69 x0 0).f1).length : Int) != 0)) else (impl_ClassesOk.j1 k x0 true)) else (none))
def impl_ClassesOk.j1 : Nat → List (S69) → Bool → Option (Bool)
 | 0, _, _ => none
 | k + 1, x0, x28 => if x28 = true then (some false) else (if 1 < (x0.length : Int) then (if ((rd_T69 x0 1).f0) = 0 then (if (((rd_T69 x0 1).f1).length : Int) = 1 then (if 0 < (((rd_T69 x0 1).f1).length : Int) then (impl_ClassesOk.j2 k x0 ((rd ((rd_T69 x0 1).f1) 0) != 1)) else (none)) else (impl_ClassesOk.j2 k x0 true)) else (impl_ClassesOk.j2 k x0 true)) else (none))
def impl_ClassesOk.j2 : Nat → List (S69) → Bool → Option (Bool)
 | 0, _, _ => none
 | k + 1, x0, x47 => if x47 = true then (some false) else (impl_ClassesOk.l0 k x0 x0 (x0.length : Int) 0)
def impl_ClassesOk.l0 : Nat → List (S69) → List (S69) → Int → Int → Option (Bool)
 | 0, _, _, _, _ => none
 | k + 1, x0, x48, x49, x50 => if x50 < x49 then (if 0 ≤ x50 then (if x50 < (x48.length : Int) then (if x50 > 1 then (if ((rd_T69 x48 x50).f0) < 0 then (impl_ClassesOk.j4 k x0 x48 x49 x50 true ((rd_T69 x48 x50).f0) ((rd_T69 x48 x50).f1)) else (impl_ClassesOk.j4 k x0 x48 x49 x50 (decide (((rd_T69 x48 x50).f0) ≥ x50)) ((rd_T69 x48 x50).f0) ((rd_T69 x48 x50).f1))) else (impl_ClassesOk.j4 k x0 x48 x49 x50 false ((rd_T69 x48 x50).f0) ((rd_T69 x48 x50).f1))) else (none)) else (none)) else (some true)
def impl_ClassesOk.j4 : Nat → List (S69) → List (S69) → Int → Int → Bool → Int → List Int → Option (Bool)
 | 0, _, _, _, _, _, _, _ => none
 | k + 1, x0, x48, x49, x50, x67, x292000, x292001 => if x67 = true then (some false) else (if (x292001.length : Int) > 2 then (some false) else (impl_ClassesOk.l1 k x0 x48 x49 x50 x292001 (x292001.length : Int) 0))
def impl_ClassesOk.l1 : Nat → List (S69) → List (S69) → Int → Int → List Int → Int → Int → Option (Bool)
 | 0, _, _, _, _, _, _, _ => none
 | k + 1, x0, x48, x49, x50, x73, x74, x75 => if x75 < x74 then (if 0 ≤ x75 then (if x75 < (x73.length : Int) then ((impl_fieldType.f (x0.length : Int) (rd x73 x75)).bind fun t293 => (if t293 = true then (impl_ClassesOk.l1 k x0 x48 x49 x50 x73 x74 (wrap64 (x75 + 1))) else (some false))) else (none)) else (none)) else (impl_ClassesOk.l0 k x0 x48 x49 (wrap64 (x50 + 1)))
end
def impl_ClassesOk.f (k : Nat) (l0 : List (S69)) : Option (Bool) := if (l0.length : Int) < 2 then (impl_ClassesOk.j0 k l0 true) else (impl_ClassesOk.j0 k l0 (decide ((l0.length : Int) > 5)))
set_option maxHeartbeats 8000000 in
set_option maxRecDepth 100000 in
theorem impl_ClassesOk.calls (k : Nat) (A0 : Option Addr) (c0 : Nat) (l0 : List (S69)) (r : Bool) (w : World) (hr0 : Kd.C k69 w A0 l0.length l0) (hc0 : l0.length ≤ c0) (h : impl_ClassesOk.f k l0 = some r) :
  Calls Try.prog 73 #[.slice A0 l0.length c0] w fun e w' => e = .returned (.bool r) ∧ Below w.heap.size w w' := by
 have hu69 := Try.underlying69
 have HR0 := Aside0.mk hr0
 have HC0 := Aside0.mk hc0
 clear hr0 hc0
 have HB := Aside0.mk (Below.refl w.heap.size w)
 have H : (if (l0.length : Int) < 2 then (impl_ClassesOk.j0 k l0 true) else (impl_ClassesOk.j0 k l0 (decide ((l0.length : Int) > 5)))) = some r := h
 clear h
 have HC2 := Aside0.mk H
 clear H
 go_enter Try.func73, Try.ntmps73
 go_upto_region 1 with (fail)
 go_cut [15] (fun v15 wc => ∃ (kq : Nat) (x15_1 : Bool), v15 = .bool x15_1 ∧ Aside0 (impl_ClassesOk.j0 kq l0 x15_1 = some r) ∧ Aside0 (kq ≤ k) ∧ Aside0 (Below w.heap.size w wc))
 case first =>
  have H := HC2.out
  clear HC2
  by_cases c3 : (l0.length : Int) < 2
  ·rw [if_pos c3] at H
   have c3b0 : decide ((l0.length : Int) < 2) = true := decide_eq_true c3
   have c3b1 : decide (l0.length < 2) = true := decide_eq_true (by omega)
   clear c3
   (first | rw [c3b0] | (simp only [i64_w, i32_w]; rw [c3b0]) | skip)
   have H' := Aside0.mk H
   clear H
   go_wp2
   go_meet
   case rel => exact ⟨_, (true), z5, H', ⟨by first | omega | exact Nat.le_refl _⟩, ⟨by repeat (first | (with_reducible first | exact HB.out | apply below_alloc | apply pw_below_drewN | apply below_drew1) | exact HB.out)⟩⟩
  ·rw [if_neg c3] at H
   have c3b0 : decide ((l0.length : Int) < 2) = false := decide_eq_false c3
   have c3b1 : decide (l0.length < 2) = false := decide_eq_false (by omega)
   clear c3
   (first | rw [c3b0] | (simp only [i64_w, i32_w]; rw [c3b0]) | skip)
   have H' := Aside0.mk H
   clear H
   go_wp2
   go_meet
   case rel => exact ⟨_, (decide ((l0.length : Int) > 5)), z5, H', ⟨by first | omega | exact Nat.le_refl _⟩, ⟨by repeat (first | (with_reducible first | exact HB.out | apply below_alloc | apply pw_below_drewN | apply below_drew1) | exact HB.out)⟩⟩
 case rest =>
  clear HC2
  try clear p2
  try clear c3
  try clear c3b0
  try clear c3b1
  obtain ⟨kq, x15_1, rfl, HA, HJ1, HB⟩ := hcut
  cases kq with
  | zero => exact absurd HA.out (by simp [impl_ClassesOk.j0])
  | succ kj1 =>
   have H := HA.out
   clear HA
   simp only [impl_ClassesOk.j0] at H
   by_cases c4 : x15_1 = true
   ·subst c4
    rw [if_pos rfl] at H
    obtain rfl := Option.some.inj H
    go_wp2
    go_ret
    exact ⟨by first | rfl | (simp [errW_none, errW_some] <;> rfl) | (simp [*, errW_none, errW_some] <;> rfl), by repeat (first | (with_reducible first | exact HB.out | apply below_alloc | apply pw_below_drewN | apply below_drew1) | exact HB.out)⟩
   ·replace c4 := Bool.eq_false_iff.mpr c4
    subst c4
    rw [if_neg (show ¬ (false = true) by decide)] at H
    have HC5 := Aside0.mk H
    clear H
    go_upto_region 3 with (fail)
    go_cut [28] (fun v28 wc => ∃ (kq : Nat) (x28_4 : Bool), v28 = .bool x28_4 ∧ Aside0 (impl_ClassesOk.j1 kq l0 x28_4 = some r) ∧ Aside0 (kq ≤ kj1) ∧ Aside0 (Below w.heap.size w wc))
    case first =>
     have H := HC5.out
     clear HC5
     by_cases c6 : 0 < (l0.length : Int)
     ·rw [if_pos c6] at H
      have c6b0 : decide (0 < (l0.length : Int)) = true := decide_eq_true c6
      have c6b1 : decide (0 < l0.length) = true := decide_eq_true (by omega)
      clear c6
      (first | rw [c6b0] | (simp only [i64_w, i32_w]; rw [c6b0]) | skip)
      by_cases c7 : ((rd_T69 l0 0).f0) = (-1)
      ·rw [if_pos c7] at H
       have c7b0 : (((rd_T69 l0 0).f0) == (-1)) = true := beq_iff_eq.mpr c7
       have c7b1 : (((rd_T69 l0 0).f0) != (-1)) = false := bne_eq_false_iff_eq.mpr c7
       clear c7
       have H' := Aside0.mk H
       clear H
       have p285 : 0 ≤ (0 : Int) := (by omega)
       have q285 : 0 < (l0.length : Int) := of_decide_eq_true z3
       obtain ⟨ad285, A285_1, c285_1, e285, hx285_0, hx285_1, hl285_1, hi285_1⟩ := at_T69 HR0.out 0 p285 q285
       cases e285
       have qi285 : (0 < l0.length) = True := eq_true (by omega)
       (try rw [show ((0 : Int)).toNat = 0 from rfl] at hx285_0)
       (try rw [show 0 * 2 = 0 from rfl] at hx285_0)
       (try rw [Addr.add_zero'] at hx285_0)
       (try rw [show ((0 : Int)).toNat = 0 from rfl] at hx285_1)
       (try rw [show 0 * 2 = 0 from rfl] at hx285_1)
       (try rw [Addr.add_zero'] at hx285_1)
       replace hx285_0 := (HB.out.cell (World.block_lt_of_cell? w _ hx285_0)).trans hx285_0
       replace hx285_1 := (HB.out.cell (World.block_lt_of_cell? w _ hx285_1)).trans hx285_1
       have HR285_1 := Aside0.mk hi285_1
       have HC285_1 := Aside0.mk hl285_1
       clear hi285_1 hl285_1
       replace p285 := eq_true p285
       replace q285 := eq_true q285
       have p286 : 0 ≤ (0 : Int) := (by omega)
       have q286 : 0 < (l0.length : Int) := of_decide_eq_true z3
       obtain ⟨ad286, A286_1, c286_1, e286, hx286_0, hx286_1, hl286_1, hi286_1⟩ := at_T69 HR0.out 0 p286 q286
       obtain rfl : ad285 = ad286 := (by injection e286)
       have qi286 : (0 < l0.length) = True := eq_true (by omega)
       (try rw [show ((0 : Int)).toNat = 0 from rfl] at hx286_0)
       (try rw [show 0 * 2 = 0 from rfl] at hx286_0)
       (try rw [Addr.add_zero'] at hx286_0)
       (try rw [show ((0 : Int)).toNat = 0 from rfl] at hx286_1)
       (try rw [show 0 * 2 = 0 from rfl] at hx286_1)
       (try rw [Addr.add_zero'] at hx286_1)
       replace hx286_0 := (HB.out.cell (World.block_lt_of_cell? w _ hx286_0)).trans hx286_0
       replace hx286_1 := (HB.out.cell (World.block_lt_of_cell? w _ hx286_1)).trans hx286_1
       have HR286_1 := Aside0.mk hi286_1
       have HC286_1 := Aside0.mk hl286_1
       clear hi286_1 hl286_1
       replace p286 := eq_true p286
       replace q286 := eq_true q286
       have ea_ := Option.some.inj (hx285_1.symm.trans hx286_1)
       injection ea_ with ea_ en_ ec_
       subst ea_
       subst ec_
       clear en_
       go_wp2
       go_meet
       case rel => exact ⟨_, (((((rd_T69 l0 0).f1).length : Int) != 0)), z5, H', ⟨by have := HJ1.out; first | omega | exact Nat.le_refl _⟩, ⟨by repeat (first | (with_reducible first | exact HB.out | apply below_alloc | apply pw_below_drewN | apply below_drew1) | exact HB.out)⟩⟩
      ·rw [if_neg c7] at H
       have c7b0 : (((rd_T69 l0 0).f0) == (-1)) = false := beq_eq_false_iff_ne.mpr c7
       have c7b1 : (((rd_T69 l0 0).f0) != (-1)) = true := bne_iff_ne.mpr c7
       have H' := Aside0.mk H
       clear H
       have p285 : 0 ≤ (0 : Int) := (by omega)
       have q285 : 0 < (l0.length : Int) := of_decide_eq_true z3
       obtain ⟨ad285, A285_1, c285_1, e285, hx285_0, hx285_1, hl285_1, hi285_1⟩ := at_T69 HR0.out 0 p285 q285
       cases e285
       have qi285 : (0 < l0.length) = True := eq_true (by omega)
       (try rw [show ((0 : Int)).toNat = 0 from rfl] at hx285_0)
       (try rw [show 0 * 2 = 0 from rfl] at hx285_0)
       (try rw [Addr.add_zero'] at hx285_0)
       (try rw [show ((0 : Int)).toNat = 0 from rfl] at hx285_1)
       (try rw [show 0 * 2 = 0 from rfl] at hx285_1)
       (try rw [Addr.add_zero'] at hx285_1)
       replace hx285_0 := (HB.out.cell (World.block_lt_of_cell? w _ hx285_0)).trans hx285_0
       replace hx285_1 := (HB.out.cell (World.block_lt_of_cell? w _ hx285_1)).trans hx285_1
       have HR285_1 := Aside0.mk hi285_1
       have HC285_1 := Aside0.mk hl285_1
       clear hi285_1 hl285_1
       replace p285 := eq_true p285
       replace q285 := eq_true q285
       go_wp2
       go_meet
       case rel => exact ⟨_, (true), z5, H', ⟨by have := HJ1.out; first | omega | exact Nat.le_refl _⟩, ⟨by repeat (first | (with_reducible first | exact HB.out | apply below_alloc | apply pw_below_drewN | apply below_drew1) | exact HB.out)⟩⟩
     ·rw [if_neg c6] at H
      exact absurd H (by simp)
    case rest =>
     clear HC5
     try clear c2
     try clear p2
     try clear q2
     try clear hx2
     try clear qi2
     try clear c3
     try clear c3b0
     try clear c3b1
     try clear c4
     try clear c6
     try clear c6b0
     try clear c6b1
     try clear c7
     try clear c7b0
     try clear c7b1
     try clear hx285_0
     try clear hx285_1
     try clear hx286_0
     try clear hx286_1
     try clear p2
     try clear p285
     try clear p286
     try clear q285
     try clear q286
     obtain ⟨kq, x28_4, rfl, HA, HJ4, HB⟩ := hcut
     cases kq with
     | zero => exact absurd HA.out (by simp [impl_ClassesOk.j1])
     | succ kj4 =>
      have H := HA.out
      clear HA
      simp only [impl_ClassesOk.j1] at H
      by_cases c8 : x28_4 = true
      ·subst c8
       rw [if_pos rfl] at H
       obtain rfl := Option.some.inj H
       go_wp2
       go_ret
       exact ⟨by first | rfl | (simp [errW_none, errW_some] <;> rfl) | (simp [*, errW_none, errW_some] <;> rfl), by repeat (first | (with_reducible first | exact HB.out | apply below_alloc | apply pw_below_drewN | apply below_drew1) | exact HB.out)⟩
      ·replace c8 := Bool.eq_false_iff.mpr c8
       subst c8
       rw [if_neg (show ¬ (false = true) by decide)] at H
       by_cases c9 : 1 < (l0.length : Int)
       ·rw [if_pos c9] at H
        have c9b0 : decide (1 < (l0.length : Int)) = true := decide_eq_true c9
        have c9b1 : decide (1 < l0.length) = true := decide_eq_true (by omega)
        clear c9
        have HC10 := Aside0.mk H
        clear H
        have p287 : 0 ≤ (1 : Int) := (by omega)
        have q287 : 1 < (l0.length : Int) := of_decide_eq_true z3
        obtain ⟨ad287, A287_1, c287_1, e287, hx287_0, hx287_1, hl287_1, hi287_1⟩ := at_T69 HR0.out 1 p287 q287
        cases e287
        (try simp only [show (1 : Int).toNat = 1 from rfl, Nat.reduceMul, Nat.reduceEqDiff, Go.Addr.add, ↓reduceIte] at hx287_0)
        (try simp only [show (1 : Int).toNat = 1 from rfl, Nat.reduceMul, Nat.reduceEqDiff, Go.Addr.add, ↓reduceIte] at hx287_1)
        have qi287 : (1 < l0.length) = True := eq_true (by omega)
        (try rw [show ((1 : Int)).toNat = 1 from rfl] at hx287_0)
        (try rw [show 1 * 2 = 2 from rfl] at hx287_0)
        (try rw [show ((1 : Int)).toNat = 1 from rfl] at hx287_1)
        (try rw [show 1 * 2 = 2 from rfl] at hx287_1)
        replace hx287_0 := (HB.out.cell (World.block_lt_of_cell? w _ hx287_0)).trans hx287_0
        replace hx287_1 := (HB.out.cell (World.block_lt_of_cell? w _ hx287_1)).trans hx287_1
        have HR287_1 := Aside0.mk hi287_1
        have HC287_1 := Aside0.mk hl287_1
        clear hi287_1 hl287_1
        replace p287 := eq_true p287
        replace q287 := eq_true q287
        go_upto_region 6 with (first | ((with_reducible refine gate_dst (N := 3) rfl ?_); (try (refine gate_guard (by rfl) ?_; dsimp only)); refine box_event ?hg (N := 3) ?hd (cs := #[.int .i64 0, .slice none 0 0]) (t := 69) ?hr ?_; (case hd => rfl); (case hg => rfl); (case hr => first | (go_simp; done) | (go_simp; rfl)); intro gb288 hg w11 hbox hb; have BK288 := Aside0.mk (hbox); have GW288 := Aside0.mk ((by rw [hg]; exact (below_size z1) : w.heap.size ≤ gb288)); have GE288 := Aside0.mk ((by rw [hg]; exact (below_size z1) : w.heap.size ≤ gb288)); replace HB := Aside0.mk (below_step z1 hb); clear hb hbox hg; obtain ⟨hcz12_0, hcz12_1, hfz12_0, hfz12_1⟩ := cbf2 BK288))
        (try simp only [Act.put, List.setIfInBounds_toArray, List.set_cons_zero, List.set_cons_succ])
        go_cut [47] (fun v47 wc => ∃ (kq : Nat) (x47_9 : Bool), v47 = .bool x47_9 ∧ Aside0 (impl_ClassesOk.j2 kq l0 x47_9 = some r) ∧ Aside0 (kq ≤ kj4) ∧ Aside0 (wc.heap[gb288]? = some (.cells #[.int .i64 ((rd_T69 l0 1).f0), (.slice A287_1 ((rd_T69 l0 1).f1).length c287_1)] 69 (0, 0))) ∧ Aside0 (Below w.heap.size w wc))
        case first =>
         have H := HC10.out
         clear HC10
         by_cases c13 : ((rd_T69 l0 1).f0) = 0
         ·rw [if_pos c13] at H
          have c13b0 : (((rd_T69 l0 1).f0) == 0) = true := beq_iff_eq.mpr c13
          have c13b1 : (((rd_T69 l0 1).f0) != 0) = false := bne_eq_false_iff_eq.mpr c13
          clear c13
          (first | rw [c13b0] | (simp only [i64_w, i32_w]; rw [c13b0]) | skip)
          by_cases c14 : (((rd_T69 l0 1).f1).length : Int) = 1
          ·rw [if_pos c14] at H
           have c14b0 : ((((rd_T69 l0 1).f1).length : Int) == 1) = true := beq_iff_eq.mpr c14
           have c14b1 : ((((rd_T69 l0 1).f1).length : Int) != 1) = false := bne_eq_false_iff_eq.mpr c14
           clear c14
           by_cases c15 : 0 < (((rd_T69 l0 1).f1).length : Int)
           ·rw [if_pos c15] at H
            have c15b0 : decide (0 < (((rd_T69 l0 1).f1).length : Int)) = true := decide_eq_true c15
            have c15b1 : decide (0 < ((rd_T69 l0 1).f1).length) = true := decide_eq_true (by omega)
            clear c15
            have H' := Aside0.mk H
            clear H
            obtain ⟨hcz16_0, hcz16_1, hfz16_0, hfz16_1⟩ := cbf2 BK288
            have p289 : 0 ≤ (0 : Int) := (by omega)
            have q289 : 0 < (((rd_T69 l0 1).f1).length : Int) := of_decide_eq_true z3
            obtain ⟨ad289, e289, hx289_0⟩ := Kd.at_int HR287_1.out 0 p289 q289
            cases e289
            have qi289 : (0 < ((rd_T69 l0 1).f1).length) = True := eq_true (by omega)
            (try rw [show ((0 : Int)).toNat = 0 from rfl] at hx289_0)
            (try rw [Addr.add_zero'] at hx289_0)
            have hn289_0 : ad289.block ≠ gb288 := Nat.ne_of_lt (Nat.lt_of_lt_of_le (by have := World.block_lt_of_cell? _ _ hx289_0; first | rwa [add_block] at this | exact this) GW288.out)
            have hn289_1 : ad289.block ≠ gb288 := Nat.ne_of_lt (Nat.lt_of_lt_of_le (by have := World.block_lt_of_cell? _ _ hx289_0; first | rwa [add_block] at this | exact this) GW288.out)
            replace hx289_0 := (HB.out.cell (World.block_lt_of_cell? w _ hx289_0)).trans hx289_0
            replace hx289_0 := (cell_far (p := ⟨gb288, 0, none⟩) (by first | (rw [add_block]; exact hn289_0) | (show (Addr.add _ _).block ≠ _; rw [add_block]; exact hn289_0) | exact hn289_0) (.int .i64 ((rd_T69 l0 1).f0))).trans hx289_0
            replace hx289_0 := (cell_far (p := ⟨gb288, 1, none⟩) (by first | (rw [add_block]; exact hn289_1) | (show (Addr.add _ _).block ≠ _; rw [add_block]; exact hn289_1) | exact hn289_1) (.slice (some ad289) ((rd_T69 l0 1).f1).length c287_1)).trans hx289_0
            clear hn289_0
            clear hn289_1
            replace p289 := eq_true p289
            replace q289 := eq_true q289
            go_wp2
            go_meet
            case rel => exact ⟨_, (((rd ((rd_T69 l0 1).f1) 0) != 1)), z5, H', ⟨by have := HJ1.out; have := HJ4.out; first | omega | exact Nat.le_refl _⟩, ⟨by (with_reducible repeat (first | refine blk_drewN ?_ _ | refine blk_drew ?_ | refine blk_alloc ?_ _)); refine blk_put (cs := #[.int .i64 ((rd_T69 l0 1).f0), .slice none 0 0]) ?_ 1 _ rfl; (with_reducible repeat (first | refine blk_drewN ?_ _ | refine blk_drew ?_ | refine blk_alloc ?_ _)); refine blk_put (cs := #[.int .i64 0, .slice none 0 0]) ?_ 0 _ rfl; (with_reducible repeat (first | refine blk_drewN ?_ _ | refine blk_drew ?_ | refine blk_alloc ?_ _)); exact BK288.out⟩, ⟨by repeat (first | (with_reducible first | exact HB.out | apply below_alloc | apply pw_below_drewN | apply below_drew1 | refine below_set ?_ GE288.out) | exact HB.out)⟩⟩
           ·rw [if_neg c15] at H
            exact absurd H (by simp)
          ·rw [if_neg c14] at H
           have c14b0 : ((((rd_T69 l0 1).f1).length : Int) == 1) = false := beq_eq_false_iff_ne.mpr c14
           have c14b1 : ((((rd_T69 l0 1).f1).length : Int) != 1) = true := bne_iff_ne.mpr c14
           have H' := Aside0.mk H
           clear H
           obtain ⟨hcz17_0, hcz17_1, hfz17_0, hfz17_1⟩ := cbf2 BK288
           go_wp2
           go_meet
           case rel => exact ⟨_, (true), z5, H', ⟨by have := HJ1.out; have := HJ4.out; first | omega | exact Nat.le_refl _⟩, ⟨by (with_reducible repeat (first | refine blk_drewN ?_ _ | refine blk_drew ?_ | refine blk_alloc ?_ _)); refine blk_put (cs := #[.int .i64 ((rd_T69 l0 1).f0), .slice none 0 0]) ?_ 1 _ rfl; (with_reducible repeat (first | refine blk_drewN ?_ _ | refine blk_drew ?_ | refine blk_alloc ?_ _)); refine blk_put (cs := #[.int .i64 0, .slice none 0 0]) ?_ 0 _ rfl; (with_reducible repeat (first | refine blk_drewN ?_ _ | refine blk_drew ?_ | refine blk_alloc ?_ _)); exact BK288.out⟩, ⟨by repeat (first | (with_reducible first | exact HB.out | apply below_alloc | apply pw_below_drewN | apply below_drew1 | refine below_set ?_ GE288.out) | exact HB.out)⟩⟩
         ·rw [if_neg c13] at H
          have c13b0 : (((rd_T69 l0 1).f0) == 0) = false := beq_eq_false_iff_ne.mpr c13
          have c13b1 : (((rd_T69 l0 1).f0) != 0) = true := bne_iff_ne.mpr c13
          (first | rw [c13b0] | (simp only [i64_w, i32_w]; rw [c13b0]) | skip)
          have H' := Aside0.mk H
          clear H
          obtain ⟨hcz18_0, hcz18_1, hfz18_0, hfz18_1⟩ := cbf2 BK288
          go_wp2
          go_meet
          case rel => exact ⟨_, (true), z5, H', ⟨by have := HJ1.out; have := HJ4.out; first | omega | exact Nat.le_refl _⟩, ⟨by (with_reducible repeat (first | refine blk_drewN ?_ _ | refine blk_drew ?_ | refine blk_alloc ?_ _)); refine blk_put (cs := #[.int .i64 ((rd_T69 l0 1).f0), .slice none 0 0]) ?_ 1 _ rfl; (with_reducible repeat (first | refine blk_drewN ?_ _ | refine blk_drew ?_ | refine blk_alloc ?_ _)); refine blk_put (cs := #[.int .i64 0, .slice none 0 0]) ?_ 0 _ rfl; (with_reducible repeat (first | refine blk_drewN ?_ _ | refine blk_drew ?_ | refine blk_alloc ?_ _)); exact BK288.out⟩, ⟨by repeat (first | (with_reducible first | exact HB.out | apply below_alloc | apply pw_below_drewN | apply below_drew1 | refine below_set ?_ GE288.out) | exact HB.out)⟩⟩
        case rest =>
         clear HC10
         try clear c1
         try clear c2
         try clear p2
         try clear q2
         try clear hx2
         try clear qi2
         try clear c3
         try clear c3b0
         try clear c3b1
         try clear c4
         try clear c6
         try clear c6b0
         try clear c6b1
         try clear c7
         try clear c7b0
         try clear c7b1
         try clear c8
         try clear c9
         try clear c9b0
         try clear c9b1
         try clear c13
         try clear c13b0
         try clear c13b1
         try clear c14
         try clear c14b0
         try clear c14b1
         try clear c15
         try clear c15b0
         try clear c15b1
         try clear hcz12_0
         try clear hcz12_1
         try clear hcz16_0
         try clear hcz16_1
         try clear hcz17_0
         try clear hcz17_1
         try clear hcz18_0
         try clear hcz18_1
         try clear hfz12_0
         try clear hfz12_1
         try clear hfz16_0
         try clear hfz16_1
         try clear hfz17_0
         try clear hfz17_1
         try clear hfz18_0
         try clear hfz18_1
         try clear hx285_0
         try clear hx285_1
         try clear hx286_0
         try clear hx286_1
         try clear hx287_0
         try clear hx287_1
         try clear hx289_0
         try clear p2
         try clear p285
         try clear p286
         try clear p287
         try clear p289
         try clear q2
         try clear q285
         try clear q286
         try clear q287
         try clear q289
         obtain ⟨kq, x47_9, rfl, HA, HJ9, BK288, HB⟩ := hcut
         cases kq with
         | zero => exact absurd HA.out (by simp [impl_ClassesOk.j2])
         | succ kj9 =>
          have H := HA.out
          clear HA
          simp only [impl_ClassesOk.j2] at H
          by_cases c19 : x47_9 = true
          ·subst c19
           rw [if_pos rfl] at H
           obtain rfl := Option.some.inj H
           go_wp2
           go_ret
           exact ⟨by first | rfl | (simp [errW_none, errW_some] <;> rfl) | (simp [*, errW_none, errW_some] <;> rfl), by repeat (first | (with_reducible first | exact HB.out | apply below_alloc | apply pw_below_drewN | apply below_drew1 | refine below_set ?_ GE288.out) | exact HB.out)⟩
          ·replace c19 := Bool.eq_false_iff.mpr c19
           subst c19
           rw [if_neg (show ¬ (false = true) by decide)] at H
           have H' := Aside0.mk H
           clear H
           go_wp2
           go_loopg [50] kj9 (fun kq v50 w' => ∃ (x50_4 : Int), v50 = .int .i64 x50_4 ∧ Aside0 (impl_ClassesOk.l0 kq l0 l0 (l0.length : Int) x50_4 = some r) ∧ Aside0 (kq ≤ kj9) ∧ Aside0 (w'.heap[gb288]? = some (.cells #[.int .i64 ((rd_T69 l0 1).f0), (.slice A287_1 ((rd_T69 l0 1).f1).length c287_1)] 69 (0, 0))) ∧ Aside0 (Below w.heap.size w w'))
           case atStart => exact ⟨(0), z5, H', ⟨Nat.le_refl _⟩, ⟨by (with_reducible repeat (first | refine blk_drewN ?_ _ | refine blk_drew ?_ | refine blk_alloc ?_ _)); exact BK288.out⟩, ⟨by repeat (first | (with_reducible first | exact HB.out | apply below_alloc | apply pw_below_drewN | apply below_drew1 | refine below_set ?_ GE288.out) | exact HB.out)⟩⟩
           case round =>
            clear H'
            try clear c1
            try clear c2
            try clear p2
            try clear q2
            try clear hx2
            try clear qi2
            try clear c3
            try clear c3b0
            try clear c3b1
            try clear c4
            try clear c6
            try clear c6b0
            try clear c6b1
            try clear c7
            try clear c7b0
            try clear c7b1
            try clear c8
            try clear c9
            try clear c9b0
            try clear c9b1
            try clear c13
            try clear c13b0
            try clear c13b1
            try clear c14
            try clear c14b0
            try clear c14b1
            try clear c15
            try clear c15b0
            try clear c15b1
            try clear c19
            try clear hcz12_0
            try clear hcz12_1
            try clear hcz16_0
            try clear hcz16_1
            try clear hcz17_0
            try clear hcz17_1
            try clear hcz18_0
            try clear hcz18_1
            try clear hfz12_0
            try clear hfz12_1
            try clear hfz16_0
            try clear hfz16_1
            try clear hfz17_0
            try clear hfz17_1
            try clear hfz18_0
            try clear hfz18_1
            try clear hx285_0
            try clear hx285_1
            try clear hx286_0
            try clear hx286_1
            try clear hx287_0
            try clear hx287_1
            try clear hx289_0
            try clear p2
            try clear p285
            try clear p286
            try clear p287
            try clear p289
            try clear q2
            try clear q285
            try clear q286
            try clear q287
            try clear q289
            obtain ⟨x50_4, rfl, HA, HK4, BK288, HB⟩ := hrel
            cases gk with
            | zero => exact absurd HA.out (by simp [impl_ClassesOk.l0])
            | succ k4 =>
             have H := HA.out
             clear HA
             simp only [impl_ClassesOk.l0] at H
             by_cases c20 : x50_4 < (l0.length : Int)
             ·rw [if_pos c20] at H
              have c20b0 : decide (x50_4 < (l0.length : Int)) = true := decide_eq_true c20
              clear c20
              by_cases c21 : 0 ≤ x50_4
              ·rw [if_pos c21] at H
               have c21b0 : decide (0 ≤ x50_4) = true := decide_eq_true c21
               clear c21
               by_cases c22 : x50_4 < (l0.length : Int)
               ·rw [if_pos c22] at H
                have c22b0 : decide (x50_4 < (l0.length : Int)) = true := decide_eq_true c22
                clear c22
                have HC23 := Aside0.mk H
                clear H
                have p290 : 0 ≤ (x50_4 : Int) := of_decide_eq_true z3
                have q290 : x50_4 < (l0.length : Int) := of_decide_eq_true z3
                obtain ⟨ad290, A290_1, c290_1, e290, hx290_0, hx290_1, hl290_1, hi290_1⟩ := at_T69 HR0.out x50_4 p290 q290
                obtain rfl : ad287 = ad290 := (by injection e290)
                replace hx290_0 := (HB.out.cell (World.block_lt_of_cell? w _ hx290_0)).trans hx290_0
                replace hx290_1 := (HB.out.cell (World.block_lt_of_cell? w _ hx290_1)).trans hx290_1
                have HR290_1 := Aside0.mk hi290_1
                have HC290_1 := Aside0.mk hl290_1
                clear hi290_1 hl290_1
                replace p290 := eq_true p290
                replace q290 := eq_true q290
                go_upto_region 11 with (first | ((with_reducible refine gate_dst (N := 5) rfl ?_); (try (refine gate_guard (by rfl) ?_; dsimp only)); refine box_event ?hg (N := 5) ?hd (cs := #[.int .i64 0, .slice none 0 0]) (t := 69) ?hr ?_; (case hd => rfl); (case hg => rfl); (case hr => first | (go_simp; done) | (go_simp; rfl)); intro gb291 hg w24 hbox hb; have BK291 := Aside0.mk (hbox); have GW291 := Aside0.mk ((by rw [hg]; exact (below_size (by repeat (first | (with_reducible first | exact HB.out | apply below_alloc | apply pw_below_drewN | apply below_drew1 | refine below_set ?_ GE288.out) | exact HB.out))) : w.heap.size ≤ gb291)); have GE291 := Aside0.mk ((by rw [hg]; exact (below_size (by repeat (first | (with_reducible first | exact HB.out | apply below_alloc | apply pw_below_drewN | apply below_drew1 | refine below_set ?_ GE288.out) | exact HB.out))) : w.heap.size ≤ gb291)); have NB288_291 := Aside0.mk ((by rw [hg]; exact Nat.ne_of_lt (blk_lt (g := gb288) (o := .cells #[.int .i64 ((rd_T69 l0 1).f0), .slice A287_1 ((rd_T69 l0 1).f1).length c287_1] 69 (0, 0)) (by (with_reducible repeat (first | refine blk_drewN ?_ _ | refine blk_drew ?_ | refine blk_alloc ?_ _)); exact BK288.out)) : gb288 ≠ gb291)); have NB291_288 := Aside0.mk ((by rw [hg]; exact Nat.ne_of_gt (blk_lt (g := gb288) (o := .cells #[.int .i64 ((rd_T69 l0 1).f0), .slice A287_1 ((rd_T69 l0 1).f1).length c287_1] 69 (0, 0)) (by (with_reducible repeat (first | refine blk_drewN ?_ _ | refine blk_drew ?_ | refine blk_alloc ?_ _)); exact BK288.out)) : gb291 ≠ gb288)); replace BK288 := Aside0.mk (blk_below (g := gb288) (o := .cells #[.int .i64 ((rd_T69 l0 1).f0), .slice A287_1 ((rd_T69 l0 1).f1).length c287_1] 69 (0, 0)) (by (with_reducible repeat (first | refine blk_drewN ?_ _ | refine blk_drew ?_ | refine blk_alloc ?_ _)); exact BK288.out) hb); replace HB := Aside0.mk (below_step (by repeat (first | (with_reducible first | exact HB.out | apply below_alloc | apply pw_below_drewN | apply below_drew1 | refine below_set ?_ GE288.out) | exact HB.out)) hb); clear hb hbox hg; have hnb25 := NB291_288.out; have hnc25 := NB288_291.out; obtain ⟨hcz26_0, hcz26_1, hfz26_0, hfz26_1⟩ := cbf2 BK291))
                (try simp only [Act.put, List.setIfInBounds_toArray, List.set_cons_zero, List.set_cons_succ])
                go_cut [67] (fun v67 wc => ∃ (kq : Nat) (x67_22 : Bool), v67 = .bool x67_22 ∧ Aside0 (impl_ClassesOk.j4 kq l0 l0 (l0.length : Int) x50_4 x67_22 ((rd_T69 l0 x50_4).f0) ((rd_T69 l0 x50_4).f1) = some r) ∧ Aside0 (kq ≤ k4) ∧ Aside0 (wc.heap[gb288]? = some (.cells #[.int .i64 ((rd_T69 l0 1).f0), (.slice A287_1 ((rd_T69 l0 1).f1).length c287_1)] 69 (0, 0))) ∧ Aside0 (wc.heap[gb291]? = some (.cells #[.int .i64 ((rd_T69 l0 x50_4).f0), (.slice A290_1 ((rd_T69 l0 x50_4).f1).length c290_1)] 69 (0, 0))) ∧ Aside0 (Below w.heap.size w wc))
                case first =>
                 have H := HC23.out
                 clear HC23
                 by_cases c27 : x50_4 > 1
                 ·rw [if_pos c27] at H
                  have c27b0 : decide (1 < x50_4) = true := decide_eq_true c27
                  clear c27
                  (first | rw [c27b0] | (simp only [i64_w, i32_w]; rw [c27b0]) | skip)
                  by_cases c28 : ((rd_T69 l0 x50_4).f0) < 0
                  ·rw [if_pos c28] at H
                   have c28b0 : decide (((rd_T69 l0 x50_4).f0) < 0) = true := decide_eq_true c28
                   clear c28
                   have H' := Aside0.mk H
                   clear H
                   have hnb29 := NB291_288.out
                   have hnc29 := NB288_291.out
                   obtain ⟨hcz30_0, hcz30_1, hfz30_0, hfz30_1⟩ := cbf2 BK291
                   go_wp2
                   go_meet
                   case rel => exact ⟨_, (true), z5, H', ⟨by have := HJ1.out; have := HJ4.out; have := HJ9.out; have := HK4.out; first | omega | exact Nat.le_refl _⟩, ⟨by (with_reducible repeat (first | refine blk_drewN ?_ _ | refine blk_drew ?_ | refine blk_alloc ?_ _)); refine blk_far ?_ NB288_291.out _; (with_reducible repeat (first | refine blk_drewN ?_ _ | refine blk_drew ?_ | refine blk_alloc ?_ _)); refine blk_far ?_ NB288_291.out _; (with_reducible repeat (first | refine blk_drewN ?_ _ | refine blk_drew ?_ | refine blk_alloc ?_ _)); exact BK288.out⟩, ⟨by (with_reducible repeat (first | refine blk_drewN ?_ _ | refine blk_drew ?_ | refine blk_alloc ?_ _)); refine blk_put (cs := #[.int .i64 ((rd_T69 l0 x50_4).f0), .slice none 0 0]) ?_ 1 _ rfl; (with_reducible repeat (first | refine blk_drewN ?_ _ | refine blk_drew ?_ | refine blk_alloc ?_ _)); refine blk_put (cs := #[.int .i64 0, .slice none 0 0]) ?_ 0 _ rfl; (with_reducible repeat (first | refine blk_drewN ?_ _ | refine blk_drew ?_ | refine blk_alloc ?_ _)); exact BK291.out⟩, ⟨by repeat (first | (with_reducible first | exact HB.out | apply below_alloc | apply pw_below_drewN | apply below_drew1 | refine below_set ?_ GE288.out | refine below_set ?_ GE291.out) | exact HB.out)⟩⟩
                  ·rw [if_neg c28] at H
                   have c28b0 : decide (((rd_T69 l0 x50_4).f0) < 0) = false := decide_eq_false c28
                   clear c28
                   have H' := Aside0.mk H
                   clear H
                   have hnb31 := NB291_288.out
                   have hnc31 := NB288_291.out
                   obtain ⟨hcz32_0, hcz32_1, hfz32_0, hfz32_1⟩ := cbf2 BK291
                   go_wp2
                   go_meet
                   case rel => exact ⟨_, (decide (((rd_T69 l0 x50_4).f0) ≥ x50_4)), z5, H', ⟨by have := HJ1.out; have := HJ4.out; have := HJ9.out; have := HK4.out; first | omega | exact Nat.le_refl _⟩, ⟨by (with_reducible repeat (first | refine blk_drewN ?_ _ | refine blk_drew ?_ | refine blk_alloc ?_ _)); refine blk_far ?_ NB288_291.out _; (with_reducible repeat (first | refine blk_drewN ?_ _ | refine blk_drew ?_ | refine blk_alloc ?_ _)); refine blk_far ?_ NB288_291.out _; (with_reducible repeat (first | refine blk_drewN ?_ _ | refine blk_drew ?_ | refine blk_alloc ?_ _)); exact BK288.out⟩, ⟨by (with_reducible repeat (first | refine blk_drewN ?_ _ | refine blk_drew ?_ | refine blk_alloc ?_ _)); refine blk_put (cs := #[.int .i64 ((rd_T69 l0 x50_4).f0), .slice none 0 0]) ?_ 1 _ rfl; (with_reducible repeat (first | refine blk_drewN ?_ _ | refine blk_drew ?_ | refine blk_alloc ?_ _)); refine blk_put (cs := #[.int .i64 0, .slice none 0 0]) ?_ 0 _ rfl; (with_reducible repeat (first | refine blk_drewN ?_ _ | refine blk_drew ?_ | refine blk_alloc ?_ _)); exact BK291.out⟩, ⟨by repeat (first | (with_reducible first | exact HB.out | apply below_alloc | apply pw_below_drewN | apply below_drew1 | refine below_set ?_ GE288.out | refine below_set ?_ GE291.out) | exact HB.out)⟩⟩
                 ·rw [if_neg c27] at H
                  have c27b0 : decide (1 < x50_4) = false := decide_eq_false c27
                  clear c27
                  (first | rw [c27b0] | (simp only [i64_w, i32_w]; rw [c27b0]) | skip)
                  have H' := Aside0.mk H
                  clear H
                  go_wp2
                  go_meet
                  case rel => exact ⟨_, (false), z5, H', ⟨by have := HJ1.out; have := HJ4.out; have := HJ9.out; have := HK4.out; first | omega | exact Nat.le_refl _⟩, ⟨by (with_reducible repeat (first | refine blk_drewN ?_ _ | refine blk_drew ?_ | refine blk_alloc ?_ _)); refine blk_far ?_ NB288_291.out _; (with_reducible repeat (first | refine blk_drewN ?_ _ | refine blk_drew ?_ | refine blk_alloc ?_ _)); refine blk_far ?_ NB288_291.out _; (with_reducible repeat (first | refine blk_drewN ?_ _ | refine blk_drew ?_ | refine blk_alloc ?_ _)); exact BK288.out⟩, ⟨by (with_reducible repeat (first | refine blk_drewN ?_ _ | refine blk_drew ?_ | refine blk_alloc ?_ _)); refine blk_put (cs := #[.int .i64 ((rd_T69 l0 x50_4).f0), .slice none 0 0]) ?_ 1 _ rfl; (with_reducible repeat (first | refine blk_drewN ?_ _ | refine blk_drew ?_ | refine blk_alloc ?_ _)); refine blk_put (cs := #[.int .i64 0, .slice none 0 0]) ?_ 0 _ rfl; (with_reducible repeat (first | refine blk_drewN ?_ _ | refine blk_drew ?_ | refine blk_alloc ?_ _)); exact BK291.out⟩, ⟨by repeat (first | (with_reducible first | exact HB.out | apply below_alloc | apply pw_below_drewN | apply below_drew1 | refine below_set ?_ GE288.out | refine below_set ?_ GE291.out) | exact HB.out)⟩⟩
                case rest =>
                 clear HC23
                 try clear c1
                 try clear c2
                 try clear p2
                 try clear q2
                 try clear hx2
                 try clear qi2
                 try clear c3
                 try clear c3b0
                 try clear c3b1
                 try clear c4
                 try clear c6
                 try clear c6b0
                 try clear c6b1
                 try clear c7
                 try clear c7b0
                 try clear c7b1
                 try clear c8
                 try clear c9
                 try clear c9b0
                 try clear c9b1
                 try clear c13
                 try clear c13b0
                 try clear c13b1
                 try clear c14
                 try clear c14b0
                 try clear c14b1
                 try clear c15
                 try clear c15b0
                 try clear c15b1
                 try clear c19
                 try clear c20
                 try clear c20b0
                 try clear c21
                 try clear c21b0
                 try clear c22
                 try clear c22b0
                 try clear c25
                 try clear c27
                 try clear c27b0
                 try clear c28
                 try clear c28b0
                 try clear p28
                 try clear q28
                 try clear hx28
                 try clear qi28
                 try clear c29
                 try clear p29
                 try clear q29
                 try clear hx29
                 try clear c31
                 try clear hcz12_0
                 try clear hcz12_1
                 try clear hcz16_0
                 try clear hcz16_1
                 try clear hcz17_0
                 try clear hcz17_1
                 try clear hcz18_0
                 try clear hcz18_1
                 try clear hcz26_0
                 try clear hcz26_1
                 try clear hcz30_0
                 try clear hcz30_1
                 try clear hcz32_0
                 try clear hcz32_1
                 try clear hfz12_0
                 try clear hfz12_1
                 try clear hfz16_0
                 try clear hfz16_1
                 try clear hfz17_0
                 try clear hfz17_1
                 try clear hfz18_0
                 try clear hfz18_1
                 try clear hfz26_0
                 try clear hfz26_1
                 try clear hfz30_0
                 try clear hfz30_1
                 try clear hfz32_0
                 try clear hfz32_1
                 try clear hx285_0
                 try clear hx285_1
                 try clear hx286_0
                 try clear hx286_1
                 try clear hx287_0
                 try clear hx287_1
                 try clear hx289_0
                 try clear hx290_0
                 try clear hx290_1
                 try clear p2
                 try clear p285
                 try clear p286
                 try clear p287
                 try clear p289
                 try clear p290
                 try clear q2
                 try clear q285
                 try clear q286
                 try clear q287
                 try clear q289
                 try clear q290
                 obtain ⟨kq, x67_22, rfl, HA, HJ22, BK288, BK291, HB⟩ := hcut
                 cases kq with
                 | zero => exact absurd HA.out (by simp [impl_ClassesOk.j4])
                 | succ kj22 =>
                  have H := HA.out
                  clear HA
                  simp only [impl_ClassesOk.j4] at H
                  by_cases c33 : x67_22 = true
                  ·subst c33
                   rw [if_pos rfl] at H
                   obtain rfl := Option.some.inj H
                   go_wp2
                   go_ret
                   exact ⟨by first | rfl | (simp [errW_none, errW_some] <;> rfl) | (simp [*, errW_none, errW_some] <;> rfl), by repeat (first | (with_reducible first | exact HB.out | apply below_alloc | apply pw_below_drewN | apply below_drew1 | refine below_set ?_ GE288.out | refine below_set ?_ GE291.out) | exact HB.out)⟩
                  ·replace c33 := Bool.eq_false_iff.mpr c33
                   subst c33
                   rw [if_neg (show ¬ (false = true) by decide)] at H
                   by_cases c34 : (((rd_T69 l0 x50_4).f1).length : Int) > 2
                   ·rw [if_pos c34] at H
                    have c34b0 : decide (2 < (((rd_T69 l0 x50_4).f1).length : Int)) = true := decide_eq_true c34
                    have c34b1 : decide (2 < ((rd_T69 l0 x50_4).f1).length) = true := decide_eq_true (by omega)
                    clear c34
                    obtain rfl := Option.some.inj H
                    have hnb35 := NB291_288.out
                    have hnc35 := NB288_291.out
                    obtain ⟨hcz36_0, hcz36_1, hfz36_0, hfz36_1⟩ := cbf2 BK291
                    go_wp2
                    go_ret
                    exact ⟨by first | rfl | (simp [errW_none, errW_some] <;> rfl) | (simp [*, errW_none, errW_some] <;> rfl), by repeat (first | (with_reducible first | exact HB.out | apply below_alloc | apply pw_below_drewN | apply below_drew1 | refine below_set ?_ GE288.out | refine below_set ?_ GE291.out) | exact HB.out)⟩
                   ·rw [if_neg c34] at H
                    have c34b0 : decide (2 < (((rd_T69 l0 x50_4).f1).length : Int)) = false := decide_eq_false c34
                    have c34b1 : decide (2 < ((rd_T69 l0 x50_4).f1).length) = false := decide_eq_false (by omega)
                    clear c34
                    have H' := Aside0.mk H
                    clear H
                    have hnb37 := NB291_288.out
                    have hnc37 := NB288_291.out
                    obtain ⟨hcz38_0, hcz38_1, hfz38_0, hfz38_1⟩ := cbf2 BK291
                    go_wp2
                    go_loopg [75] kj22 (fun kq v75 w' => ∃ (x75_6 : Int), v75 = .int .i64 x75_6 ∧ Aside0 (impl_ClassesOk.l1 kq l0 l0 (l0.length : Int) x50_4 ((rd_T69 l0 x50_4).f1) (((rd_T69 l0 x50_4).f1).length : Int) x75_6 = some r) ∧ Aside0 (kq ≤ kj22) ∧ Aside0 (w'.heap[gb288]? = some (.cells #[.int .i64 ((rd_T69 l0 1).f0), (.slice A287_1 ((rd_T69 l0 1).f1).length c287_1)] 69 (0, 0))) ∧ Aside0 (w'.heap[gb291]? = some (.cells #[.int .i64 ((rd_T69 l0 x50_4).f0), (.slice A290_1 ((rd_T69 l0 x50_4).f1).length c290_1)] 69 (0, 0))) ∧ Aside0 (Below w.heap.size w w'))
                    case atStart => exact ⟨(0), z5, H', ⟨Nat.le_refl _⟩, ⟨by (with_reducible repeat (first | refine blk_drewN ?_ _ | refine blk_drew ?_ | refine blk_alloc ?_ _)); exact BK288.out⟩, ⟨by (with_reducible repeat (first | refine blk_drewN ?_ _ | refine blk_drew ?_ | refine blk_alloc ?_ _)); exact BK291.out⟩, ⟨by repeat (first | (with_reducible first | exact HB.out | apply below_alloc | apply pw_below_drewN | apply below_drew1 | refine below_set ?_ GE288.out | refine below_set ?_ GE291.out) | exact HB.out)⟩⟩
                    case round =>
                     clear H'
                     try clear c1
                     try clear c2
                     try clear p2
                     try clear q2
                     try clear hx2
                     try clear qi2
                     try clear c3
                     try clear c3b0
                     try clear c3b1
                     try clear c4
                     try clear c6
                     try clear c6b0
                     try clear c6b1
                     try clear c7
                     try clear c7b0
                     try clear c7b1
                     try clear c8
                     try clear c9
                     try clear c9b0
                     try clear c9b1
                     try clear c13
                     try clear c13b0
                     try clear c13b1
                     try clear c14
                     try clear c14b0
                     try clear c14b1
                     try clear c15
                     try clear c15b0
                     try clear c15b1
                     try clear c19
                     try clear c20
                     try clear c20b0
                     try clear c21
                     try clear c21b0
                     try clear c22
                     try clear c22b0
                     try clear c25
                     try clear c27
                     try clear c27b0
                     try clear c28
                     try clear c28b0
                     try clear p28
                     try clear q28
                     try clear hx28
                     try clear qi28
                     try clear c29
                     try clear p29
                     try clear q29
                     try clear hx29
                     try clear c31
                     try clear c33
                     try clear c34
                     try clear c34b0
                     try clear c34b1
                     try clear c35
                     try clear c37
                     try clear hcz12_0
                     try clear hcz12_1
                     try clear hcz16_0
                     try clear hcz16_1
                     try clear hcz17_0
                     try clear hcz17_1
                     try clear hcz18_0
                     try clear hcz18_1
                     try clear hcz26_0
                     try clear hcz26_1
                     try clear hcz30_0
                     try clear hcz30_1
                     try clear hcz32_0
                     try clear hcz32_1
                     try clear hcz36_0
                     try clear hcz36_1
                     try clear hcz38_0
                     try clear hcz38_1
                     try clear hfz12_0
                     try clear hfz12_1
                     try clear hfz16_0
                     try clear hfz16_1
                     try clear hfz17_0
                     try clear hfz17_1
                     try clear hfz18_0
                     try clear hfz18_1
                     try clear hfz26_0
                     try clear hfz26_1
                     try clear hfz30_0
                     try clear hfz30_1
                     try clear hfz32_0
                     try clear hfz32_1
                     try clear hfz36_0
                     try clear hfz36_1
                     try clear hfz38_0
                     try clear hfz38_1
                     try clear hx285_0
                     try clear hx285_1
                     try clear hx286_0
                     try clear hx286_1
                     try clear hx287_0
                     try clear hx287_1
                     try clear hx289_0
                     try clear hx290_0
                     try clear hx290_1
                     try clear p2
                     try clear p28
                     try clear p285
                     try clear p286
                     try clear p287
                     try clear p289
                     try clear p29
                     try clear p290
                     try clear q2
                     try clear q28
                     try clear q285
                     try clear q286
                     try clear q287
                     try clear q289
                     try clear q29
                     try clear q290
                     obtain ⟨x75_6, rfl, HA, HK6, BK288, BK291, HB⟩ := hrel
                     cases gk with
                     | zero => exact absurd HA.out (by simp [impl_ClassesOk.l1])
                     | succ k6 =>
                      have H := HA.out
                      clear HA
                      simp only [impl_ClassesOk.l1] at H
                      by_cases c39 : x75_6 < (((rd_T69 l0 x50_4).f1).length : Int)
                      ·rw [if_pos c39] at H
                       have c39b0 : decide (x75_6 < (((rd_T69 l0 x50_4).f1).length : Int)) = true := decide_eq_true c39
                       clear c39
                       by_cases c40 : 0 ≤ x75_6
                       ·rw [if_pos c40] at H
                        have c40b0 : decide (0 ≤ x75_6) = true := decide_eq_true c40
                        clear c40
                        by_cases c41 : x75_6 < (((rd_T69 l0 x50_4).f1).length : Int)
                        ·rw [if_pos c41] at H
                         have c41b0 : decide (x75_6 < (((rd_T69 l0 x50_4).f1).length : Int)) = true := decide_eq_true c41
                         clear c41
                         replace H := Option.bind_eq_some_iff.mp H
                         obtain ⟨t293, A420, H⟩ := H
                         try dsimp only at H
                         have A42 := Aside0.mk A420
                         clear A420
                         by_cases c43 : t293 = true
                         ·subst c43
                          rw [if_pos rfl] at H
                          have H' := Aside0.mk H
                          clear H
                          have p292 : 0 ≤ (x75_6 : Int) := of_decide_eq_true z3
                          have q292 : x75_6 < (((rd_T69 l0 x50_4).f1).length : Int) := of_decide_eq_true z3
                          obtain ⟨ad292, e292, hx292_0⟩ := Kd.at_int HR290_1.out x75_6 p292 q292
                          cases e292
                          replace hx292_0 := (HB.out.cell (World.block_lt_of_cell? w _ hx292_0)).trans hx292_0
                          replace p292 := eq_true p292
                          replace q292 := eq_true q292
                          go_wp2_with (first | ((with_reducible refine gate_callee (f := 112) rfl ?_); refine goesL_ (some 82) rfl rfl Try.func112 (by kernel_rfl) rfl #[.int .i64 (l0.length : Int), .int .i64 (rd ((rd_T69 l0 x50_4).f1) x75_6)] rfl z2 ?_; (with_reducible refine (impl_fieldType.calls (l0.length : Int) (rd ((rd_T69 l0 x50_4).f1) x75_6) true _ A42.out).mono ?_); rintro e w' ⟨rfl, ⟨nd, rfl⟩⟩; refine ⟨_, rfl, ?_⟩))
                          go_roundg k6
                          case measure => have := HJ1.out; have := HJ4.out; have := HJ9.out; have := HK4.out; have := HJ22.out; have := HK6.out; omega
                          case rel => exact ⟨(wrap64 (x75_6 + 1)), z5, H', ⟨by have := HJ1.out; have := HJ4.out; have := HJ9.out; have := HK4.out; have := HJ22.out; have := HK6.out; omega⟩, ⟨by (with_reducible repeat (first | refine blk_drewN ?_ _ | refine blk_drew ?_ | refine blk_alloc ?_ _)); exact BK288.out⟩, ⟨by (with_reducible repeat (first | refine blk_drewN ?_ _ | refine blk_drew ?_ | refine blk_alloc ?_ _)); exact BK291.out⟩, ⟨by repeat (first | (with_reducible first | exact HB.out | apply below_alloc | apply pw_below_drewN | apply below_drew1 | refine below_set ?_ GE288.out | refine below_set ?_ GE291.out) | exact HB.out)⟩⟩
                         ·replace c43 := Bool.eq_false_iff.mpr c43
                          subst c43
                          rw [if_neg (show ¬ (false = true) by decide)] at H
                          obtain rfl := Option.some.inj H
                          have p292 : 0 ≤ (x75_6 : Int) := of_decide_eq_true z3
                          have q292 : x75_6 < (((rd_T69 l0 x50_4).f1).length : Int) := of_decide_eq_true z3
                          obtain ⟨ad292, e292, hx292_0⟩ := Kd.at_int HR290_1.out x75_6 p292 q292
                          cases e292
                          replace hx292_0 := (HB.out.cell (World.block_lt_of_cell? w _ hx292_0)).trans hx292_0
                          replace p292 := eq_true p292
                          replace q292 := eq_true q292
                          go_wp2_with (first | ((with_reducible refine gate_callee (f := 112) rfl ?_); refine goesL_ (some 82) rfl rfl Try.func112 (by kernel_rfl) rfl #[.int .i64 (l0.length : Int), .int .i64 (rd ((rd_T69 l0 x50_4).f1) x75_6)] rfl z2 ?_; (with_reducible refine (impl_fieldType.calls (l0.length : Int) (rd ((rd_T69 l0 x50_4).f1) x75_6) false _ A42.out).mono ?_); rintro e w' ⟨rfl, ⟨nd, rfl⟩⟩; refine ⟨_, rfl, ?_⟩))
                          go_ret
                          exact ⟨by first | rfl | (simp [errW_none, errW_some] <;> rfl) | (simp [*, errW_none, errW_some] <;> rfl), by repeat (first | (with_reducible first | exact HB.out | apply below_alloc | apply pw_below_drewN | apply below_drew1 | refine below_set ?_ GE288.out | refine below_set ?_ GE291.out) | exact HB.out)⟩
                        ·rw [if_neg c41] at H
                         exact absurd H (by simp)
                       ·rw [if_neg c40] at H
                        exact absurd H (by simp)
                      ·rw [if_neg c39] at H
                       have c39b0 : decide (x75_6 < (((rd_T69 l0 x50_4).f1).length : Int)) = false := decide_eq_false c39
                       clear c39
                       have H' := Aside0.mk H
                       clear H
                       go_wp2
                       go_roundg k6
                       case measure => have := HJ1.out; have := HJ4.out; have := HJ9.out; have := HK4.out; have := HJ22.out; have := HK6.out; omega
                       case rel => exact ⟨(wrap64 (x50_4 + 1)), z5, H', ⟨by have := HJ1.out; have := HJ4.out; have := HJ9.out; have := HK4.out; have := HJ22.out; have := HK6.out; omega⟩, ⟨by (with_reducible repeat (first | refine blk_drewN ?_ _ | refine blk_drew ?_ | refine blk_alloc ?_ _)); exact BK288.out⟩, ⟨by repeat (first | (with_reducible first | exact HB.out | apply below_alloc | apply pw_below_drewN | apply below_drew1 | refine below_set ?_ GE288.out | refine below_set ?_ GE291.out) | exact HB.out)⟩⟩
               ·rw [if_neg c22] at H
                exact absurd H (by simp)
              ·rw [if_neg c21] at H
               exact absurd H (by simp)
             ·rw [if_neg c20] at H
              have c20b0 : decide (x50_4 < (l0.length : Int)) = false := decide_eq_false c20
              clear c20
              obtain rfl := Option.some.inj H
              go_wp2
              go_ret
              exact ⟨by first | rfl | (simp [errW_none, errW_some] <;> rfl) | (simp [*, errW_none, errW_some] <;> rfl), by repeat (first | (with_reducible first | exact HB.out | apply below_alloc | apply pw_below_drewN | apply below_drew1 | refine below_set ?_ GE288.out) | exact HB.out)⟩
       ·rw [if_neg c9] at H
        exact absurd H (by simp)
end Go.Proofs.Ytmniglgahodghaa.K
namespace Go.Proofs.Ytmniglgahodghaa.K
open Go.RowKit Go.Proofs.YtmniglgahodghaaW.PrintWords Go.Proofs.YtmniglgahodghaaW.PrintLast Go.Proofs.YtmniglgahodghaaW.PrintMore
attribute [local go_sem] max2_int min2_int max_two min_two max_three min_three max_four min_four
set_option linter.unusedVariables false
set_option linter.unusedSimpArgs false
def impl_cardsOf.f (a0 : Int) : Option (Int) := some (wrap64 (Int.tdiv (wrap64 ((wrap64 (a0 + 4)) - 1)) 4))
set_option maxHeartbeats 8000000 in
set_option maxRecDepth 100000 in
theorem impl_cardsOf.calls (a0 : Int) (r : Int) (w : World) (h : impl_cardsOf.f a0 = some r) :
  Calls Try.prog 114 #[.int .i64 a0] w fun e w' => e = .returned (.int .i64 r) ∧ Drawn0 w w' := by
 have H : (some (wrap64 (Int.tdiv (wrap64 ((wrap64 (a0 + 4)) - 1)) 4))) = some r := h
 clear h
 obtain rfl := Option.some.inj H
 go_enter Try.func114, Try.ntmps114
 go_wp2
 go_ret
 exact ⟨by first | rfl | (simp; done) | (simp [*]; done), by repeat (first | exact Drawn0.refl _ | apply Drawn0.step)⟩
end Go.Proofs.Ytmniglgahodghaa.K
namespace Go.Proofs.Ytmniglgahodghaa.K
open Go.RowKit Go.Proofs.YtmniglgahodghaaW.PrintWords Go.Proofs.YtmniglgahodghaaW.PrintLast Go.Proofs.YtmniglgahodghaaW.PrintMore
attribute [local go_sem] max2_int min2_int max_two min_two max_three min_three max_four min_four
set_option linter.unusedVariables false
set_option linter.unusedSimpArgs false
theorem impl_partsOk1.calls (x : Int) (w : World) : Calls Try.prog 113 #[.int .i64 x] w fun e w' => e = .returned (.bool (x == 0)) ∧ Below w.heap.size w w' := by
 go_enter Try.func113, Try.ntmps113
 go_wp2
 go_ret
 exact ⟨rfl, by repeat (first | exact Below.refl _ _ | apply below_drew1 | apply pw_below_drewN)⟩
set_option maxHeartbeats 4000000 in
set_option maxRecDepth 100000 in
theorem impl_every.calls (A : Option Addr) (c : Nat) (l : List Int) (W : World) (hr : Kd.C (Kd.int .i64) W A l.length l) (hl : l.length ≤ 281474976710656) :
  Calls Try.prog 115 #[.slice A l.length c, .func (.func 113) #[] #[]] W fun e w' => e = .returned (.bool (l.all (· == 0))) ∧ Below W.heap.size W w' := by
 have HR := Aside0.mk hr
 have HL := Aside0.mk hl
 clear hr hl
 go_enter Try.func115, Try.ntmps115
 go_wp2
 go_loopw [9] (fun i wr => ∃ k : Nat, k ≤ l.length ∧ i = .int .i64 k ∧ Aside0 ((l.drop k).all (· == 0) = l.all (· == 0)) ∧ Aside0 (Below W.heap.size W wr)) (fun i _ => l.length - (intOf i).toNat)
 case atStart => exact ⟨0, Nat.zero_le _, rfl, ⟨by simp⟩, ⟨Below.refl _ _⟩⟩
 case round =>
  obtain ⟨k, hk, rfl, HN, HB⟩ := hrel
  by_cases hlt : k < l.length
  ·have hd := List.drop_eq_getElem_cons hlt
   have hg : l[k] = rd l k := by unfold rd; rw [Int.toNat_natCast, List.getD_eq_getElem?_getD, List.getElem?_eq_getElem hlt]; rfl
   obtain ⟨ad, e0, hcell⟩ := Kd.at_int (Kd.C_below HR.out HB.out) k (by omega) (by omega)
   cases e0
   rw [Int.toNat_natCast] at hcell
   have HN2 := HN.out
   rw [hd, hg, List.all_cons] at HN2
   have HX := Aside0.mk HN2
   clear hd hg HN HN2
   generalize rd l k = x at *
   by_cases hx : x = 0
   ·have d1 : (x == 0) = true := beq_iff_eq.mpr hx
    have HY := Aside0.mk (show (l.drop (k + 1)).all (· == 0) = l.all (· == 0) by have := HX.out; rw [d1, Bool.true_and] at this; exact this)
    clear hx HX
    go_wp2_with fail
    refine (impl_partsOk1.calls x _).mono ?_
    rw [d1]
    rintro e w2 ⟨rfl, hb2⟩
    have HB2 := Aside0.mk (below_step HB.out hb2)
    clear hb2
    go_wp2
    go_roundw
    case rel => exact ⟨k + 1, by omega, by rw [show wrap64 ((k : Int) + 1) = ((k + 1 : Nat) : Int) by have := HL.out; unfold wrap64; omega], HY, HB2⟩
    case measure => rw [show wrap64 ((k : Int) + 1) = ((k + 1 : Nat) : Int) by have := HL.out; unfold wrap64; omega]; simp only [intOf, Int.toNat_natCast]; omega
   ·have d1 : (x == 0) = false := beq_eq_false_iff_ne.mpr hx
    have HY := Aside0.mk (show l.all (· == 0) = false by have := HX.out; rw [d1, Bool.false_and] at this; exact this.symm)
    clear hx HX
    go_wp2_with fail
    refine (impl_partsOk1.calls x _).mono ?_
    rw [d1]
    rintro e w2 ⟨rfl, hb2⟩
    have HB2 := Aside0.mk (below_step HB.out hb2)
    clear hb2
    go_wp2
    go_ret
    exact ⟨by rw [HY.out]; rfl, HB2.out⟩
  ·have d0 : decide ((k : Int) < l.length) = false := decide_eq_false (by omega)
   have HY := Aside0.mk (show l.all (· == 0) = true by rw [← HN.out, List.drop_eq_nil_of_le (by omega)]; rfl)
   go_wp2
   go_ret
   exact ⟨by rw [HY.out]; rfl, HB.out⟩
end Go.Proofs.Ytmniglgahodghaa.K
namespace Go.Proofs.Ytmniglgahodghaa.K
open Go.RowKit Go.Proofs.YtmniglgahodghaaW.PrintWords Go.Proofs.YtmniglgahodghaaW.PrintLast Go.Proofs.YtmniglgahodghaaW.PrintMore
attribute [local go_sem] max2_int min2_int max_two min_two max_three min_three max_four min_four
set_option linter.unusedVariables false
set_option linter.unusedSimpArgs false
def slices_CloneI.f (l0 : List Int) : Option (List Int) := if l0.length ≤ 17592186044416 then some l0 else none
theorem cloneI_nil (n c : Nat) (W : World) : (binOp .eql 23 (.slice none n c) (.slice none 0 0)).run Try.prog W = .ok (.bool true) W := by kernel_rfl
theorem cloneI_some (ad : Addr) (n c : Nat) (W : World) : (binOp .eql 23 (.slice (some ad) n c) (.slice none 0 0)).run Try.prog W = .ok (.bool false) W := by kernel_rfl
set_option maxHeartbeats 4000000 in
set_option maxRecDepth 100000 in
theorem slices_CloneI.calls (A0 : Option Addr) (c0 : Nat) (l0 r : List Int) (w : World) (hr0 : Kd.C (Kd.int .i64) w A0 l0.length l0) (hc0 : l0.length ≤ c0) (h : slices_CloneI.f l0 = some r) :
  Calls Try.prog 117 #[.slice A0 l0.length c0] w fun e w' => ∃ v, e = .returned v ∧ Kd.R (Kd.int .i64) 3 w' w.heap.size (fun _ => True) v r ∧ Below w.heap.size w w' := by
 unfold slices_CloneI.f at h
 split at h
 case isFalse => simp at h
 case isTrue hl =>
 obtain rfl := Option.some.inj h
 have HR0 := Aside0.mk hr0
 have HC0 := Aside0.mk hc0
 have HL := Aside0.mk hl
 clear h hl hc0
 cases A0 with
 | none =>
  have hz : l0 = [] := by
   cases l0 with
   | nil => rfl
   | cons x xs => obtain ⟨ad, _, e, _⟩ := Kd.C_get hr0 x 0 (by omega) (by simp); cases e
  subst hz
  clear hr0
  have N1 := cloneI_nil
  have N2 := cloneI_some
  go_enter Try.func117, Try.ntmps117
  go_wp2
  go_ret
  exact ⟨_, rfl, Kd.R_nil _ _ _ _ _, by repeat (first | exact Below.refl _ _ | apply below_alloc | apply pw_below_drewN | apply below_drew1)⟩
 | some ad =>
  clear hr0
  have N1 := cloneI_nil
  have N2 := cloneI_some
  go_enter Try.func117, Try.ntmps117
  go_wp2_with (first
   | ((with_reducible refine gate_dst (N := 5) rfl ?_); refine Kd.R_lit (Kd.int .i64) _ 3 ?hg (N := 5) ?hd (xs := ([] : List Int)) (inner := []) (ok := fun _ => True) (okp := fun _ => True) ?hr ?hp (fun _ hk => hk) trivial (Below.refl _ _) (Nat.le_refl _) (by simp) ?_; (case hd => rfl); (case hg => rfl); (case hr => first | (go_simp; done) | (go_simp; rfl)); (case hp => exact (Reps.none _ _)); intro v5 w5 ho5 hb5 hg5 hn5; have HO5 := Aside0.mk ho5; have HB5 := Aside0.mk hb5; clear ho5 hb5 hg5 hn5)
   | ((with_reducible refine gate_builtin (b := .append) (xs := #[.tmp 5, .tmp 6]) rfl ?_); at_builtin; refine Kd.R_append_rows (Kd.int .i64) (w0 := w) w.heap.size rfl (.tmp 5) (.tmp 6) 23 3 (.int .i64 0) 8 rfl Try.underlying23 info3 rfl (by decide) (by omega) v5 [] l0 _ _ _ (fun _ => True) (fun _ => False) rfl rfl ?aO ?aR (fun _ _ h => h) (fun _ h => h.elim) (fun _ _ => trivial) ?aB ?aS ?aL ?_; (case aR => exact Kd.C_below HR0.out HB5.out); (case aB => exact HB5.out); (case aO => exact HO5.out); (case aS => exact below_size HB5.out); (case aL => have := HL.out; simp; omega); intro v7 w7 ho7 hb7 hg7 hn7; have HO7 := Aside0.mk ho7; have HB7 := Aside0.mk hb7; clear ho7 hb7 hg7 hn7))
  go_ret
  exact ⟨_, rfl, HO7.out, HB7.out⟩
theorem heap_pair (W : World) (o o' : Obj) : ((W.alloc o).alloc o').heap[W.heap.size]? = some o ∧ ((W.alloc o).alloc o').heap[W.heap.size + 1]? = some o' :=
  ⟨blk_alloc (blk_new W o) o', by simpa using blk_new (W.alloc o) o'⟩
end Go.Proofs.Ytmniglgahodghaa.K
namespace Go.Proofs.Ytmniglgahodghaa.K
open Go.RowKit Go.Proofs.YtmniglgahodghaaW.PrintWords Go.Proofs.YtmniglgahodghaaW.PrintLast Go.Proofs.YtmniglgahodghaaW.PrintMore
attribute [local go_sem] max2_int min2_int max_two min_two max_three min_three max_four min_four
set_option linter.unusedVariables false
set_option linter.unusedSimpArgs false
set_option maxHeartbeats 4000000 in
set_option maxRecDepth 100000 in
theorem Mem_parts.calls (ad : Addr) (n c y : Nat) (a1 a2 a3 : Int) (v4 : Value) (h4 : v4.oneCell' = true) (w : World) (hy : a1 = (y : Int)) (h1 : y ≤ n) (hc : n ≤ c) :
  Calls Try.prog 116 #[.agg #[.slice (some ad) n c, .int .i64 a1, .int .i64 a2, .int .i64 a3, v4]] w fun e w' => e = .returned (.agg #[.slice (some ad) y c, .slice (if c = y then some ad else some (ad.add y)) (n - y) (c - y)]) ∧ Below w.heap.size w w' := by
 have p2 := eq_true (show a1 ≤ (n : Int) by omega)
 have p1 := eq_true (show 0 ≤ a1 by omega)
 have p3 := eq_true (show a1 ≤ (c : Int) by omega)
 have p4 := eq_true (show y ≤ n by omega)
 have p5 := eq_true (show y ≤ c by omega)
 have p6 : a1.toNat = y := by omega
 go_enter Try.func116, Try.ntmps116
 go_wp2
 go_region
 all_goals go_wp2
 all_goals refine bodyPost_ret (results_cell_row rfl _ _ (w.heap.size + 1) 133 _ (0, 0) _ rfl (blk_drew (heap_pair w _ _).2) Try.underlying133 rfl (by kernel_rfl)) rfl ?_
 ·refine ⟨by first | rfl | (simp; done) | (simp; rfl), ?_⟩
  exact below_drew1 (below_alloc (below_alloc (Below.refl _ _) _) _)
 ·refine ⟨?_, below_drew1 (below_alloc (below_alloc (Below.refl _ _) _) _)⟩
  first | rfl | (rw [if_neg (by omega)]; rfl)
theorem Mem_parts.calls2 (ad ad2 : Addr) (n c y z zc : Nat) (a1 a2 a3 : Int) (v4 : Value) (h4 : v4.oneCell' = true) (w : World) (hy : a1 = (y : Int)) (h1 : y ≤ n) (hc : n ≤ c) (h2 : (if c = y then some ad else some (ad.add y)) = some ad2) (hz : n - y = z) (hzc : c - y = zc) :
  Calls Try.prog 116 #[.agg #[.slice (some ad) n c, .int .i64 a1, .int .i64 a2, .int .i64 a3, v4]] w fun e w' => e = .returned (.agg #[.slice (some ad) y c, .slice (some ad2) z zc]) ∧ Below w.heap.size w w' := by
 subst hz hzc
 rw [← h2]
 exact Mem_parts.calls ad n c y a1 a2 a3 v4 h4 w hy h1 hc
end Go.Proofs.Ytmniglgahodghaa.K
namespace Go.Proofs.Ytmniglgahodghaa.K
open Go.RowKit Go.Proofs.YtmniglgahodghaaW.PrintWords Go.Proofs.YtmniglgahodghaaW.PrintLast Go.Proofs.YtmniglgahodghaaW.PrintMore
attribute [local go_sem] max2_int min2_int max_two min_two max_three min_three max_four min_four
set_option linter.unusedVariables false
set_option linter.unusedSimpArgs false
def impl_within.f (a0 : Int) (a1 : Int) (a2 : Int) : Option (Bool) := if a0 ≤ a1 then (some (decide (a1 ≤ a2))) else (some false)
set_option maxHeartbeats 8000000 in
set_option maxRecDepth 100000 in
theorem impl_within.calls (a0 : Int) (a1 : Int) (a2 : Int) (r : Bool) (w : World) (h : impl_within.f a0 a1 a2 = some r) :
  Calls Try.prog 95 #[.int .i64 a0, .int .i64 a1, .int .i64 a2] w fun e w' => e = .returned (.bool r) ∧ Drawn0 w w' := by
 have H : (if a0 ≤ a1 then (some (decide (a1 ≤ a2))) else (some false)) = some r := h
 clear h
 by_cases c4 : a0 ≤ a1
 ·rw [if_pos c4] at H
  have c4b0 : decide (a0 ≤ a1) = true := decide_eq_true c4
  clear c4
  obtain rfl := Option.some.inj H
  go_enter Try.func95, Try.ntmps95
  go_wp2
  go_ret
  exact ⟨by first | rfl | (simp; done) | (simp [*]; done), by repeat (first | exact Drawn0.refl _ | apply Drawn0.step)⟩
 ·rw [if_neg c4] at H
  have c4b0 : decide (a0 ≤ a1) = false := decide_eq_false c4
  clear c4
  obtain rfl := Option.some.inj H
  go_enter Try.func95, Try.ntmps95
  go_wp2
  go_ret
  exact ⟨by first | rfl | (simp; done) | (simp [*]; done), by repeat (first | exact Drawn0.refl _ | apply Drawn0.step)⟩
end Go.Proofs.Ytmniglgahodghaa.K
