import Derived.Test.YtjnbilfhpdkcbaaPm24
import Derived.Test.YtjnbilfhpdkcbaaPm31
import Derived.Test.YtjnbilfhpdkcbaaPm38
import Derived.Test.YtjnbilfhpdkcbaaPm28
import Derived.Test.YtjnbilfhpdkcbaaPm27
import Derived.Test.YtjnbilfhpdkcbaaPm26
namespace Go.Proofs.Ytjnbilfhpdkcbaa.K
open Go.RowKit Go.Proofs.YtjnbilfhpdkcbaaW.PrintWords Go.Proofs.YtjnbilfhpdkcbaaW.PrintLast Go.Proofs.YtjnbilfhpdkcbaaW.PrintMore
attribute [local go_sem] max2_int min2_int max_two min_two max_three min_three max_four min_four
set_option linter.unusedVariables false
set_option linter.unusedSimpArgs false
def spec_MemSize.f (k : Nat) (l0 : List (S32)) (l1_0 : List Int) (a1_1 : Int) (a1_2 : Int) (a1_3 : Int) (l1_4 : List Bool) (a2 : Int) : Option (Int) := (spec_MemOk.f k l0 l1_0 a1_1 a1_2 a1_3 l1_4).bind fun t351 => (if t351 = true then ((spec_l21Is.f k l0 l1_0 a1_1 a1_2 a1_3 l1_4 a2).bind fun t352 => (if t352 = true then ((spec_l21Size.f k l0 l1_0 (wrap64 (a2 - 1)) (l1_0.length : Int)).bind fun t353 => (some t353)) else (some 0))) else (some 0))
set_option maxHeartbeats 8000000 in
set_option maxRecDepth 100000 in
theorem spec_MemSize.calls (k : Nat) (A0 : Option Addr) (c0 : Nat) (l0 : List (S32)) (A1_0 : Option Addr) (c1_0 : Nat) (l1_0 : List Int) (a1_1 : Int) (a1_2 : Int) (a1_3 : Int) (A1_4 : Option Addr) (c1_4 : Nat) (l1_4 : List Bool) (a2 : Int) (r : Int) (w : World) (hr0 : Kd.C k32 w A0 l0.length l0) (hc0 : l0.length ≤ c0) (hr1_0 : Kd.C (Kd.int .i64) w A1_0 l1_0.length l1_0) (hc1_0 : l1_0.length ≤ c1_0) (hr1_4 : Kd.C Kd.bool w A1_4 l1_4.length l1_4) (hc1_4 : l1_4.length ≤ c1_4) (h : spec_MemSize.f k l0 l1_0 a1_1 a1_2 a1_3 l1_4 a2 = some r) :
    Calls Try.prog 22 #[.slice A0 l0.length c0, .agg #[.slice A1_0 l1_0.length c1_0, .int .i64 a1_1, .int .i64 a1_2, .int .i64 a1_3, .slice A1_4 l1_4.length c1_4], .int .i64 a2] w fun e w' => e = .returned (.int .i64 r) ∧ Below w.heap.size w w' := by
  have hu28 := Try.underlying28
  have HR0 := Aside0.mk hr0
  have HC0 := Aside0.mk hc0
  clear hr0 hc0
  have HR1_0 := Aside0.mk hr1_0
  have HC1_0 := Aside0.mk hc1_0
  clear hr1_0 hc1_0
  have HR1_4 := Aside0.mk hr1_4
  have HC1_4 := Aside0.mk hc1_4
  clear hr1_4 hc1_4
  have HB := Aside0.mk (Below.refl w.heap.size w)
  have H : ((spec_MemOk.f k l0 l1_0 a1_1 a1_2 a1_3 l1_4).bind fun t351 => (if t351 = true then ((spec_l21Is.f k l0 l1_0 a1_1 a1_2 a1_3 l1_4 a2).bind fun t352 => (if t352 = true then ((spec_l21Size.f k l0 l1_0 (wrap64 (a2 - 1)) (l1_0.length : Int)).bind fun t353 => (some t353)) else (some 0))) else (some 0))) = some r := h
  clear h
  replace H := Option.bind_eq_some_iff.mp H
  obtain ⟨t351, A40, H⟩ := H
  replace H : (if t351 = true then ((spec_l21Is.f k l0 l1_0 a1_1 a1_2 a1_3 l1_4 a2).bind fun t352 => (if t352 = true then ((spec_l21Size.f k l0 l1_0 (wrap64 (a2 - 1)) (l1_0.length : Int)).bind fun t353 => (some t353)) else (some 0))) else (some 0)) = some r := H
  have A4 := Aside0.mk A40
  clear A40
  by_cases c5 : t351 = true
  · subst c5
    have H1 : ((spec_l21Is.f k l0 l1_0 a1_1 a1_2 a1_3 l1_4 a2).bind fun t352 => (if t352 = true then ((spec_l21Size.f k l0 l1_0 (wrap64 (a2 - 1)) (l1_0.length : Int)).bind fun t353 => (some t353)) else (some 0))) = some r := by rw [if_pos rfl] at H; exact H
    clear H
    have H := H1
    clear H1
    replace H := Option.bind_eq_some_iff.mp H
    obtain ⟨t352, A60, H⟩ := H
    replace H : (if t352 = true then ((spec_l21Size.f k l0 l1_0 (wrap64 (a2 - 1)) (l1_0.length : Int)).bind fun t353 => (some t353)) else (some 0)) = some r := H
    have A6 := Aside0.mk A60
    clear A60
    by_cases c7 : t352 = true
    · subst c7
      have H1 : ((spec_l21Size.f k l0 l1_0 (wrap64 (a2 - 1)) (l1_0.length : Int)).bind fun t353 => (some t353)) = some r := by rw [if_pos rfl] at H; exact H
      clear H
      have H := H1
      clear H1
      replace H := Option.bind_eq_some_iff.mp H
      obtain ⟨t353, A80, H⟩ := H
      replace H : (some t353) = some r := H
      have A8 := Aside0.mk A80
      clear A80
      obtain rfl := Option.some.inj H
      go_enter Try.func22, Try.ntmps22
      go_wp2_with (first | ((with_reducible refine gate_dst (N := 4) rfl ?_); refine box_event ?hg (N := 4) ?hd (cs := #[.slice A1_0 l1_0.length c1_0, .int .i64 a1_1, .int .i64 a1_2, .int .i64 a1_3, .slice A1_4 l1_4.length c1_4]) (t := 28) ?hr ?_; (case hd => rfl); (case hg => rfl); (case hr => first | (go_simp; done) | (go_simp; rfl)); intro gb350 hg w9 hbox hb; have n0_ := Aside0.mk (below_step (by repeat (first | (with_reducible first | exact HB.out | apply below_alloc | apply pw_below_drewN | apply below_drew1) | exact HB.out)) hb); have n1_ := Aside0.mk (hbox); have n2_ := Aside0.mk ((by rw [hg]; exact (below_size (by repeat (first | (with_reducible first | exact HB.out | apply below_alloc | apply pw_below_drewN | apply below_drew1) | exact HB.out))) : w.heap.size ≤ gb350)); have n3_ := Aside0.mk ((by rw [hg]; exact (below_size (by repeat (first | (with_reducible first | exact HB.out | apply below_alloc | apply pw_below_drewN | apply below_drew1) | exact HB.out))) : w.heap.size ≤ gb350)); clear HB; have HB := n0_; have BK350 := n1_; have GW350 := n2_; have GE350 := n3_; clear n0_ n1_ n2_ n3_; clear hb hbox hg; have hcz10_0 : w9.cell? ⟨gb350, 0, none⟩ = some (.slice A1_0 l1_0.length c1_0) := (blk_cell BK350.out 0).trans rfl; have hcz10_1 : w9.cell? ⟨gb350, 1, none⟩ = some (.int .i64 a1_1) := (blk_cell BK350.out 1).trans rfl; have hcz10_2 : w9.cell? ⟨gb350, 2, none⟩ = some (.int .i64 a1_2) := (blk_cell BK350.out 2).trans rfl; have hcz10_3 : w9.cell? ⟨gb350, 3, none⟩ = some (.int .i64 a1_3) := (blk_cell BK350.out 3).trans rfl; have hcz10_4 : w9.cell? ⟨gb350, 4, none⟩ = some (.slice A1_4 l1_4.length c1_4) := (blk_cell BK350.out 4).trans rfl; have hfz10_0 := blk_frozen BK350.out 0; have hfz10_1 := blk_frozen BK350.out 1; have hfz10_2 := blk_frozen BK350.out 2; have hfz10_3 := blk_frozen BK350.out 3; have hfz10_4 := blk_frozen BK350.out 4) | ((with_reducible refine gate_callee (f := 17) rfl ?_); refine goesL_ (some 9) rfl rfl Try.func17 (by kernel_rfl) rfl #[.slice A0 l0.length c0, .agg #[.slice A1_0 l1_0.length c1_0, .int .i64 a1_1, .int .i64 a1_2, .int .i64 a1_3, .slice A1_4 l1_4.length c1_4]] rfl (by (try simp only [List.map_toArray, List.map_cons, List.map_nil]); first | done | rfl | (simp only [List.length_drop, List.length_take]; rfl)) ?_; (with_reducible refine (spec_MemOk.calls k _ _ l0 _ _ l1_0 a1_1 a1_2 a1_3 _ _ l1_4 true _ ?side1 ?side2 ?side3 ?side4 ?side5 ?side6 A4.out).mono ?_); (case side1 => repeat (first | exact (Kd.C_below HR0.out HB.out) | (with_reducible refine Kd.C_alloc ?_ _) | (with_reducible refine Kd.C_drewN ?_ _) | (with_reducible refine Kd.C_drew ?_))); (case side2 => exact HC0.out); (case side3 => repeat (first | exact (Kd.C_below HR1_0.out HB.out) | (with_reducible refine Kd.C_alloc ?_ _) | (with_reducible refine Kd.C_drewN ?_ _) | (with_reducible refine Kd.C_drew ?_))); (case side4 => exact HC1_0.out); (case side5 => repeat (first | exact (Kd.C_below HR1_4.out HB.out) | (with_reducible refine Kd.C_alloc ?_ _) | (with_reducible refine Kd.C_drewN ?_ _) | (with_reducible refine Kd.C_drew ?_))); (case side6 => exact HC1_4.out); rintro e w11 ⟨rfl, hb⟩; refine ⟨_, rfl, ?_⟩; have n0_ := Aside0.mk (blk_below (g := gb350) (o := .cells #[.slice A1_0 l1_0.length c1_0, .int .i64 a1_1, .int .i64 a1_2, .int .i64 a1_3, .slice A1_4 l1_4.length c1_4] 28 (0, 0)) (by (with_reducible repeat (first | refine blk_drewN ?_ _ | refine blk_drew ?_ | refine blk_alloc ?_ _)); exact BK350.out) hb); have n1_ := Aside0.mk (below_step (by repeat (first | (with_reducible first | exact HB.out | apply below_alloc | apply pw_below_drewN | apply below_drew1 | refine below_set ?_ GE350.out) | exact HB.out)) hb); clear BK350; clear HB; have BK350 := n0_; have HB := n1_; clear n0_ n1_; (try clear hb); (try clear hb2); (try clear hk); (try clear hi); have hcz12_0 : w11.cell? ⟨gb350, 0, none⟩ = some (.slice A1_0 l1_0.length c1_0) := (blk_cell BK350.out 0).trans rfl; have hcz12_1 : w11.cell? ⟨gb350, 1, none⟩ = some (.int .i64 a1_1) := (blk_cell BK350.out 1).trans rfl; have hcz12_2 : w11.cell? ⟨gb350, 2, none⟩ = some (.int .i64 a1_2) := (blk_cell BK350.out 2).trans rfl; have hcz12_3 : w11.cell? ⟨gb350, 3, none⟩ = some (.int .i64 a1_3) := (blk_cell BK350.out 3).trans rfl; have hcz12_4 : w11.cell? ⟨gb350, 4, none⟩ = some (.slice A1_4 l1_4.length c1_4) := (blk_cell BK350.out 4).trans rfl; have hfz12_0 := blk_frozen BK350.out 0; have hfz12_1 := blk_frozen BK350.out 1; have hfz12_2 := blk_frozen BK350.out 2; have hfz12_3 := blk_frozen BK350.out 3; have hfz12_4 := blk_frozen BK350.out 4) | (go_at_call 52; (with_reducible refine (spec_l21Is.calls k _ _ l0 _ _ l1_0 a1_1 a1_2 a1_3 _ _ l1_4 a2 true _ ?side1 ?side2 ?side3 ?side4 ?side5 ?side6 A6.out).mono ?_); (case side1 => repeat (first | exact (Kd.C_below HR0.out HB.out) | (with_reducible refine Kd.C_alloc ?_ _) | (with_reducible refine Kd.C_drewN ?_ _) | (with_reducible refine Kd.C_drew ?_))); (case side2 => exact HC0.out); (case side3 => repeat (first | exact (Kd.C_below HR1_0.out HB.out) | (with_reducible refine Kd.C_alloc ?_ _) | (with_reducible refine Kd.C_drewN ?_ _) | (with_reducible refine Kd.C_drew ?_))); (case side4 => exact HC1_0.out); (case side5 => repeat (first | exact (Kd.C_below HR1_4.out HB.out) | (with_reducible refine Kd.C_alloc ?_ _) | (with_reducible refine Kd.C_drewN ?_ _) | (with_reducible refine Kd.C_drew ?_))); (case side6 => exact HC1_4.out); rintro e w13 ⟨rfl, hb⟩; have n0_ := Aside0.mk (blk_below (g := gb350) (o := .cells #[.slice A1_0 l1_0.length c1_0, .int .i64 a1_1, .int .i64 a1_2, .int .i64 a1_3, .slice A1_4 l1_4.length c1_4] 28 (0, 0)) (by (with_reducible repeat (first | refine blk_drewN ?_ _ | refine blk_drew ?_ | refine blk_alloc ?_ _)); exact BK350.out) hb); have n1_ := Aside0.mk (below_step (by repeat (first | (with_reducible first | exact HB.out | apply below_alloc | apply pw_below_drewN | apply below_drew1 | refine below_set ?_ GE350.out) | exact HB.out)) hb); clear BK350; clear HB; have BK350 := n0_; have HB := n1_; clear n0_ n1_; (try clear hb); (try clear hb2); (try clear hk); (try clear hi); have hcz14_0 : w13.cell? ⟨gb350, 0, none⟩ = some (.slice A1_0 l1_0.length c1_0) := (blk_cell BK350.out 0).trans rfl; have hcz14_1 : w13.cell? ⟨gb350, 1, none⟩ = some (.int .i64 a1_1) := (blk_cell BK350.out 1).trans rfl; have hcz14_2 : w13.cell? ⟨gb350, 2, none⟩ = some (.int .i64 a1_2) := (blk_cell BK350.out 2).trans rfl; have hcz14_3 : w13.cell? ⟨gb350, 3, none⟩ = some (.int .i64 a1_3) := (blk_cell BK350.out 3).trans rfl; have hcz14_4 : w13.cell? ⟨gb350, 4, none⟩ = some (.slice A1_4 l1_4.length c1_4) := (blk_cell BK350.out 4).trans rfl; have hfz14_0 := blk_frozen BK350.out 0; have hfz14_1 := blk_frozen BK350.out 1; have hfz14_2 := blk_frozen BK350.out 2; have hfz14_3 := blk_frozen BK350.out 3; have hfz14_4 := blk_frozen BK350.out 4) | ((with_reducible refine gate_callee (f := 53) rfl ?_); refine goesL_ (some 26) rfl rfl Try.func53 (by kernel_rfl) rfl #[.slice A0 l0.length c0, .slice A1_0 l1_0.length c1_0, .int .i64 (wrap64 (a2 - 1)), .int .i64 (l1_0.length : Int)] rfl (by (try simp only [List.map_toArray, List.map_cons, List.map_nil]); first | done | rfl | (simp only [List.length_drop, List.length_take]; rfl)) ?_; (with_reducible refine (spec_l21Size.calls k _ _ l0 _ _ l1_0 (wrap64 (a2 - 1)) (l1_0.length : Int) t353 _ ?side1 ?side2 ?side3 ?side4 A8.out).mono ?_); (case side1 => repeat (first | exact (Kd.C_below HR0.out HB.out) | (with_reducible refine Kd.C_alloc ?_ _) | (with_reducible refine Kd.C_drewN ?_ _) | (with_reducible refine Kd.C_drew ?_))); (case side2 => exact HC0.out); (case side3 => repeat (first | exact (Kd.C_below HR1_0.out HB.out) | (with_reducible refine Kd.C_alloc ?_ _) | (with_reducible refine Kd.C_drewN ?_ _) | (with_reducible refine Kd.C_drew ?_))); (case side4 => exact HC1_0.out); rintro e w15 ⟨rfl, hb⟩; refine ⟨_, rfl, ?_⟩; have n0_ := Aside0.mk (blk_below (g := gb350) (o := .cells #[.slice A1_0 l1_0.length c1_0, .int .i64 a1_1, .int .i64 a1_2, .int .i64 a1_3, .slice A1_4 l1_4.length c1_4] 28 (0, 0)) (by (with_reducible repeat (first | refine blk_drewN ?_ _ | refine blk_drew ?_ | refine blk_alloc ?_ _)); exact BK350.out) hb); have n1_ := Aside0.mk (below_step (by repeat (first | (with_reducible first | exact HB.out | apply below_alloc | apply pw_below_drewN | apply below_drew1 | refine below_set ?_ GE350.out) | exact HB.out)) hb); clear BK350; clear HB; have BK350 := n0_; have HB := n1_; clear n0_ n1_; (try clear hb); (try clear hb2); (try clear hk); (try clear hi)))
      go_ret
      exact ⟨by first | rfl | (simp [errW_none, errW_some] <;> rfl) | (simp [*, errW_none, errW_some] <;> rfl), by repeat (first | (with_reducible first | exact HB.out | apply below_alloc | apply pw_below_drewN | apply below_drew1 | refine below_set ?_ GE350.out) | exact HB.out)⟩
    · replace c7 := Bool.eq_false_iff.mpr c7
      subst c7
      have H1 : (some 0) = some r := by rw [if_neg (show ¬ (false = true) by decide)] at H; exact H
      clear H
      have H := H1
      clear H1
      obtain rfl := Option.some.inj H
      go_enter Try.func22, Try.ntmps22
      go_wp2_with (first | ((with_reducible refine gate_dst (N := 4) rfl ?_); refine box_event ?hg (N := 4) ?hd (cs := #[.slice A1_0 l1_0.length c1_0, .int .i64 a1_1, .int .i64 a1_2, .int .i64 a1_3, .slice A1_4 l1_4.length c1_4]) (t := 28) ?hr ?_; (case hd => rfl); (case hg => rfl); (case hr => first | (go_simp; done) | (go_simp; rfl)); intro gb350 hg w16 hbox hb; have n0_ := Aside0.mk (below_step (by repeat (first | (with_reducible first | exact HB.out | apply below_alloc | apply pw_below_drewN | apply below_drew1) | exact HB.out)) hb); have n1_ := Aside0.mk (hbox); have n2_ := Aside0.mk ((by rw [hg]; exact (below_size (by repeat (first | (with_reducible first | exact HB.out | apply below_alloc | apply pw_below_drewN | apply below_drew1) | exact HB.out))) : w.heap.size ≤ gb350)); have n3_ := Aside0.mk ((by rw [hg]; exact (below_size (by repeat (first | (with_reducible first | exact HB.out | apply below_alloc | apply pw_below_drewN | apply below_drew1) | exact HB.out))) : w.heap.size ≤ gb350)); clear HB; have HB := n0_; have BK350 := n1_; have GW350 := n2_; have GE350 := n3_; clear n0_ n1_ n2_ n3_; clear hb hbox hg; have hcz17_0 : w16.cell? ⟨gb350, 0, none⟩ = some (.slice A1_0 l1_0.length c1_0) := (blk_cell BK350.out 0).trans rfl; have hcz17_1 : w16.cell? ⟨gb350, 1, none⟩ = some (.int .i64 a1_1) := (blk_cell BK350.out 1).trans rfl; have hcz17_2 : w16.cell? ⟨gb350, 2, none⟩ = some (.int .i64 a1_2) := (blk_cell BK350.out 2).trans rfl; have hcz17_3 : w16.cell? ⟨gb350, 3, none⟩ = some (.int .i64 a1_3) := (blk_cell BK350.out 3).trans rfl; have hcz17_4 : w16.cell? ⟨gb350, 4, none⟩ = some (.slice A1_4 l1_4.length c1_4) := (blk_cell BK350.out 4).trans rfl; have hfz17_0 := blk_frozen BK350.out 0; have hfz17_1 := blk_frozen BK350.out 1; have hfz17_2 := blk_frozen BK350.out 2; have hfz17_3 := blk_frozen BK350.out 3; have hfz17_4 := blk_frozen BK350.out 4) | ((with_reducible refine gate_callee (f := 17) rfl ?_); refine goesL_ (some 9) rfl rfl Try.func17 (by kernel_rfl) rfl #[.slice A0 l0.length c0, .agg #[.slice A1_0 l1_0.length c1_0, .int .i64 a1_1, .int .i64 a1_2, .int .i64 a1_3, .slice A1_4 l1_4.length c1_4]] rfl (by (try simp only [List.map_toArray, List.map_cons, List.map_nil]); first | done | rfl | (simp only [List.length_drop, List.length_take]; rfl)) ?_; (with_reducible refine (spec_MemOk.calls k _ _ l0 _ _ l1_0 a1_1 a1_2 a1_3 _ _ l1_4 true _ ?side1 ?side2 ?side3 ?side4 ?side5 ?side6 A4.out).mono ?_); (case side1 => repeat (first | exact (Kd.C_below HR0.out HB.out) | (with_reducible refine Kd.C_alloc ?_ _) | (with_reducible refine Kd.C_drewN ?_ _) | (with_reducible refine Kd.C_drew ?_))); (case side2 => exact HC0.out); (case side3 => repeat (first | exact (Kd.C_below HR1_0.out HB.out) | (with_reducible refine Kd.C_alloc ?_ _) | (with_reducible refine Kd.C_drewN ?_ _) | (with_reducible refine Kd.C_drew ?_))); (case side4 => exact HC1_0.out); (case side5 => repeat (first | exact (Kd.C_below HR1_4.out HB.out) | (with_reducible refine Kd.C_alloc ?_ _) | (with_reducible refine Kd.C_drewN ?_ _) | (with_reducible refine Kd.C_drew ?_))); (case side6 => exact HC1_4.out); rintro e w18 ⟨rfl, hb⟩; refine ⟨_, rfl, ?_⟩; have n0_ := Aside0.mk (blk_below (g := gb350) (o := .cells #[.slice A1_0 l1_0.length c1_0, .int .i64 a1_1, .int .i64 a1_2, .int .i64 a1_3, .slice A1_4 l1_4.length c1_4] 28 (0, 0)) (by (with_reducible repeat (first | refine blk_drewN ?_ _ | refine blk_drew ?_ | refine blk_alloc ?_ _)); exact BK350.out) hb); have n1_ := Aside0.mk (below_step (by repeat (first | (with_reducible first | exact HB.out | apply below_alloc | apply pw_below_drewN | apply below_drew1 | refine below_set ?_ GE350.out) | exact HB.out)) hb); clear BK350; clear HB; have BK350 := n0_; have HB := n1_; clear n0_ n1_; (try clear hb); (try clear hb2); (try clear hk); (try clear hi); have hcz19_0 : w18.cell? ⟨gb350, 0, none⟩ = some (.slice A1_0 l1_0.length c1_0) := (blk_cell BK350.out 0).trans rfl; have hcz19_1 : w18.cell? ⟨gb350, 1, none⟩ = some (.int .i64 a1_1) := (blk_cell BK350.out 1).trans rfl; have hcz19_2 : w18.cell? ⟨gb350, 2, none⟩ = some (.int .i64 a1_2) := (blk_cell BK350.out 2).trans rfl; have hcz19_3 : w18.cell? ⟨gb350, 3, none⟩ = some (.int .i64 a1_3) := (blk_cell BK350.out 3).trans rfl; have hcz19_4 : w18.cell? ⟨gb350, 4, none⟩ = some (.slice A1_4 l1_4.length c1_4) := (blk_cell BK350.out 4).trans rfl; have hfz19_0 := blk_frozen BK350.out 0; have hfz19_1 := blk_frozen BK350.out 1; have hfz19_2 := blk_frozen BK350.out 2; have hfz19_3 := blk_frozen BK350.out 3; have hfz19_4 := blk_frozen BK350.out 4) | (go_at_call 52; (with_reducible refine (spec_l21Is.calls k _ _ l0 _ _ l1_0 a1_1 a1_2 a1_3 _ _ l1_4 a2 false _ ?side1 ?side2 ?side3 ?side4 ?side5 ?side6 A6.out).mono ?_); (case side1 => repeat (first | exact (Kd.C_below HR0.out HB.out) | (with_reducible refine Kd.C_alloc ?_ _) | (with_reducible refine Kd.C_drewN ?_ _) | (with_reducible refine Kd.C_drew ?_))); (case side2 => exact HC0.out); (case side3 => repeat (first | exact (Kd.C_below HR1_0.out HB.out) | (with_reducible refine Kd.C_alloc ?_ _) | (with_reducible refine Kd.C_drewN ?_ _) | (with_reducible refine Kd.C_drew ?_))); (case side4 => exact HC1_0.out); (case side5 => repeat (first | exact (Kd.C_below HR1_4.out HB.out) | (with_reducible refine Kd.C_alloc ?_ _) | (with_reducible refine Kd.C_drewN ?_ _) | (with_reducible refine Kd.C_drew ?_))); (case side6 => exact HC1_4.out); rintro e w20 ⟨rfl, hb⟩; have n0_ := Aside0.mk (blk_below (g := gb350) (o := .cells #[.slice A1_0 l1_0.length c1_0, .int .i64 a1_1, .int .i64 a1_2, .int .i64 a1_3, .slice A1_4 l1_4.length c1_4] 28 (0, 0)) (by (with_reducible repeat (first | refine blk_drewN ?_ _ | refine blk_drew ?_ | refine blk_alloc ?_ _)); exact BK350.out) hb); have n1_ := Aside0.mk (below_step (by repeat (first | (with_reducible first | exact HB.out | apply below_alloc | apply pw_below_drewN | apply below_drew1 | refine below_set ?_ GE350.out) | exact HB.out)) hb); clear BK350; clear HB; have BK350 := n0_; have HB := n1_; clear n0_ n1_; (try clear hb); (try clear hb2); (try clear hk); (try clear hi)))
      go_ret
      exact ⟨by first | rfl | (simp [errW_none, errW_some] <;> rfl) | (simp [*, errW_none, errW_some] <;> rfl), by repeat (first | (with_reducible first | exact HB.out | apply below_alloc | apply pw_below_drewN | apply below_drew1 | refine below_set ?_ GE350.out) | exact HB.out)⟩
  · replace c5 := Bool.eq_false_iff.mpr c5
    subst c5
    have H1 : (some 0) = some r := by rw [if_neg (show ¬ (false = true) by decide)] at H; exact H
    clear H
    have H := H1
    clear H1
    obtain rfl := Option.some.inj H
    go_enter Try.func22, Try.ntmps22
    go_wp2_with (first | ((with_reducible refine gate_dst (N := 4) rfl ?_); refine box_event ?hg (N := 4) ?hd (cs := #[.slice A1_0 l1_0.length c1_0, .int .i64 a1_1, .int .i64 a1_2, .int .i64 a1_3, .slice A1_4 l1_4.length c1_4]) (t := 28) ?hr ?_; (case hd => rfl); (case hg => rfl); (case hr => first | (go_simp; done) | (go_simp; rfl)); intro gb350 hg w21 hbox hb; have n0_ := Aside0.mk (below_step (by repeat (first | (with_reducible first | exact HB.out | apply below_alloc | apply pw_below_drewN | apply below_drew1) | exact HB.out)) hb); have n1_ := Aside0.mk (hbox); have n2_ := Aside0.mk ((by rw [hg]; exact (below_size (by repeat (first | (with_reducible first | exact HB.out | apply below_alloc | apply pw_below_drewN | apply below_drew1) | exact HB.out))) : w.heap.size ≤ gb350)); have n3_ := Aside0.mk ((by rw [hg]; exact (below_size (by repeat (first | (with_reducible first | exact HB.out | apply below_alloc | apply pw_below_drewN | apply below_drew1) | exact HB.out))) : w.heap.size ≤ gb350)); clear HB; have HB := n0_; have BK350 := n1_; have GW350 := n2_; have GE350 := n3_; clear n0_ n1_ n2_ n3_; clear hb hbox hg; have hcz22_0 : w21.cell? ⟨gb350, 0, none⟩ = some (.slice A1_0 l1_0.length c1_0) := (blk_cell BK350.out 0).trans rfl; have hcz22_1 : w21.cell? ⟨gb350, 1, none⟩ = some (.int .i64 a1_1) := (blk_cell BK350.out 1).trans rfl; have hcz22_2 : w21.cell? ⟨gb350, 2, none⟩ = some (.int .i64 a1_2) := (blk_cell BK350.out 2).trans rfl; have hcz22_3 : w21.cell? ⟨gb350, 3, none⟩ = some (.int .i64 a1_3) := (blk_cell BK350.out 3).trans rfl; have hcz22_4 : w21.cell? ⟨gb350, 4, none⟩ = some (.slice A1_4 l1_4.length c1_4) := (blk_cell BK350.out 4).trans rfl; have hfz22_0 := blk_frozen BK350.out 0; have hfz22_1 := blk_frozen BK350.out 1; have hfz22_2 := blk_frozen BK350.out 2; have hfz22_3 := blk_frozen BK350.out 3; have hfz22_4 := blk_frozen BK350.out 4) | ((with_reducible refine gate_callee (f := 17) rfl ?_); refine goesL_ (some 9) rfl rfl Try.func17 (by kernel_rfl) rfl #[.slice A0 l0.length c0, .agg #[.slice A1_0 l1_0.length c1_0, .int .i64 a1_1, .int .i64 a1_2, .int .i64 a1_3, .slice A1_4 l1_4.length c1_4]] rfl (by (try simp only [List.map_toArray, List.map_cons, List.map_nil]); first | done | rfl | (simp only [List.length_drop, List.length_take]; rfl)) ?_; (with_reducible refine (spec_MemOk.calls k _ _ l0 _ _ l1_0 a1_1 a1_2 a1_3 _ _ l1_4 false _ ?side1 ?side2 ?side3 ?side4 ?side5 ?side6 A4.out).mono ?_); (case side1 => repeat (first | exact (Kd.C_below HR0.out HB.out) | (with_reducible refine Kd.C_alloc ?_ _) | (with_reducible refine Kd.C_drewN ?_ _) | (with_reducible refine Kd.C_drew ?_))); (case side2 => exact HC0.out); (case side3 => repeat (first | exact (Kd.C_below HR1_0.out HB.out) | (with_reducible refine Kd.C_alloc ?_ _) | (with_reducible refine Kd.C_drewN ?_ _) | (with_reducible refine Kd.C_drew ?_))); (case side4 => exact HC1_0.out); (case side5 => repeat (first | exact (Kd.C_below HR1_4.out HB.out) | (with_reducible refine Kd.C_alloc ?_ _) | (with_reducible refine Kd.C_drewN ?_ _) | (with_reducible refine Kd.C_drew ?_))); (case side6 => exact HC1_4.out); rintro e w23 ⟨rfl, hb⟩; refine ⟨_, rfl, ?_⟩; have n0_ := Aside0.mk (blk_below (g := gb350) (o := .cells #[.slice A1_0 l1_0.length c1_0, .int .i64 a1_1, .int .i64 a1_2, .int .i64 a1_3, .slice A1_4 l1_4.length c1_4] 28 (0, 0)) (by (with_reducible repeat (first | refine blk_drewN ?_ _ | refine blk_drew ?_ | refine blk_alloc ?_ _)); exact BK350.out) hb); have n1_ := Aside0.mk (below_step (by repeat (first | (with_reducible first | exact HB.out | apply below_alloc | apply pw_below_drewN | apply below_drew1 | refine below_set ?_ GE350.out) | exact HB.out)) hb); clear BK350; clear HB; have BK350 := n0_; have HB := n1_; clear n0_ n1_; (try clear hb); (try clear hb2); (try clear hk); (try clear hi)))
    go_ret
    exact ⟨by first | rfl | (simp [errW_none, errW_some] <;> rfl) | (simp [*, errW_none, errW_some] <;> rfl), by repeat (first | (with_reducible first | exact HB.out | apply below_alloc | apply pw_below_drewN | apply below_drew1 | refine below_set ?_ GE350.out) | exact HB.out)⟩
end Go.Proofs.Ytjnbilfhpdkcbaa.K
namespace Go.Proofs.Ytjnbilfhpdkcbaa.K
open Go.RowKit Go.Proofs.YtjnbilfhpdkcbaaW.PrintWords Go.Proofs.YtjnbilfhpdkcbaaW.PrintLast Go.Proofs.YtjnbilfhpdkcbaaW.PrintMore
attribute [local go_sem] max2_int min2_int max_two min_two max_three min_three max_four min_four
set_option linter.unusedVariables false
set_option linter.unusedSimpArgs false
def sizeOf (k : Nat) (a2 : Int) : Option Mm → Option Int
  | none => some 0
  | some m => (memory_has.f k m a2).bind fun b => if b = true then thing_size.f m a2 else some 0
def impl_MemSize.f (k : Nat) (l0 : List (S32)) (l1_0 : List Int) (a1_1 : Int) (a1_2 : Int) (a1_3 : Int) (l1_4 : List Bool) (a2 : Int) : Option (Int) := (mopen k k l0 l1_0 a1_1 a1_2 a1_3 l1_4).bind fun r => sizeOf k a2 r
set_option maxHeartbeats 8000000 in
set_option maxRecDepth 100000 in
theorem impl_MemSize.calls (k : Nat) (A0 : Option Addr) (c0 : Nat) (l0 : List (S32)) (A1_0 : Option Addr) (c1_0 : Nat) (l1_0 : List Int) (a1_1 : Int) (a1_2 : Int) (a1_3 : Int) (A1_4 : Option Addr) (c1_4 : Nat) (l1_4 : List Bool) (a2 : Int) (r : Int) (w : World) (hr0 : Kd.C k32 w A0 l0.length l0) (hc0 : l0.length ≤ c0) (hr1_0 : Kd.C (Kd.int .i64) w A1_0 l1_0.length l1_0) (hc1_0 : l1_0.length ≤ c1_0) (hr1_4 : Kd.C Kd.bool w A1_4 l1_4.length l1_4) (hc1_4 : l1_4.length ≤ c1_4) (h : impl_MemSize.f k l0 l1_0 a1_1 a1_2 a1_3 l1_4 a2 = some r) :
    Calls Try.prog 23 #[.slice A0 l0.length c0, .agg #[.slice A1_0 l1_0.length c1_0, .int .i64 a1_1, .int .i64 a1_2, .int .i64 a1_3, .slice A1_4 l1_4.length c1_4], .int .i64 a2] w fun e w' => e = .returned (.int .i64 r) ∧ Below w.heap.size w w' := by
  unfold impl_MemSize.f at h
  obtain ⟨m, hm, h⟩ := Option.bind_eq_some_iff.mp h
  have HM := Aside0.mk hm
  have HR0 := Aside0.mk hr0
  have HC0 := Aside0.mk hc0
  have HR1 := Aside0.mk hr1_0
  have HC1 := Aside0.mk hc1_0
  have HR4 := Aside0.mk hr1_4
  have HC4 := Aside0.mk hc1_4
  have HB := Aside0.mk (below_alloc (Below.refl w.heap.size w) (.cells #[.slice A1_0 l1_0.length c1_0, .int .i64 a1_1, .int .i64 a1_2, .int .i64 a1_3, .slice A1_4 l1_4.length c1_4] 28 (0, 0)))
  have HH := Aside0.mk h
  clear hr0 hc0 hr1_0 hc1_0 hr1_4 hc1_4 h hm
  go_enter Try.func23, Try.ntmps23
  go_wp2_with fail
  go_at_call 39
  refine (memOpen.calls k k A0 c0 l0 A1_0 c1_0 l1_0 a1_1 a1_2 a1_3 A1_4 c1_4 l1_4 m _ (Kd.C_below HR0.out HB.out) HC0.out (Kd.C_below HR1.out HB.out) HC1.out (Kd.C_below HR4.out HB.out) HC4.out HM.out).mono ?_
  cases m with
  | none =>
    rintro e w1 ⟨rfl, hb⟩
    have HB1 := Aside0.mk (below_step HB.out hb)
    have hh := Option.some.inj HH.out
    subst hh
    clear hb HM HH
    go_wp2
    go_ret
    exact ⟨rfl, HB1.out⟩
  | some m =>
    rintro e w1 ⟨g, rfl, hmo, hb⟩
    have HB1 := Aside0.mk (below_step HB.out hb)
    have HMO := Aside0.mk hmo
    have hh := HH.out
    unfold sizeOf at hh
    obtain ⟨b, hq, hh⟩ := Option.bind_eq_some_iff.mp hh
    have HQ := Aside0.mk hq
    clear hb HM HH hmo hq
    cases b with
    | false =>
      rw [if_neg (by simp)] at hh
      have hh := Option.some.inj hh
      subst hh
      go_wp2_with (go_at_call 54; refine (memory_has.calls k g m a2 false _ (MO_MV HMO.out) HQ.out).mono ?_; rintro e w2 ⟨rfl, hd⟩; have HB2 := Aside0.mk (below_step HB1.out hd.below); clear hd)
      go_ret
      exact ⟨rfl, HB2.out⟩
    | true =>
      rw [if_pos rfl] at hh
      have HS := Aside0.mk hh
      clear hh
      go_wp2_with (first | (go_at_call 54; refine (memory_has.calls k g m a2 true _ (MO_MV HMO.out) HQ.out).mono ?_; rintro e w2 ⟨rfl, hd⟩; have HB2 := Aside0.mk (below_step HB1.out hd.below); have HMO2 := Aside0.mk (MO_below HMO.out hd.below); clear hd) | (go_at_call 55; refine (memory_thing.calls g a2 _).mono ?_; rintro e w3 ⟨rfl, hd⟩; have HB3 := Aside0.mk (below_step HB2.out hd); have HMO3 := Aside0.mk (MO_below HMO2.out hd); clear hd) | (go_at_call 56; refine (thing_size.calls g m a2 r _ (MO_MV HMO3.out) HS.out).mono ?_; rintro e w4 ⟨rfl, hd⟩; have HB4 := Aside0.mk (below_step HB3.out hd); clear hd))
      go_ret
      exact ⟨rfl, HB4.out⟩
end Go.Proofs.Ytjnbilfhpdkcbaa.K
