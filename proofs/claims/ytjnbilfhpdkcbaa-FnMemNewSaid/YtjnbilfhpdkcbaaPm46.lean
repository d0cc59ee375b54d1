import Derived.Test.YtjnbilfhpdkcbaaPm24
import Derived.Test.YtjnbilfhpdkcbaaPm45
namespace Go.Proofs.Ytjnbilfhpdkcbaa.K
open Go.RowKit Go.Proofs.YtjnbilfhpdkcbaaW.PrintWords Go.Proofs.YtjnbilfhpdkcbaaW.PrintLast Go.Proofs.YtjnbilfhpdkcbaaW.PrintMore
attribute [local go_sem] max2_int min2_int max_two min_two max_three min_three max_four min_four
set_option linter.unusedVariables false
set_option linter.unusedSimpArgs false
mutual
def laws_leMem.j0 : Nat → Bool → List Int → Int → Int → Int → List Bool → List Int → Int → Int → Int → List Bool → Option (Bool)
  | 0, _, _, _, _, _, _, _, _, _, _, _ => none
  | k + 1, x41, x497000, x497001, x497002, x497003, x497004, x498000, x498001, x498002, x498003, x498004 => if x41 = true then (some false) else (laws_leMem.l0 k 0 x497000 x497001 x497002 x497003 x497004 x498000 x498001 x498002 x498003 x498004)
def laws_leMem.l0 : Nat → Int → List Int → Int → Int → Int → List Bool → List Int → Int → Int → Int → List Bool → Option (Bool)
  | 0, _, _, _, _, _, _, _, _, _, _, _ => none
  | k + 1, x5, x497000, x497001, x497002, x497003, x497004, x498000, x498001, x498002, x498003, x498004 => if x5 < (x497004.length : Int) then (if 0 ≤ x5 then (if x5 < (x498004.length : Int) then (if ((rdOf false x497004 x5) != (rdOf false x498004 x5)) = true then (some false) else (laws_leMem.l0 k (wrap64 (x5 + 1)) x497000 x497001 x497002 x497003 x497004 x498000 x498001 x498002 x498003 x498004)) else (none)) else (none)) else (some true)
end
def laws_leMem.f (k : Nat) (l0_0 : List Int) (a0_1 : Int) (a0_2 : Int) (a0_3 : Int) (l0_4 : List Bool) (l1_0 : List Int) (a1_1 : Int) (a1_2 : Int) (a1_3 : Int) (l1_4 : List Bool) : Option (Bool) := (laws_leInts.f k l0_0 l1_0).bind fun t498 => (if t498 = true then (if a0_1 = a1_1 then (if a0_2 = a1_2 then (if a0_3 = a1_3 then (laws_leMem.j0 k ((l0_4.length : Int) != (l1_4.length : Int)) l0_0 a0_1 a0_2 a0_3 l0_4 l1_0 a1_1 a1_2 a1_3 l1_4) else (laws_leMem.j0 k true l0_0 a0_1 a0_2 a0_3 l0_4 l1_0 a1_1 a1_2 a1_3 l1_4)) else (laws_leMem.j0 k true l0_0 a0_1 a0_2 a0_3 l0_4 l1_0 a1_1 a1_2 a1_3 l1_4)) else (laws_leMem.j0 k true l0_0 a0_1 a0_2 a0_3 l0_4 l1_0 a1_1 a1_2 a1_3 l1_4)) else (laws_leMem.j0 k true l0_0 a0_1 a0_2 a0_3 l0_4 l1_0 a1_1 a1_2 a1_3 l1_4))
set_option maxHeartbeats 8000000 in
set_option maxRecDepth 100000 in
theorem laws_leMem.calls (k : Nat) (A0_0 : Option Addr) (c0_0 : Nat) (l0_0 : List Int) (a0_1 : Int) (a0_2 : Int) (a0_3 : Int) (A0_4 : Option Addr) (c0_4 : Nat) (l0_4 : List Bool) (A1_0 : Option Addr) (c1_0 : Nat) (l1_0 : List Int) (a1_1 : Int) (a1_2 : Int) (a1_3 : Int) (A1_4 : Option Addr) (c1_4 : Nat) (l1_4 : List Bool) (r : Bool) (w : World) (hr0_0 : Kd.C (Kd.int .i64) w A0_0 l0_0.length l0_0) (hc0_0 : l0_0.length ≤ c0_0) (hr0_4 : Kd.C Kd.bool w A0_4 l0_4.length l0_4) (hc0_4 : l0_4.length ≤ c0_4) (hr1_0 : Kd.C (Kd.int .i64) w A1_0 l1_0.length l1_0) (hc1_0 : l1_0.length ≤ c1_0) (hr1_4 : Kd.C Kd.bool w A1_4 l1_4.length l1_4) (hc1_4 : l1_4.length ≤ c1_4) (h : laws_leMem.f k l0_0 a0_1 a0_2 a0_3 l0_4 l1_0 a1_1 a1_2 a1_3 l1_4 = some r) :
    Calls Try.prog 11 #[.agg #[.slice A0_0 l0_0.length c0_0, .int .i64 a0_1, .int .i64 a0_2, .int .i64 a0_3, .slice A0_4 l0_4.length c0_4], .agg #[.slice A1_0 l1_0.length c1_0, .int .i64 a1_1, .int .i64 a1_2, .int .i64 a1_3, .slice A1_4 l1_4.length c1_4]] w fun e w' => e = .returned (.bool r) ∧ Below w.heap.size w w' := by
  have hu28 := Try.underlying28
  have HR0_0 := Aside0.mk hr0_0
  have HC0_0 := Aside0.mk hc0_0
  clear hr0_0 hc0_0
  have HR0_4 := Aside0.mk hr0_4
  have HC0_4 := Aside0.mk hc0_4
  clear hr0_4 hc0_4
  have HR1_0 := Aside0.mk hr1_0
  have HC1_0 := Aside0.mk hc1_0
  clear hr1_0 hc1_0
  have HR1_4 := Aside0.mk hr1_4
  have HC1_4 := Aside0.mk hc1_4
  clear hr1_4 hc1_4
  have HB := Aside0.mk (Below.refl w.heap.size w)
  have H : ((laws_leInts.f k l0_0 l1_0).bind fun t498 => (if t498 = true then (if a0_1 = a1_1 then (if a0_2 = a1_2 then (if a0_3 = a1_3 then (laws_leMem.j0 k ((l0_4.length : Int) != (l1_4.length : Int)) l0_0 a0_1 a0_2 a0_3 l0_4 l1_0 a1_1 a1_2 a1_3 l1_4) else (laws_leMem.j0 k true l0_0 a0_1 a0_2 a0_3 l0_4 l1_0 a1_1 a1_2 a1_3 l1_4)) else (laws_leMem.j0 k true l0_0 a0_1 a0_2 a0_3 l0_4 l1_0 a1_1 a1_2 a1_3 l1_4)) else (laws_leMem.j0 k true l0_0 a0_1 a0_2 a0_3 l0_4 l1_0 a1_1 a1_2 a1_3 l1_4)) else (laws_leMem.j0 k true l0_0 a0_1 a0_2 a0_3 l0_4 l1_0 a1_1 a1_2 a1_3 l1_4))) = some r := h
  clear h
  have HC3 := Aside0.mk H
  clear H
  go_enter Try.func11, Try.ntmps11
  go_upto_region 1 with (first | ((with_reducible refine gate_dst (N := 2) rfl ?_); (try (refine gate_guard (by rfl) ?_; dsimp only)); refine box_event ?hg (N := 2) ?hd (cs := #[.slice A0_0 l0_0.length c0_0, .int .i64 a0_1, .int .i64 a0_2, .int .i64 a0_3, .slice A0_4 l0_4.length c0_4]) (t := 28) ?hr ?_; (case hd => rfl); (case hg => rfl); (case hr => first | (go_simp; done) | (go_simp; rfl)); intro gb496 hg w4 hbox hb; have n0_ := Aside0.mk (below_step (by repeat (first | (with_reducible first | exact HB.out | apply below_alloc | apply pw_below_drewN | apply below_drew1) | exact HB.out)) hb); have n1_ := Aside0.mk (hbox); have n2_ := Aside0.mk ((by rw [hg]; exact (below_size (by repeat (first | (with_reducible first | exact HB.out | apply below_alloc | apply pw_below_drewN | apply below_drew1) | exact HB.out))) : w.heap.size ≤ gb496)); have n3_ := Aside0.mk ((by rw [hg]; exact (below_size (by repeat (first | (with_reducible first | exact HB.out | apply below_alloc | apply pw_below_drewN | apply below_drew1) | exact HB.out))) : w.heap.size ≤ gb496)); clear HB; have HB := n0_; have BK496 := n1_; have GW496 := n2_; have GE496 := n3_; clear n0_ n1_ n2_ n3_; clear hb hbox hg) | ((with_reducible refine gate_dst (N := 3) rfl ?_); (try (refine gate_guard (by rfl) ?_; dsimp only)); refine box_event ?hg (N := 3) ?hd (cs := #[.slice A1_0 l1_0.length c1_0, .int .i64 a1_1, .int .i64 a1_2, .int .i64 a1_3, .slice A1_4 l1_4.length c1_4]) (t := 28) ?hr ?_; (case hd => rfl); (case hg => rfl); (case hr => first | (go_simp; done) | (go_simp; rfl)); intro gb497 hg w5 hbox hb; have n0_ := Aside0.mk (blk_below (g := gb496) (o := .cells #[.slice A0_0 l0_0.length c0_0, .int .i64 a0_1, .int .i64 a0_2, .int .i64 a0_3, .slice A0_4 l0_4.length c0_4] 28 (0, 0)) (by (with_reducible repeat (first | refine blk_drewN ?_ _ | refine blk_drew ?_ | refine blk_alloc ?_ _)); exact BK496.out) hb); have n1_ := Aside0.mk (below_step (by repeat (first | (with_reducible first | exact HB.out | apply below_alloc | apply pw_below_drewN | apply below_drew1 | refine below_set ?_ GE496.out) | exact HB.out)) hb); have n2_ := Aside0.mk (hbox); have n3_ := Aside0.mk ((by rw [hg]; exact (below_size (by repeat (first | (with_reducible first | exact HB.out | apply below_alloc | apply pw_below_drewN | apply below_drew1 | refine below_set ?_ GE496.out) | exact HB.out))) : w.heap.size ≤ gb497)); have n4_ := Aside0.mk ((by rw [hg]; exact (below_size (by repeat (first | (with_reducible first | exact HB.out | apply below_alloc | apply pw_below_drewN | apply below_drew1 | refine below_set ?_ GE496.out) | exact HB.out))) : w.heap.size ≤ gb497)); have n5_ := Aside0.mk ((by rw [hg]; exact Nat.ne_of_lt (blk_lt (g := gb496) (o := .cells #[.slice A0_0 l0_0.length c0_0, .int .i64 a0_1, .int .i64 a0_2, .int .i64 a0_3, .slice A0_4 l0_4.length c0_4] 28 (0, 0)) (by (with_reducible repeat (first | refine blk_drewN ?_ _ | refine blk_drew ?_ | refine blk_alloc ?_ _)); exact BK496.out)) : gb496 ≠ gb497)); have n6_ := Aside0.mk ((by rw [hg]; exact Nat.ne_of_gt (blk_lt (g := gb496) (o := .cells #[.slice A0_0 l0_0.length c0_0, .int .i64 a0_1, .int .i64 a0_2, .int .i64 a0_3, .slice A0_4 l0_4.length c0_4] 28 (0, 0)) (by (with_reducible repeat (first | refine blk_drewN ?_ _ | refine blk_drew ?_ | refine blk_alloc ?_ _)); exact BK496.out)) : gb497 ≠ gb496)); clear BK496; clear HB; have BK496 := n0_; have HB := n1_; have BK497 := n2_; have GW497 := n3_; have GE497 := n4_; have NB496_497 := n5_; have NB497_496 := n6_; clear n0_ n1_ n2_ n3_ n4_ n5_ n6_; clear hb hbox hg))
  repeat (go_quiet (first | ((with_reducible refine gate_dst (N := 2) rfl ?_); (try (refine gate_guard (by rfl) ?_; dsimp only)); refine box_event ?hg (N := 2) ?hd (cs := #[.slice A0_0 l0_0.length c0_0, .int .i64 a0_1, .int .i64 a0_2, .int .i64 a0_3, .slice A0_4 l0_4.length c0_4]) (t := 28) ?hr ?_; (case hd => rfl); (case hg => rfl); (case hr => first | (go_simp; done) | (go_simp; rfl)); intro gb496 hg w4 hbox hb; have n0_ := Aside0.mk (below_step (by repeat (first | (with_reducible first | exact HB.out | apply below_alloc | apply pw_below_drewN | apply below_drew1) | exact HB.out)) hb); have n1_ := Aside0.mk (hbox); have n2_ := Aside0.mk ((by rw [hg]; exact (below_size (by repeat (first | (with_reducible first | exact HB.out | apply below_alloc | apply pw_below_drewN | apply below_drew1) | exact HB.out))) : w.heap.size ≤ gb496)); have n3_ := Aside0.mk ((by rw [hg]; exact (below_size (by repeat (first | (with_reducible first | exact HB.out | apply below_alloc | apply pw_below_drewN | apply below_drew1) | exact HB.out))) : w.heap.size ≤ gb496)); clear HB; have HB := n0_; have BK496 := n1_; have GW496 := n2_; have GE496 := n3_; clear n0_ n1_ n2_ n3_; clear hb hbox hg) | ((with_reducible refine gate_dst (N := 3) rfl ?_); (try (refine gate_guard (by rfl) ?_; dsimp only)); refine box_event ?hg (N := 3) ?hd (cs := #[.slice A1_0 l1_0.length c1_0, .int .i64 a1_1, .int .i64 a1_2, .int .i64 a1_3, .slice A1_4 l1_4.length c1_4]) (t := 28) ?hr ?_; (case hd => rfl); (case hg => rfl); (case hr => first | (go_simp; done) | (go_simp; rfl)); intro gb497 hg w5 hbox hb; have n0_ := Aside0.mk (blk_below (g := gb496) (o := .cells #[.slice A0_0 l0_0.length c0_0, .int .i64 a0_1, .int .i64 a0_2, .int .i64 a0_3, .slice A0_4 l0_4.length c0_4] 28 (0, 0)) (by (with_reducible repeat (first | refine blk_drewN ?_ _ | refine blk_drew ?_ | refine blk_alloc ?_ _)); exact BK496.out) hb); have n1_ := Aside0.mk (below_step (by repeat (first | (with_reducible first | exact HB.out | apply below_alloc | apply pw_below_drewN | apply below_drew1 | refine below_set ?_ GE496.out) | exact HB.out)) hb); have n2_ := Aside0.mk (hbox); have n3_ := Aside0.mk ((by rw [hg]; exact (below_size (by repeat (first | (with_reducible first | exact HB.out | apply below_alloc | apply pw_below_drewN | apply below_drew1 | refine below_set ?_ GE496.out) | exact HB.out))) : w.heap.size ≤ gb497)); have n4_ := Aside0.mk ((by rw [hg]; exact (below_size (by repeat (first | (with_reducible first | exact HB.out | apply below_alloc | apply pw_below_drewN | apply below_drew1 | refine below_set ?_ GE496.out) | exact HB.out))) : w.heap.size ≤ gb497)); have n5_ := Aside0.mk ((by rw [hg]; exact Nat.ne_of_lt (blk_lt (g := gb496) (o := .cells #[.slice A0_0 l0_0.length c0_0, .int .i64 a0_1, .int .i64 a0_2, .int .i64 a0_3, .slice A0_4 l0_4.length c0_4] 28 (0, 0)) (by (with_reducible repeat (first | refine blk_drewN ?_ _ | refine blk_drew ?_ | refine blk_alloc ?_ _)); exact BK496.out)) : gb496 ≠ gb497)); have n6_ := Aside0.mk ((by rw [hg]; exact Nat.ne_of_gt (blk_lt (g := gb496) (o := .cells #[.slice A0_0 l0_0.length c0_0, .int .i64 a0_1, .int .i64 a0_2, .int .i64 a0_3, .slice A0_4 l0_4.length c0_4] 28 (0, 0)) (by (with_reducible repeat (first | refine blk_drewN ?_ _ | refine blk_drew ?_ | refine blk_alloc ?_ _)); exact BK496.out)) : gb497 ≠ gb496)); clear BK496; clear HB; have BK496 := n0_; have HB := n1_; have BK497 := n2_; have GW497 := n3_; have GE497 := n4_; have NB496_497 := n5_; have NB497_496 := n6_; clear n0_ n1_ n2_ n3_ n4_ n5_ n6_; clear hb hbox hg)); go_upto_region 1 with (first | ((with_reducible refine gate_dst (N := 2) rfl ?_); (try (refine gate_guard (by rfl) ?_; dsimp only)); refine box_event ?hg (N := 2) ?hd (cs := #[.slice A0_0 l0_0.length c0_0, .int .i64 a0_1, .int .i64 a0_2, .int .i64 a0_3, .slice A0_4 l0_4.length c0_4]) (t := 28) ?hr ?_; (case hd => rfl); (case hg => rfl); (case hr => first | (go_simp; done) | (go_simp; rfl)); intro gb496 hg w4 hbox hb; have n0_ := Aside0.mk (below_step (by repeat (first | (with_reducible first | exact HB.out | apply below_alloc | apply pw_below_drewN | apply below_drew1) | exact HB.out)) hb); have n1_ := Aside0.mk (hbox); have n2_ := Aside0.mk ((by rw [hg]; exact (below_size (by repeat (first | (with_reducible first | exact HB.out | apply below_alloc | apply pw_below_drewN | apply below_drew1) | exact HB.out))) : w.heap.size ≤ gb496)); have n3_ := Aside0.mk ((by rw [hg]; exact (below_size (by repeat (first | (with_reducible first | exact HB.out | apply below_alloc | apply pw_below_drewN | apply below_drew1) | exact HB.out))) : w.heap.size ≤ gb496)); clear HB; have HB := n0_; have BK496 := n1_; have GW496 := n2_; have GE496 := n3_; clear n0_ n1_ n2_ n3_; clear hb hbox hg) | ((with_reducible refine gate_dst (N := 3) rfl ?_); (try (refine gate_guard (by rfl) ?_; dsimp only)); refine box_event ?hg (N := 3) ?hd (cs := #[.slice A1_0 l1_0.length c1_0, .int .i64 a1_1, .int .i64 a1_2, .int .i64 a1_3, .slice A1_4 l1_4.length c1_4]) (t := 28) ?hr ?_; (case hd => rfl); (case hg => rfl); (case hr => first | (go_simp; done) | (go_simp; rfl)); intro gb497 hg w5 hbox hb; have n0_ := Aside0.mk (blk_below (g := gb496) (o := .cells #[.slice A0_0 l0_0.length c0_0, .int .i64 a0_1, .int .i64 a0_2, .int .i64 a0_3, .slice A0_4 l0_4.length c0_4] 28 (0, 0)) (by (with_reducible repeat (first | refine blk_drewN ?_ _ | refine blk_drew ?_ | refine blk_alloc ?_ _)); exact BK496.out) hb); have n1_ := Aside0.mk (below_step (by repeat (first | (with_reducible first | exact HB.out | apply below_alloc | apply pw_below_drewN | apply below_drew1 | refine below_set ?_ GE496.out) | exact HB.out)) hb); have n2_ := Aside0.mk (hbox); have n3_ := Aside0.mk ((by rw [hg]; exact (below_size (by repeat (first | (with_reducible first | exact HB.out | apply below_alloc | apply pw_below_drewN | apply below_drew1 | refine below_set ?_ GE496.out) | exact HB.out))) : w.heap.size ≤ gb497)); have n4_ := Aside0.mk ((by rw [hg]; exact (below_size (by repeat (first | (with_reducible first | exact HB.out | apply below_alloc | apply pw_below_drewN | apply below_drew1 | refine below_set ?_ GE496.out) | exact HB.out))) : w.heap.size ≤ gb497)); have n5_ := Aside0.mk ((by rw [hg]; exact Nat.ne_of_lt (blk_lt (g := gb496) (o := .cells #[.slice A0_0 l0_0.length c0_0, .int .i64 a0_1, .int .i64 a0_2, .int .i64 a0_3, .slice A0_4 l0_4.length c0_4] 28 (0, 0)) (by (with_reducible repeat (first | refine blk_drewN ?_ _ | refine blk_drew ?_ | refine blk_alloc ?_ _)); exact BK496.out)) : gb496 ≠ gb497)); have n6_ := Aside0.mk ((by rw [hg]; exact Nat.ne_of_gt (blk_lt (g := gb496) (o := .cells #[.slice A0_0 l0_0.length c0_0, .int .i64 a0_1, .int .i64 a0_2, .int .i64 a0_3, .slice A0_4 l0_4.length c0_4] 28 (0, 0)) (by (with_reducible repeat (first | refine blk_drewN ?_ _ | refine blk_drew ?_ | refine blk_alloc ?_ _)); exact BK496.out)) : gb497 ≠ gb496)); clear BK496; clear HB; have BK496 := n0_; have HB := n1_; have BK497 := n2_; have GW497 := n3_; have GE497 := n4_; have NB496_497 := n5_; have NB497_496 := n6_; clear n0_ n1_ n2_ n3_ n4_ n5_ n6_; clear hb hbox hg)))
  (try simp only [Act.put, List.setIfInBounds_toArray, List.set_cons_zero, List.set_cons_succ])
  go_cut [41] (fun v41 wc => ∃ (kq : Nat) (x41_2 : Bool), v41 = .bool x41_2 ∧ Aside0 (laws_leMem.j0 kq x41_2 l0_0 a0_1 a0_2 a0_3 l0_4 l1_0 a1_1 a1_2 a1_3 l1_4 = some r) ∧ Aside0 (kq ≤ k) ∧ Aside0 (wc.heap[gb496]? = some (.cells #[(.slice A0_0 l0_0.length c0_0), .int .i64 a0_1, .int .i64 a0_2, .int .i64 a0_3, (.slice A0_4 l0_4.length c0_4)] 28 (0, 0))) ∧ Aside0 (wc.heap[gb497]? = some (.cells #[(.slice A1_0 l1_0.length c1_0), .int .i64 a1_1, .int .i64 a1_2, .int .i64 a1_3, (.slice A1_4 l1_4.length c1_4)] 28 (0, 0))) ∧ Aside0 (Below w.heap.size w wc))
  case first =>
    have H := HC3.out
    clear HC3
    replace H := Option.bind_eq_some_iff.mp H
    obtain ⟨t498, A60, H⟩ := H
    replace H : (if t498 = true then (if a0_1 = a1_1 then (if a0_2 = a1_2 then (if a0_3 = a1_3 then (laws_leMem.j0 k ((l0_4.length : Int) != (l1_4.length : Int)) l0_0 a0_1 a0_2 a0_3 l0_4 l1_0 a1_1 a1_2 a1_3 l1_4) else (laws_leMem.j0 k true l0_0 a0_1 a0_2 a0_3 l0_4 l1_0 a1_1 a1_2 a1_3 l1_4)) else (laws_leMem.j0 k true l0_0 a0_1 a0_2 a0_3 l0_4 l1_0 a1_1 a1_2 a1_3 l1_4)) else (laws_leMem.j0 k true l0_0 a0_1 a0_2 a0_3 l0_4 l1_0 a1_1 a1_2 a1_3 l1_4)) else (laws_leMem.j0 k true l0_0 a0_1 a0_2 a0_3 l0_4 l1_0 a1_1 a1_2 a1_3 l1_4)) = some r := H
    have A6 := Aside0.mk A60
    clear A60
    by_cases c7 : t498 = true
    · subst c7
      have H1 : (if a0_1 = a1_1 then (if a0_2 = a1_2 then (if a0_3 = a1_3 then (laws_leMem.j0 k ((l0_4.length : Int) != (l1_4.length : Int)) l0_0 a0_1 a0_2 a0_3 l0_4 l1_0 a1_1 a1_2 a1_3 l1_4) else (laws_leMem.j0 k true l0_0 a0_1 a0_2 a0_3 l0_4 l1_0 a1_1 a1_2 a1_3 l1_4)) else (laws_leMem.j0 k true l0_0 a0_1 a0_2 a0_3 l0_4 l1_0 a1_1 a1_2 a1_3 l1_4)) else (laws_leMem.j0 k true l0_0 a0_1 a0_2 a0_3 l0_4 l1_0 a1_1 a1_2 a1_3 l1_4)) = some r := by rw [if_pos rfl] at H; exact H
      clear H
      have H := H1
      clear H1
      by_cases c8 : a0_1 = a1_1
      · rw [if_pos c8] at H
        have c8b0 : (a0_1 == a1_1) = true := beq_iff_eq.mpr c8
        have c8b1 : (a0_1 != a1_1) = false := bne_eq_false_iff_eq.mpr c8
        clear c8
        (first | rw [c8b0] | (simp only [i64_w, i32_w]; rw [c8b0]) | skip)
        by_cases c9 : a0_2 = a1_2
        · rw [if_pos c9] at H
          have c9b0 : (a0_2 == a1_2) = true := beq_iff_eq.mpr c9
          have c9b1 : (a0_2 != a1_2) = false := bne_eq_false_iff_eq.mpr c9
          clear c9
          by_cases c10 : a0_3 = a1_3
          · rw [if_pos c10] at H
            have c10b0 : (a0_3 == a1_3) = true := beq_iff_eq.mpr c10
            have c10b1 : (a0_3 != a1_3) = false := bne_eq_false_iff_eq.mpr c10
            clear c10
            have H' := Aside0.mk H
            clear H
            have hnb11 := NB496_497.out
            have hnc11 := NB497_496.out
            have hcz12_0 : w5.cell? ⟨gb496, 0, none⟩ = some (.slice A0_0 l0_0.length c0_0) := (blk_cell BK496.out 0).trans rfl
            have hcz12_1 : w5.cell? ⟨gb496, 1, none⟩ = some (.int .i64 a0_1) := (blk_cell BK496.out 1).trans rfl
            have hcz12_2 : w5.cell? ⟨gb496, 2, none⟩ = some (.int .i64 a0_2) := (blk_cell BK496.out 2).trans rfl
            have hcz12_3 : w5.cell? ⟨gb496, 3, none⟩ = some (.int .i64 a0_3) := (blk_cell BK496.out 3).trans rfl
            have hcz12_4 : w5.cell? ⟨gb496, 4, none⟩ = some (.slice A0_4 l0_4.length c0_4) := (blk_cell BK496.out 4).trans rfl
            have hfz12_0 := blk_frozen BK496.out 0
            have hfz12_1 := blk_frozen BK496.out 1
            have hfz12_2 := blk_frozen BK496.out 2
            have hfz12_3 := blk_frozen BK496.out 3
            have hfz12_4 := blk_frozen BK496.out 4
            have hcz13_0 : w5.cell? ⟨gb497, 0, none⟩ = some (.slice A1_0 l1_0.length c1_0) := (blk_cell BK497.out 0).trans rfl
            have hcz13_1 : w5.cell? ⟨gb497, 1, none⟩ = some (.int .i64 a1_1) := (blk_cell BK497.out 1).trans rfl
            have hcz13_2 : w5.cell? ⟨gb497, 2, none⟩ = some (.int .i64 a1_2) := (blk_cell BK497.out 2).trans rfl
            have hcz13_3 : w5.cell? ⟨gb497, 3, none⟩ = some (.int .i64 a1_3) := (blk_cell BK497.out 3).trans rfl
            have hcz13_4 : w5.cell? ⟨gb497, 4, none⟩ = some (.slice A1_4 l1_4.length c1_4) := (blk_cell BK497.out 4).trans rfl
            have hfz13_0 := blk_frozen BK497.out 0
            have hfz13_1 := blk_frozen BK497.out 1
            have hfz13_2 := blk_frozen BK497.out 2
            have hfz13_3 := blk_frozen BK497.out 3
            have hfz13_4 := blk_frozen BK497.out 4
            go_wp2_with (first | (go_at_call 33; (with_reducible refine (laws_leInts.calls k _ _ l0_0 _ _ l1_0 true _ ?side1 ?side2 ?side3 ?side4 A6.out).mono ?_); (case side1 => repeat (first | exact (Kd.C_below HR0_0.out HB.out) | (with_reducible refine Kd.C_alloc ?_ _) | (with_reducible refine Kd.C_drewN ?_ _) | (with_reducible refine Kd.C_drew ?_))); (case side2 => exact HC0_0.out); (case side3 => repeat (first | exact (Kd.C_below HR1_0.out HB.out) | (with_reducible refine Kd.C_alloc ?_ _) | (with_reducible refine Kd.C_drewN ?_ _) | (with_reducible refine Kd.C_drew ?_))); (case side4 => exact HC1_0.out); rintro e w' ⟨rfl, ⟨nd, rfl⟩⟩; (try first | exact ⟨rfl, _, World.drewN_drewN _ _ _⟩ | exact ⟨rfl, _, Eq.trans (World.drewN_drewN _ _ _) (congrArg (World.drewN _) (Nat.add_assoc _ _ _))⟩)))
            repeat (go_quiet (first | (go_at_call 33; (with_reducible refine (laws_leInts.calls k _ _ l0_0 _ _ l1_0 true _ ?side1 ?side2 ?side3 ?side4 A6.out).mono ?_); (case side1 => repeat (first | exact (Kd.C_below HR0_0.out HB.out) | (with_reducible refine Kd.C_alloc ?_ _) | (with_reducible refine Kd.C_drewN ?_ _) | (with_reducible refine Kd.C_drew ?_))); (case side2 => exact HC0_0.out); (case side3 => repeat (first | exact (Kd.C_below HR1_0.out HB.out) | (with_reducible refine Kd.C_alloc ?_ _) | (with_reducible refine Kd.C_drewN ?_ _) | (with_reducible refine Kd.C_drew ?_))); (case side4 => exact HC1_0.out); rintro e w' ⟨rfl, ⟨nd, rfl⟩⟩; (try first | exact ⟨rfl, _, World.drewN_drewN _ _ _⟩ | exact ⟨rfl, _, Eq.trans (World.drewN_drewN _ _ _) (congrArg (World.drewN _) (Nat.add_assoc _ _ _))⟩))); try go_wp2_with (first | (go_at_call 33; (with_reducible refine (laws_leInts.calls k _ _ l0_0 _ _ l1_0 true _ ?side1 ?side2 ?side3 ?side4 A6.out).mono ?_); (case side1 => repeat (first | exact (Kd.C_below HR0_0.out HB.out) | (with_reducible refine Kd.C_alloc ?_ _) | (with_reducible refine Kd.C_drewN ?_ _) | (with_reducible refine Kd.C_drew ?_))); (case side2 => exact HC0_0.out); (case side3 => repeat (first | exact (Kd.C_below HR1_0.out HB.out) | (with_reducible refine Kd.C_alloc ?_ _) | (with_reducible refine Kd.C_drewN ?_ _) | (with_reducible refine Kd.C_drew ?_))); (case side4 => exact HC1_0.out); rintro e w' ⟨rfl, ⟨nd, rfl⟩⟩; (try first | exact ⟨rfl, _, World.drewN_drewN _ _ _⟩ | exact ⟨rfl, _, Eq.trans (World.drewN_drewN _ _ _) (congrArg (World.drewN _) (Nat.add_assoc _ _ _))⟩))))
            go_meet
            case rel => exact ⟨_, (((l0_4.length : Int) != (l1_4.length : Int))), (by first | rfl | (simp; done) | (simp [*]; done)), H', ⟨by first | omega | exact Nat.le_refl _⟩, ⟨by (with_reducible repeat (first | refine blk_drewN ?_ _ | refine blk_drew ?_ | refine blk_alloc ?_ _)); exact BK496.out⟩, ⟨by (with_reducible repeat (first | refine blk_drewN ?_ _ | refine blk_drew ?_ | refine blk_alloc ?_ _)); exact BK497.out⟩, ⟨by repeat (first | (with_reducible first | exact HB.out | apply below_alloc | apply pw_below_drewN | apply below_drew1 | refine below_set ?_ GE496.out | refine below_set ?_ GE497.out) | exact HB.out)⟩⟩
          · rw [if_neg c10] at H
            have c10b0 : (a0_3 == a1_3) = false := beq_eq_false_iff_ne.mpr c10
            have c10b1 : (a0_3 != a1_3) = true := bne_iff_ne.mpr c10
            have H' := Aside0.mk H
            clear H
            have hnb14 := NB496_497.out
            have hnc14 := NB497_496.out
            have hcz15_0 : w5.cell? ⟨gb496, 0, none⟩ = some (.slice A0_0 l0_0.length c0_0) := (blk_cell BK496.out 0).trans rfl
            have hcz15_1 : w5.cell? ⟨gb496, 1, none⟩ = some (.int .i64 a0_1) := (blk_cell BK496.out 1).trans rfl
            have hcz15_2 : w5.cell? ⟨gb496, 2, none⟩ = some (.int .i64 a0_2) := (blk_cell BK496.out 2).trans rfl
            have hcz15_3 : w5.cell? ⟨gb496, 3, none⟩ = some (.int .i64 a0_3) := (blk_cell BK496.out 3).trans rfl
            have hcz15_4 : w5.cell? ⟨gb496, 4, none⟩ = some (.slice A0_4 l0_4.length c0_4) := (blk_cell BK496.out 4).trans rfl
            have hfz15_0 := blk_frozen BK496.out 0
            have hfz15_1 := blk_frozen BK496.out 1
            have hfz15_2 := blk_frozen BK496.out 2
            have hfz15_3 := blk_frozen BK496.out 3
            have hfz15_4 := blk_frozen BK496.out 4
            have hcz16_0 : w5.cell? ⟨gb497, 0, none⟩ = some (.slice A1_0 l1_0.length c1_0) := (blk_cell BK497.out 0).trans rfl
            have hcz16_1 : w5.cell? ⟨gb497, 1, none⟩ = some (.int .i64 a1_1) := (blk_cell BK497.out 1).trans rfl
            have hcz16_2 : w5.cell? ⟨gb497, 2, none⟩ = some (.int .i64 a1_2) := (blk_cell BK497.out 2).trans rfl
            have hcz16_3 : w5.cell? ⟨gb497, 3, none⟩ = some (.int .i64 a1_3) := (blk_cell BK497.out 3).trans rfl
            have hcz16_4 : w5.cell? ⟨gb497, 4, none⟩ = some (.slice A1_4 l1_4.length c1_4) := (blk_cell BK497.out 4).trans rfl
            have hfz16_0 := blk_frozen BK497.out 0
            have hfz16_1 := blk_frozen BK497.out 1
            have hfz16_2 := blk_frozen BK497.out 2
            have hfz16_3 := blk_frozen BK497.out 3
            have hfz16_4 := blk_frozen BK497.out 4
            go_wp2_with (first | (go_at_call 33; (with_reducible refine (laws_leInts.calls k _ _ l0_0 _ _ l1_0 true _ ?side1 ?side2 ?side3 ?side4 A6.out).mono ?_); (case side1 => repeat (first | exact (Kd.C_below HR0_0.out HB.out) | (with_reducible refine Kd.C_alloc ?_ _) | (with_reducible refine Kd.C_drewN ?_ _) | (with_reducible refine Kd.C_drew ?_))); (case side2 => exact HC0_0.out); (case side3 => repeat (first | exact (Kd.C_below HR1_0.out HB.out) | (with_reducible refine Kd.C_alloc ?_ _) | (with_reducible refine Kd.C_drewN ?_ _) | (with_reducible refine Kd.C_drew ?_))); (case side4 => exact HC1_0.out); rintro e w' ⟨rfl, ⟨nd, rfl⟩⟩; (try first | exact ⟨rfl, _, World.drewN_drewN _ _ _⟩ | exact ⟨rfl, _, Eq.trans (World.drewN_drewN _ _ _) (congrArg (World.drewN _) (Nat.add_assoc _ _ _))⟩)))
            repeat (go_quiet (first | (go_at_call 33; (with_reducible refine (laws_leInts.calls k _ _ l0_0 _ _ l1_0 true _ ?side1 ?side2 ?side3 ?side4 A6.out).mono ?_); (case side1 => repeat (first | exact (Kd.C_below HR0_0.out HB.out) | (with_reducible refine Kd.C_alloc ?_ _) | (with_reducible refine Kd.C_drewN ?_ _) | (with_reducible refine Kd.C_drew ?_))); (case side2 => exact HC0_0.out); (case side3 => repeat (first | exact (Kd.C_below HR1_0.out HB.out) | (with_reducible refine Kd.C_alloc ?_ _) | (with_reducible refine Kd.C_drewN ?_ _) | (with_reducible refine Kd.C_drew ?_))); (case side4 => exact HC1_0.out); rintro e w' ⟨rfl, ⟨nd, rfl⟩⟩; (try first | exact ⟨rfl, _, World.drewN_drewN _ _ _⟩ | exact ⟨rfl, _, Eq.trans (World.drewN_drewN _ _ _) (congrArg (World.drewN _) (Nat.add_assoc _ _ _))⟩))); try go_wp2_with (first | (go_at_call 33; (with_reducible refine (laws_leInts.calls k _ _ l0_0 _ _ l1_0 true _ ?side1 ?side2 ?side3 ?side4 A6.out).mono ?_); (case side1 => repeat (first | exact (Kd.C_below HR0_0.out HB.out) | (with_reducible refine Kd.C_alloc ?_ _) | (with_reducible refine Kd.C_drewN ?_ _) | (with_reducible refine Kd.C_drew ?_))); (case side2 => exact HC0_0.out); (case side3 => repeat (first | exact (Kd.C_below HR1_0.out HB.out) | (with_reducible refine Kd.C_alloc ?_ _) | (with_reducible refine Kd.C_drewN ?_ _) | (with_reducible refine Kd.C_drew ?_))); (case side4 => exact HC1_0.out); rintro e w' ⟨rfl, ⟨nd, rfl⟩⟩; (try first | exact ⟨rfl, _, World.drewN_drewN _ _ _⟩ | exact ⟨rfl, _, Eq.trans (World.drewN_drewN _ _ _) (congrArg (World.drewN _) (Nat.add_assoc _ _ _))⟩))))
            go_meet
            case rel => exact ⟨_, (true), (by first | rfl | (simp; done) | (simp [*]; done)), H', ⟨by first | omega | exact Nat.le_refl _⟩, ⟨by (with_reducible repeat (first | refine blk_drewN ?_ _ | refine blk_drew ?_ | refine blk_alloc ?_ _)); exact BK496.out⟩, ⟨by (with_reducible repeat (first | refine blk_drewN ?_ _ | refine blk_drew ?_ | refine blk_alloc ?_ _)); exact BK497.out⟩, ⟨by repeat (first | (with_reducible first | exact HB.out | apply below_alloc | apply pw_below_drewN | apply below_drew1 | refine below_set ?_ GE496.out | refine below_set ?_ GE497.out) | exact HB.out)⟩⟩
        · rw [if_neg c9] at H
          have c9b0 : (a0_2 == a1_2) = false := beq_eq_false_iff_ne.mpr c9
          have c9b1 : (a0_2 != a1_2) = true := bne_iff_ne.mpr c9
          have H' := Aside0.mk H
          clear H
          have hnb17 := NB496_497.out
          have hnc17 := NB497_496.out
          have hcz18_0 : w5.cell? ⟨gb496, 0, none⟩ = some (.slice A0_0 l0_0.length c0_0) := (blk_cell BK496.out 0).trans rfl
          have hcz18_1 : w5.cell? ⟨gb496, 1, none⟩ = some (.int .i64 a0_1) := (blk_cell BK496.out 1).trans rfl
          have hcz18_2 : w5.cell? ⟨gb496, 2, none⟩ = some (.int .i64 a0_2) := (blk_cell BK496.out 2).trans rfl
          have hcz18_3 : w5.cell? ⟨gb496, 3, none⟩ = some (.int .i64 a0_3) := (blk_cell BK496.out 3).trans rfl
          have hcz18_4 : w5.cell? ⟨gb496, 4, none⟩ = some (.slice A0_4 l0_4.length c0_4) := (blk_cell BK496.out 4).trans rfl
          have hfz18_0 := blk_frozen BK496.out 0
          have hfz18_1 := blk_frozen BK496.out 1
          have hfz18_2 := blk_frozen BK496.out 2
          have hfz18_3 := blk_frozen BK496.out 3
          have hfz18_4 := blk_frozen BK496.out 4
          have hcz19_0 : w5.cell? ⟨gb497, 0, none⟩ = some (.slice A1_0 l1_0.length c1_0) := (blk_cell BK497.out 0).trans rfl
          have hcz19_1 : w5.cell? ⟨gb497, 1, none⟩ = some (.int .i64 a1_1) := (blk_cell BK497.out 1).trans rfl
          have hcz19_2 : w5.cell? ⟨gb497, 2, none⟩ = some (.int .i64 a1_2) := (blk_cell BK497.out 2).trans rfl
          have hcz19_3 : w5.cell? ⟨gb497, 3, none⟩ = some (.int .i64 a1_3) := (blk_cell BK497.out 3).trans rfl
          have hcz19_4 : w5.cell? ⟨gb497, 4, none⟩ = some (.slice A1_4 l1_4.length c1_4) := (blk_cell BK497.out 4).trans rfl
          have hfz19_0 := blk_frozen BK497.out 0
          have hfz19_1 := blk_frozen BK497.out 1
          have hfz19_2 := blk_frozen BK497.out 2
          have hfz19_3 := blk_frozen BK497.out 3
          have hfz19_4 := blk_frozen BK497.out 4
          go_wp2_with (first | (go_at_call 33; (with_reducible refine (laws_leInts.calls k _ _ l0_0 _ _ l1_0 true _ ?side1 ?side2 ?side3 ?side4 A6.out).mono ?_); (case side1 => repeat (first | exact (Kd.C_below HR0_0.out HB.out) | (with_reducible refine Kd.C_alloc ?_ _) | (with_reducible refine Kd.C_drewN ?_ _) | (with_reducible refine Kd.C_drew ?_))); (case side2 => exact HC0_0.out); (case side3 => repeat (first | exact (Kd.C_below HR1_0.out HB.out) | (with_reducible refine Kd.C_alloc ?_ _) | (with_reducible refine Kd.C_drewN ?_ _) | (with_reducible refine Kd.C_drew ?_))); (case side4 => exact HC1_0.out); rintro e w' ⟨rfl, ⟨nd, rfl⟩⟩; (try first | exact ⟨rfl, _, World.drewN_drewN _ _ _⟩ | exact ⟨rfl, _, Eq.trans (World.drewN_drewN _ _ _) (congrArg (World.drewN _) (Nat.add_assoc _ _ _))⟩)))
          repeat (go_quiet (first | (go_at_call 33; (with_reducible refine (laws_leInts.calls k _ _ l0_0 _ _ l1_0 true _ ?side1 ?side2 ?side3 ?side4 A6.out).mono ?_); (case side1 => repeat (first | exact (Kd.C_below HR0_0.out HB.out) | (with_reducible refine Kd.C_alloc ?_ _) | (with_reducible refine Kd.C_drewN ?_ _) | (with_reducible refine Kd.C_drew ?_))); (case side2 => exact HC0_0.out); (case side3 => repeat (first | exact (Kd.C_below HR1_0.out HB.out) | (with_reducible refine Kd.C_alloc ?_ _) | (with_reducible refine Kd.C_drewN ?_ _) | (with_reducible refine Kd.C_drew ?_))); (case side4 => exact HC1_0.out); rintro e w' ⟨rfl, ⟨nd, rfl⟩⟩; (try first | exact ⟨rfl, _, World.drewN_drewN _ _ _⟩ | exact ⟨rfl, _, Eq.trans (World.drewN_drewN _ _ _) (congrArg (World.drewN _) (Nat.add_assoc _ _ _))⟩))); try go_wp2_with (first | (go_at_call 33; (with_reducible refine (laws_leInts.calls k _ _ l0_0 _ _ l1_0 true _ ?side1 ?side2 ?side3 ?side4 A6.out).mono ?_); (case side1 => repeat (first | exact (Kd.C_below HR0_0.out HB.out) | (with_reducible refine Kd.C_alloc ?_ _) | (with_reducible refine Kd.C_drewN ?_ _) | (with_reducible refine Kd.C_drew ?_))); (case side2 => exact HC0_0.out); (case side3 => repeat (first | exact (Kd.C_below HR1_0.out HB.out) | (with_reducible refine Kd.C_alloc ?_ _) | (with_reducible refine Kd.C_drewN ?_ _) | (with_reducible refine Kd.C_drew ?_))); (case side4 => exact HC1_0.out); rintro e w' ⟨rfl, ⟨nd, rfl⟩⟩; (try first | exact ⟨rfl, _, World.drewN_drewN _ _ _⟩ | exact ⟨rfl, _, Eq.trans (World.drewN_drewN _ _ _) (congrArg (World.drewN _) (Nat.add_assoc _ _ _))⟩))))
          go_meet
          case rel => exact ⟨_, (true), (by first | rfl | (simp; done) | (simp [*]; done)), H', ⟨by first | omega | exact Nat.le_refl _⟩, ⟨by (with_reducible repeat (first | refine blk_drewN ?_ _ | refine blk_drew ?_ | refine blk_alloc ?_ _)); exact BK496.out⟩, ⟨by (with_reducible repeat (first | refine blk_drewN ?_ _ | refine blk_drew ?_ | refine blk_alloc ?_ _)); exact BK497.out⟩, ⟨by repeat (first | (with_reducible first | exact HB.out | apply below_alloc | apply pw_below_drewN | apply below_drew1 | refine below_set ?_ GE496.out | refine below_set ?_ GE497.out) | exact HB.out)⟩⟩
      · rw [if_neg c8] at H
        have c8b0 : (a0_1 == a1_1) = false := beq_eq_false_iff_ne.mpr c8
        have c8b1 : (a0_1 != a1_1) = true := bne_iff_ne.mpr c8
        (first | rw [c8b0] | (simp only [i64_w, i32_w]; rw [c8b0]) | skip)
        have H' := Aside0.mk H
        clear H
        have hnb20 := NB496_497.out
        have hnc20 := NB497_496.out
        have hcz21_0 : w5.cell? ⟨gb496, 0, none⟩ = some (.slice A0_0 l0_0.length c0_0) := (blk_cell BK496.out 0).trans rfl
        have hcz21_1 : w5.cell? ⟨gb496, 1, none⟩ = some (.int .i64 a0_1) := (blk_cell BK496.out 1).trans rfl
        have hcz21_2 : w5.cell? ⟨gb496, 2, none⟩ = some (.int .i64 a0_2) := (blk_cell BK496.out 2).trans rfl
        have hcz21_3 : w5.cell? ⟨gb496, 3, none⟩ = some (.int .i64 a0_3) := (blk_cell BK496.out 3).trans rfl
        have hcz21_4 : w5.cell? ⟨gb496, 4, none⟩ = some (.slice A0_4 l0_4.length c0_4) := (blk_cell BK496.out 4).trans rfl
        have hfz21_0 := blk_frozen BK496.out 0
        have hfz21_1 := blk_frozen BK496.out 1
        have hfz21_2 := blk_frozen BK496.out 2
        have hfz21_3 := blk_frozen BK496.out 3
        have hfz21_4 := blk_frozen BK496.out 4
        have hcz22_0 : w5.cell? ⟨gb497, 0, none⟩ = some (.slice A1_0 l1_0.length c1_0) := (blk_cell BK497.out 0).trans rfl
        have hcz22_1 : w5.cell? ⟨gb497, 1, none⟩ = some (.int .i64 a1_1) := (blk_cell BK497.out 1).trans rfl
        have hcz22_2 : w5.cell? ⟨gb497, 2, none⟩ = some (.int .i64 a1_2) := (blk_cell BK497.out 2).trans rfl
        have hcz22_3 : w5.cell? ⟨gb497, 3, none⟩ = some (.int .i64 a1_3) := (blk_cell BK497.out 3).trans rfl
        have hcz22_4 : w5.cell? ⟨gb497, 4, none⟩ = some (.slice A1_4 l1_4.length c1_4) := (blk_cell BK497.out 4).trans rfl
        have hfz22_0 := blk_frozen BK497.out 0
        have hfz22_1 := blk_frozen BK497.out 1
        have hfz22_2 := blk_frozen BK497.out 2
        have hfz22_3 := blk_frozen BK497.out 3
        have hfz22_4 := blk_frozen BK497.out 4
        go_wp2_with (first | (go_at_call 33; (with_reducible refine (laws_leInts.calls k _ _ l0_0 _ _ l1_0 true _ ?side1 ?side2 ?side3 ?side4 A6.out).mono ?_); (case side1 => repeat (first | exact (Kd.C_below HR0_0.out HB.out) | (with_reducible refine Kd.C_alloc ?_ _) | (with_reducible refine Kd.C_drewN ?_ _) | (with_reducible refine Kd.C_drew ?_))); (case side2 => exact HC0_0.out); (case side3 => repeat (first | exact (Kd.C_below HR1_0.out HB.out) | (with_reducible refine Kd.C_alloc ?_ _) | (with_reducible refine Kd.C_drewN ?_ _) | (with_reducible refine Kd.C_drew ?_))); (case side4 => exact HC1_0.out); rintro e w' ⟨rfl, ⟨nd, rfl⟩⟩; (try first | exact ⟨rfl, _, World.drewN_drewN _ _ _⟩ | exact ⟨rfl, _, Eq.trans (World.drewN_drewN _ _ _) (congrArg (World.drewN _) (Nat.add_assoc _ _ _))⟩)))
        repeat (go_quiet (first | (go_at_call 33; (with_reducible refine (laws_leInts.calls k _ _ l0_0 _ _ l1_0 true _ ?side1 ?side2 ?side3 ?side4 A6.out).mono ?_); (case side1 => repeat (first | exact (Kd.C_below HR0_0.out HB.out) | (with_reducible refine Kd.C_alloc ?_ _) | (with_reducible refine Kd.C_drewN ?_ _) | (with_reducible refine Kd.C_drew ?_))); (case side2 => exact HC0_0.out); (case side3 => repeat (first | exact (Kd.C_below HR1_0.out HB.out) | (with_reducible refine Kd.C_alloc ?_ _) | (with_reducible refine Kd.C_drewN ?_ _) | (with_reducible refine Kd.C_drew ?_))); (case side4 => exact HC1_0.out); rintro e w' ⟨rfl, ⟨nd, rfl⟩⟩; (try first | exact ⟨rfl, _, World.drewN_drewN _ _ _⟩ | exact ⟨rfl, _, Eq.trans (World.drewN_drewN _ _ _) (congrArg (World.drewN _) (Nat.add_assoc _ _ _))⟩))); try go_wp2_with (first | (go_at_call 33; (with_reducible refine (laws_leInts.calls k _ _ l0_0 _ _ l1_0 true _ ?side1 ?side2 ?side3 ?side4 A6.out).mono ?_); (case side1 => repeat (first | exact (Kd.C_below HR0_0.out HB.out) | (with_reducible refine Kd.C_alloc ?_ _) | (with_reducible refine Kd.C_drewN ?_ _) | (with_reducible refine Kd.C_drew ?_))); (case side2 => exact HC0_0.out); (case side3 => repeat (first | exact (Kd.C_below HR1_0.out HB.out) | (with_reducible refine Kd.C_alloc ?_ _) | (with_reducible refine Kd.C_drewN ?_ _) | (with_reducible refine Kd.C_drew ?_))); (case side4 => exact HC1_0.out); rintro e w' ⟨rfl, ⟨nd, rfl⟩⟩; (try first | exact ⟨rfl, _, World.drewN_drewN _ _ _⟩ | exact ⟨rfl, _, Eq.trans (World.drewN_drewN _ _ _) (congrArg (World.drewN _) (Nat.add_assoc _ _ _))⟩))))
        go_meet
        case rel => exact ⟨_, (true), (by first | rfl | (simp; done) | (simp [*]; done)), H', ⟨by first | omega | exact Nat.le_refl _⟩, ⟨by (with_reducible repeat (first | refine blk_drewN ?_ _ | refine blk_drew ?_ | refine blk_alloc ?_ _)); exact BK496.out⟩, ⟨by (with_reducible repeat (first | refine blk_drewN ?_ _ | refine blk_drew ?_ | refine blk_alloc ?_ _)); exact BK497.out⟩, ⟨by repeat (first | (with_reducible first | exact HB.out | apply below_alloc | apply pw_below_drewN | apply below_drew1 | refine below_set ?_ GE496.out | refine below_set ?_ GE497.out) | exact HB.out)⟩⟩
    · replace c7 := Bool.eq_false_iff.mpr c7
      subst c7
      have H1 : (laws_leMem.j0 k true l0_0 a0_1 a0_2 a0_3 l0_4 l1_0 a1_1 a1_2 a1_3 l1_4) = some r := by rw [if_neg (show ¬ (false = true) by decide)] at H; exact H
      clear H
      have H := H1
      clear H1
      have H' := Aside0.mk H
      clear H
      have hnb23 := NB496_497.out
      have hnc23 := NB497_496.out
      have hcz24_0 : w5.cell? ⟨gb496, 0, none⟩ = some (.slice A0_0 l0_0.length c0_0) := (blk_cell BK496.out 0).trans rfl
      have hcz24_1 : w5.cell? ⟨gb496, 1, none⟩ = some (.int .i64 a0_1) := (blk_cell BK496.out 1).trans rfl
      have hcz24_2 : w5.cell? ⟨gb496, 2, none⟩ = some (.int .i64 a0_2) := (blk_cell BK496.out 2).trans rfl
      have hcz24_3 : w5.cell? ⟨gb496, 3, none⟩ = some (.int .i64 a0_3) := (blk_cell BK496.out 3).trans rfl
      have hcz24_4 : w5.cell? ⟨gb496, 4, none⟩ = some (.slice A0_4 l0_4.length c0_4) := (blk_cell BK496.out 4).trans rfl
      have hfz24_0 := blk_frozen BK496.out 0
      have hfz24_1 := blk_frozen BK496.out 1
      have hfz24_2 := blk_frozen BK496.out 2
      have hfz24_3 := blk_frozen BK496.out 3
      have hfz24_4 := blk_frozen BK496.out 4
      have hcz25_0 : w5.cell? ⟨gb497, 0, none⟩ = some (.slice A1_0 l1_0.length c1_0) := (blk_cell BK497.out 0).trans rfl
      have hcz25_1 : w5.cell? ⟨gb497, 1, none⟩ = some (.int .i64 a1_1) := (blk_cell BK497.out 1).trans rfl
      have hcz25_2 : w5.cell? ⟨gb497, 2, none⟩ = some (.int .i64 a1_2) := (blk_cell BK497.out 2).trans rfl
      have hcz25_3 : w5.cell? ⟨gb497, 3, none⟩ = some (.int .i64 a1_3) := (blk_cell BK497.out 3).trans rfl
      have hcz25_4 : w5.cell? ⟨gb497, 4, none⟩ = some (.slice A1_4 l1_4.length c1_4) := (blk_cell BK497.out 4).trans rfl
      have hfz25_0 := blk_frozen BK497.out 0
      have hfz25_1 := blk_frozen BK497.out 1
      have hfz25_2 := blk_frozen BK497.out 2
      have hfz25_3 := blk_frozen BK497.out 3
      have hfz25_4 := blk_frozen BK497.out 4
      go_wp2_with (first | (go_at_call 33; (with_reducible refine (laws_leInts.calls k _ _ l0_0 _ _ l1_0 false _ ?side1 ?side2 ?side3 ?side4 A6.out).mono ?_); (case side1 => repeat (first | exact (Kd.C_below HR0_0.out HB.out) | (with_reducible refine Kd.C_alloc ?_ _) | (with_reducible refine Kd.C_drewN ?_ _) | (with_reducible refine Kd.C_drew ?_))); (case side2 => exact HC0_0.out); (case side3 => repeat (first | exact (Kd.C_below HR1_0.out HB.out) | (with_reducible refine Kd.C_alloc ?_ _) | (with_reducible refine Kd.C_drewN ?_ _) | (with_reducible refine Kd.C_drew ?_))); (case side4 => exact HC1_0.out); rintro e w' ⟨rfl, ⟨nd, rfl⟩⟩; (try first | exact ⟨rfl, _, World.drewN_drewN _ _ _⟩ | exact ⟨rfl, _, Eq.trans (World.drewN_drewN _ _ _) (congrArg (World.drewN _) (Nat.add_assoc _ _ _))⟩)))
      repeat (go_quiet (first | (go_at_call 33; (with_reducible refine (laws_leInts.calls k _ _ l0_0 _ _ l1_0 false _ ?side1 ?side2 ?side3 ?side4 A6.out).mono ?_); (case side1 => repeat (first | exact (Kd.C_below HR0_0.out HB.out) | (with_reducible refine Kd.C_alloc ?_ _) | (with_reducible refine Kd.C_drewN ?_ _) | (with_reducible refine Kd.C_drew ?_))); (case side2 => exact HC0_0.out); (case side3 => repeat (first | exact (Kd.C_below HR1_0.out HB.out) | (with_reducible refine Kd.C_alloc ?_ _) | (with_reducible refine Kd.C_drewN ?_ _) | (with_reducible refine Kd.C_drew ?_))); (case side4 => exact HC1_0.out); rintro e w' ⟨rfl, ⟨nd, rfl⟩⟩; (try first | exact ⟨rfl, _, World.drewN_drewN _ _ _⟩ | exact ⟨rfl, _, Eq.trans (World.drewN_drewN _ _ _) (congrArg (World.drewN _) (Nat.add_assoc _ _ _))⟩))); try go_wp2_with (first | (go_at_call 33; (with_reducible refine (laws_leInts.calls k _ _ l0_0 _ _ l1_0 false _ ?side1 ?side2 ?side3 ?side4 A6.out).mono ?_); (case side1 => repeat (first | exact (Kd.C_below HR0_0.out HB.out) | (with_reducible refine Kd.C_alloc ?_ _) | (with_reducible refine Kd.C_drewN ?_ _) | (with_reducible refine Kd.C_drew ?_))); (case side2 => exact HC0_0.out); (case side3 => repeat (first | exact (Kd.C_below HR1_0.out HB.out) | (with_reducible refine Kd.C_alloc ?_ _) | (with_reducible refine Kd.C_drewN ?_ _) | (with_reducible refine Kd.C_drew ?_))); (case side4 => exact HC1_0.out); rintro e w' ⟨rfl, ⟨nd, rfl⟩⟩; (try first | exact ⟨rfl, _, World.drewN_drewN _ _ _⟩ | exact ⟨rfl, _, Eq.trans (World.drewN_drewN _ _ _) (congrArg (World.drewN _) (Nat.add_assoc _ _ _))⟩))))
      go_meet
      case rel => exact ⟨_, (true), (by first | rfl | (simp; done) | (simp [*]; done)), H', ⟨by first | omega | exact Nat.le_refl _⟩, ⟨by (with_reducible repeat (first | refine blk_drewN ?_ _ | refine blk_drew ?_ | refine blk_alloc ?_ _)); exact BK496.out⟩, ⟨by (with_reducible repeat (first | refine blk_drewN ?_ _ | refine blk_drew ?_ | refine blk_alloc ?_ _)); exact BK497.out⟩, ⟨by repeat (first | (with_reducible first | exact HB.out | apply below_alloc | apply pw_below_drewN | apply below_drew1 | refine below_set ?_ GE496.out | refine below_set ?_ GE497.out) | exact HB.out)⟩⟩
  case rest =>
    clear HC3
    try clear c1
    try clear c2
    try clear p2
    try clear c7
    try clear c8
    try clear c8b0
    try clear c8b1
    try clear c9
    try clear c9b0
    try clear c9b1
    try clear c10
    try clear c10b0
    try clear c10b1
    try clear c11
    try clear c14
    try clear c17
    try clear c20
    try clear c23
    try clear hcz12_0
    try clear hcz12_1
    try clear hcz12_2
    try clear hcz12_3
    try clear hcz12_4
    try clear hcz13_0
    try clear hcz13_1
    try clear hcz13_2
    try clear hcz13_3
    try clear hcz13_4
    try clear hcz15_0
    try clear hcz15_1
    try clear hcz15_2
    try clear hcz15_3
    try clear hcz15_4
    try clear hcz16_0
    try clear hcz16_1
    try clear hcz16_2
    try clear hcz16_3
    try clear hcz16_4
    try clear hcz18_0
    try clear hcz18_1
    try clear hcz18_2
    try clear hcz18_3
    try clear hcz18_4
    try clear hcz19_0
    try clear hcz19_1
    try clear hcz19_2
    try clear hcz19_3
    try clear hcz19_4
    try clear hcz21_0
    try clear hcz21_1
    try clear hcz21_2
    try clear hcz21_3
    try clear hcz21_4
    try clear hcz22_0
    try clear hcz22_1
    try clear hcz22_2
    try clear hcz22_3
    try clear hcz22_4
    try clear hcz24_0
    try clear hcz24_1
    try clear hcz24_2
    try clear hcz24_3
    try clear hcz24_4
    try clear hcz25_0
    try clear hcz25_1
    try clear hcz25_2
    try clear hcz25_3
    try clear hcz25_4
    try clear hfz12_0
    try clear hfz12_1
    try clear hfz12_2
    try clear hfz12_3
    try clear hfz12_4
    try clear hfz13_0
    try clear hfz13_1
    try clear hfz13_2
    try clear hfz13_3
    try clear hfz13_4
    try clear hfz15_0
    try clear hfz15_1
    try clear hfz15_2
    try clear hfz15_3
    try clear hfz15_4
    try clear hfz16_0
    try clear hfz16_1
    try clear hfz16_2
    try clear hfz16_3
    try clear hfz16_4
    try clear hfz18_0
    try clear hfz18_1
    try clear hfz18_2
    try clear hfz18_3
    try clear hfz18_4
    try clear hfz19_0
    try clear hfz19_1
    try clear hfz19_2
    try clear hfz19_3
    try clear hfz19_4
    try clear hfz21_0
    try clear hfz21_1
    try clear hfz21_2
    try clear hfz21_3
    try clear hfz21_4
    try clear hfz22_0
    try clear hfz22_1
    try clear hfz22_2
    try clear hfz22_3
    try clear hfz22_4
    try clear hfz24_0
    try clear hfz24_1
    try clear hfz24_2
    try clear hfz24_3
    try clear hfz24_4
    try clear hfz25_0
    try clear hfz25_1
    try clear hfz25_2
    try clear hfz25_3
    try clear hfz25_4
    obtain ⟨kq, x41_2, rfl, HA, HJ2, BK496, BK497, HB⟩ := hcut
    cases kq with
    | zero => exact absurd HA.out (by simp [laws_leMem.j0])
    | succ kj2 =>
      have H := HA.out
      clear HA
      simp only [laws_leMem.j0] at H
      by_cases c26 : x41_2 = true
      · subst c26
        have H1 : (some false) = some r := by rw [if_pos rfl] at H; exact H
        clear H
        have H := H1
        clear H1
        obtain rfl := Option.some.inj H
        go_wp2
        repeat (go_quiet (fail); try go_wp2)
        go_ret
        exact ⟨by first | rfl | (simp [errW_none, errW_some] <;> rfl) | (simp [*, errW_none, errW_some] <;> rfl), by repeat (first | (with_reducible first | exact HB.out | apply below_alloc | apply pw_below_drewN | apply below_drew1 | refine below_set ?_ GE496.out | refine below_set ?_ GE497.out) | exact HB.out)⟩
      · replace c26 := Bool.eq_false_iff.mpr c26
        subst c26
        have H1 : (laws_leMem.l0 kj2 0 l0_0 a0_1 a0_2 a0_3 l0_4 l1_0 a1_1 a1_2 a1_3 l1_4) = some r := by rw [if_neg (show ¬ (false = true) by decide)] at H; exact H
        clear H
        have H := H1
        clear H1
        have H' := Aside0.mk H
        clear H
        go_wp2
        repeat (go_quiet (fail); try go_wp2)
        go_loopg [5] kj2 (fun kq v5 w' => ∃ (x5_2 : Int), v5 = .int .i64 x5_2 ∧ Aside0 (laws_leMem.l0 kq x5_2 l0_0 a0_1 a0_2 a0_3 l0_4 l1_0 a1_1 a1_2 a1_3 l1_4 = some r) ∧ Aside0 (kq ≤ kj2) ∧ Aside0 (w'.heap[gb496]? = some (.cells #[(.slice A0_0 l0_0.length c0_0), .int .i64 a0_1, .int .i64 a0_2, .int .i64 a0_3, (.slice A0_4 l0_4.length c0_4)] 28 (0, 0))) ∧ Aside0 (w'.heap[gb497]? = some (.cells #[(.slice A1_0 l1_0.length c1_0), .int .i64 a1_1, .int .i64 a1_2, .int .i64 a1_3, (.slice A1_4 l1_4.length c1_4)] 28 (0, 0))) ∧ Aside0 (Below w.heap.size w w'))
        case atStart => exact ⟨(0), (by first | rfl | (simp; done) | (simp [*]; done)), H', ⟨Nat.le_refl _⟩, ⟨by (with_reducible repeat (first | refine blk_drewN ?_ _ | refine blk_drew ?_ | refine blk_alloc ?_ _)); exact BK496.out⟩, ⟨by (with_reducible repeat (first | refine blk_drewN ?_ _ | refine blk_drew ?_ | refine blk_alloc ?_ _)); exact BK497.out⟩, ⟨by repeat (first | (with_reducible first | exact HB.out | apply below_alloc | apply pw_below_drewN | apply below_drew1 | refine below_set ?_ GE496.out | refine below_set ?_ GE497.out) | exact HB.out)⟩⟩
        case round =>
          clear H'
          try clear c1
          try clear c2
          try clear p2
          try clear c7
          try clear c8
          try clear c8b0
          try clear c8b1
          try clear c9
          try clear c9b0
          try clear c9b1
          try clear c10
          try clear c10b0
          try clear c10b1
          try clear c11
          try clear c14
          try clear c17
          try clear c20
          try clear c23
          try clear c26
          try clear hcz12_0
          try clear hcz12_1
          try clear hcz12_2
          try clear hcz12_3
          try clear hcz12_4
          try clear hcz13_0
          try clear hcz13_1
          try clear hcz13_2
          try clear hcz13_3
          try clear hcz13_4
          try clear hcz15_0
          try clear hcz15_1
          try clear hcz15_2
          try clear hcz15_3
          try clear hcz15_4
          try clear hcz16_0
          try clear hcz16_1
          try clear hcz16_2
          try clear hcz16_3
          try clear hcz16_4
          try clear hcz18_0
          try clear hcz18_1
          try clear hcz18_2
          try clear hcz18_3
          try clear hcz18_4
          try clear hcz19_0
          try clear hcz19_1
          try clear hcz19_2
          try clear hcz19_3
          try clear hcz19_4
          try clear hcz21_0
          try clear hcz21_1
          try clear hcz21_2
          try clear hcz21_3
          try clear hcz21_4
          try clear hcz22_0
          try clear hcz22_1
          try clear hcz22_2
          try clear hcz22_3
          try clear hcz22_4
          try clear hcz24_0
          try clear hcz24_1
          try clear hcz24_2
          try clear hcz24_3
          try clear hcz24_4
          try clear hcz25_0
          try clear hcz25_1
          try clear hcz25_2
          try clear hcz25_3
          try clear hcz25_4
          try clear hfz12_0
          try clear hfz12_1
          try clear hfz12_2
          try clear hfz12_3
          try clear hfz12_4
          try clear hfz13_0
          try clear hfz13_1
          try clear hfz13_2
          try clear hfz13_3
          try clear hfz13_4
          try clear hfz15_0
          try clear hfz15_1
          try clear hfz15_2
          try clear hfz15_3
          try clear hfz15_4
          try clear hfz16_0
          try clear hfz16_1
          try clear hfz16_2
          try clear hfz16_3
          try clear hfz16_4
          try clear hfz18_0
          try clear hfz18_1
          try clear hfz18_2
          try clear hfz18_3
          try clear hfz18_4
          try clear hfz19_0
          try clear hfz19_1
          try clear hfz19_2
          try clear hfz19_3
          try clear hfz19_4
          try clear hfz21_0
          try clear hfz21_1
          try clear hfz21_2
          try clear hfz21_3
          try clear hfz21_4
          try clear hfz22_0
          try clear hfz22_1
          try clear hfz22_2
          try clear hfz22_3
          try clear hfz22_4
          try clear hfz24_0
          try clear hfz24_1
          try clear hfz24_2
          try clear hfz24_3
          try clear hfz24_4
          try clear hfz25_0
          try clear hfz25_1
          try clear hfz25_2
          try clear hfz25_3
          try clear hfz25_4
          try clear p2
          obtain ⟨x5_2, rfl, HA, HK2, BK496, BK497, HB⟩ := hrel
          cases gk with
          | zero => exact absurd HA.out (by simp [laws_leMem.l0])
          | succ k2 =>
            have H := HA.out
            clear HA
            simp only [laws_leMem.l0] at H
            by_cases c27 : x5_2 < (l0_4.length : Int)
            · rw [if_pos c27] at H
              have c27b0 : decide (x5_2 < (l0_4.length : Int)) = true := decide_eq_true c27
              clear c27
              by_cases c28 : 0 ≤ x5_2
              · rw [if_pos c28] at H
                have c28b0 : decide (0 ≤ x5_2) = true := decide_eq_true c28
                clear c28
                by_cases c29 : x5_2 < (l1_4.length : Int)
                · rw [if_pos c29] at H
                  have c29b0 : decide (x5_2 < (l1_4.length : Int)) = true := decide_eq_true c29
                  clear c29
                  by_cases c30 : ((rdOf false l0_4 x5_2) != (rdOf false l1_4 x5_2)) = true
                  · rw [if_pos c30] at H
                    have c30b0 : ((rdOf false l0_4 x5_2) != (rdOf false l1_4 x5_2)) = true := c30
                    (try (have c30b1 : decide ((rdOf false l0_4 x5_2) = (rdOf false l1_4 x5_2)) = false := by simpa using c30))
                    (try (have c30b2 : ((rdOf false l0_4 x5_2) == (rdOf false l1_4 x5_2)) = false := by simpa using c30))
                    (try (have c30b3 : ¬ ((rdOf false l0_4 x5_2) = (rdOf false l1_4 x5_2)) := by simpa using c30))
                    clear c30
                    obtain rfl := Option.some.inj H
                    have hnb31 := NB496_497.out
                    have hnc31 := NB497_496.out
                    have hcz32_0 : wr.cell? ⟨gb496, 0, none⟩ = some (.slice A0_0 l0_0.length c0_0) := (blk_cell BK496.out 0).trans rfl
                    have hcz32_1 : wr.cell? ⟨gb496, 1, none⟩ = some (.int .i64 a0_1) := (blk_cell BK496.out 1).trans rfl
                    have hcz32_2 : wr.cell? ⟨gb496, 2, none⟩ = some (.int .i64 a0_2) := (blk_cell BK496.out 2).trans rfl
                    have hcz32_3 : wr.cell? ⟨gb496, 3, none⟩ = some (.int .i64 a0_3) := (blk_cell BK496.out 3).trans rfl
                    have hcz32_4 : wr.cell? ⟨gb496, 4, none⟩ = some (.slice A0_4 l0_4.length c0_4) := (blk_cell BK496.out 4).trans rfl
                    have hfz32_0 := blk_frozen BK496.out 0
                    have hfz32_1 := blk_frozen BK496.out 1
                    have hfz32_2 := blk_frozen BK496.out 2
                    have hfz32_3 := blk_frozen BK496.out 3
                    have hfz32_4 := blk_frozen BK496.out 4
                    have p499 : 0 ≤ (x5_2 : Int) := of_decide_eq_true (by first | (with_reducible assumption) | assumption)
                    have q499 : x5_2 < (l0_4.length : Int) := of_decide_eq_true (by first | (with_reducible assumption) | assumption)
                    obtain ⟨ad499, e499, hx499_0⟩ := Kd.at_bool HR0_4.out x5_2 p499 q499
                    cases e499
                    replace hx499_0 := (HB.out.cell (World.block_lt_of_cell? w _ hx499_0)).trans hx499_0
                    replace p499 := eq_true p499
                    replace q499 := eq_true q499
                    have hcz33_0 : wr.cell? ⟨gb497, 0, none⟩ = some (.slice A1_0 l1_0.length c1_0) := (blk_cell BK497.out 0).trans rfl
                    have hcz33_1 : wr.cell? ⟨gb497, 1, none⟩ = some (.int .i64 a1_1) := (blk_cell BK497.out 1).trans rfl
                    have hcz33_2 : wr.cell? ⟨gb497, 2, none⟩ = some (.int .i64 a1_2) := (blk_cell BK497.out 2).trans rfl
                    have hcz33_3 : wr.cell? ⟨gb497, 3, none⟩ = some (.int .i64 a1_3) := (blk_cell BK497.out 3).trans rfl
                    have hcz33_4 : wr.cell? ⟨gb497, 4, none⟩ = some (.slice A1_4 l1_4.length c1_4) := (blk_cell BK497.out 4).trans rfl
                    have hfz33_0 := blk_frozen BK497.out 0
                    have hfz33_1 := blk_frozen BK497.out 1
                    have hfz33_2 := blk_frozen BK497.out 2
                    have hfz33_3 := blk_frozen BK497.out 3
                    have hfz33_4 := blk_frozen BK497.out 4
                    have p500 : 0 ≤ (x5_2 : Int) := of_decide_eq_true (by first | (with_reducible assumption) | assumption)
                    have q500 : x5_2 < (l1_4.length : Int) := of_decide_eq_true (by first | (with_reducible assumption) | assumption)
                    obtain ⟨ad500, e500, hx500_0⟩ := Kd.at_bool HR1_4.out x5_2 p500 q500
                    cases e500
                    replace hx500_0 := (HB.out.cell (World.block_lt_of_cell? w _ hx500_0)).trans hx500_0
                    replace p500 := eq_true p500
                    replace q500 := eq_true q500
                    go_wp2
                    repeat (go_quiet (fail); try go_wp2)
                    go_ret
                    exact ⟨by first | rfl | (simp [errW_none, errW_some] <;> rfl) | (simp [*, errW_none, errW_some] <;> rfl), by repeat (first | (with_reducible first | exact HB.out | apply below_alloc | apply pw_below_drewN | apply below_drew1 | refine below_set ?_ GE496.out | refine below_set ?_ GE497.out) | exact HB.out)⟩
                  · rw [if_neg c30] at H
                    have c30b0 : ((rdOf false l0_4 x5_2) != (rdOf false l1_4 x5_2)) = false := by simpa using c30
                    (try (have c30b1 : decide ((rdOf false l0_4 x5_2) = (rdOf false l1_4 x5_2)) = true := by simpa using c30))
                    (try (have c30b2 : ((rdOf false l0_4 x5_2) == (rdOf false l1_4 x5_2)) = true := by simpa using c30))
                    clear c30
                    have H' := Aside0.mk H
                    clear H
                    have hnb34 := NB496_497.out
                    have hnc34 := NB497_496.out
                    have hcz35_0 : wr.cell? ⟨gb496, 0, none⟩ = some (.slice A0_0 l0_0.length c0_0) := (blk_cell BK496.out 0).trans rfl
                    have hcz35_1 : wr.cell? ⟨gb496, 1, none⟩ = some (.int .i64 a0_1) := (blk_cell BK496.out 1).trans rfl
                    have hcz35_2 : wr.cell? ⟨gb496, 2, none⟩ = some (.int .i64 a0_2) := (blk_cell BK496.out 2).trans rfl
                    have hcz35_3 : wr.cell? ⟨gb496, 3, none⟩ = some (.int .i64 a0_3) := (blk_cell BK496.out 3).trans rfl
                    have hcz35_4 : wr.cell? ⟨gb496, 4, none⟩ = some (.slice A0_4 l0_4.length c0_4) := (blk_cell BK496.out 4).trans rfl
                    have hfz35_0 := blk_frozen BK496.out 0
                    have hfz35_1 := blk_frozen BK496.out 1
                    have hfz35_2 := blk_frozen BK496.out 2
                    have hfz35_3 := blk_frozen BK496.out 3
                    have hfz35_4 := blk_frozen BK496.out 4
                    have p499 : 0 ≤ (x5_2 : Int) := of_decide_eq_true (by first | (with_reducible assumption) | assumption)
                    have q499 : x5_2 < (l0_4.length : Int) := of_decide_eq_true (by first | (with_reducible assumption) | assumption)
                    obtain ⟨ad499, e499, hx499_0⟩ := Kd.at_bool HR0_4.out x5_2 p499 q499
                    cases e499
                    replace hx499_0 := (HB.out.cell (World.block_lt_of_cell? w _ hx499_0)).trans hx499_0
                    replace p499 := eq_true p499
                    replace q499 := eq_true q499
                    have hcz36_0 : wr.cell? ⟨gb497, 0, none⟩ = some (.slice A1_0 l1_0.length c1_0) := (blk_cell BK497.out 0).trans rfl
                    have hcz36_1 : wr.cell? ⟨gb497, 1, none⟩ = some (.int .i64 a1_1) := (blk_cell BK497.out 1).trans rfl
                    have hcz36_2 : wr.cell? ⟨gb497, 2, none⟩ = some (.int .i64 a1_2) := (blk_cell BK497.out 2).trans rfl
                    have hcz36_3 : wr.cell? ⟨gb497, 3, none⟩ = some (.int .i64 a1_3) := (blk_cell BK497.out 3).trans rfl
                    have hcz36_4 : wr.cell? ⟨gb497, 4, none⟩ = some (.slice A1_4 l1_4.length c1_4) := (blk_cell BK497.out 4).trans rfl
                    have hfz36_0 := blk_frozen BK497.out 0
                    have hfz36_1 := blk_frozen BK497.out 1
                    have hfz36_2 := blk_frozen BK497.out 2
                    have hfz36_3 := blk_frozen BK497.out 3
                    have hfz36_4 := blk_frozen BK497.out 4
                    have p500 : 0 ≤ (x5_2 : Int) := of_decide_eq_true (by first | (with_reducible assumption) | assumption)
                    have q500 : x5_2 < (l1_4.length : Int) := of_decide_eq_true (by first | (with_reducible assumption) | assumption)
                    obtain ⟨ad500, e500, hx500_0⟩ := Kd.at_bool HR1_4.out x5_2 p500 q500
                    cases e500
                    replace hx500_0 := (HB.out.cell (World.block_lt_of_cell? w _ hx500_0)).trans hx500_0
                    replace p500 := eq_true p500
                    replace q500 := eq_true q500
                    go_wp2
                    repeat (go_quiet (fail); try go_wp2)
                    go_roundg k2
                    case measure => have := HJ2.out; have := HK2.out; omega
                    case rel => exact ⟨(wrap64 (x5_2 + 1)), (by first | rfl | (simp; done) | (simp [*]; done)), H', ⟨by have := HJ2.out; have := HK2.out; omega⟩, ⟨by (with_reducible repeat (first | refine blk_drewN ?_ _ | refine blk_drew ?_ | refine blk_alloc ?_ _)); exact BK496.out⟩, ⟨by (with_reducible repeat (first | refine blk_drewN ?_ _ | refine blk_drew ?_ | refine blk_alloc ?_ _)); exact BK497.out⟩, ⟨by repeat (first | (with_reducible first | exact HB.out | apply below_alloc | apply pw_below_drewN | apply below_drew1 | refine below_set ?_ GE496.out | refine below_set ?_ GE497.out) | exact HB.out)⟩⟩
                · rw [if_neg c29] at H
                  exact absurd H (by simp)
              · rw [if_neg c28] at H
                exact absurd H (by simp)
            · rw [if_neg c27] at H
              have c27b0 : decide (x5_2 < (l0_4.length : Int)) = false := decide_eq_false c27
              clear c27
              obtain rfl := Option.some.inj H
              have hnb37 := NB496_497.out
              have hnc37 := NB497_496.out
              have hcz38_0 : wr.cell? ⟨gb496, 0, none⟩ = some (.slice A0_0 l0_0.length c0_0) := (blk_cell BK496.out 0).trans rfl
              have hcz38_1 : wr.cell? ⟨gb496, 1, none⟩ = some (.int .i64 a0_1) := (blk_cell BK496.out 1).trans rfl
              have hcz38_2 : wr.cell? ⟨gb496, 2, none⟩ = some (.int .i64 a0_2) := (blk_cell BK496.out 2).trans rfl
              have hcz38_3 : wr.cell? ⟨gb496, 3, none⟩ = some (.int .i64 a0_3) := (blk_cell BK496.out 3).trans rfl
              have hcz38_4 : wr.cell? ⟨gb496, 4, none⟩ = some (.slice A0_4 l0_4.length c0_4) := (blk_cell BK496.out 4).trans rfl
              have hfz38_0 := blk_frozen BK496.out 0
              have hfz38_1 := blk_frozen BK496.out 1
              have hfz38_2 := blk_frozen BK496.out 2
              have hfz38_3 := blk_frozen BK496.out 3
              have hfz38_4 := blk_frozen BK496.out 4
              go_wp2
              repeat (go_quiet (fail); try go_wp2)
              go_ret
              exact ⟨by first | rfl | (simp [errW_none, errW_some] <;> rfl) | (simp [*, errW_none, errW_some] <;> rfl), by repeat (first | (with_reducible first | exact HB.out | apply below_alloc | apply pw_below_drewN | apply below_drew1 | refine below_set ?_ GE496.out | refine below_set ?_ GE497.out) | exact HB.out)⟩
end Go.Proofs.Ytjnbilfhpdkcbaa.K
