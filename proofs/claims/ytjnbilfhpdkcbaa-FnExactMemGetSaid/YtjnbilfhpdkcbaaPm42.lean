import Derived.Test.YtjnbilfhpdkcbaaPm24
import Derived.Test.YtjnbilfhpdkcbaaPm28
import Derived.Test.YtjnbilfhpdkcbaaPm38
import Derived.Test.YtjnbilfhpdkcbaaPm30
import Derived.Test.YtjnbilfhpdkcbaaPm31
import Derived.Test.YtjnbilfhpdkcbaaPm26
import Derived.Test.YtjnbilfhpdkcbaaPm27
namespace Go.Proofs.Ytjnbilfhpdkcbaa.K
open Go.RowKit Go.Proofs.YtjnbilfhpdkcbaaW.PrintWords Go.Proofs.YtjnbilfhpdkcbaaW.PrintLast Go.Proofs.YtjnbilfhpdkcbaaW.PrintMore
attribute [local go_sem] max2_int min2_int max_two min_two max_three min_three max_four min_four
set_option linter.unusedVariables false
set_option linter.unusedSimpArgs false
def spec_l21Inside.f (k : Nat) (l0 : List (S32)) (l1_0 : List Int) (a1_1 : Int) (a1_2 : Int) (a1_3 : Int) (l1_4 : List Bool) (a2 : Int) (a3 : Int) : Option (Int × Bool) := (spec_l21Is.f k l0 l1_0 a1_1 a1_2 a1_3 l1_4 a2).bind fun t399 => (if t399 = true then (if 0 ≤ (wrap64 (a2 - 1)) then (if (wrap64 (a2 - 1)) < (l1_0.length : Int) then ((spec_l21Head.f (rd l1_0 (wrap64 (a2 - 1)))).bind fun t401 => ((spec_l21Size.f k l0 l1_0 (wrap64 (a2 - 1)) (l1_0.length : Int)).bind fun t402 => ((spec_l6In.f a3 0 (wrap64 ((wrap64 (t402 - t401)) - 1))).bind fun t403 => (some (wrap64 ((wrap64 ((wrap64 (a2 - 1)) + t401)) + a3), t403))))) else (none)) else (none)) else (some (0, false)))
set_option maxHeartbeats 8000000 in
set_option maxRecDepth 100000 in
theorem spec_l21Inside.calls (k : Nat) (A0 : Option Addr) (c0 : Nat) (l0 : List (S32)) (A1_0 : Option Addr) (c1_0 : Nat) (l1_0 : List Int) (a1_1 : Int) (a1_2 : Int) (a1_3 : Int) (A1_4 : Option Addr) (c1_4 : Nat) (l1_4 : List Bool) (a2 : Int) (a3 : Int) (r1 : Int) (r2 : Bool) (w : World) (hr0 : Kd.C k32 w A0 l0.length l0) (hc0 : l0.length ≤ c0) (hr1_0 : Kd.C (Kd.int .i64) w A1_0 l1_0.length l1_0) (hc1_0 : l1_0.length ≤ c1_0) (hr1_4 : Kd.C Kd.bool w A1_4 l1_4.length l1_4) (hc1_4 : l1_4.length ≤ c1_4) (h : spec_l21Inside.f k l0 l1_0 a1_1 a1_2 a1_3 l1_4 a2 a3 = some (r1, r2)) :
    Calls Try.prog 57 #[.slice A0 l0.length c0, .agg #[.slice A1_0 l1_0.length c1_0, .int .i64 a1_1, .int .i64 a1_2, .int .i64 a1_3, .slice A1_4 l1_4.length c1_4], .int .i64 a2, .int .i64 a3] w fun e w' => e = .returned (.tuple #[.int .i64 r1, .bool r2]) ∧ Below w.heap.size w w' := by
  have hu28 := Try.underlying28
  have HR0 := Aside0.mk hr0
  have HC0 := Aside0.mk hc0
  clear hr0 hc0
  have HR1_0 := Aside0.mk hr1_0
  have HC1_0 := Aside0.mk hc1_0
  clear hr1_0 hc1_0
  have HR1_4 := Aside0.mk hr1_4
  have HC1_4 := Aside0.mk hc1_4
  clear hr1_4 hc1_4
  have HB := Aside0.mk (Below.refl w.heap.size w)
  have H : ((spec_l21Is.f k l0 l1_0 a1_1 a1_2 a1_3 l1_4 a2).bind fun t399 => (if t399 = true then (if 0 ≤ (wrap64 (a2 - 1)) then (if (wrap64 (a2 - 1)) < (l1_0.length : Int) then ((spec_l21Head.f (rd l1_0 (wrap64 (a2 - 1)))).bind fun t401 => ((spec_l21Size.f k l0 l1_0 (wrap64 (a2 - 1)) (l1_0.length : Int)).bind fun t402 => ((spec_l6In.f a3 0 (wrap64 ((wrap64 (t402 - t401)) - 1))).bind fun t403 => (some (wrap64 ((wrap64 ((wrap64 (a2 - 1)) + t401)) + a3), t403))))) else (none)) else (none)) else (some (0, false)))) = some (r1, r2) := h
  clear h
  replace H := Option.bind_eq_some_iff.mp H
  obtain ⟨t399, A50, H⟩ := H
  replace H : (if t399 = true then (if 0 ≤ (wrap64 (a2 - 1)) then (if (wrap64 (a2 - 1)) < (l1_0.length : Int) then ((spec_l21Head.f (rd l1_0 (wrap64 (a2 - 1)))).bind fun t401 => ((spec_l21Size.f k l0 l1_0 (wrap64 (a2 - 1)) (l1_0.length : Int)).bind fun t402 => ((spec_l6In.f a3 0 (wrap64 ((wrap64 (t402 - t401)) - 1))).bind fun t403 => (some (wrap64 ((wrap64 ((wrap64 (a2 - 1)) + t401)) + a3), t403))))) else (none)) else (none)) else (some (0, false))) = some (r1, r2) := H
  have A5 := Aside0.mk A50
  clear A50
  by_cases c6 : t399 = true
  · subst c6
    have H1 : (if 0 ≤ (wrap64 (a2 - 1)) then (if (wrap64 (a2 - 1)) < (l1_0.length : Int) then ((spec_l21Head.f (rd l1_0 (wrap64 (a2 - 1)))).bind fun t401 => ((spec_l21Size.f k l0 l1_0 (wrap64 (a2 - 1)) (l1_0.length : Int)).bind fun t402 => ((spec_l6In.f a3 0 (wrap64 ((wrap64 (t402 - t401)) - 1))).bind fun t403 => (some (wrap64 ((wrap64 ((wrap64 (a2 - 1)) + t401)) + a3), t403))))) else (none)) else (none)) = some (r1, r2) := by rw [if_pos rfl] at H; exact H
    clear H
    have H := H1
    clear H1
    obtain ⟨ji7, hji7⟩ : ∃ j_ : Int, (wrap64 (a2 - 1)) = j_ := ⟨_, rfl⟩
    replace H : (if 0 ≤ (ji7) then (if (ji7) < (l1_0.length : Int) then ((spec_l21Head.f (rd l1_0 (ji7))).bind fun t401 => ((spec_l21Size.f k l0 l1_0 (ji7) (l1_0.length : Int)).bind fun t402 => ((spec_l6In.f a3 0 (wrap64 ((wrap64 (t402 - t401)) - 1))).bind fun t403 => (some (wrap64 ((wrap64 ((ji7) + t401)) + a3), t403))))) else (none)) else (none)) = some (r1, r2) := by first | (rw [hji7] at H; exact H) | (simp only [hji7] at H ⊢; exact H)
    (try rw [hji7] at A5)
    have hji7w : (IntKind.i64.wrap (a2 - 1)) = ji7 := (i64_w _).trans hji7
    by_cases c8 : 0 ≤ (ji7)
    · rw [if_pos c8] at H
      have c8b0 : decide (0 ≤ (ji7)) = true := decide_eq_true c8
      clear c8
      by_cases c9 : (ji7) < (l1_0.length : Int)
      · rw [if_pos c9] at H
        have c9b0 : decide ((ji7) < (l1_0.length : Int)) = true := decide_eq_true c9
        clear c9
        replace H := Option.bind_eq_some_iff.mp H
        obtain ⟨t401, A100, H⟩ := H
        replace H : ((spec_l21Size.f k l0 l1_0 (ji7) (l1_0.length : Int)).bind fun t402 => ((spec_l6In.f a3 0 (wrap64 ((wrap64 (t402 - t401)) - 1))).bind fun t403 => (some (wrap64 ((wrap64 ((ji7) + t401)) + a3), t403)))) = some (r1, r2) := H
        have A10 := Aside0.mk A100
        clear A100
        replace H := Option.bind_eq_some_iff.mp H
        obtain ⟨t402, A110, H⟩ := H
        replace H : ((spec_l6In.f a3 0 (wrap64 ((wrap64 (t402 - t401)) - 1))).bind fun t403 => (some (wrap64 ((wrap64 ((ji7) + t401)) + a3), t403))) = some (r1, r2) := H
        have A11 := Aside0.mk A110
        clear A110
        replace H := Option.bind_eq_some_iff.mp H
        obtain ⟨t403, A120, H⟩ := H
        replace H : (some (wrap64 ((wrap64 ((ji7) + t401)) + a3), t403)) = some (r1, r2) := H
        have A12 := Aside0.mk A120
        clear A120
        simp only [Option.some.injEq, Prod.mk.injEq] at H
        obtain ⟨rfl, rfl⟩ := H
        go_enter Try.func57, Try.ntmps57
        go_wp2_with (first | ((with_reducible refine gate_dst (N := 5) rfl ?_); refine box_event ?hg (N := 5) ?hd (cs := #[.slice A1_0 l1_0.length c1_0, .int .i64 a1_1, .int .i64 a1_2, .int .i64 a1_3, .slice A1_4 l1_4.length c1_4]) (t := 28) ?hr ?_; (case hd => rfl); (case hg => rfl); (case hr => first | (go_simp; done) | (go_simp; rfl)); intro gb398 hg w13 hbox hb; have n0_ := Aside0.mk (below_step (by repeat (first | (with_reducible first | exact HB.out | apply below_alloc | apply pw_below_drewN | apply below_drew1) | exact HB.out)) hb); have n1_ := Aside0.mk (hbox); have n2_ := Aside0.mk ((by rw [hg]; exact (below_size (by repeat (first | (with_reducible first | exact HB.out | apply below_alloc | apply pw_below_drewN | apply below_drew1) | exact HB.out))) : w.heap.size ≤ gb398)); have n3_ := Aside0.mk ((by rw [hg]; exact (below_size (by repeat (first | (with_reducible first | exact HB.out | apply below_alloc | apply pw_below_drewN | apply below_drew1) | exact HB.out))) : w.heap.size ≤ gb398)); clear HB; have HB := n0_; have BK398 := n1_; have GW398 := n2_; have GE398 := n3_; clear n0_ n1_ n2_ n3_; clear hb hbox hg; have hcz14_0 : w13.cell? ⟨gb398, 0, none⟩ = some (.slice A1_0 l1_0.length c1_0) := (blk_cell BK398.out 0).trans rfl; have hcz14_1 : w13.cell? ⟨gb398, 1, none⟩ = some (.int .i64 a1_1) := (blk_cell BK398.out 1).trans rfl; have hcz14_2 : w13.cell? ⟨gb398, 2, none⟩ = some (.int .i64 a1_2) := (blk_cell BK398.out 2).trans rfl; have hcz14_3 : w13.cell? ⟨gb398, 3, none⟩ = some (.int .i64 a1_3) := (blk_cell BK398.out 3).trans rfl; have hcz14_4 : w13.cell? ⟨gb398, 4, none⟩ = some (.slice A1_4 l1_4.length c1_4) := (blk_cell BK398.out 4).trans rfl; have hfz14_0 := blk_frozen BK398.out 0; have hfz14_1 := blk_frozen BK398.out 1; have hfz14_2 := blk_frozen BK398.out 2; have hfz14_3 := blk_frozen BK398.out 3; have hfz14_4 := blk_frozen BK398.out 4) | ((with_reducible refine gate_callee (f := 52) rfl ?_); refine goesL_ (some 14) rfl rfl Try.func52 (by kernel_rfl) rfl #[.slice A0 l0.length c0, .agg #[.slice A1_0 l1_0.length c1_0, .int .i64 a1_1, .int .i64 a1_2, .int .i64 a1_3, .slice A1_4 l1_4.length c1_4], .int .i64 a2] rfl (by (try simp only [List.map_toArray, List.map_cons, List.map_nil]); first | done | rfl | (simp only [List.length_drop, List.length_take]; rfl)) ?_; (with_reducible refine (spec_l21Is.calls k _ _ l0 _ _ l1_0 a1_1 a1_2 a1_3 _ _ l1_4 a2 true _ ?side1 ?side2 ?side3 ?side4 ?side5 ?side6 A5.out).mono ?_); (case side1 => repeat (first | exact (Kd.C_below HR0.out HB.out) | (with_reducible refine Kd.C_alloc ?_ _) | (with_reducible refine Kd.C_drewN ?_ _) | (with_reducible refine Kd.C_drew ?_))); (case side2 => exact HC0.out); (case side3 => repeat (first | exact (Kd.C_below HR1_0.out HB.out) | (with_reducible refine Kd.C_alloc ?_ _) | (with_reducible refine Kd.C_drewN ?_ _) | (with_reducible refine Kd.C_drew ?_))); (case side4 => exact HC1_0.out); (case side5 => repeat (first | exact (Kd.C_below HR1_4.out HB.out) | (with_reducible refine Kd.C_alloc ?_ _) | (with_reducible refine Kd.C_drewN ?_ _) | (with_reducible refine Kd.C_drew ?_))); (case side6 => exact HC1_4.out); rintro e w15 ⟨rfl, hb⟩; refine ⟨_, rfl, ?_⟩; have n0_ := Aside0.mk (blk_below (g := gb398) (o := .cells #[.slice A1_0 l1_0.length c1_0, .int .i64 a1_1, .int .i64 a1_2, .int .i64 a1_3, .slice A1_4 l1_4.length c1_4] 28 (0, 0)) (by (with_reducible repeat (first | refine blk_drewN ?_ _ | refine blk_drew ?_ | refine blk_alloc ?_ _)); exact BK398.out) hb); have n1_ := Aside0.mk (below_step (by repeat (first | (with_reducible first | exact HB.out | apply below_alloc | apply pw_below_drewN | apply below_drew1 | refine below_set ?_ GE398.out) | exact HB.out)) hb); clear BK398; clear HB; have BK398 := n0_; have HB := n1_; clear n0_ n1_; (try clear hb); (try clear hb2); (try clear hk); (try clear hi); have hcz16_0 : w15.cell? ⟨gb398, 0, none⟩ = some (.slice A1_0 l1_0.length c1_0) := (blk_cell BK398.out 0).trans rfl; have hcz16_1 : w15.cell? ⟨gb398, 1, none⟩ = some (.int .i64 a1_1) := (blk_cell BK398.out 1).trans rfl; have hcz16_2 : w15.cell? ⟨gb398, 2, none⟩ = some (.int .i64 a1_2) := (blk_cell BK398.out 2).trans rfl; have hcz16_3 : w15.cell? ⟨gb398, 3, none⟩ = some (.int .i64 a1_3) := (blk_cell BK398.out 3).trans rfl; have hcz16_4 : w15.cell? ⟨gb398, 4, none⟩ = some (.slice A1_4 l1_4.length c1_4) := (blk_cell BK398.out 4).trans rfl; have hfz16_0 := blk_frozen BK398.out 0; have hfz16_1 := blk_frozen BK398.out 1; have hfz16_2 := blk_frozen BK398.out 2; have hfz16_3 := blk_frozen BK398.out 3; have hfz16_4 := blk_frozen BK398.out 4; have p400 : 0 ≤ ((ji7) : Int) := of_decide_eq_true (by first | (with_reducible assumption) | assumption); have q400 : (ji7) < (l1_0.length : Int) := of_decide_eq_true (by first | (with_reducible assumption) | assumption); obtain ⟨ad400, e400, hx400_0⟩ := Kd.at_int HR1_0.out (ji7) p400 q400; cases e400; replace hx400_0 := (HB.out.cell (World.block_lt_of_cell? w _ hx400_0)).trans hx400_0; replace p400 := eq_true p400; replace q400 := eq_true q400) | ((with_reducible refine gate_callee (f := 73) rfl ?_); refine goesL_ (some 22) rfl rfl Try.func73 (by kernel_rfl) rfl #[.int .i64 (rd l1_0 (ji7))] rfl (by (try simp only [List.map_toArray, List.map_cons, List.map_nil]); first | done | (simp only [hji7]; rfl) | rfl | (simp only [List.length_drop, List.length_take]; rfl)) ?_; (with_reducible refine (spec_l21Head.calls (rd l1_0 (ji7)) t401 _ A10.out).mono ?_); rintro e w' ⟨rfl, ⟨nd, rfl⟩⟩; refine ⟨_, rfl, ?_⟩) | ((with_reducible refine gate_callee (f := 53) rfl ?_); refine goesL_ (some 38) rfl rfl Try.func53 (by kernel_rfl) rfl #[.slice A0 l0.length c0, .slice (some ad400) l1_0.length c1_0, .int .i64 ji7, .int .i64 (l1_0.length : Int)] rfl (by (try simp only [List.map_toArray, List.map_cons, List.map_nil]); first | done | (simp only [hji7]; rfl) | rfl | (simp only [List.length_drop, List.length_take]; rfl)) ?_; (with_reducible refine (spec_l21Size.calls k _ _ l0 _ _ l1_0 ji7 (l1_0.length : Int) t402 _ ?side1 ?side2 ?side3 ?side4 A11.out).mono ?_); (case side1 => repeat (first | exact (Kd.C_below HR0.out (by repeat (first | (with_reducible first | exact HB.out | apply below_alloc | apply pw_below_drewN | apply below_drew1 | refine below_set ?_ GE398.out) | exact HB.out))) | (with_reducible refine Kd.C_alloc ?_ _) | (with_reducible refine Kd.C_drewN ?_ _) | (with_reducible refine Kd.C_drew ?_))); (case side2 => exact HC0.out); (case side3 => repeat (first | exact (Kd.C_below HR1_0.out (by repeat (first | (with_reducible first | exact HB.out | apply below_alloc | apply pw_below_drewN | apply below_drew1 | refine below_set ?_ GE398.out) | exact HB.out))) | (with_reducible refine Kd.C_alloc ?_ _) | (with_reducible refine Kd.C_drewN ?_ _) | (with_reducible refine Kd.C_drew ?_))); (case side4 => exact HC1_0.out); rintro e w17 ⟨rfl, hb⟩; refine ⟨_, rfl, ?_⟩; have n0_ := Aside0.mk (blk_below (g := gb398) (o := .cells #[.slice (some ad400) l1_0.length c1_0, .int .i64 a1_1, .int .i64 a1_2, .int .i64 a1_3, .slice A1_4 l1_4.length c1_4] 28 (0, 0)) (by (with_reducible repeat (first | refine blk_drewN ?_ _ | refine blk_drew ?_ | refine blk_alloc ?_ _)); exact BK398.out) hb); have n1_ := Aside0.mk (below_step (by repeat (first | (with_reducible first | exact HB.out | apply below_alloc | apply pw_below_drewN | apply below_drew1 | refine below_set ?_ GE398.out) | exact HB.out)) hb); clear BK398; clear HB; have BK398 := n0_; have HB := n1_; clear n0_ n1_; (try clear hb); (try clear hb2); (try clear hk); (try clear hi)) | ((with_reducible refine gate_callee (f := 37) rfl ?_); refine goesL_ (some 42) rfl rfl Try.func37 (by kernel_rfl) rfl #[.int .i64 a3, .int .i64 0, .int .i64 (wrap64 ((wrap64 (t402 - t401)) - 1))] rfl (by (try simp only [List.map_toArray, List.map_cons, List.map_nil]); first | done | rfl | (simp only [List.length_drop, List.length_take]; rfl)) ?_; (with_reducible refine (spec_l6In.calls a3 0 (wrap64 ((wrap64 (t402 - t401)) - 1)) t403 _ A12.out).mono ?_); rintro e w' ⟨rfl, ⟨nd, rfl⟩⟩; refine ⟨_, rfl, ?_⟩))
        go_ret2
        exact ⟨by first | rfl | (simp [errW_none, errW_some] <;> rfl) | (simp only [← hji7]; first | rfl | (simp [errW_none, errW_some] <;> rfl)) | (simp [*, errW_none, errW_some] <;> rfl), by repeat (first | (with_reducible first | exact HB.out | apply below_alloc | apply pw_below_drewN | apply below_drew1 | refine below_set ?_ GE398.out) | exact HB.out)⟩
      · rw [if_neg c9] at H
        exact absurd H (by simp)
    · rw [if_neg c8] at H
      exact absurd H (by simp)
  · replace c6 := Bool.eq_false_iff.mpr c6
    subst c6
    have H1 : (some (0, false)) = some (r1, r2) := by rw [if_neg (show ¬ (false = true) by decide)] at H; exact H
    clear H
    have H := H1
    clear H1
    simp only [Option.some.injEq, Prod.mk.injEq] at H
    obtain ⟨rfl, rfl⟩ := H
    go_enter Try.func57, Try.ntmps57
    go_wp2_with (first | ((with_reducible refine gate_dst (N := 5) rfl ?_); refine box_event ?hg (N := 5) ?hd (cs := #[.slice A1_0 l1_0.length c1_0, .int .i64 a1_1, .int .i64 a1_2, .int .i64 a1_3, .slice A1_4 l1_4.length c1_4]) (t := 28) ?hr ?_; (case hd => rfl); (case hg => rfl); (case hr => first | (go_simp; done) | (go_simp; rfl)); intro gb398 hg w18 hbox hb; have n0_ := Aside0.mk (below_step (by repeat (first | (with_reducible first | exact HB.out | apply below_alloc | apply pw_below_drewN | apply below_drew1) | exact HB.out)) hb); have n1_ := Aside0.mk (hbox); have n2_ := Aside0.mk ((by rw [hg]; exact (below_size (by repeat (first | (with_reducible first | exact HB.out | apply below_alloc | apply pw_below_drewN | apply below_drew1) | exact HB.out))) : w.heap.size ≤ gb398)); have n3_ := Aside0.mk ((by rw [hg]; exact (below_size (by repeat (first | (with_reducible first | exact HB.out | apply below_alloc | apply pw_below_drewN | apply below_drew1) | exact HB.out))) : w.heap.size ≤ gb398)); clear HB; have HB := n0_; have BK398 := n1_; have GW398 := n2_; have GE398 := n3_; clear n0_ n1_ n2_ n3_; clear hb hbox hg; have hcz19_0 : w18.cell? ⟨gb398, 0, none⟩ = some (.slice A1_0 l1_0.length c1_0) := (blk_cell BK398.out 0).trans rfl; have hcz19_1 : w18.cell? ⟨gb398, 1, none⟩ = some (.int .i64 a1_1) := (blk_cell BK398.out 1).trans rfl; have hcz19_2 : w18.cell? ⟨gb398, 2, none⟩ = some (.int .i64 a1_2) := (blk_cell BK398.out 2).trans rfl; have hcz19_3 : w18.cell? ⟨gb398, 3, none⟩ = some (.int .i64 a1_3) := (blk_cell BK398.out 3).trans rfl; have hcz19_4 : w18.cell? ⟨gb398, 4, none⟩ = some (.slice A1_4 l1_4.length c1_4) := (blk_cell BK398.out 4).trans rfl; have hfz19_0 := blk_frozen BK398.out 0; have hfz19_1 := blk_frozen BK398.out 1; have hfz19_2 := blk_frozen BK398.out 2; have hfz19_3 := blk_frozen BK398.out 3; have hfz19_4 := blk_frozen BK398.out 4) | ((with_reducible refine gate_callee (f := 52) rfl ?_); refine goesL_ (some 14) rfl rfl Try.func52 (by kernel_rfl) rfl #[.slice A0 l0.length c0, .agg #[.slice A1_0 l1_0.length c1_0, .int .i64 a1_1, .int .i64 a1_2, .int .i64 a1_3, .slice A1_4 l1_4.length c1_4], .int .i64 a2] rfl (by (try simp only [List.map_toArray, List.map_cons, List.map_nil]); first | done | rfl | (simp only [List.length_drop, List.length_take]; rfl)) ?_; (with_reducible refine (spec_l21Is.calls k _ _ l0 _ _ l1_0 a1_1 a1_2 a1_3 _ _ l1_4 a2 false _ ?side1 ?side2 ?side3 ?side4 ?side5 ?side6 A5.out).mono ?_); (case side1 => repeat (first | exact (Kd.C_below HR0.out HB.out) | (with_reducible refine Kd.C_alloc ?_ _) | (with_reducible refine Kd.C_drewN ?_ _) | (with_reducible refine Kd.C_drew ?_))); (case side2 => exact HC0.out); (case side3 => repeat (first | exact (Kd.C_below HR1_0.out HB.out) | (with_reducible refine Kd.C_alloc ?_ _) | (with_reducible refine Kd.C_drewN ?_ _) | (with_reducible refine Kd.C_drew ?_))); (case side4 => exact HC1_0.out); (case side5 => repeat (first | exact (Kd.C_below HR1_4.out HB.out) | (with_reducible refine Kd.C_alloc ?_ _) | (with_reducible refine Kd.C_drewN ?_ _) | (with_reducible refine Kd.C_drew ?_))); (case side6 => exact HC1_4.out); rintro e w20 ⟨rfl, hb⟩; refine ⟨_, rfl, ?_⟩; have n0_ := Aside0.mk (blk_below (g := gb398) (o := .cells #[.slice A1_0 l1_0.length c1_0, .int .i64 a1_1, .int .i64 a1_2, .int .i64 a1_3, .slice A1_4 l1_4.length c1_4] 28 (0, 0)) (by (with_reducible repeat (first | refine blk_drewN ?_ _ | refine blk_drew ?_ | refine blk_alloc ?_ _)); exact BK398.out) hb); have n1_ := Aside0.mk (below_step (by repeat (first | (with_reducible first | exact HB.out | apply below_alloc | apply pw_below_drewN | apply below_drew1 | refine below_set ?_ GE398.out) | exact HB.out)) hb); clear BK398; clear HB; have BK398 := n0_; have HB := n1_; clear n0_ n1_; (try clear hb); (try clear hb2); (try clear hk); (try clear hi)))
    go_ret2
    exact ⟨by first | rfl | (simp [errW_none, errW_some] <;> rfl) | (simp [*, errW_none, errW_some] <;> rfl), by repeat (first | (with_reducible first | exact HB.out | apply below_alloc | apply pw_below_drewN | apply below_drew1 | refine below_set ?_ GE398.out) | exact HB.out)⟩
end Go.Proofs.Ytjnbilfhpdkcbaa.K
namespace Go.Proofs.Ytjnbilfhpdkcbaa.K
open Go.RowKit Go.Proofs.YtjnbilfhpdkcbaaW.PrintWords Go.Proofs.YtjnbilfhpdkcbaaW.PrintLast Go.Proofs.YtjnbilfhpdkcbaaW.PrintMore
attribute [local go_sem] max2_int min2_int max_two min_two max_three min_three max_four min_four
set_option linter.unusedVariables false
set_option linter.unusedSimpArgs false
def spec_MemGet.f (k : Nat) (l0 : List (S32)) (l1_0 : List Int) (a1_1 : Int) (a1_2 : Int) (a1_3 : Int) (l1_4 : List Bool) (a2 : Int) (a3 : Int) : Option (Int × Bool) := (spec_MemOk.f k l0 l1_0 a1_1 a1_2 a1_3 l1_4).bind fun t405 => (if t405 = true then ((spec_l21Inside.f k l0 l1_0 a1_1 a1_2 a1_3 l1_4 a2 a3).bind fun bt406 => (if bt406.2 = true then (if 0 ≤ bt406.1 then (if bt406.1 < (l1_0.length : Int) then (some (rd l1_0 bt406.1, true)) else (none)) else (none)) else (some (0, false)))) else (some (0, false)))
set_option maxHeartbeats 8000000 in
set_option maxRecDepth 100000 in
theorem spec_MemGet.calls (k : Nat) (A0 : Option Addr) (c0 : Nat) (l0 : List (S32)) (A1_0 : Option Addr) (c1_0 : Nat) (l1_0 : List Int) (a1_1 : Int) (a1_2 : Int) (a1_3 : Int) (A1_4 : Option Addr) (c1_4 : Nat) (l1_4 : List Bool) (a2 : Int) (a3 : Int) (r1 : Int) (r2 : Bool) (w : World) (hr0 : Kd.C k32 w A0 l0.length l0) (hc0 : l0.length ≤ c0) (hr1_0 : Kd.C (Kd.int .i64) w A1_0 l1_0.length l1_0) (hc1_0 : l1_0.length ≤ c1_0) (hr1_4 : Kd.C Kd.bool w A1_4 l1_4.length l1_4) (hc1_4 : l1_4.length ≤ c1_4) (h : spec_MemGet.f k l0 l1_0 a1_1 a1_2 a1_3 l1_4 a2 a3 = some (r1, r2)) :
    Calls Try.prog 24 #[.slice A0 l0.length c0, .agg #[.slice A1_0 l1_0.length c1_0, .int .i64 a1_1, .int .i64 a1_2, .int .i64 a1_3, .slice A1_4 l1_4.length c1_4], .int .i64 a2, .int .i64 a3] w fun e w' => e = .returned (.tuple #[.int .i64 r1, .bool r2]) ∧ Below w.heap.size w w' := by
  have hu28 := Try.underlying28
  have HR0 := Aside0.mk hr0
  have HC0 := Aside0.mk hc0
  clear hr0 hc0
  have HR1_0 := Aside0.mk hr1_0
  have HC1_0 := Aside0.mk hc1_0
  clear hr1_0 hc1_0
  have HR1_4 := Aside0.mk hr1_4
  have HC1_4 := Aside0.mk hc1_4
  clear hr1_4 hc1_4
  have HB := Aside0.mk (Below.refl w.heap.size w)
  have H : ((spec_MemOk.f k l0 l1_0 a1_1 a1_2 a1_3 l1_4).bind fun t405 => (if t405 = true then ((spec_l21Inside.f k l0 l1_0 a1_1 a1_2 a1_3 l1_4 a2 a3).bind fun bt406 => (if bt406.2 = true then (if 0 ≤ bt406.1 then (if bt406.1 < (l1_0.length : Int) then (some (rd l1_0 bt406.1, true)) else (none)) else (none)) else (some (0, false)))) else (some (0, false)))) = some (r1, r2) := h
  clear h
  replace H := Option.bind_eq_some_iff.mp H
  obtain ⟨t405, A50, H⟩ := H
  replace H : (if t405 = true then ((spec_l21Inside.f k l0 l1_0 a1_1 a1_2 a1_3 l1_4 a2 a3).bind fun bt406 => (if bt406.2 = true then (if 0 ≤ bt406.1 then (if bt406.1 < (l1_0.length : Int) then (some (rd l1_0 bt406.1, true)) else (none)) else (none)) else (some (0, false)))) else (some (0, false))) = some (r1, r2) := H
  have A5 := Aside0.mk A50
  clear A50
  by_cases c6 : t405 = true
  · subst c6
    have H1 : ((spec_l21Inside.f k l0 l1_0 a1_1 a1_2 a1_3 l1_4 a2 a3).bind fun bt406 => (if bt406.2 = true then (if 0 ≤ bt406.1 then (if bt406.1 < (l1_0.length : Int) then (some (rd l1_0 bt406.1, true)) else (none)) else (none)) else (some (0, false)))) = some (r1, r2) := by rw [if_pos rfl] at H; exact H
    clear H
    have H := H1
    clear H1
    replace H := Option.bind_eq_some_iff.mp H
    obtain ⟨⟨t406, t407⟩, A70, H⟩ := H
    replace H : (if t407 = true then (if 0 ≤ t406 then (if t406 < (l1_0.length : Int) then (some (rd l1_0 t406, true)) else (none)) else (none)) else (some (0, false))) = some (r1, r2) := H
    have A7 := Aside0.mk A70
    clear A70
    by_cases c8 : t407 = true
    · subst c8
      have H1 : (if 0 ≤ t406 then (if t406 < (l1_0.length : Int) then (some (rd l1_0 t406, true)) else (none)) else (none)) = some (r1, r2) := by rw [if_pos rfl] at H; exact H
      clear H
      have H := H1
      clear H1
      by_cases c9 : 0 ≤ t406
      · rw [if_pos c9] at H
        have c9b0 : decide (0 ≤ t406) = true := decide_eq_true c9
        clear c9
        by_cases c10 : t406 < (l1_0.length : Int)
        · rw [if_pos c10] at H
          have c10b0 : decide (t406 < (l1_0.length : Int)) = true := decide_eq_true c10
          clear c10
          simp only [Option.some.injEq, Prod.mk.injEq] at H
          obtain ⟨rfl, rfl⟩ := H
          go_enter Try.func24, Try.ntmps24
          go_wp2_with (first | ((with_reducible refine gate_dst (N := 5) rfl ?_); refine box_event ?hg (N := 5) ?hd (cs := #[.slice A1_0 l1_0.length c1_0, .int .i64 a1_1, .int .i64 a1_2, .int .i64 a1_3, .slice A1_4 l1_4.length c1_4]) (t := 28) ?hr ?_; (case hd => rfl); (case hg => rfl); (case hr => first | (go_simp; done) | (go_simp; rfl)); intro gb404 hg w11 hbox hb; have n0_ := Aside0.mk (below_step (by repeat (first | (with_reducible first | exact HB.out | apply below_alloc | apply pw_below_drewN | apply below_drew1) | exact HB.out)) hb); have n1_ := Aside0.mk (hbox); have n2_ := Aside0.mk ((by rw [hg]; exact (below_size (by repeat (first | (with_reducible first | exact HB.out | apply below_alloc | apply pw_below_drewN | apply below_drew1) | exact HB.out))) : w.heap.size ≤ gb404)); have n3_ := Aside0.mk ((by rw [hg]; exact (below_size (by repeat (first | (with_reducible first | exact HB.out | apply below_alloc | apply pw_below_drewN | apply below_drew1) | exact HB.out))) : w.heap.size ≤ gb404)); clear HB; have HB := n0_; have BK404 := n1_; have GW404 := n2_; have GE404 := n3_; clear n0_ n1_ n2_ n3_; clear hb hbox hg; have hcz12_0 : w11.cell? ⟨gb404, 0, none⟩ = some (.slice A1_0 l1_0.length c1_0) := (blk_cell BK404.out 0).trans rfl; have hcz12_1 : w11.cell? ⟨gb404, 1, none⟩ = some (.int .i64 a1_1) := (blk_cell BK404.out 1).trans rfl; have hcz12_2 : w11.cell? ⟨gb404, 2, none⟩ = some (.int .i64 a1_2) := (blk_cell BK404.out 2).trans rfl; have hcz12_3 : w11.cell? ⟨gb404, 3, none⟩ = some (.int .i64 a1_3) := (blk_cell BK404.out 3).trans rfl; have hcz12_4 : w11.cell? ⟨gb404, 4, none⟩ = some (.slice A1_4 l1_4.length c1_4) := (blk_cell BK404.out 4).trans rfl; have hfz12_0 := blk_frozen BK404.out 0; have hfz12_1 := blk_frozen BK404.out 1; have hfz12_2 := blk_frozen BK404.out 2; have hfz12_3 := blk_frozen BK404.out 3; have hfz12_4 := blk_frozen BK404.out 4) | ((with_reducible refine gate_callee (f := 17) rfl ?_); refine goesL_ (some 14) rfl rfl Try.func17 (by kernel_rfl) rfl #[.slice A0 l0.length c0, .agg #[.slice A1_0 l1_0.length c1_0, .int .i64 a1_1, .int .i64 a1_2, .int .i64 a1_3, .slice A1_4 l1_4.length c1_4]] rfl (by (try simp only [List.map_toArray, List.map_cons, List.map_nil]); first | done | rfl | (simp only [List.length_drop, List.length_take]; rfl)) ?_; (with_reducible refine (spec_MemOk.calls k _ _ l0 _ _ l1_0 a1_1 a1_2 a1_3 _ _ l1_4 true _ ?side1 ?side2 ?side3 ?side4 ?side5 ?side6 A5.out).mono ?_); (case side1 => repeat (first | exact (Kd.C_below HR0.out HB.out) | (with_reducible refine Kd.C_alloc ?_ _) | (with_reducible refine Kd.C_drewN ?_ _) | (with_reducible refine Kd.C_drew ?_))); (case side2 => exact HC0.out); (case side3 => repeat (first | exact (Kd.C_below HR1_0.out HB.out) | (with_reducible refine Kd.C_alloc ?_ _) | (with_reducible refine Kd.C_drewN ?_ _) | (with_reducible refine Kd.C_drew ?_))); (case side4 => exact HC1_0.out); (case side5 => repeat (first | exact (Kd.C_below HR1_4.out HB.out) | (with_reducible refine Kd.C_alloc ?_ _) | (with_reducible refine Kd.C_drewN ?_ _) | (with_reducible refine Kd.C_drew ?_))); (case side6 => exact HC1_4.out); rintro e w13 ⟨rfl, hb⟩; refine ⟨_, rfl, ?_⟩; have n0_ := Aside0.mk (blk_below (g := gb404) (o := .cells #[.slice A1_0 l1_0.length c1_0, .int .i64 a1_1, .int .i64 a1_2, .int .i64 a1_3, .slice A1_4 l1_4.length c1_4] 28 (0, 0)) (by (with_reducible repeat (first | refine blk_drewN ?_ _ | refine blk_drew ?_ | refine blk_alloc ?_ _)); exact BK404.out) hb); have n1_ := Aside0.mk (below_step (by repeat (first | (with_reducible first | exact HB.out | apply below_alloc | apply pw_below_drewN | apply below_drew1 | refine below_set ?_ GE404.out) | exact HB.out)) hb); clear BK404; clear HB; have BK404 := n0_; have HB := n1_; clear n0_ n1_; (try clear hb); (try clear hb2); (try clear hk); (try clear hi); have hcz14_0 : w13.cell? ⟨gb404, 0, none⟩ = some (.slice A1_0 l1_0.length c1_0) := (blk_cell BK404.out 0).trans rfl; have hcz14_1 : w13.cell? ⟨gb404, 1, none⟩ = some (.int .i64 a1_1) := (blk_cell BK404.out 1).trans rfl; have hcz14_2 : w13.cell? ⟨gb404, 2, none⟩ = some (.int .i64 a1_2) := (blk_cell BK404.out 2).trans rfl; have hcz14_3 : w13.cell? ⟨gb404, 3, none⟩ = some (.int .i64 a1_3) := (blk_cell BK404.out 3).trans rfl; have hcz14_4 : w13.cell? ⟨gb404, 4, none⟩ = some (.slice A1_4 l1_4.length c1_4) := (blk_cell BK404.out 4).trans rfl; have hfz14_0 := blk_frozen BK404.out 0; have hfz14_1 := blk_frozen BK404.out 1; have hfz14_2 := blk_frozen BK404.out 2; have hfz14_3 := blk_frozen BK404.out 3; have hfz14_4 := blk_frozen BK404.out 4) | ((with_reducible refine gate_callee (f := 57) rfl ?_); refine goesL_ (some 21) rfl rfl Try.func57 (by kernel_rfl) rfl #[.slice A0 l0.length c0, .agg #[.slice A1_0 l1_0.length c1_0, .int .i64 a1_1, .int .i64 a1_2, .int .i64 a1_3, .slice A1_4 l1_4.length c1_4], .int .i64 a2, .int .i64 a3] rfl (by (try simp only [List.map_toArray, List.map_cons, List.map_nil]); first | done | rfl | (simp only [List.length_drop, List.length_take]; rfl)) ?_; (with_reducible refine (spec_l21Inside.calls k _ _ l0 _ _ l1_0 a1_1 a1_2 a1_3 _ _ l1_4 a2 a3 t406 true _ ?side1 ?side2 ?side3 ?side4 ?side5 ?side6 A7.out).mono ?_); (case side1 => repeat (first | exact (Kd.C_below HR0.out HB.out) | (with_reducible refine Kd.C_alloc ?_ _) | (with_reducible refine Kd.C_drewN ?_ _) | (with_reducible refine Kd.C_drew ?_))); (case side2 => exact HC0.out); (case side3 => repeat (first | exact (Kd.C_below HR1_0.out HB.out) | (with_reducible refine Kd.C_alloc ?_ _) | (with_reducible refine Kd.C_drewN ?_ _) | (with_reducible refine Kd.C_drew ?_))); (case side4 => exact HC1_0.out); (case side5 => repeat (first | exact (Kd.C_below HR1_4.out HB.out) | (with_reducible refine Kd.C_alloc ?_ _) | (with_reducible refine Kd.C_drewN ?_ _) | (with_reducible refine Kd.C_drew ?_))); (case side6 => exact HC1_4.out); rintro e w15 ⟨rfl, hb⟩; refine ⟨_, rfl, ?_⟩; have n0_ := Aside0.mk (blk_below (g := gb404) (o := .cells #[.slice A1_0 l1_0.length c1_0, .int .i64 a1_1, .int .i64 a1_2, .int .i64 a1_3, .slice A1_4 l1_4.length c1_4] 28 (0, 0)) (by (with_reducible repeat (first | refine blk_drewN ?_ _ | refine blk_drew ?_ | refine blk_alloc ?_ _)); exact BK404.out) hb); have n1_ := Aside0.mk (below_step (by repeat (first | (with_reducible first | exact HB.out | apply below_alloc | apply pw_below_drewN | apply below_drew1 | refine below_set ?_ GE404.out) | exact HB.out)) hb); clear BK404; clear HB; have BK404 := n0_; have HB := n1_; clear n0_ n1_; (try clear hb); (try clear hb2); (try clear hk); (try clear hi); have hcz16_0 : w15.cell? ⟨gb404, 0, none⟩ = some (.slice A1_0 l1_0.length c1_0) := (blk_cell BK404.out 0).trans rfl; have hcz16_1 : w15.cell? ⟨gb404, 1, none⟩ = some (.int .i64 a1_1) := (blk_cell BK404.out 1).trans rfl; have hcz16_2 : w15.cell? ⟨gb404, 2, none⟩ = some (.int .i64 a1_2) := (blk_cell BK404.out 2).trans rfl; have hcz16_3 : w15.cell? ⟨gb404, 3, none⟩ = some (.int .i64 a1_3) := (blk_cell BK404.out 3).trans rfl; have hcz16_4 : w15.cell? ⟨gb404, 4, none⟩ = some (.slice A1_4 l1_4.length c1_4) := (blk_cell BK404.out 4).trans rfl; have hfz16_0 := blk_frozen BK404.out 0; have hfz16_1 := blk_frozen BK404.out 1; have hfz16_2 := blk_frozen BK404.out 2; have hfz16_3 := blk_frozen BK404.out 3; have hfz16_4 := blk_frozen BK404.out 4; have p408 : 0 ≤ (t406 : Int) := of_decide_eq_true (by first | (with_reducible assumption) | assumption); have q408 : t406 < (l1_0.length : Int) := of_decide_eq_true (by first | (with_reducible assumption) | assumption); obtain ⟨ad408, e408, hx408_0⟩ := Kd.at_int HR1_0.out t406 p408 q408; cases e408; replace hx408_0 := (HB.out.cell (World.block_lt_of_cell? w _ hx408_0)).trans hx408_0; replace p408 := eq_true p408; replace q408 := eq_true q408))
          go_ret2
          exact ⟨by first | rfl | (simp [errW_none, errW_some] <;> rfl) | (simp [*, errW_none, errW_some] <;> rfl), by repeat (first | (with_reducible first | exact HB.out | apply below_alloc | apply pw_below_drewN | apply below_drew1 | refine below_set ?_ GE404.out) | exact HB.out)⟩
        · rw [if_neg c10] at H
          exact absurd H (by simp)
      · rw [if_neg c9] at H
        exact absurd H (by simp)
    · replace c8 := Bool.eq_false_iff.mpr c8
      subst c8
      have H1 : (some (0, false)) = some (r1, r2) := by rw [if_neg (show ¬ (false = true) by decide)] at H; exact H
      clear H
      have H := H1
      clear H1
      simp only [Option.some.injEq, Prod.mk.injEq] at H
      obtain ⟨rfl, rfl⟩ := H
      go_enter Try.func24, Try.ntmps24
      go_wp2_with (first | ((with_reducible refine gate_dst (N := 5) rfl ?_); refine box_event ?hg (N := 5) ?hd (cs := #[.slice A1_0 l1_0.length c1_0, .int .i64 a1_1, .int .i64 a1_2, .int .i64 a1_3, .slice A1_4 l1_4.length c1_4]) (t := 28) ?hr ?_; (case hd => rfl); (case hg => rfl); (case hr => first | (go_simp; done) | (go_simp; rfl)); intro gb404 hg w17 hbox hb; have n0_ := Aside0.mk (below_step (by repeat (first | (with_reducible first | exact HB.out | apply below_alloc | apply pw_below_drewN | apply below_drew1) | exact HB.out)) hb); have n1_ := Aside0.mk (hbox); have n2_ := Aside0.mk ((by rw [hg]; exact (below_size (by repeat (first | (with_reducible first | exact HB.out | apply below_alloc | apply pw_below_drewN | apply below_drew1) | exact HB.out))) : w.heap.size ≤ gb404)); have n3_ := Aside0.mk ((by rw [hg]; exact (below_size (by repeat (first | (with_reducible first | exact HB.out | apply below_alloc | apply pw_below_drewN | apply below_drew1) | exact HB.out))) : w.heap.size ≤ gb404)); clear HB; have HB := n0_; have BK404 := n1_; have GW404 := n2_; have GE404 := n3_; clear n0_ n1_ n2_ n3_; clear hb hbox hg; have hcz18_0 : w17.cell? ⟨gb404, 0, none⟩ = some (.slice A1_0 l1_0.length c1_0) := (blk_cell BK404.out 0).trans rfl; have hcz18_1 : w17.cell? ⟨gb404, 1, none⟩ = some (.int .i64 a1_1) := (blk_cell BK404.out 1).trans rfl; have hcz18_2 : w17.cell? ⟨gb404, 2, none⟩ = some (.int .i64 a1_2) := (blk_cell BK404.out 2).trans rfl; have hcz18_3 : w17.cell? ⟨gb404, 3, none⟩ = some (.int .i64 a1_3) := (blk_cell BK404.out 3).trans rfl; have hcz18_4 : w17.cell? ⟨gb404, 4, none⟩ = some (.slice A1_4 l1_4.length c1_4) := (blk_cell BK404.out 4).trans rfl; have hfz18_0 := blk_frozen BK404.out 0; have hfz18_1 := blk_frozen BK404.out 1; have hfz18_2 := blk_frozen BK404.out 2; have hfz18_3 := blk_frozen BK404.out 3; have hfz18_4 := blk_frozen BK404.out 4) | ((with_reducible refine gate_callee (f := 17) rfl ?_); refine goesL_ (some 14) rfl rfl Try.func17 (by kernel_rfl) rfl #[.slice A0 l0.length c0, .agg #[.slice A1_0 l1_0.length c1_0, .int .i64 a1_1, .int .i64 a1_2, .int .i64 a1_3, .slice A1_4 l1_4.length c1_4]] rfl (by (try simp only [List.map_toArray, List.map_cons, List.map_nil]); first | done | rfl | (simp only [List.length_drop, List.length_take]; rfl)) ?_; (with_reducible refine (spec_MemOk.calls k _ _ l0 _ _ l1_0 a1_1 a1_2 a1_3 _ _ l1_4 true _ ?side1 ?side2 ?side3 ?side4 ?side5 ?side6 A5.out).mono ?_); (case side1 => repeat (first | exact (Kd.C_below HR0.out HB.out) | (with_reducible refine Kd.C_alloc ?_ _) | (with_reducible refine Kd.C_drewN ?_ _) | (with_reducible refine Kd.C_drew ?_))); (case side2 => exact HC0.out); (case side3 => repeat (first | exact (Kd.C_below HR1_0.out HB.out) | (with_reducible refine Kd.C_alloc ?_ _) | (with_reducible refine Kd.C_drewN ?_ _) | (with_reducible refine Kd.C_drew ?_))); (case side4 => exact HC1_0.out); (case side5 => repeat (first | exact (Kd.C_below HR1_4.out HB.out) | (with_reducible refine Kd.C_alloc ?_ _) | (with_reducible refine Kd.C_drewN ?_ _) | (with_reducible refine Kd.C_drew ?_))); (case side6 => exact HC1_4.out); rintro e w19 ⟨rfl, hb⟩; refine ⟨_, rfl, ?_⟩; have n0_ := Aside0.mk (blk_below (g := gb404) (o := .cells #[.slice A1_0 l1_0.length c1_0, .int .i64 a1_1, .int .i64 a1_2, .int .i64 a1_3, .slice A1_4 l1_4.length c1_4] 28 (0, 0)) (by (with_reducible repeat (first | refine blk_drewN ?_ _ | refine blk_drew ?_ | refine blk_alloc ?_ _)); exact BK404.out) hb); have n1_ := Aside0.mk (below_step (by repeat (first | (with_reducible first | exact HB.out | apply below_alloc | apply pw_below_drewN | apply below_drew1 | refine below_set ?_ GE404.out) | exact HB.out)) hb); clear BK404; clear HB; have BK404 := n0_; have HB := n1_; clear n0_ n1_; (try clear hb); (try clear hb2); (try clear hk); (try clear hi); have hcz20_0 : w19.cell? ⟨gb404, 0, none⟩ = some (.slice A1_0 l1_0.length c1_0) := (blk_cell BK404.out 0).trans rfl; have hcz20_1 : w19.cell? ⟨gb404, 1, none⟩ = some (.int .i64 a1_1) := (blk_cell BK404.out 1).trans rfl; have hcz20_2 : w19.cell? ⟨gb404, 2, none⟩ = some (.int .i64 a1_2) := (blk_cell BK404.out 2).trans rfl; have hcz20_3 : w19.cell? ⟨gb404, 3, none⟩ = some (.int .i64 a1_3) := (blk_cell BK404.out 3).trans rfl; have hcz20_4 : w19.cell? ⟨gb404, 4, none⟩ = some (.slice A1_4 l1_4.length c1_4) := (blk_cell BK404.out 4).trans rfl; have hfz20_0 := blk_frozen BK404.out 0; have hfz20_1 := blk_frozen BK404.out 1; have hfz20_2 := blk_frozen BK404.out 2; have hfz20_3 := blk_frozen BK404.out 3; have hfz20_4 := blk_frozen BK404.out 4) | ((with_reducible refine gate_callee (f := 57) rfl ?_); refine goesL_ (some 21) rfl rfl Try.func57 (by kernel_rfl) rfl #[.slice A0 l0.length c0, .agg #[.slice A1_0 l1_0.length c1_0, .int .i64 a1_1, .int .i64 a1_2, .int .i64 a1_3, .slice A1_4 l1_4.length c1_4], .int .i64 a2, .int .i64 a3] rfl (by (try simp only [List.map_toArray, List.map_cons, List.map_nil]); first | done | rfl | (simp only [List.length_drop, List.length_take]; rfl)) ?_; (with_reducible refine (spec_l21Inside.calls k _ _ l0 _ _ l1_0 a1_1 a1_2 a1_3 _ _ l1_4 a2 a3 t406 false _ ?side1 ?side2 ?side3 ?side4 ?side5 ?side6 A7.out).mono ?_); (case side1 => repeat (first | exact (Kd.C_below HR0.out HB.out) | (with_reducible refine Kd.C_alloc ?_ _) | (with_reducible refine Kd.C_drewN ?_ _) | (with_reducible refine Kd.C_drew ?_))); (case side2 => exact HC0.out); (case side3 => repeat (first | exact (Kd.C_below HR1_0.out HB.out) | (with_reducible refine Kd.C_alloc ?_ _) | (with_reducible refine Kd.C_drewN ?_ _) | (with_reducible refine Kd.C_drew ?_))); (case side4 => exact HC1_0.out); (case side5 => repeat (first | exact (Kd.C_below HR1_4.out HB.out) | (with_reducible refine Kd.C_alloc ?_ _) | (with_reducible refine Kd.C_drewN ?_ _) | (with_reducible refine Kd.C_drew ?_))); (case side6 => exact HC1_4.out); rintro e w21 ⟨rfl, hb⟩; refine ⟨_, rfl, ?_⟩; have n0_ := Aside0.mk (blk_below (g := gb404) (o := .cells #[.slice A1_0 l1_0.length c1_0, .int .i64 a1_1, .int .i64 a1_2, .int .i64 a1_3, .slice A1_4 l1_4.length c1_4] 28 (0, 0)) (by (with_reducible repeat (first | refine blk_drewN ?_ _ | refine blk_drew ?_ | refine blk_alloc ?_ _)); exact BK404.out) hb); have n1_ := Aside0.mk (below_step (by repeat (first | (with_reducible first | exact HB.out | apply below_alloc | apply pw_below_drewN | apply below_drew1 | refine below_set ?_ GE404.out) | exact HB.out)) hb); clear BK404; clear HB; have BK404 := n0_; have HB := n1_; clear n0_ n1_; (try clear hb); (try clear hb2); (try clear hk); (try clear hi)))
      go_ret2
      exact ⟨by first | rfl | (simp [errW_none, errW_some] <;> rfl) | (simp [*, errW_none, errW_some] <;> rfl), by repeat (first | (with_reducible first | exact HB.out | apply below_alloc | apply pw_below_drewN | apply below_drew1 | refine below_set ?_ GE404.out) | exact HB.out)⟩
  · replace c6 := Bool.eq_false_iff.mpr c6
    subst c6
    have H1 : (some (0, false)) = some (r1, r2) := by rw [if_neg (show ¬ (false = true) by decide)] at H; exact H
    clear H
    have H := H1
    clear H1
    simp only [Option.some.injEq, Prod.mk.injEq] at H
    obtain ⟨rfl, rfl⟩ := H
    go_enter Try.func24, Try.ntmps24
    go_wp2_with (first | ((with_reducible refine gate_dst (N := 5) rfl ?_); refine box_event ?hg (N := 5) ?hd (cs := #[.slice A1_0 l1_0.length c1_0, .int .i64 a1_1, .int .i64 a1_2, .int .i64 a1_3, .slice A1_4 l1_4.length c1_4]) (t := 28) ?hr ?_; (case hd => rfl); (case hg => rfl); (case hr => first | (go_simp; done) | (go_simp; rfl)); intro gb404 hg w22 hbox hb; have n0_ := Aside0.mk (below_step (by repeat (first | (with_reducible first | exact HB.out | apply below_alloc | apply pw_below_drewN | apply below_drew1) | exact HB.out)) hb); have n1_ := Aside0.mk (hbox); have n2_ := Aside0.mk ((by rw [hg]; exact (below_size (by repeat (first | (with_reducible first | exact HB.out | apply below_alloc | apply pw_below_drewN | apply below_drew1) | exact HB.out))) : w.heap.size ≤ gb404)); have n3_ := Aside0.mk ((by rw [hg]; exact (below_size (by repeat (first | (with_reducible first | exact HB.out | apply below_alloc | apply pw_below_drewN | apply below_drew1) | exact HB.out))) : w.heap.size ≤ gb404)); clear HB; have HB := n0_; have BK404 := n1_; have GW404 := n2_; have GE404 := n3_; clear n0_ n1_ n2_ n3_; clear hb hbox hg; have hcz23_0 : w22.cell? ⟨gb404, 0, none⟩ = some (.slice A1_0 l1_0.length c1_0) := (blk_cell BK404.out 0).trans rfl; have hcz23_1 : w22.cell? ⟨gb404, 1, none⟩ = some (.int .i64 a1_1) := (blk_cell BK404.out 1).trans rfl; have hcz23_2 : w22.cell? ⟨gb404, 2, none⟩ = some (.int .i64 a1_2) := (blk_cell BK404.out 2).trans rfl; have hcz23_3 : w22.cell? ⟨gb404, 3, none⟩ = some (.int .i64 a1_3) := (blk_cell BK404.out 3).trans rfl; have hcz23_4 : w22.cell? ⟨gb404, 4, none⟩ = some (.slice A1_4 l1_4.length c1_4) := (blk_cell BK404.out 4).trans rfl; have hfz23_0 := blk_frozen BK404.out 0; have hfz23_1 := blk_frozen BK404.out 1; have hfz23_2 := blk_frozen BK404.out 2; have hfz23_3 := blk_frozen BK404.out 3; have hfz23_4 := blk_frozen BK404.out 4) | ((with_reducible refine gate_callee (f := 17) rfl ?_); refine goesL_ (some 14) rfl rfl Try.func17 (by kernel_rfl) rfl #[.slice A0 l0.length c0, .agg #[.slice A1_0 l1_0.length c1_0, .int .i64 a1_1, .int .i64 a1_2, .int .i64 a1_3, .slice A1_4 l1_4.length c1_4]] rfl (by (try simp only [List.map_toArray, List.map_cons, List.map_nil]); first | done | rfl | (simp only [List.length_drop, List.length_take]; rfl)) ?_; (with_reducible refine (spec_MemOk.calls k _ _ l0 _ _ l1_0 a1_1 a1_2 a1_3 _ _ l1_4 false _ ?side1 ?side2 ?side3 ?side4 ?side5 ?side6 A5.out).mono ?_); (case side1 => repeat (first | exact (Kd.C_below HR0.out HB.out) | (with_reducible refine Kd.C_alloc ?_ _) | (with_reducible refine Kd.C_drewN ?_ _) | (with_reducible refine Kd.C_drew ?_))); (case side2 => exact HC0.out); (case side3 => repeat (first | exact (Kd.C_below HR1_0.out HB.out) | (with_reducible refine Kd.C_alloc ?_ _) | (with_reducible refine Kd.C_drewN ?_ _) | (with_reducible refine Kd.C_drew ?_))); (case side4 => exact HC1_0.out); (case side5 => repeat (first | exact (Kd.C_below HR1_4.out HB.out) | (with_reducible refine Kd.C_alloc ?_ _) | (with_reducible refine Kd.C_drewN ?_ _) | (with_reducible refine Kd.C_drew ?_))); (case side6 => exact HC1_4.out); rintro e w24 ⟨rfl, hb⟩; refine ⟨_, rfl, ?_⟩; have n0_ := Aside0.mk (blk_below (g := gb404) (o := .cells #[.slice A1_0 l1_0.length c1_0, .int .i64 a1_1, .int .i64 a1_2, .int .i64 a1_3, .slice A1_4 l1_4.length c1_4] 28 (0, 0)) (by (with_reducible repeat (first | refine blk_drewN ?_ _ | refine blk_drew ?_ | refine blk_alloc ?_ _)); exact BK404.out) hb); have n1_ := Aside0.mk (below_step (by repeat (first | (with_reducible first | exact HB.out | apply below_alloc | apply pw_below_drewN | apply below_drew1 | refine below_set ?_ GE404.out) | exact HB.out)) hb); clear BK404; clear HB; have BK404 := n0_; have HB := n1_; clear n0_ n1_; (try clear hb); (try clear hb2); (try clear hk); (try clear hi)))
    go_ret2
    exact ⟨by first | rfl | (simp [errW_none, errW_some] <;> rfl) | (simp [*, errW_none, errW_some] <;> rfl), by repeat (first | (with_reducible first | exact HB.out | apply below_alloc | apply pw_below_drewN | apply below_drew1 | refine below_set ?_ GE404.out) | exact HB.out)⟩
end Go.Proofs.Ytjnbilfhpdkcbaa.K
namespace Go.Proofs.Ytjnbilfhpdkcbaa.K
open Go.RowKit Go.Proofs.YtjnbilfhpdkcbaaW.PrintWords Go.Proofs.YtjnbilfhpdkcbaaW.PrintLast Go.Proofs.YtjnbilfhpdkcbaaW.PrintMore
attribute [local go_sem] max2_int min2_int max_two min_two max_three min_three max_four min_four
set_option linter.unusedVariables false
set_option linter.unusedSimpArgs false
def memory_hasIn.f (q : Nat) (m : Mm) (at_ k : Int) : Option Bool := (memory_has.f q m at_).bind fun b => if b = true then (if 0 ≤ k then (thing_count.f m at_).bind fun n => some (decide (k < n)) else some false) else some false
set_option maxHeartbeats 4000000 in
set_option maxRecDepth 100000 in
theorem memory_hasIn.calls (q : Nat) (g : Nat) (m : Mm) (at_ k : Int) (r : Bool) (w : World) (hm : MV w g m) (h : memory_hasIn.f q m at_ k = some r) :
    Calls Try.prog 58 #[.pointer (some ⟨g, 0, none⟩), .int .i64 at_, .int .i64 k] w fun e w' => e = .returned (.bool r) ∧ Below w.heap.size w w' := by
  unfold memory_hasIn.f at h
  obtain ⟨b, hb, h⟩ := Option.bind_eq_some_iff.mp h
  have HH := Aside0.mk hb
  have HM := Aside0.mk hm
  clear hb hm
  cases b with
  | false =>
    have HR := Aside0.mk (Option.some.inj h)
    clear h
    go_enter Try.func58, Try.ntmps58
    go_wp2_with (go_at_call 54; refine (memory_has.calls q g m at_ false _ HM.out HH.out).mono ?_; rintro e w' ⟨rfl, ⟨nd, rfl⟩⟩)
    go_ret
    exact ⟨by rw [← HR.out]; rfl, by repeat (first | exact Below.refl _ _ | apply below_alloc | apply pw_below_drewN | apply below_drew1)⟩
  | true =>
    rw [if_pos rfl] at h
    by_cases c1 : 0 ≤ k
    · rw [if_pos c1] at h
      have d1 : decide (0 ≤ k) = true := decide_eq_true c1
      have d2 : decide (k ≥ 0) = true := d1
      obtain ⟨n, hn, h⟩ := Option.bind_eq_some_iff.mp h
      have HN := Aside0.mk hn
      have HR := Aside0.mk (Option.some.inj h)
      clear h hn c1
      go_enter Try.func58, Try.ntmps58
      go_wp2_with fail
      go_at_call 54
      refine (memory_has.calls q g m at_ true _ HM.out HH.out).mono ?_
      rintro e w' ⟨rfl, ⟨nd, rfl⟩⟩
      go_wp2_with fail
      go_at_call 55
      refine (memory_thing.calls g at_ _).mono ?_
      rintro e w2 ⟨rfl, hb2⟩
      have HB := Aside0.mk (below_step (pw_below_drewN (Below.refl _ _) _) hb2 : Below w.heap.size w w2)
      clear hb2
      go_wp2_with fail
      go_at_call 79
      refine (thing_count.calls g m at_ n _ (MV_below HM.out HB.out) HN.out).mono ?_
      rintro e w3 ⟨rfl, hb3⟩
      go_wp2
      go_ret
      exact ⟨by rw [← HR.out]; rfl, below_step HB.out hb3⟩
    · rw [if_neg c1] at h
      have d1 : decide (0 ≤ k) = false := decide_eq_false c1
      have d2 : decide (k ≥ 0) = false := d1
      have HR := Aside0.mk (Option.some.inj h)
      clear h c1
      go_enter Try.func58, Try.ntmps58
      go_wp2_with (go_at_call 54; refine (memory_has.calls q g m at_ true _ HM.out HH.out).mono ?_; rintro e w' ⟨rfl, ⟨nd, rfl⟩⟩)
      go_ret
      exact ⟨by rw [← HR.out]; rfl, by repeat (first | exact Below.refl _ _ | apply below_alloc | apply pw_below_drewN | apply below_drew1)⟩
end Go.Proofs.Ytjnbilfhpdkcbaa.K
namespace Go.Proofs.Ytjnbilfhpdkcbaa.K
open Go.RowKit Go.Proofs.YtjnbilfhpdkcbaaW.PrintWords Go.Proofs.YtjnbilfhpdkcbaaW.PrintLast Go.Proofs.YtjnbilfhpdkcbaaW.PrintMore
attribute [local go_sem] max2_int min2_int max_two min_two max_three min_three max_four min_four
set_option linter.unusedVariables false
set_option linter.unusedSimpArgs false
def memory_get.f (m : Mm) (at_ k : Int) : Option Int := (thing_first.f m at_).bind fun a => if 0 ≤ a + k ∧ a + k < m.words.length then some (rd m.words (a + k)) else none
set_option maxHeartbeats 4000000 in
set_option maxRecDepth 100000 in
theorem memory_get.calls (g : Nat) (m : Mm) (at_ k r : Int) (w : World) (hm : MV w g m) (h : memory_get.f m at_ k = some r) :
    Calls Try.prog 59 #[.pointer (some ⟨g, 0, none⟩), .int .i64 at_, .int .i64 k] w fun e w' => e = .returned (.int .i64 r) ∧ Below w.heap.size w w' := by
  unfold memory_get.f at h
  obtain ⟨a, ha, h⟩ := Option.bind_eq_some_iff.mp h
  have l1 := thing_first_lt ha
  split at h
  case isFalse => simp at h
  case isTrue h2 =>
  have HFi := Aside0.mk ha
  have HM1 := Aside0.mk hm
  have HR := Aside0.mk (Option.some.inj h)
  obtain ⟨j, hj⟩ : ∃ j, j = a + k := ⟨_, rfl⟩
  have q1 : IntKind.i64.wrap (a + k) = j := by rw [hj]; exact IntWalk.i64_in _ ⟨by omega, by omega⟩
  rw [← hj] at HR
  obtain ⟨AW, cW, AC, cC, AF, cF, AB, cB, h0, hW, _, _, _, _⟩ := hm
  have p1 := eq_true (show 0 ≤ j by omega)
  have p2 := eq_true (show j < (m.words.length : Int) by omega)
  obtain ⟨ad, e0, hx⟩ := Kd.at_int hW j (by omega) (by omega)
  cases e0
  have g0 := (blk_cell h0 0).trans rfl
  have HB := Aside0.mk (Below.refl w.heap.size w)
  clear ha h h0 hW h2 l1 hj
  go_enter Try.func59, Try.ntmps59
  go_wp2
  refine start_ (n := 14) (S := fun w' => Aside0 (Below w.heap.size w w') ∧ Aside0 (MV w' g (m)) ∧ w'.cell? (⟨g, 0, none⟩) = some (.slice (some ad) m.words.length cW) ∧ w'.cell? (ad.add j.toNat) = some (.int .i64 (rd m.words j))) (ds := []) #[false, false, false, false, false, false, false, false, false, false, false, false, false, false] (by kernel_rfl) rfl rfl ⟨⟨below_drew1 HB.out⟩, ⟨MV_below HM1.out (below_drew1 (Below.refl _ _))⟩, (by go_simp), (by go_simp)⟩ (fun hHeld => ?_)
  refine pS 0 7 (lA 14 1) ?_
  refine pS 1 8 (lA 14 3) ?_
  refine pS 2 9 (lA 14 7) ?_
  refine pS 3 10 (lA 14 15) ?_
  refine pS 5 12 (lA 14 47) ?_
  refine pS 6 13 (lA 14 111) ?_
  refine pS 9 16 (lA 14 623) ?_
  refine tS 4 11 (lA 14 639) rfl rfl (by kernel_rfl) hHeld (by rintro w' ⟨s0, s1, s2, s3⟩; go_simp; with_reducible rfl) ?_
  refine one_ (i := 7) (N := some 14) (lA 14 767) rfl rfl (by kernel_rfl) (by decide) (fun K hK => ?_)
  refine goes_ Try.func55 (by kernel_rfl) rfl #[.pointer (some ⟨g, 0, none⟩), .int .i64 at_] (by rfl) rfl rfl (by simp only [List.map_toArray, List.map_cons, List.map_nil]; rfl) ?_
  with_reducible refine (memory_thing.calls g at_ _).mono ?_
  rintro e w3 ⟨rfl, hb3⟩
  refine ⟨_, rfl, ?_⟩
  refine hK.out _ _ ⟨⟨below_step hHeld.1.out hb3⟩, ⟨MV_below hHeld.2.1.out hb3⟩, (pw_cell_below hb3 hHeld.2.2.1), (pw_cell_below hb3 hHeld.2.2.2)⟩ (fun hHeld => ?_)
  clear hK K
  refine norm_ (a' := ?_) ?_ ?_
  rotate_left
  · show Act.put _ (some 14) _ = _
    simp only [Act.put, lA1, lA2, lA3, i64_w, i32_w]
    rfl
  refine one_ (i := 8) (N := some 15) (lA 14 1023) rfl rfl (by kernel_rfl) (by decide) (fun K hK => ?_)
  refine goes_ Try.func78 (by kernel_rfl) rfl #[thV g at_] (by rfl) rfl rfl (by simp only [List.map_toArray, List.map_cons, List.map_nil]; rfl) ?_
  with_reducible refine (thing_first.calls g m at_ a _ hHeld.2.1.out HFi.out).mono ?_
  rintro e w3 ⟨rfl, hb3⟩
  refine ⟨_, rfl, ?_⟩
  refine hK.out _ _ ⟨⟨below_step hHeld.1.out hb3⟩, ⟨MV_below hHeld.2.1.out hb3⟩, (pw_cell_below hb3 hHeld.2.2.1), (pw_cell_below hb3 hHeld.2.2.2)⟩ (fun hHeld => ?_)
  clear hK K
  refine norm_ (a' := ?_) ?_ ?_
  rotate_left
  · show Act.put _ (some 15) _ = _
    simp only [Act.put, lA1, lA2, lA3, i64_w, i32_w]
    rfl
  refine pS 10 17 (lA 14 2047) ?_
  refine pS 11 18 (lA 14 4095) ?_
  refine tS 12 19 (lA 14 8191) rfl rfl (by kernel_rfl) hHeld (by rintro w' ⟨s0, s1, s2, s3⟩; go_simp; with_reducible rfl) ?_
  refine pS 13 6 (lA 14 16383) ?_
  refine done_ (by kernel_rfl) ?_
  go_wp2
  go_ret
  exact ⟨by rw [← HR.out]; rfl, hHeld.1.out⟩
end Go.Proofs.Ytjnbilfhpdkcbaa.K
namespace Go.Proofs.Ytjnbilfhpdkcbaa.K
open Go.RowKit Go.Proofs.YtjnbilfhpdkcbaaW.PrintWords Go.Proofs.YtjnbilfhpdkcbaaW.PrintLast Go.Proofs.YtjnbilfhpdkcbaaW.PrintMore
attribute [local go_sem] max2_int min2_int max_two min_two max_three min_three max_four min_four
set_option linter.unusedVariables false
set_option linter.unusedSimpArgs false
def getOf (k : Nat) (a2 a3 : Int) : Option Mm → Option (Int × Bool)
  | none => some (0, false)
  | some m => (memory_hasIn.f k m a2 a3).bind fun b => if b = true then (memory_get.f m a2 a3).bind fun x => some (x, true) else some (0, false)
def impl_MemGet.f (k : Nat) (l0 : List (S32)) (l1_0 : List Int) (a1_1 : Int) (a1_2 : Int) (a1_3 : Int) (l1_4 : List Bool) (a2 : Int) (a3 : Int) : Option (Int × Bool) := (mopen k k l0 l1_0 a1_1 a1_2 a1_3 l1_4).bind fun r => getOf k a2 a3 r
set_option maxHeartbeats 8000000 in
set_option maxRecDepth 100000 in
theorem impl_MemGet.calls (k : Nat) (A0 : Option Addr) (c0 : Nat) (l0 : List (S32)) (A1_0 : Option Addr) (c1_0 : Nat) (l1_0 : List Int) (a1_1 : Int) (a1_2 : Int) (a1_3 : Int) (A1_4 : Option Addr) (c1_4 : Nat) (l1_4 : List Bool) (a2 : Int) (a3 : Int) (r1 : Int) (r2 : Bool) (w : World) (hr0 : Kd.C k32 w A0 l0.length l0) (hc0 : l0.length ≤ c0) (hr1_0 : Kd.C (Kd.int .i64) w A1_0 l1_0.length l1_0) (hc1_0 : l1_0.length ≤ c1_0) (hr1_4 : Kd.C Kd.bool w A1_4 l1_4.length l1_4) (hc1_4 : l1_4.length ≤ c1_4) (h : impl_MemGet.f k l0 l1_0 a1_1 a1_2 a1_3 l1_4 a2 a3 = some (r1, r2)) :
    Calls Try.prog 25 #[.slice A0 l0.length c0, .agg #[.slice A1_0 l1_0.length c1_0, .int .i64 a1_1, .int .i64 a1_2, .int .i64 a1_3, .slice A1_4 l1_4.length c1_4], .int .i64 a2, .int .i64 a3] w fun e w' => e = .returned (.tuple #[.int .i64 r1, .bool r2]) ∧ Below w.heap.size w w' := by
  unfold impl_MemGet.f at h
  obtain ⟨m, hm, h⟩ := Option.bind_eq_some_iff.mp h
  have HM := Aside0.mk hm
  have HR0 := Aside0.mk hr0
  have HC0 := Aside0.mk hc0
  have HR1 := Aside0.mk hr1_0
  have HC1 := Aside0.mk hc1_0
  have HR4 := Aside0.mk hr1_4
  have HC4 := Aside0.mk hc1_4
  have HB := Aside0.mk (below_alloc (Below.refl w.heap.size w) (.cells #[.slice A1_0 l1_0.length c1_0, .int .i64 a1_1, .int .i64 a1_2, .int .i64 a1_3, .slice A1_4 l1_4.length c1_4] 28 (0, 0)))
  have HH := Aside0.mk h
  clear hr0 hc0 hr1_0 hc1_0 hr1_4 hc1_4 h hm
  go_enter Try.func25, Try.ntmps25
  go_wp2_with fail
  go_at_call 39
  refine (memOpen.calls k k A0 c0 l0 A1_0 c1_0 l1_0 a1_1 a1_2 a1_3 A1_4 c1_4 l1_4 m _ (Kd.C_below HR0.out HB.out) HC0.out (Kd.C_below HR1.out HB.out) HC1.out (Kd.C_below HR4.out HB.out) HC4.out HM.out).mono ?_
  cases m with
  | none =>
    rintro e w1 ⟨rfl, hb⟩
    have HB1 := Aside0.mk (below_step HB.out hb)
    have hh := Option.some.inj HH.out
    injection hh with h1 h2
    subst h1 h2
    clear hb HM HH
    go_wp2
    go_ret2
    exact ⟨rfl, HB1.out⟩
  | some m =>
    rintro e w1 ⟨g, rfl, hmo, hb⟩
    have HB1 := Aside0.mk (below_step HB.out hb)
    have HMO := Aside0.mk hmo
    have hh := HH.out
    unfold getOf at hh
    obtain ⟨b, hq, hh⟩ := Option.bind_eq_some_iff.mp hh
    have HQ := Aside0.mk hq
    clear hb HM HH hmo hq
    cases b with
    | false =>
      rw [if_neg (by simp)] at hh
      have hh := Option.some.inj hh
      injection hh with h1 h2
      subst h1 h2
      go_wp2_with (go_at_call 58; refine (memory_hasIn.calls k g m a2 a3 false _ (MO_MV HMO.out) HQ.out).mono ?_; rintro e w2 ⟨rfl, hd⟩; have HB2 := Aside0.mk (below_step HB1.out hd); clear hd)
      go_ret2
      exact ⟨rfl, HB2.out⟩
    | true =>
      rw [if_pos rfl] at hh
      obtain ⟨x, hx, hh⟩ := Option.bind_eq_some_iff.mp hh
      have HS := Aside0.mk hx
      have hh := Option.some.inj hh
      injection hh with h1 h2
      subst h1 h2
      clear hx
      go_wp2_with (first | (go_at_call 58; refine (memory_hasIn.calls k g m a2 a3 true _ (MO_MV HMO.out) HQ.out).mono ?_; rintro e w2 ⟨rfl, hd⟩; have HB2 := Aside0.mk (below_step HB1.out hd); have HMO2 := Aside0.mk (MO_below HMO.out hd); clear hd) | (go_at_call 59; refine (memory_get.calls g m a2 a3 x _ (MO_MV HMO2.out) HS.out).mono ?_; rintro e w4 ⟨rfl, hd⟩; have HB4 := Aside0.mk (below_step HB2.out hd); clear hd))
      go_ret2
      exact ⟨rfl, HB4.out⟩
end Go.Proofs.Ytjnbilfhpdkcbaa.K
