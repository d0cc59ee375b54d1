import Derived.Test.YtjnbilfhpdkcbaaPw1
import Derived.Test.YtjnbilfhpdkcbaaPw2
import Derived.Test.YtjnbilfhpdkcbaaPw3
import Derived.Test.YtjnbilfhpdkcbaaPm24
import Derived.Test.YtjnbilfhpdkcbaaPm27
import Derived.Test.YtjnbilfhpdkcbaaPm31
import Derived.Test.YtjnbilfhpdkcbaaPm30
import Derived.Test.YtjnbilfhpdkcbaaPm28
import Derived.Test.YtjnbilfhpdkcbaaPm32
import Derived.Test.YtjnbilfhpdkcbaaPm33
namespace Go.Proofs.Ytjnbilfhpdkcbaa.K
open Go.RowKit Go.Proofs.YtjnbilfhpdkcbaaW.PrintWords Go.Proofs.YtjnbilfhpdkcbaaW.PrintLast Go.Proofs.YtjnbilfhpdkcbaaW.PrintMore
attribute [local go_sem] max2_int min2_int max_two min_two max_three min_three max_four min_four
set_option linter.unusedVariables false
set_option linter.unusedSimpArgs false
def walkOf : Option Mm → List Int
  | none => []
  | some m => m.begins
def impl_MemWalk.f (k : Nat) (l0 : List (S32)) (l1_0 : List Int) (a1_1 : Int) (a1_2 : Int) (a1_3 : Int) (l1_4 : List Bool) : Option (List Int) := (mopen k k l0 l1_0 a1_1 a1_2 a1_3 l1_4).bind fun r => some (walkOf r)
set_option maxHeartbeats 8000000 in
set_option maxRecDepth 100000 in
theorem impl_MemWalk.calls (k : Nat) (A0 : Option Addr) (c0 : Nat) (l0 : List (S32)) (A1_0 : Option Addr) (c1_0 : Nat) (l1_0 : List Int) (a1_1 : Int) (a1_2 : Int) (a1_3 : Int) (A1_4 : Option Addr) (c1_4 : Nat) (l1_4 : List Bool) (r : List Int) (w : World) (hr0 : Kd.C k32 w A0 l0.length l0) (hc0 : l0.length ≤ c0) (hr1_0 : Kd.C (Kd.int .i64) w A1_0 l1_0.length l1_0) (hc1_0 : l1_0.length ≤ c1_0) (hr1_4 : Kd.C Kd.bool w A1_4 l1_4.length l1_4) (hc1_4 : l1_4.length ≤ c1_4) (h : impl_MemWalk.f k l0 l1_0 a1_1 a1_2 a1_3 l1_4 = some r) :
    Calls Try.prog 14 #[.slice A0 l0.length c0, .agg #[.slice A1_0 l1_0.length c1_0, .int .i64 a1_1, .int .i64 a1_2, .int .i64 a1_3, .slice A1_4 l1_4.length c1_4]] w fun e w' => ∃ v0_ : Value, e = .returned (v0_) ∧ Kd.R (Kd.int .i64) 3 w' w.heap.size (fun _ => True) v0_ r ∧ Below w.heap.size w w' := by
  unfold impl_MemWalk.f at h
  obtain ⟨m, hm, h⟩ := Option.bind_eq_some_iff.mp h
  have HM := Aside0.mk hm
  have HR0 := Aside0.mk hr0
  have HC0 := Aside0.mk hc0
  have HR1 := Aside0.mk hr1_0
  have HC1 := Aside0.mk hc1_0
  have HR4 := Aside0.mk hr1_4
  have HC4 := Aside0.mk hc1_4
  have HB := Aside0.mk (below_alloc (Below.refl w.heap.size w) (.cells #[.slice A1_0 l1_0.length c1_0, .int .i64 a1_1, .int .i64 a1_2, .int .i64 a1_3, .slice A1_4 l1_4.length c1_4] 28 (0, 0)))
  have HH := Aside0.mk h
  clear hr0 hc0 hr1_0 hc1_0 hr1_4 hc1_4 h hm
  go_enter Try.func14, Try.ntmps14
  go_wp2_with fail
  go_at_call 39
  refine (memOpen.calls k k A0 c0 l0 A1_0 c1_0 l1_0 a1_1 a1_2 a1_3 A1_4 c1_4 l1_4 m _ (Kd.C_below HR0.out HB.out) HC0.out (Kd.C_below HR1.out HB.out) HC1.out (Kd.C_below HR4.out HB.out) HC4.out HM.out).mono ?_
  cases m with
  | none =>
    rintro e w1 ⟨rfl, hb⟩
    have HB1 := Aside0.mk (below_step HB.out hb)
    have hh := Option.some.inj HH.out
    subst hh
    clear hb HM HH
    go_wp2
    go_ret
    exact ⟨_, rfl, Kd.R_nil _ _ _ _ _, HB1.out⟩
  | some m =>
    rintro e w1 ⟨g, rfl, hmo, hb⟩
    have HB1 := Aside0.mk (below_step HB.out hb)
    have hs := below_size HB.out
    have hh := Option.some.inj HH.out
    subst hh
    obtain ⟨AW, cW, AC, cC, AF, cF, AB, cB, g0, _, _, _, _, _, rB⟩ := hmo
    have k6 := (blk_cell g0 6).trans rfl
    have RB := Aside0.mk (Kd.R_mono (ok' := fun _ => True) (Kd.R_lower rB hs) (fun _ _ => trivial))
    clear hb HM HH g0 rB hs
    go_wp2
    go_ret
    exact ⟨_, rfl, RB.out, HB1.out⟩
end Go.Proofs.Ytjnbilfhpdkcbaa.K
namespace Go.Proofs.Ytjnbilfhpdkcbaa.K
open Go.RowKit Go.Proofs.YtjnbilfhpdkcbaaW.PrintWords Go.Proofs.YtjnbilfhpdkcbaaW.PrintLast Go.Proofs.YtjnbilfhpdkcbaaW.PrintMore
attribute [local go_sem] max2_int min2_int max_two min_two max_three min_three max_four min_four
set_option linter.unusedVariables false
set_option linter.unusedSimpArgs false
def spec_MemWalk.l0 : Nat → List Int → List Int → Int → Option (List Int)
  | 0, _, _, _ => none
  | k + 1, x5, x6, x8 => if x8 < (x6.length : Int) then (if 0 ≤ x8 then (if x5.length < 17592186044416 then (spec_MemWalk.l0 k (x5 ++ [wrap64 ((rd x6 x8) + 1)]) x6 (wrap64 (x8 + 1))) else (none)) else (none)) else (some x5)
def spec_MemWalk.f (k : Nat) (l0 : List (S32)) (l1_0 : List Int) (a1_1 : Int) (a1_2 : Int) (a1_3 : Int) (l1_4 : List Bool) : Option (List Int) := (some (([] : List Int) : List Int)).bind fun y554 => ((spec_MemOk.f k l0 l1_0 a1_1 a1_2 a1_3 l1_4).bind fun t557 => (if t557 = true then ((spec_l21Walk.f k l0 l1_0 a1_1 a1_2 a1_3 l1_4).bind fun bt558 => (spec_MemWalk.l0 k y554 bt558.1 0)) else (some y554)))
set_option maxHeartbeats 8000000 in
set_option maxRecDepth 100000 in
theorem spec_MemWalk.calls (k : Nat) (A0 : Option Addr) (c0 : Nat) (l0 : List (S32)) (A1_0 : Option Addr) (c1_0 : Nat) (l1_0 : List Int) (a1_1 : Int) (a1_2 : Int) (a1_3 : Int) (A1_4 : Option Addr) (c1_4 : Nat) (l1_4 : List Bool) (r : List Int) (w : World) (hr0 : Kd.C k32 w A0 l0.length l0) (hc0 : l0.length ≤ c0) (hr1_0 : Kd.C (Kd.int .i64) w A1_0 l1_0.length l1_0) (hc1_0 : l1_0.length ≤ c1_0) (hr1_4 : Kd.C Kd.bool w A1_4 l1_4.length l1_4) (hc1_4 : l1_4.length ≤ c1_4) (h : spec_MemWalk.f k l0 l1_0 a1_1 a1_2 a1_3 l1_4 = some r) :
    Calls Try.prog 26 #[.slice A0 l0.length c0, .agg #[.slice A1_0 l1_0.length c1_0, .int .i64 a1_1, .int .i64 a1_2, .int .i64 a1_3, .slice A1_4 l1_4.length c1_4]] w fun e w' => ∃ v0_ : Value, e = .returned (v0_) ∧ Kd.R (Kd.int .i64) 3 w' w.heap.size (fun _ => True) v0_ r ∧ Below w.heap.size w w' := by
  have hu28 := Try.underlying28
  have HR0 := Aside0.mk hr0
  have HC0 := Aside0.mk hc0
  clear hr0 hc0
  have HR1_0 := Aside0.mk hr1_0
  have HC1_0 := Aside0.mk hc1_0
  clear hr1_0 hc1_0
  have HR1_4 := Aside0.mk hr1_4
  have HC1_4 := Aside0.mk hc1_4
  clear hr1_4 hc1_4
  have HB := Aside0.mk (Below.refl w.heap.size w)
  have H : ((some (([] : List Int) : List Int)).bind fun y554 => ((spec_MemOk.f k l0 l1_0 a1_1 a1_2 a1_3 l1_4).bind fun t557 => (if t557 = true then ((spec_l21Walk.f k l0 l1_0 a1_1 a1_2 a1_3 l1_4).bind fun bt558 => (spec_MemWalk.l0 k y554 bt558.1 0)) else (some y554)))) = some r := h
  clear h
  obtain ⟨y554, hy554⟩ : ∃ y_ : List Int, y_ = (([] : List Int)) := ⟨_, rfl⟩
  replace H : ((spec_MemOk.f k l0 l1_0 a1_1 a1_2 a1_3 l1_4).bind fun t557 => (if t557 = true then ((spec_l21Walk.f k l0 l1_0 a1_1 a1_2 a1_3 l1_4).bind fun bt558 => (spec_MemWalk.l0 k y554 bt558.1 0)) else (some y554))) = some r := by first | (rw [hy554]; with_reducible exact H) | (have H2_ := (Option.bind_some _ _).symm.trans H; rw [hy554]; with_reducible exact H2_) | (have H2_ := (Option.bind_some _ _).symm.trans H; with_reducible exact H2_) | with_reducible exact H | (rw [hy554]; exact H) | exact H
  have Ny554 := Aside0.mk hy554
  clear hy554
  replace H := Option.bind_eq_some_iff.mp H
  obtain ⟨t557, A30, H⟩ := H
  replace H : (if t557 = true then ((spec_l21Walk.f k l0 l1_0 a1_1 a1_2 a1_3 l1_4).bind fun bt558 => (spec_MemWalk.l0 k y554 bt558.1 0)) else (some y554)) = some r := H
  have A3 := Aside0.mk A30
  clear A30
  by_cases c4 : t557 = true
  · subst c4
    have H1 : ((spec_l21Walk.f k l0 l1_0 a1_1 a1_2 a1_3 l1_4).bind fun bt558 => (spec_MemWalk.l0 k y554 bt558.1 0)) = some r := by rw [if_pos rfl] at H; exact H
    clear H
    have H := H1
    clear H1
    replace H := Option.bind_eq_some_iff.mp H
    obtain ⟨⟨t558, t561⟩, A50, H⟩ := H
    replace H : (spec_MemWalk.l0 k y554 t558 0) = some r := H
    have A5 := Aside0.mk A50
    clear A50
    have H' := Aside0.mk H
    clear H
    go_enter Try.func26, Try.ntmps26
    go_wp2_with (first | ((with_reducible refine gate_dst (N := 3) rfl ?_); refine box_event ?hg (N := 3) ?hd (cs := #[.slice A1_0 l1_0.length c1_0, .int .i64 a1_1, .int .i64 a1_2, .int .i64 a1_3, .slice A1_4 l1_4.length c1_4]) (t := 28) ?hr ?_; (case hd => rfl); (case hg => rfl); (case hr => first | (go_simp; done) | (go_simp; rfl)); intro gb553 hg w6 hbox hb; have n0_ := Aside0.mk (below_step (by repeat (first | (with_reducible first | exact HB.out | apply below_alloc | apply pw_below_drewN | apply below_drew1) | exact HB.out)) hb); have n1_ := Aside0.mk (hbox); have n2_ := Aside0.mk ((by rw [hg]; exact (below_size (by repeat (first | (with_reducible first | exact HB.out | apply below_alloc | apply pw_below_drewN | apply below_drew1) | exact HB.out))) : w.heap.size ≤ gb553)); have n3_ := Aside0.mk ((by rw [hg]; exact (below_size (by repeat (first | (with_reducible first | exact HB.out | apply below_alloc | apply pw_below_drewN | apply below_drew1) | exact HB.out))) : w.heap.size ≤ gb553)); clear HB; have HB := n0_; have BK553 := n1_; have GW553 := n2_; have GE553 := n3_; clear n0_ n1_ n2_ n3_; clear hb hbox hg) | ((with_reducible refine gate_dst (N := 9) rfl ?_); refine Kd.R_lit (Kd.int .i64) _ 3 ?hg (N := 9) ?hd (xs := ([] : List Int)) (inner := []) (ok := fun _ => True) (okp := fun _ => True) ?hr ?hp (fun _ hk => hk) trivial (Below.refl _ _) (Nat.le_refl _) (by simp) ?_; (case hd => rfl); (case hg => rfl); (case hr => first | (go_simp; done) | (go_simp; rfl)); (case hp => exact (Reps.none _ _)); intro v555 w7 ho8 hb hg_ hnew_; clear hg_ hnew_; (first | rw [← Ny554.out] at ho8 | (simp only [Int.reduceToNat] at ho8; rw [← Ny554.out] at ho8)); have n0_ := Aside0.mk (Kd.R_lower ho8 (below_size (by repeat (first | (with_reducible first | exact HB.out | apply below_alloc | apply pw_below_drewN | apply below_drew1 | refine below_set ?_ GE553.out) | exact HB.out)))); have n1_ := Aside0.mk (blk_below (g := gb553) (o := .cells #[.slice A1_0 l1_0.length c1_0, .int .i64 a1_1, .int .i64 a1_2, .int .i64 a1_3, .slice A1_4 l1_4.length c1_4] 28 (0, 0)) (by (with_reducible repeat (first | refine blk_drewN ?_ _ | refine blk_drew ?_ | refine blk_alloc ?_ _)); exact BK553.out) hb); have n2_ := Aside0.mk (below_step (by repeat (first | (with_reducible first | exact HB.out | apply below_alloc | apply pw_below_drewN | apply below_drew1 | refine below_set ?_ GE553.out) | exact HB.out)) hb); clear BK553; clear HB; have HO556 := n0_; have BK553 := n1_; have HB := n2_; clear n0_ n1_ n2_; clear hb ho8; have hcz9_0 : w7.cell? ⟨gb553, 0, none⟩ = some (.slice A1_0 l1_0.length c1_0) := (blk_cell BK553.out 0).trans rfl; have hcz9_1 : w7.cell? ⟨gb553, 1, none⟩ = some (.int .i64 a1_1) := (blk_cell BK553.out 1).trans rfl; have hcz9_2 : w7.cell? ⟨gb553, 2, none⟩ = some (.int .i64 a1_2) := (blk_cell BK553.out 2).trans rfl; have hcz9_3 : w7.cell? ⟨gb553, 3, none⟩ = some (.int .i64 a1_3) := (blk_cell BK553.out 3).trans rfl; have hcz9_4 : w7.cell? ⟨gb553, 4, none⟩ = some (.slice A1_4 l1_4.length c1_4) := (blk_cell BK553.out 4).trans rfl; have hfz9_0 := blk_frozen BK553.out 0; have hfz9_1 := blk_frozen BK553.out 1; have hfz9_2 := blk_frozen BK553.out 2; have hfz9_3 := blk_frozen BK553.out 3; have hfz9_4 := blk_frozen BK553.out 4) | ((with_reducible refine gate_callee (f := 17) rfl ?_); refine goesL_ (some 12) rfl rfl Try.func17 (by kernel_rfl) rfl #[.slice A0 l0.length c0, .agg #[.slice A1_0 l1_0.length c1_0, .int .i64 a1_1, .int .i64 a1_2, .int .i64 a1_3, .slice A1_4 l1_4.length c1_4]] rfl (by (try simp only [List.map_toArray, List.map_cons, List.map_nil]); first | done | rfl | (simp only [List.length_drop, List.length_take]; rfl)) ?_; (with_reducible refine (spec_MemOk.calls k _ _ l0 _ _ l1_0 a1_1 a1_2 a1_3 _ _ l1_4 true _ ?side1 ?side2 ?side3 ?side4 ?side5 ?side6 A3.out).mono ?_); (case side1 => repeat (first | exact (Kd.C_below HR0.out HB.out) | (with_reducible refine Kd.C_alloc ?_ _) | (with_reducible refine Kd.C_drewN ?_ _) | (with_reducible refine Kd.C_drew ?_))); (case side2 => exact HC0.out); (case side3 => repeat (first | exact (Kd.C_below HR1_0.out HB.out) | (with_reducible refine Kd.C_alloc ?_ _) | (with_reducible refine Kd.C_drewN ?_ _) | (with_reducible refine Kd.C_drew ?_))); (case side4 => exact HC1_0.out); (case side5 => repeat (first | exact (Kd.C_below HR1_4.out HB.out) | (with_reducible refine Kd.C_alloc ?_ _) | (with_reducible refine Kd.C_drewN ?_ _) | (with_reducible refine Kd.C_drew ?_))); (case side6 => exact HC1_4.out); rintro e w10 ⟨rfl, hb⟩; refine ⟨_, rfl, ?_⟩; have n0_ := Aside0.mk (Kd.R_below (by (with_reducible repeat (first | apply Kd.R_alloc | apply Kd.R_drewN | apply Kd.R_drew)); exact HO556.out) hb); have n1_ := Aside0.mk (blk_below (g := gb553) (o := .cells #[.slice A1_0 l1_0.length c1_0, .int .i64 a1_1, .int .i64 a1_2, .int .i64 a1_3, .slice A1_4 l1_4.length c1_4] 28 (0, 0)) (by (with_reducible repeat (first | refine blk_drewN ?_ _ | refine blk_drew ?_ | refine blk_alloc ?_ _)); exact BK553.out) hb); have n2_ := Aside0.mk (below_step (by repeat (first | (with_reducible first | exact HB.out | apply below_alloc | apply pw_below_drewN | apply below_drew1 | refine below_set ?_ GE553.out) | exact HB.out)) hb); clear HO556; clear BK553; clear HB; have HO556 := n0_; have BK553 := n1_; have HB := n2_; clear n0_ n1_ n2_; (try clear hb); (try clear hb2); (try clear hk); (try clear hi); have hcz11_0 : w10.cell? ⟨gb553, 0, none⟩ = some (.slice A1_0 l1_0.length c1_0) := (blk_cell BK553.out 0).trans rfl; have hcz11_1 : w10.cell? ⟨gb553, 1, none⟩ = some (.int .i64 a1_1) := (blk_cell BK553.out 1).trans rfl; have hcz11_2 : w10.cell? ⟨gb553, 2, none⟩ = some (.int .i64 a1_2) := (blk_cell BK553.out 2).trans rfl; have hcz11_3 : w10.cell? ⟨gb553, 3, none⟩ = some (.int .i64 a1_3) := (blk_cell BK553.out 3).trans rfl; have hcz11_4 : w10.cell? ⟨gb553, 4, none⟩ = some (.slice A1_4 l1_4.length c1_4) := (blk_cell BK553.out 4).trans rfl; have hfz11_0 := blk_frozen BK553.out 0; have hfz11_1 := blk_frozen BK553.out 1; have hfz11_2 := blk_frozen BK553.out 2; have hfz11_3 := blk_frozen BK553.out 3; have hfz11_4 := blk_frozen BK553.out 4) | ((with_reducible refine gate_callee (f := 44) rfl ?_); refine goesL_ (some 18) rfl rfl Try.func44 (by kernel_rfl) rfl #[.slice A0 l0.length c0, .agg #[.slice A1_0 l1_0.length c1_0, .int .i64 a1_1, .int .i64 a1_2, .int .i64 a1_3, .slice A1_4 l1_4.length c1_4]] rfl (by (try simp only [List.map_toArray, List.map_cons, List.map_nil]); first | done | rfl | (simp only [List.length_drop, List.length_take]; rfl)) ?_; (with_reducible refine (spec_l21Walk.calls k _ _ l0 _ _ l1_0 a1_1 a1_2 a1_3 _ _ l1_4 t558 t561 _ ?side1 ?side2 ?side3 ?side4 ?side5 ?side6 A5.out).mono ?_); (case side1 => repeat (first | exact (Kd.C_below HR0.out HB.out) | (with_reducible refine Kd.C_alloc ?_ _) | (with_reducible refine Kd.C_drewN ?_ _) | (with_reducible refine Kd.C_drew ?_))); (case side2 => exact HC0.out); (case side3 => repeat (first | exact (Kd.C_below HR1_0.out HB.out) | (with_reducible refine Kd.C_alloc ?_ _) | (with_reducible refine Kd.C_drewN ?_ _) | (with_reducible refine Kd.C_drew ?_))); (case side4 => exact HC1_0.out); (case side5 => repeat (first | exact (Kd.C_below HR1_4.out HB.out) | (with_reducible refine Kd.C_alloc ?_ _) | (with_reducible refine Kd.C_drewN ?_ _) | (with_reducible refine Kd.C_drew ?_))); (case side6 => exact HC1_4.out); rintro e w12 ⟨v559, rfl, ho0, hb⟩; refine ⟨_, rfl, ?_⟩; have n0_ := Aside0.mk (Kd.R_elder' (by (with_reducible repeat (first | apply Kd.R_alloc | apply Kd.R_drewN | apply Kd.R_drew)); exact HO556.out) (Kd.R_base ho0) hb); have n1_ := Aside0.mk (Kd.R_lower (Kd.R_new' ho0 (Kd.R_lt (by (with_reducible repeat (first | apply Kd.R_alloc | apply Kd.R_drewN | apply Kd.R_drew)); exact HO556.out))) (below_size (by repeat (first | (with_reducible first | exact HB.out | apply below_alloc | apply pw_below_drewN | apply below_drew1 | refine below_set ?_ GE553.out) | exact HB.out)))); have n2_ := Aside0.mk (blk_below (g := gb553) (o := .cells #[.slice A1_0 l1_0.length c1_0, .int .i64 a1_1, .int .i64 a1_2, .int .i64 a1_3, .slice A1_4 l1_4.length c1_4] 28 (0, 0)) (by (with_reducible repeat (first | refine blk_drewN ?_ _ | refine blk_drew ?_ | refine blk_alloc ?_ _)); exact BK553.out) hb); have n3_ := Aside0.mk (below_step (by repeat (first | (with_reducible first | exact HB.out | apply below_alloc | apply pw_below_drewN | apply below_drew1 | refine below_set ?_ GE553.out) | exact HB.out)) hb); clear HO556; clear BK553; clear HB; have HO556 := n0_; have HO560 := n1_; have BK553 := n2_; have HB := n3_; clear n0_ n1_ n2_ n3_; (try clear hb); (try clear hb2); (try clear hk); (try clear hi); (try clear ho0)))
    go_loopg [5, 8] k (fun kq v5 v8 w' => ∃ (x5_1 : List Int) (x8_1 : Int), v8 = .int .i64 x8_1 ∧ Aside0 (spec_MemWalk.l0 kq x5_1 t558 x8_1 = some r) ∧ Aside0 (kq ≤ k) ∧ Aside0 (Kd.R (Kd.int .i64) 3 w' w.heap.size (fun k_ => some k_ ≠ (v559 : Value).ownBlock) v5 x5_1) ∧ Aside0 (Kd.R (Kd.int .i64) 3 w' w.heap.size (fun k_ => some k_ ≠ (v5 : Value).ownBlock) v559 t558) ∧ Aside0 (w'.heap[gb553]? = some (.cells #[(.slice A1_0 l1_0.length c1_0), .int .i64 a1_1, .int .i64 a1_2, .int .i64 a1_3, (.slice A1_4 l1_4.length c1_4)] 28 (0, 0))) ∧ Aside0 (Below w.heap.size w w'))
    case atStart => exact ⟨(y554), (0), (by first | rfl | (simp; done) | (simp [*]; done)), H', ⟨Nat.le_refl _⟩, ⟨by (with_reducible repeat (first | apply Kd.R_alloc | apply Kd.R_drewN | apply Kd.R_drew)); exact Kd.R_mono HO556.out (fun _ hk => hk.2)⟩, ⟨by (with_reducible repeat (first | apply Kd.R_alloc | apply Kd.R_drewN | apply Kd.R_drew)); exact Kd.R_mono HO560.out (fun _ hk => hk.2)⟩, ⟨by (with_reducible repeat (first | refine blk_drewN ?_ _ | refine blk_drew ?_ | refine blk_alloc ?_ _)); exact BK553.out⟩, ⟨by repeat (first | (with_reducible first | exact HB.out | apply below_alloc | apply pw_below_drewN | apply below_drew1 | refine below_set ?_ GE553.out) | exact HB.out)⟩⟩
    case round =>
      clear H'
      try clear c1
      try clear c2
      try clear p2
      try clear c4
      try clear hcz11_0
      try clear hcz11_1
      try clear hcz11_2
      try clear hcz11_3
      try clear hcz11_4
      try clear hcz9_0
      try clear hcz9_1
      try clear hcz9_2
      try clear hcz9_3
      try clear hcz9_4
      try clear hfz11_0
      try clear hfz11_1
      try clear hfz11_2
      try clear hfz11_3
      try clear hfz11_4
      try clear hfz9_0
      try clear hfz9_1
      try clear hfz9_2
      try clear hfz9_3
      try clear hfz9_4
      obtain ⟨x5_1, x8_1, rfl, HA, HK1, HO_5, HO_6, BK553, HB⟩ := hrel
      cases gk with
      | zero => exact absurd HA.out (by simp [spec_MemWalk.l0])
      | succ k1 =>
        have H := HA.out
        clear HA
        simp only [spec_MemWalk.l0] at H
        by_cases c13 : x8_1 < (t558.length : Int)
        · rw [if_pos c13] at H
          have c13b0 : decide (x8_1 < (t558.length : Int)) = true := decide_eq_true c13
          clear c13
          by_cases c14 : 0 ≤ x8_1
          · rw [if_pos c14] at H
            have c14b0 : decide (0 ≤ x8_1) = true := decide_eq_true c14
            clear c14
            by_cases c15 : x5_1.length < 17592186044416
            · rw [if_pos c15] at H
              have LMc15 := Aside0.mk c15
              clear c15
              obtain ⟨y563, hy563⟩ : ∃ y_ : List Int, y_ = (x5_1 ++ [wrap64 ((rd t558 x8_1) + 1)]) := ⟨_, rfl⟩
              replace H : (spec_MemWalk.l0 k1 y563 t558 (wrap64 (x8_1 + 1))) = some r := by first | (rw [hy563]; with_reducible exact H) | (have H2_ := (Option.bind_some _ _).symm.trans H; rw [hy563]; with_reducible exact H2_) | (have H2_ := (Option.bind_some _ _).symm.trans H; with_reducible exact H2_) | with_reducible exact H | (rw [hy563]; exact H) | exact H
              have Ny563 := Aside0.mk hy563
              clear hy563
              have H' := Aside0.mk H
              clear H
              obtain ⟨Ao16, co16, eo16⟩ := Kd.R_slice HO_6.out
              subst eo16
              have p562 : 0 ≤ (x8_1 : Int) := of_decide_eq_true (by first | (with_reducible assumption) | assumption)
              have q562 : x8_1 < (t558.length : Int) := of_decide_eq_true (by first | (with_reducible assumption) | assumption)
              obtain ⟨ad562, e562, hx562_0⟩ := Kd.at_int (Kd.R_reads' HO_6.out).2.2 x8_1 p562 q562
              cases e562
              replace p562 := eq_true p562
              replace q562 := eq_true q562
              go_wp2_with (first | ((with_reducible refine gate_builtin (b := .append) (xs := #[.tmp 27, .tmp 33]) rfl ?_); at_builtin; refine Kd.R_append (Kd.int .i64) (w0 := w) w.heap.size rfl (.tmp 27) (.tmp 33) 25 3 (.int .i64 0) 8 rfl Try.underlying25 info3 rfl (by decide) (by omega) u5 x5_1 (wrap64 ((rd t558 x8_1) + 1)) [.int .i64 (wrap64 ((rd t558 x8_1) + 1))] (fun k_ => some k_ ≠ (.slice (some ad562) t558.length co16 : Value).ownBlock) (fun _ => False) rfl rfl ?aP (fun _ hk => hk.elim) ?aF ?aO ?aB ?aS ?aL ?_; (case aP => exact rfl); (case aB => exact (by repeat (first | (with_reducible first | exact HB.out | apply below_alloc | apply pw_below_drewN | apply below_drew1 | refine below_set ?_ GE553.out) | exact HB.out))); (case aF => exact (fun k_ hk => Kd.fresh' (Kd.R_lt (by (with_reducible repeat (first | apply Kd.R_alloc | apply Kd.R_drewN | apply Kd.R_drew)); exact HO_6.out)) k_ hk)); (case aO => exact (by (with_reducible repeat (first | apply Kd.R_alloc | apply Kd.R_drewN | apply Kd.R_drew)); exact HO_5.out)); (case aS => exact (below_size (by repeat (first | (with_reducible first | exact HB.out | apply below_alloc | apply pw_below_drewN | apply below_drew1 | refine below_set ?_ GE553.out) | exact HB.out)))); (case aL => have := LMc15.out; omega); intro v564 w17 ho hb hg hat; rw [← Ny563.out] at ho; have n0_ := Aside0.mk (Kd.R_after (ok := (fun _ => True)) (by (with_reducible repeat (first | apply Kd.R_alloc | apply Kd.R_drewN | apply Kd.R_drew)); exact Kd.R_mono HO_6.out (fun _ hk => ⟨trivial, hk⟩)) hg hat); have n1_ := Aside0.mk (blk_grown (g := gb553) (o := .cells #[.slice A1_0 l1_0.length c1_0, .int .i64 a1_1, .int .i64 a1_2, .int .i64 a1_3, .slice A1_4 l1_4.length c1_4] 28 (0, 0)) (by (with_reducible repeat (first | refine blk_drewN ?_ _ | refine blk_drew ?_ | refine blk_alloc ?_ _)); exact BK553.out) hg (Kd.R_ne HO_5.out BK553.out (by decide))); have n2_ := Aside0.mk (hb); have n3_ := Aside0.mk (ho); clear HO_6; clear BK553; clear HB; clear HO_5; have HO_6 := n0_; have BK553 := n1_; have HB := n2_; have HO565 := n3_; clear n0_ n1_ n2_ n3_; clear ho hb hg hat))
              go_roundg k1
              case measure => have := HK1.out; omega
              case rel => exact ⟨(y563), (wrap64 (x8_1 + 1)), (by first | rfl | (simp; done) | (simp [*]; done)), H', ⟨by have := HK1.out; omega⟩, ⟨by (with_reducible repeat (first | apply Kd.R_alloc | apply Kd.R_drewN | apply Kd.R_drew)); exact HO565.out⟩, ⟨by (with_reducible repeat (first | apply Kd.R_alloc | apply Kd.R_drewN | apply Kd.R_drew)); exact Kd.R_mono HO_6.out (fun _ hk => hk.2)⟩, ⟨by (with_reducible repeat (first | refine blk_drewN ?_ _ | refine blk_drew ?_ | refine blk_alloc ?_ _)); exact BK553.out⟩, ⟨by repeat (first | (with_reducible first | exact HB.out | apply below_alloc | apply pw_below_drewN | apply below_drew1 | refine below_set ?_ GE553.out) | exact HB.out)⟩⟩
            · rw [if_neg c15] at H
              exact absurd H (by simp)
          · rw [if_neg c14] at H
            exact absurd H (by simp)
        · rw [if_neg c13] at H
          have c13b0 : decide (x8_1 < (t558.length : Int)) = false := decide_eq_false c13
          clear c13
          obtain rfl := Option.some.inj H
          obtain ⟨Ao18, co18, eo18⟩ := Kd.R_slice HO_6.out
          subst eo18
          go_wp2
          go_ret
          exact ⟨_, by first | rfl | (simp [errW_none, errW_some] <;> rfl) | (simp [*, errW_none, errW_some] <;> rfl), by (with_reducible repeat (first | apply Kd.R_alloc | apply Kd.R_drewN | apply Kd.R_drew)); exact Kd.R_mono HO_5.out (fun _ hk => trivial), by repeat (first | (with_reducible first | exact HB.out | apply below_alloc | apply pw_below_drewN | apply below_drew1 | refine below_set ?_ GE553.out) | exact HB.out)⟩
  · replace c4 := Bool.eq_false_iff.mpr c4
    subst c4
    have H1 : (some y554) = some r := by rw [if_neg (show ¬ (false = true) by decide)] at H; exact H
    clear H
    have H := H1
    clear H1
    obtain rfl := Option.some.inj H
    go_enter Try.func26, Try.ntmps26
    go_wp2_with (first | ((with_reducible refine gate_dst (N := 3) rfl ?_); refine box_event ?hg (N := 3) ?hd (cs := #[.slice A1_0 l1_0.length c1_0, .int .i64 a1_1, .int .i64 a1_2, .int .i64 a1_3, .slice A1_4 l1_4.length c1_4]) (t := 28) ?hr ?_; (case hd => rfl); (case hg => rfl); (case hr => first | (go_simp; done) | (go_simp; rfl)); intro gb553 hg w19 hbox hb; have n0_ := Aside0.mk (below_step (by repeat (first | (with_reducible first | exact HB.out | apply below_alloc | apply pw_below_drewN | apply below_drew1) | exact HB.out)) hb); have n1_ := Aside0.mk (hbox); have n2_ := Aside0.mk ((by rw [hg]; exact (below_size (by repeat (first | (with_reducible first | exact HB.out | apply below_alloc | apply pw_below_drewN | apply below_drew1) | exact HB.out))) : w.heap.size ≤ gb553)); have n3_ := Aside0.mk ((by rw [hg]; exact (below_size (by repeat (first | (with_reducible first | exact HB.out | apply below_alloc | apply pw_below_drewN | apply below_drew1) | exact HB.out))) : w.heap.size ≤ gb553)); clear HB; have HB := n0_; have BK553 := n1_; have GW553 := n2_; have GE553 := n3_; clear n0_ n1_ n2_ n3_; clear hb hbox hg) | ((with_reducible refine gate_dst (N := 9) rfl ?_); refine Kd.R_lit (Kd.int .i64) _ 3 ?hg (N := 9) ?hd (xs := ([] : List Int)) (inner := []) (ok := fun _ => True) (okp := fun _ => True) ?hr ?hp (fun _ hk => hk) trivial (Below.refl _ _) (Nat.le_refl _) (by simp) ?_; (case hd => rfl); (case hg => rfl); (case hr => first | (go_simp; done) | (go_simp; rfl)); (case hp => exact (Reps.none _ _)); intro v555 w20 ho21 hb hg_ hnew_; clear hg_ hnew_; (first | rw [← Ny554.out] at ho21 | (simp only [Int.reduceToNat] at ho21; rw [← Ny554.out] at ho21)); have n0_ := Aside0.mk (Kd.R_lower ho21 (below_size (by repeat (first | (with_reducible first | exact HB.out | apply below_alloc | apply pw_below_drewN | apply below_drew1 | refine below_set ?_ GE553.out) | exact HB.out)))); have n1_ := Aside0.mk (blk_below (g := gb553) (o := .cells #[.slice A1_0 l1_0.length c1_0, .int .i64 a1_1, .int .i64 a1_2, .int .i64 a1_3, .slice A1_4 l1_4.length c1_4] 28 (0, 0)) (by (with_reducible repeat (first | refine blk_drewN ?_ _ | refine blk_drew ?_ | refine blk_alloc ?_ _)); exact BK553.out) hb); have n2_ := Aside0.mk (below_step (by repeat (first | (with_reducible first | exact HB.out | apply below_alloc | apply pw_below_drewN | apply below_drew1 | refine below_set ?_ GE553.out) | exact HB.out)) hb); clear BK553; clear HB; have HO556 := n0_; have BK553 := n1_; have HB := n2_; clear n0_ n1_ n2_; clear hb ho21; have hcz22_0 : w20.cell? ⟨gb553, 0, none⟩ = some (.slice A1_0 l1_0.length c1_0) := (blk_cell BK553.out 0).trans rfl; have hcz22_1 : w20.cell? ⟨gb553, 1, none⟩ = some (.int .i64 a1_1) := (blk_cell BK553.out 1).trans rfl; have hcz22_2 : w20.cell? ⟨gb553, 2, none⟩ = some (.int .i64 a1_2) := (blk_cell BK553.out 2).trans rfl; have hcz22_3 : w20.cell? ⟨gb553, 3, none⟩ = some (.int .i64 a1_3) := (blk_cell BK553.out 3).trans rfl; have hcz22_4 : w20.cell? ⟨gb553, 4, none⟩ = some (.slice A1_4 l1_4.length c1_4) := (blk_cell BK553.out 4).trans rfl; have hfz22_0 := blk_frozen BK553.out 0; have hfz22_1 := blk_frozen BK553.out 1; have hfz22_2 := blk_frozen BK553.out 2; have hfz22_3 := blk_frozen BK553.out 3; have hfz22_4 := blk_frozen BK553.out 4) | ((with_reducible refine gate_callee (f := 17) rfl ?_); refine goesL_ (some 12) rfl rfl Try.func17 (by kernel_rfl) rfl #[.slice A0 l0.length c0, .agg #[.slice A1_0 l1_0.length c1_0, .int .i64 a1_1, .int .i64 a1_2, .int .i64 a1_3, .slice A1_4 l1_4.length c1_4]] rfl (by (try simp only [List.map_toArray, List.map_cons, List.map_nil]); first | done | rfl | (simp only [List.length_drop, List.length_take]; rfl)) ?_; (with_reducible refine (spec_MemOk.calls k _ _ l0 _ _ l1_0 a1_1 a1_2 a1_3 _ _ l1_4 false _ ?side1 ?side2 ?side3 ?side4 ?side5 ?side6 A3.out).mono ?_); (case side1 => repeat (first | exact (Kd.C_below HR0.out HB.out) | (with_reducible refine Kd.C_alloc ?_ _) | (with_reducible refine Kd.C_drewN ?_ _) | (with_reducible refine Kd.C_drew ?_))); (case side2 => exact HC0.out); (case side3 => repeat (first | exact (Kd.C_below HR1_0.out HB.out) | (with_reducible refine Kd.C_alloc ?_ _) | (with_reducible refine Kd.C_drewN ?_ _) | (with_reducible refine Kd.C_drew ?_))); (case side4 => exact HC1_0.out); (case side5 => repeat (first | exact (Kd.C_below HR1_4.out HB.out) | (with_reducible refine Kd.C_alloc ?_ _) | (with_reducible refine Kd.C_drewN ?_ _) | (with_reducible refine Kd.C_drew ?_))); (case side6 => exact HC1_4.out); rintro e w23 ⟨rfl, hb⟩; refine ⟨_, rfl, ?_⟩; have n0_ := Aside0.mk (Kd.R_below (by (with_reducible repeat (first | apply Kd.R_alloc | apply Kd.R_drewN | apply Kd.R_drew)); exact HO556.out) hb); have n1_ := Aside0.mk (blk_below (g := gb553) (o := .cells #[.slice A1_0 l1_0.length c1_0, .int .i64 a1_1, .int .i64 a1_2, .int .i64 a1_3, .slice A1_4 l1_4.length c1_4] 28 (0, 0)) (by (with_reducible repeat (first | refine blk_drewN ?_ _ | refine blk_drew ?_ | refine blk_alloc ?_ _)); exact BK553.out) hb); have n2_ := Aside0.mk (below_step (by repeat (first | (with_reducible first | exact HB.out | apply below_alloc | apply pw_below_drewN | apply below_drew1 | refine below_set ?_ GE553.out) | exact HB.out)) hb); clear HO556; clear BK553; clear HB; have HO556 := n0_; have BK553 := n1_; have HB := n2_; clear n0_ n1_ n2_; (try clear hb); (try clear hb2); (try clear hk); (try clear hi)))
    go_ret
    exact ⟨_, by first | rfl | (simp [errW_none, errW_some] <;> rfl) | (simp [*, errW_none, errW_some] <;> rfl), by (with_reducible repeat (first | apply Kd.R_alloc | apply Kd.R_drewN | apply Kd.R_drew)); exact HO556.out, by repeat (first | (with_reducible first | exact HB.out | apply below_alloc | apply pw_below_drewN | apply below_drew1 | refine below_set ?_ GE553.out) | exact HB.out)⟩
end Go.Proofs.Ytjnbilfhpdkcbaa.K
namespace Go.Proofs.Ytjnbilfhpdkcbaa.K
open Go.RowKit Go.Proofs.YtjnbilfhpdkcbaaW.PrintWords Go.Proofs.YtjnbilfhpdkcbaaW.PrintLast Go.Proofs.YtjnbilfhpdkcbaaW.PrintMore
attribute [local go_sem] max2_int min2_int max_two min_two max_three min_three max_four min_four
set_option linter.unusedVariables false
set_option linter.unusedSimpArgs false
def laws_markIntS.l0 : Nat → List Int → Int → Int → Option (Int × List Int)
  | 0, _, _, _ => none
  | k + 1, x0, x1, x5 => if x5 < (x0.length : Int) then (if 0 ≤ x5 then (laws_markIntS.l0 k (x0.set (x5 : Int).toNat x1) (wrap64 (x1 + 1)) (wrap64 (x5 + 1))) else (none)) else (some (x1, x0))
def laws_markIntS.f (k : Nat) (l0 : List Int) (a1 : Int) : Option (Int × List Int) := laws_markIntS.l0 k l0 a1 0
theorem laws_markIntS.mono_l : ∀ k, (∀ y0 y1 y2, LeO (laws_markIntS.l0 k y0 y1 y2) (laws_markIntS.l0 (k + 1) y0 y1 y2))
  | 0 => fun _ _ _ r h => by simp [laws_markIntS.l0] at h
  | k + 1 => by
    have ih0 := laws_markIntS.mono_l k
    · intro y0 y1 y2
      unfold laws_markIntS.l0
      repeat' first
      | (with_reducible exact ih0 _ _ _)
      | (with_reducible exact LeO.refl _)
      | (with_reducible exact LeO.none _)
      | (with_reducible refine LeO.ite ?_ ?_)
      | (with_reducible refine LeO.bind ?_ (fun _ => ?_))
      | exact ih0 _ _ _
      | exact LeO.none _
      | refine LeO.ite ?_ ?_
      | refine LeO.bind ?_ (fun _ => ?_)
theorem laws_markIntS.mono : ∀ a0 a1 k, LeO (laws_markIntS.f k a0 a1) (laws_markIntS.f (k + 1) a0 a1) := by
  intro a0 a1 k
  have ih0 := laws_markIntS.mono_l k
  unfold laws_markIntS.f
  repeat' first
      | (with_reducible exact ih0 _ _ _)
      | (with_reducible exact LeO.refl _)
      | (with_reducible exact LeO.none _)
      | (with_reducible refine LeO.ite ?_ ?_)
      | (with_reducible refine LeO.bind ?_ (fun _ => ?_))
      | exact ih0 _ _ _
      | exact LeO.none _
      | refine LeO.ite ?_ ?_
      | refine LeO.bind ?_ (fun _ => ?_)
set_option maxHeartbeats 8000000 in
set_option maxRecDepth 100000 in
theorem laws_markIntS.calls (k : Nat) (P0_ : Nat → Prop) (u9000_ : Value) (l0 : List Int) (a1 : Int) (r1 : Int) (r2 : List Int) (w0 w : World) (hB : Below w0.heap.size w0 w) (ho0 : Kd.R (Kd.int .i64) 3 w w0.heap.size P0_ u9000_ l0) (h : laws_markIntS.f k l0 a1 = some (r1, r2)) :
    Calls Try.prog 30 #[u9000_, .int .i64 a1] w fun e w' => e = .returned (.int .i64 r1) ∧ Kd.R (Kd.int .i64) 3 w' w0.heap.size (fun k_ => (P0_ k_ ∨ w.heap.size ≤ k_)) u9000_ r2 ∧ Below w0.heap.size w0 w' ∧ Kept w w' (fun k_ => P0_ k_) := by
  have HO0 := Aside0.mk (show Kd.R (Kd.int .i64) 3 w w0.heap.size (fun k_ => (P0_ k_ ∨ w.heap.size ≤ k_)) u9000_ l0 from Kd.R_mono ho0 (fun k_ hk => (.inl hk)))
  have HK := Aside0.mk (Kept.refl w (fun k_ => P0_ k_))
  have HW0 := Aside0.mk hB.size
  have HB := Aside0.mk hB
  clear hB
  have H : (laws_markIntS.l0 k l0 a1 0) = some (r1, r2) := h
  clear h
  have H' := Aside0.mk H
  clear H
  go_enter Try.func30, Try.ntmps30
  go_wp2
  go_loopg [1, 5] k (fun kq v1 v5 w' => ∃ (x0_1 : List Int) (x1_1 : Int) (x5_1 : Int), v1 = .int .i64 x1_1 ∧ v5 = .int .i64 x5_1 ∧ Aside0 (laws_markIntS.l0 kq x0_1 x1_1 x5_1 = some (r1, r2)) ∧ Aside0 (kq ≤ k) ∧ Aside0 (Kd.R (Kd.int .i64) 3 w' w0.heap.size (fun k_ => (P0_ k_ ∨ w.heap.size ≤ k_)) u9000_ x0_1) ∧ Aside0 (Kept w w' (fun k_ => P0_ k_)) ∧ Aside0 (Below w0.heap.size w0 w'))
  case atStart => exact ⟨(l0), (a1), (0), (by first | rfl | (simp; done) | (simp [*]; done)), (by first | rfl | (simp; done) | (simp [*]; done)), H', ⟨Nat.le_refl _⟩, ⟨by (with_reducible repeat (first | apply Kd.R_alloc | apply Kd.R_drewN | apply Kd.R_drew)); exact HO0.out⟩, ⟨by repeat (first | (with_reducible first | exact HK.out | apply Kept.alloc | apply Kept.drewN | apply Kept.drew) | exact HK.out)⟩, ⟨by repeat (first | (with_reducible first | exact HB.out | apply below_alloc | apply pw_below_drewN | apply below_drew1) | exact HB.out)⟩⟩
  case round =>
    clear H'
    try clear p2
    obtain ⟨x0_1, x1_1, x5_1, rfl, rfl, HA, HK1, HO_0, HK, HB⟩ := hrel
    cases gk with
    | zero => exact absurd HA.out (by simp [laws_markIntS.l0])
    | succ k1 =>
      have H := HA.out
      clear HA
      simp only [laws_markIntS.l0] at H
      by_cases c3 : x5_1 < (x0_1.length : Int)
      · rw [if_pos c3] at H
        have c3b0 : decide (x5_1 < (x0_1.length : Int)) = true := decide_eq_true c3
        clear c3
        by_cases c4 : 0 ≤ x5_1
        · rw [if_pos c4] at H
          have c4b0 : decide (0 ≤ x5_1) = true := decide_eq_true c4
          clear c4
          obtain ⟨y566, hy566⟩ : ∃ y_ : List Int, y_ = (x0_1.set (x5_1 : Int).toNat x1_1) := ⟨_, rfl⟩
          replace H : (laws_markIntS.l0 k1 y566 (wrap64 (x1_1 + 1)) (wrap64 (x5_1 + 1))) = some (r1, r2) := by first | (rw [hy566]; with_reducible exact H) | (have H2_ := (Option.bind_some _ _).symm.trans H; rw [hy566]; with_reducible exact H2_) | (have H2_ := (Option.bind_some _ _).symm.trans H; with_reducible exact H2_) | with_reducible exact H | (rw [hy566]; exact H) | exact H
          have Ny566 := Aside0.mk hy566
          clear hy566
          have H' := Aside0.mk H
          clear H
          obtain ⟨Ao6, co6, eo6⟩ := Kd.R_slice HO_0.out
          subst eo6
          have p5 : 0 ≤ (x5_1 : Int) := of_decide_eq_true (by first | (with_reducible assumption) | assumption)
          have q5 : (x5_1 : Int) < ((x0_1.length : Int) : Int) := of_decide_eq_true (by first | (with_reducible assumption) | assumption)
          obtain ⟨go5, co5, eo5, gb5, gl5, cl5, HG5⟩ := Kd.R_form HO_0.out (by omega)
          (first | cases eo5 | (injection eo5 with ea_ en_ ec_; (first | subst ea_ | (injection ea_ with ea_; subst ea_)); subst ec_; clear en_))
          have GB5 := Aside0.mk gb5
          have GG5 := Aside0.mk HG5
          clear gb5 gl5 HG5
          have HMgo5 := Aside0.mk (show (P0_ go5 ∨ w.heap.size ≤ go5) from (HO_0.out.1 _ rfl))
          obtain ⟨hx5_0, hf5_0⟩ := Kd.R_celln 0 HO_0.out (x5_1 : Int) p5 q5
          replace p5 := eq_true p5
          replace q5 := eq_true q5
          have HP7 := Kd.R_putg HO_0.out (x5_1 : Int) x1_1
          go_wp2_with (first | ((with_reducible refine gate_store (t := 3) (p := 15) rfl ?_); refine store_event (t := 3) (p := 15) (v := ?vo_w8) (w1 := (wr.setCell ⟨go5, (x5_1 : Int).toNat, none⟩ (.int .i64 x1_1))) ?hg ?ho ?hn ?hr ?_; (case ho => rfl); (case hg => rfl); (case hn => rfl); (case hr => first | (go_simp; done) | (go_simp; rfl) | ((try (first | (obtain ⟨_, _, rfl⟩ := Kd.R_slice HO_0.out) | (obtain ⟨_, _, rfl⟩ := Kd.S_slice HO_0.out))); first | (go_simp; done) | (go_simp; rfl))); intro w8 hw; have hg : wr.grownBy w8 (some go5) := (by rw [hw]; exact HP7.2); have hp_ : Kd.R (Kd.int .i64) 3 w8 w0.heap.size (fun k_ => (P0_ k_ ∨ w.heap.size ≤ k_)) (.slice (some ⟨go5, 0, none⟩) x0_1.length co6) y566 := (by rw [hw, Ny566.out]; exact HP7.1); clear HP7; have n0_ := Aside0.mk (hp_); have n1_ := Aside0.mk ((by rw [hw]; exact below_set (HB.out) GB5.out : Below w0.heap.size w0 w8)); have n2_ := Aside0.mk (Kept.of_grown (S := (fun k_ => P0_ k_)) hg (by repeat (first | (with_reducible first | exact HK.out | apply Kept.alloc | apply Kept.drewN | apply Kept.drew) | exact HK.out)) (fun k_ e_ => (HO_0.out.1 k_ e_))); clear HO_0; clear HB; clear HK; have HO_0 := n0_; have HB := n1_; have HK := n2_; clear n0_ n1_ n2_; clear hg hw hp_))
          go_roundg k1
          case measure => have := HK1.out; omega
          case rel => exact ⟨(y566), (wrap64 (x1_1 + 1)), (wrap64 (x5_1 + 1)), (by first | rfl | (simp; done) | (simp [*]; done)), (by first | rfl | (simp; done) | (simp [*]; done)), H', ⟨by have := HK1.out; omega⟩, ⟨by (with_reducible repeat (first | apply Kd.R_alloc | apply Kd.R_drewN | apply Kd.R_drew)); exact HO_0.out⟩, ⟨by repeat (first | (with_reducible first | exact HK.out | apply Kept.alloc | apply Kept.drewN | apply Kept.drew) | exact HK.out)⟩, ⟨by repeat (first | (with_reducible first | exact HB.out | apply below_alloc | apply pw_below_drewN | apply below_drew1) | exact HB.out)⟩⟩
        · rw [if_neg c4] at H
          exact absurd H (by simp)
      · rw [if_neg c3] at H
        have c3b0 : decide (x5_1 < (x0_1.length : Int)) = false := decide_eq_false c3
        clear c3
        simp only [Option.some.injEq, Prod.mk.injEq] at H
        obtain ⟨rfl, rfl⟩ := H
        obtain ⟨Ao9, co9, eo9⟩ := Kd.R_slice HO_0.out
        subst eo9
        go_wp2
        go_ret
        exact ⟨by first | rfl | (simp [errW_none, errW_some] <;> rfl) | (simp [*, errW_none, errW_some] <;> rfl), by (with_reducible repeat (first | apply Kd.R_alloc | apply Kd.R_drewN | apply Kd.R_drew)); exact HO_0.out, by repeat (first | (with_reducible first | exact HB.out | apply below_alloc | apply pw_below_drewN | apply below_drew1) | exact HB.out), by repeat (first | (with_reducible first | exact HK.out | apply Kept.alloc | apply Kept.drewN | apply Kept.drew) | exact HK.out)⟩
end Go.Proofs.Ytjnbilfhpdkcbaa.K
namespace Go.Proofs.Ytjnbilfhpdkcbaa.K
open Go.RowKit Go.Proofs.YtjnbilfhpdkcbaaW.PrintWords Go.Proofs.YtjnbilfhpdkcbaaW.PrintLast Go.Proofs.YtjnbilfhpdkcbaaW.PrintMore
attribute [local go_sem] max2_int min2_int max_two min_two max_three min_three max_four min_four
set_option linter.unusedVariables false
set_option linter.unusedSimpArgs false
def mcs (K : Nat) : List S32 → Int → Option Int
  | [], a => some a
  | x :: r, a => (laws_markIntS.f K x.f1 (wrap64 (a + 1))).bind fun p => mcs K r p.1
set_option maxHeartbeats 8000000 in
set_option maxRecDepth 100000 in
theorem laws_markClassS.calls (K : Nat) (P : Nat → Prop) (A : Option Addr) (n cap : Nat) (l : List S32) (a r : Int) (w0 w : World) (hB : Below w0.heap.size w0 w) (hs : Kd.S k32 32 w w0.heap.size P (.slice A n cap) l) (hl : l.length ≤ 1048576) (h : mcs K l a = some r) :
    Calls Try.prog 28 #[.slice A n cap, .int .i64 a] w fun e w' => e = .returned (.int .i64 r) ∧ Below w0.heap.size w0 w' ∧ Kept w w' P := by
  have HN := (Kd.R_reads' (Kd.S_R hs)).1
  subst HN
  have HS := Aside0.mk hs
  have HB := Aside0.mk hB
  have HL := Aside0.mk hl
  have HA := Aside0.mk h
  clear hs hB hl h
  go_enter Try.func28, Try.ntmps28
  go_wp2
  go_loopw [1, 5] (fun v1 v5 wr => ∃ (j : Nat) (b : Int) (l2 : List S32), v1 = .int .i64 b ∧ v5 = .int .i64 j ∧ l2.length = l.length ∧ j ≤ l.length ∧ Aside0 (mcs K (l2.drop j) b = some r) ∧ Aside0 (Kd.S k32 32 wr w0.heap.size P (.slice A l.length cap) l2) ∧ Aside0 (Below w0.heap.size w0 wr) ∧ Aside0 (Kept w wr P)) (fun _ v5 _ => l.length - (intOf v5).toNat)
  case atStart => exact ⟨0, a, l, rfl, rfl, rfl, Nat.zero_le _, by rw [List.drop_zero]; exact HA, HS, HB, ⟨Kept.refl _ _⟩⟩
  case round =>
    clear HA HS HB
    obtain ⟨j, b, l2, rfl, rfl, hl2, hj, HA, HS, HB, HK⟩ := hrel
    by_cases c : j < l.length
    · have d0 : decide ((j : Int) < l.length) = true := decide_eq_true (by omega)
      have hlt : j < l2.length := by omega
      obtain ⟨g, cp, hv, hbg, hgl, _⟩ := Kd.R_form (Kd.S_R HS.out) (by omega)
      injection hv with e1 e2 e3
      subst e1 e3
      have hPg : P g := (Kd.S_R HS.out).1 g (by simp [Value.ownBlock])
      obtain ⟨oki, cc, hcl, hM, hcc, hoki, hH⟩ := Kd.S_lend HS.out z32 (j : Int) (by omega) (by omega)
      obtain ⟨x, hx⟩ : ∃ x, x = l2.getD ((j : Int)).toNat z32 := ⟨_, rfl⟩
      rw [← hx] at hM
      obtain ⟨v1, hc1, hr1⟩ := k32_openM hM
      subst hc1
      obtain ⟨hc0, hfr⟩ := Kd.H_at hH (by omega) (by omega)
      have q0 : wr.cell? ⟨g, j * 2, none⟩ = some (.int .i64 x.f0) := hc0 0 _ rfl
      have f0 : wr.frozen? ⟨g, j * 2, none⟩ = false := hfr 0
      have hst : Kd.S k32 32 (wr.setCell ⟨g, j * 2, none⟩ (.int .i64 b)) w0.heap.size P (.slice (some ⟨g, 0, none⟩) l.length cap) (l2.set j ⟨b, x.f1⟩) := (Kd.S_seg0 (seg := [.int .i64 b]) (j := 0) (x' := ⟨b, x.f1⟩) hH (by omega) (by omega) (show 0 + 1 ≤ 2 by omega) (k32_mkM wr w0.heap.size oki ⟨b, x.f1⟩ hr1) (fun _ h => h)).1
      obtain ⟨oki2, cc2, hcl2, hM2, hcc2, hoki2, hH2⟩ := Kd.S_lend hst z32 (j : Int) (by omega) (by omega)
      have hx2 : (l2.set j ⟨b, x.f1⟩).getD ((j : Int)).toNat z32 = ⟨b, x.f1⟩ := by
        rw [Int.toNat_natCast, List.getD_eq_getElem?_getD, List.getElem?_set_self hlt]; rfl
      rw [hx2] at hM2
      obtain ⟨v2, hc2, hr2⟩ := k32_openM hM2
      subst hc2
      obtain ⟨A2, c2, rfl⟩ := Kd.R_slice hr2
      have q3 : (wr.setCell ⟨g, j * 2, none⟩ (.int .i64 b)).cell? ⟨g, j * 2 + 1, none⟩ = some (.slice A2 x.f1.length c2) := hcc2 1 _ rfl
      have ha := HA.out
      have hxe : l2[j] = x := by rw [hx, Int.toNat_natCast, List.getD_eq_getElem?_getD, List.getElem?_eq_getElem hlt]; rfl
      rw [List.drop_eq_getElem_cons hlt, hxe, mcs] at ha
      obtain ⟨⟨n1, n2⟩, hm, hrest⟩ := Option.bind_eq_some_iff.mp ha
      have HM := Aside0.mk hm
      have HRest := Aside0.mk hrest
      have HH := Aside0.mk hH2
      have HO2 := Aside0.mk hoki2
      have HR2 := Aside0.mk hr2
      have HPg := Aside0.mk hPg
      have HJ := Aside0.mk (show j < l2.length ∧ l2.length = l.length ∧ j < l.length from ⟨hlt, hl2, c⟩)
      have HB2 := Aside0.mk (HB.out.setCell (p := ⟨g, j * 2, none⟩) hbg (.int .i64 b))
      have HK2 := Aside0.mk (HK.out.setCell (p := ⟨g, j * 2, none⟩) (.inl hPg) (.int .i64 b))
      have p1 := eq_true (show (0 : Int) ≤ (j : Int) by omega)
      have p2 := eq_true (show (j : Int) < (l.length : Int) by omega)
      clear hH hM hoki hr1 hx hcc hc0 hfr hcl e2 hbg hgl hlt hl2 c hj hst hcl2 hM2 hcc2 hoki2 hH2 hx2 hr2 ha hxe hm hrest hPg HA HB HK HS
      go_wp2_with fail
      go_at_call 30
      refine (laws_markIntS.calls K oki2 (.slice A2 x.f1.length c2) x.f1 (wrap64 (b + 1)) n1 n2 w0 _ HB2.out HR2.out HM.out).mono ?_
      rintro e w3 ⟨rfl, hr3, hb3, hk3⟩
      have HB3 := Aside0.mk hb3
      have HK3 := Aside0.mk (HK2.out.then_ hk3 (fun k hk => .inl (HO2.out k hk).1))
      have HS3 := Aside0.mk (Kd.H_back (Kd.H_kept HH.out hk3 (fun _ _ hn => hn)) (x' := ⟨b, n2⟩) (k32_mkM w3 w0.heap.size oki2 ⟨b, n2⟩ (Kd.R_of_own (Kd.own_of_R hr3) HR2.out.1)) (fun _ h => h))
      clear hr3 hb3 hk3 q0 q3 f0
      go_wp2
      go_roundw
      case rel => exact ⟨j + 1, n1, _, rfl, by rw [show wrap64 ((j : Int) + 1) = ((j + 1 : Nat) : Int) by have := HL.out; have := HJ.out; unfold wrap64; omega], by rw [List.length_set, List.length_set]; exact HJ.out.2.1, by have := HJ.out; omega, ⟨by rw [Int.toNat_natCast, List.drop_set_of_lt (by omega), List.drop_set_of_lt (by omega)]; exact HRest.out⟩, HS3, HB3, HK3⟩
      case measure => rw [show wrap64 ((j : Int) + 1) = ((j + 1 : Nat) : Int) by have := HL.out; have := HJ.out; unfold wrap64; omega]; have := HJ.out; simp only [intOf, Int.toNat_natCast]; omega
    · have d0 : decide ((j : Int) < l.length) = false := decide_eq_false (by omega)
      have ha := HA.out
      rw [List.drop_eq_nil_of_le (by omega)] at ha
      have HR := Aside0.mk (Option.some.inj ha)
      clear ha
      go_wp2
      go_ret
      exact ⟨by rw [← HR.out]; rfl, HB.out, HK.out⟩
end Go.Proofs.Ytjnbilfhpdkcbaa.K
namespace Go.Proofs.Ytjnbilfhpdkcbaa.K
open Go.RowKit Go.Proofs.YtjnbilfhpdkcbaaW.PrintWords Go.Proofs.YtjnbilfhpdkcbaaW.PrintLast Go.Proofs.YtjnbilfhpdkcbaaW.PrintMore
attribute [local go_sem] max2_int min2_int max_two min_two max_three min_three max_four min_four
set_option linter.unusedVariables false
set_option linter.unusedSimpArgs false
def laws_markBoolS.l0 : Nat → List Bool → Int → Int → Option (Int × List Bool)
  | 0, _, _, _ => none
  | k + 1, x0, x1, x5 => if x5 < (x0.length : Int) then (if 0 ≤ x5 then (laws_markBoolS.l0 k (x0.set (x5 : Int).toNat ((Int.tmod x1 3) == 0)) (wrap64 (x1 + 1)) (wrap64 (x5 + 1))) else (none)) else (some (x1, x0))
def laws_markBoolS.f (k : Nat) (l0 : List Bool) (a1 : Int) : Option (Int × List Bool) := laws_markBoolS.l0 k l0 a1 0
theorem laws_markBoolS.mono_l : ∀ k, (∀ y0 y1 y2, LeO (laws_markBoolS.l0 k y0 y1 y2) (laws_markBoolS.l0 (k + 1) y0 y1 y2))
  | 0 => fun _ _ _ r h => by simp [laws_markBoolS.l0] at h
  | k + 1 => by
    have ih0 := laws_markBoolS.mono_l k
    · intro y0 y1 y2
      unfold laws_markBoolS.l0
      repeat' first
      | (with_reducible exact ih0 _ _ _)
      | (with_reducible exact LeO.refl _)
      | (with_reducible exact LeO.none _)
      | (with_reducible refine LeO.ite ?_ ?_)
      | (with_reducible refine LeO.bind ?_ (fun _ => ?_))
      | exact ih0 _ _ _
      | exact LeO.none _
      | refine LeO.ite ?_ ?_
      | refine LeO.bind ?_ (fun _ => ?_)
theorem laws_markBoolS.mono : ∀ a0 a1 k, LeO (laws_markBoolS.f k a0 a1) (laws_markBoolS.f (k + 1) a0 a1) := by
  intro a0 a1 k
  have ih0 := laws_markBoolS.mono_l k
  unfold laws_markBoolS.f
  repeat' first
      | (with_reducible exact ih0 _ _ _)
      | (with_reducible exact LeO.refl _)
      | (with_reducible exact LeO.none _)
      | (with_reducible refine LeO.ite ?_ ?_)
      | (with_reducible refine LeO.bind ?_ (fun _ => ?_))
      | exact ih0 _ _ _
      | exact LeO.none _
      | refine LeO.ite ?_ ?_
      | refine LeO.bind ?_ (fun _ => ?_)
set_option maxHeartbeats 8000000 in
set_option maxRecDepth 100000 in
theorem laws_markBoolS.calls (k : Nat) (P0_ : Nat → Prop) (u9000_ : Value) (l0 : List Bool) (a1 : Int) (r1 : Int) (r2 : List Bool) (w0 w : World) (hB : Below w0.heap.size w0 w) (ho0 : Kd.R Kd.bool 4 w w0.heap.size P0_ u9000_ l0) (h : laws_markBoolS.f k l0 a1 = some (r1, r2)) :
    Calls Try.prog 60 #[u9000_, .int .i64 a1] w fun e w' => e = .returned (.int .i64 r1) ∧ Kd.R Kd.bool 4 w' w0.heap.size (fun k_ => (P0_ k_ ∨ w.heap.size ≤ k_)) u9000_ r2 ∧ Below w0.heap.size w0 w' ∧ Kept w w' (fun k_ => P0_ k_) := by
  have HO0 := Aside0.mk (show Kd.R Kd.bool 4 w w0.heap.size (fun k_ => (P0_ k_ ∨ w.heap.size ≤ k_)) u9000_ l0 from Kd.R_mono ho0 (fun k_ hk => (.inl hk)))
  have HK := Aside0.mk (Kept.refl w (fun k_ => P0_ k_))
  have HW0 := Aside0.mk hB.size
  have HB := Aside0.mk hB
  clear hB
  have H : (laws_markBoolS.l0 k l0 a1 0) = some (r1, r2) := h
  clear h
  have H' := Aside0.mk H
  clear H
  go_enter Try.func60, Try.ntmps60
  go_wp2
  go_loopg [1, 5] k (fun kq v1 v5 w' => ∃ (x0_1 : List Bool) (x1_1 : Int) (x5_1 : Int), v1 = .int .i64 x1_1 ∧ v5 = .int .i64 x5_1 ∧ Aside0 (laws_markBoolS.l0 kq x0_1 x1_1 x5_1 = some (r1, r2)) ∧ Aside0 (kq ≤ k) ∧ Aside0 (Kd.R Kd.bool 4 w' w0.heap.size (fun k_ => (P0_ k_ ∨ w.heap.size ≤ k_)) u9000_ x0_1) ∧ Aside0 (Kept w w' (fun k_ => P0_ k_)) ∧ Aside0 (Below w0.heap.size w0 w'))
  case atStart => exact ⟨(l0), (a1), (0), (by first | rfl | (simp; done) | (simp [*]; done)), (by first | rfl | (simp; done) | (simp [*]; done)), H', ⟨Nat.le_refl _⟩, ⟨by (with_reducible repeat (first | apply Kd.R_alloc | apply Kd.R_drewN | apply Kd.R_drew)); exact HO0.out⟩, ⟨by repeat (first | (with_reducible first | exact HK.out | apply Kept.alloc | apply Kept.drewN | apply Kept.drew) | exact HK.out)⟩, ⟨by repeat (first | (with_reducible first | exact HB.out | apply below_alloc | apply pw_below_drewN | apply below_drew1) | exact HB.out)⟩⟩
  case round =>
    clear H'
    try clear p2
    obtain ⟨x0_1, x1_1, x5_1, rfl, rfl, HA, HK1, HO_0, HK, HB⟩ := hrel
    cases gk with
    | zero => exact absurd HA.out (by simp [laws_markBoolS.l0])
    | succ k1 =>
      have H := HA.out
      clear HA
      simp only [laws_markBoolS.l0] at H
      by_cases c3 : x5_1 < (x0_1.length : Int)
      · rw [if_pos c3] at H
        have c3b0 : decide (x5_1 < (x0_1.length : Int)) = true := decide_eq_true c3
        clear c3
        by_cases c4 : 0 ≤ x5_1
        · rw [if_pos c4] at H
          have c4b0 : decide (0 ≤ x5_1) = true := decide_eq_true c4
          clear c4
          obtain ⟨y567, hy567⟩ : ∃ y_ : List Bool, y_ = (x0_1.set (x5_1 : Int).toNat ((Int.tmod x1_1 3) == 0)) := ⟨_, rfl⟩
          replace H : (laws_markBoolS.l0 k1 y567 (wrap64 (x1_1 + 1)) (wrap64 (x5_1 + 1))) = some (r1, r2) := by first | (rw [hy567]; with_reducible exact H) | (have H2_ := (Option.bind_some _ _).symm.trans H; rw [hy567]; with_reducible exact H2_) | (have H2_ := (Option.bind_some _ _).symm.trans H; with_reducible exact H2_) | with_reducible exact H | (rw [hy567]; exact H) | exact H
          have Ny567 := Aside0.mk hy567
          clear hy567
          have H' := Aside0.mk H
          clear H
          obtain ⟨Ao6, co6, eo6⟩ := Kd.R_slice HO_0.out
          subst eo6
          have p5 : 0 ≤ (x5_1 : Int) := of_decide_eq_true (by first | (with_reducible assumption) | assumption)
          have q5 : (x5_1 : Int) < ((x0_1.length : Int) : Int) := of_decide_eq_true (by first | (with_reducible assumption) | assumption)
          obtain ⟨go5, co5, eo5, gb5, gl5, cl5, HG5⟩ := Kd.R_form HO_0.out (by omega)
          (first | cases eo5 | (injection eo5 with ea_ en_ ec_; (first | subst ea_ | (injection ea_ with ea_; subst ea_)); subst ec_; clear en_))
          have GB5 := Aside0.mk gb5
          have GG5 := Aside0.mk HG5
          clear gb5 gl5 HG5
          have HMgo5 := Aside0.mk (show (P0_ go5 ∨ w.heap.size ≤ go5) from (HO_0.out.1 _ rfl))
          obtain ⟨hx5_0, hf5_0⟩ := Kd.R_celln false HO_0.out (x5_1 : Int) p5 q5
          replace p5 := eq_true p5
          replace q5 := eq_true q5
          have HP7 := Kd.R_putg HO_0.out (x5_1 : Int) ((Int.tmod x1_1 3) == 0)
          go_wp2_with (first | ((with_reducible refine gate_store (t := 4) (p := 17) rfl ?_); refine store_event (t := 4) (p := 17) (v := ?vo_w8) (w1 := (wr.setCell ⟨go5, (x5_1 : Int).toNat, none⟩ (.bool ((Int.tmod x1_1 3) == 0)))) ?hg ?ho ?hn ?hr ?_; (case ho => rfl); (case hg => rfl); (case hn => rfl); (case hr => first | (go_simp; done) | (go_simp; rfl) | ((try (first | (obtain ⟨_, _, rfl⟩ := Kd.R_slice HO_0.out) | (obtain ⟨_, _, rfl⟩ := Kd.S_slice HO_0.out))); first | (go_simp; done) | (go_simp; rfl))); intro w8 hw; have hg : wr.grownBy w8 (some go5) := (by rw [hw]; exact HP7.2); have hp_ : Kd.R Kd.bool 4 w8 w0.heap.size (fun k_ => (P0_ k_ ∨ w.heap.size ≤ k_)) (.slice (some ⟨go5, 0, none⟩) x0_1.length co6) y567 := (by rw [hw, Ny567.out]; exact HP7.1); clear HP7; have n0_ := Aside0.mk (hp_); have n1_ := Aside0.mk ((by rw [hw]; exact below_set (HB.out) GB5.out : Below w0.heap.size w0 w8)); have n2_ := Aside0.mk (Kept.of_grown (S := (fun k_ => P0_ k_)) hg (by repeat (first | (with_reducible first | exact HK.out | apply Kept.alloc | apply Kept.drewN | apply Kept.drew) | exact HK.out)) (fun k_ e_ => (HO_0.out.1 k_ e_))); clear HO_0; clear HB; clear HK; have HO_0 := n0_; have HB := n1_; have HK := n2_; clear n0_ n1_ n2_; clear hg hw hp_))
          go_roundg k1
          case measure => have := HK1.out; omega
          case rel => exact ⟨(y567), (wrap64 (x1_1 + 1)), (wrap64 (x5_1 + 1)), (by first | rfl | (simp; done) | (simp [*]; done)), (by first | rfl | (simp; done) | (simp [*]; done)), H', ⟨by have := HK1.out; omega⟩, ⟨by (with_reducible repeat (first | apply Kd.R_alloc | apply Kd.R_drewN | apply Kd.R_drew)); exact HO_0.out⟩, ⟨by repeat (first | (with_reducible first | exact HK.out | apply Kept.alloc | apply Kept.drewN | apply Kept.drew) | exact HK.out)⟩, ⟨by repeat (first | (with_reducible first | exact HB.out | apply below_alloc | apply pw_below_drewN | apply below_drew1) | exact HB.out)⟩⟩
        · rw [if_neg c4] at H
          exact absurd H (by simp)
      · rw [if_neg c3] at H
        have c3b0 : decide (x5_1 < (x0_1.length : Int)) = false := decide_eq_false c3
        clear c3
        simp only [Option.some.injEq, Prod.mk.injEq] at H
        obtain ⟨rfl, rfl⟩ := H
        obtain ⟨Ao9, co9, eo9⟩ := Kd.R_slice HO_0.out
        subst eo9
        go_wp2
        go_ret
        exact ⟨by first | rfl | (simp [errW_none, errW_some] <;> rfl) | (simp [*, errW_none, errW_some] <;> rfl), by (with_reducible repeat (first | apply Kd.R_alloc | apply Kd.R_drewN | apply Kd.R_drew)); exact HO_0.out, by repeat (first | (with_reducible first | exact HB.out | apply below_alloc | apply pw_below_drewN | apply below_drew1) | exact HB.out), by repeat (first | (with_reducible first | exact HK.out | apply Kept.alloc | apply Kept.drewN | apply Kept.drew) | exact HK.out)⟩
end Go.Proofs.Ytjnbilfhpdkcbaa.K
namespace Go.Proofs.Ytjnbilfhpdkcbaa.K
open Go.RowKit Go.Proofs.YtjnbilfhpdkcbaaW.PrintWords Go.Proofs.YtjnbilfhpdkcbaaW.PrintLast Go.Proofs.YtjnbilfhpdkcbaaW.PrintMore
attribute [local go_sem] max2_int min2_int max_two min_two max_three min_three max_four min_four
set_option linter.unusedVariables false
set_option linter.unusedSimpArgs false
def laws_markMem.f (k : Nat) (l0_0 : List Int) (a0_1 : Int) (a0_2 : Int) (a0_3 : Int) (l0_4 : List Bool) (a1 : Int) : Option (Int × List Int × List Bool) := (laws_markIntS.f k l0_0 a1).bind fun bt569 => ((laws_markBoolS.f k l0_4 bt569.1).bind fun bt571 => (some (bt571.1, bt569.2, bt571.2)))
set_option maxHeartbeats 8000000 in
set_option maxRecDepth 100000 in
theorem laws_markMem.calls (k : Nat) (P0_0_ : Nat → Prop) (u9000_ : Value) (l0_0 : List Int) (a0_1 : Int) (a0_2 : Int) (a0_3 : Int) (P0_4_ : Nat → Prop) (u9001_ : Value) (l0_4 : List Bool) (a1 : Int) (r1 : Int) (r2 : List Int) (r3 : List Bool) (w0 w : World) (hB : Below w0.heap.size w0 w) (ho0_0 : Kd.R (Kd.int .i64) 3 w w0.heap.size P0_0_ u9000_ l0_0) (ho0_4 : Kd.R Kd.bool 4 w w0.heap.size P0_4_ u9001_ l0_4) (h : laws_markMem.f k l0_0 a0_1 a0_2 a0_3 l0_4 a1 = some (r1, r2, r3)) :
    Calls Try.prog 29 #[.agg #[u9000_, .int .i64 a0_1, .int .i64 a0_2, .int .i64 a0_3, u9001_], .int .i64 a1] w fun e w' => e = .returned (.int .i64 r1) ∧ Kd.R (Kd.int .i64) 3 w' w0.heap.size (fun k_ => ((P0_0_ k_ ∨ P0_4_ k_) ∨ w.heap.size ≤ k_)) u9000_ r2 ∧ Kd.R Kd.bool 4 w' w0.heap.size (fun k_ => ((P0_0_ k_ ∨ P0_4_ k_) ∨ w.heap.size ≤ k_)) u9001_ r3 ∧ Below w0.heap.size w0 w' ∧ Kept w w' (fun k_ => P0_0_ k_ ∨ P0_4_ k_) := by
  have hu28 := Try.underlying28
  have HO0_0 := Aside0.mk (show Kd.R (Kd.int .i64) 3 w w0.heap.size (fun k_ => ((P0_0_ k_ ∨ P0_4_ k_) ∨ w.heap.size ≤ k_)) u9000_ l0_0 from Kd.R_mono ho0_0 (fun k_ hk => (.inl (.inl hk))))
  have HO0_4 := Aside0.mk (show Kd.R Kd.bool 4 w w0.heap.size (fun k_ => ((P0_0_ k_ ∨ P0_4_ k_) ∨ w.heap.size ≤ k_)) u9001_ l0_4 from Kd.R_mono ho0_4 (fun k_ hk => (.inl (.inr hk))))
  have HK := Aside0.mk (Kept.refl w (fun k_ => P0_0_ k_ ∨ P0_4_ k_))
  have HW0 := Aside0.mk hB.size
  have HB := Aside0.mk hB
  clear hB
  have H : ((laws_markIntS.f k l0_0 a1).bind fun bt569 => ((laws_markBoolS.f k l0_4 bt569.1).bind fun bt571 => (some (bt571.1, bt569.2, bt571.2)))) = some (r1, r2, r3) := h
  clear h
  replace H := Option.bind_eq_some_iff.mp H
  obtain ⟨⟨t569, t570⟩, A30, H⟩ := H
  replace H : ((laws_markBoolS.f k l0_4 t569).bind fun bt571 => (some (bt571.1, t570, bt571.2))) = some (r1, r2, r3) := H
  have A3 := Aside0.mk A30
  clear A30
  replace H := Option.bind_eq_some_iff.mp H
  obtain ⟨⟨t571, t572⟩, A40, H⟩ := H
  replace H : (some (t571, t570, t572)) = some (r1, r2, r3) := H
  have A4 := Aside0.mk A40
  clear A40
  simp only [Option.some.injEq, Prod.mk.injEq] at H
  obtain ⟨rfl, rfl, rfl⟩ := H
  obtain ⟨Ao5, co5, eo5⟩ := Kd.R_slice HO0_0.out
  subst eo5
  obtain ⟨Ao6, co6, eo6⟩ := Kd.R_slice HO0_4.out
  subst eo6
  go_enter Try.func29, Try.ntmps29
  go_wp2_with (first | ((with_reducible refine gate_dst (N := 2) rfl ?_); refine box_event ?hg (N := 2) ?hd (cs := #[.slice Ao5 l0_0.length co5, .int .i64 a0_1, .int .i64 a0_2, .int .i64 a0_3, .slice Ao6 l0_4.length co6]) (t := 28) ?hr ?_; (case hd => rfl); (case hg => rfl); (case hr => first | (go_simp; done) | (go_simp; rfl)); intro gb568 hg w7 hbox hb; have n0_ := Aside0.mk (Kd.R_below (by (with_reducible repeat (first | apply Kd.R_alloc | apply Kd.R_drewN | apply Kd.R_drew)); exact HO0_0.out) hb); have n1_ := Aside0.mk (Kd.R_below (by (with_reducible repeat (first | apply Kd.R_alloc | apply Kd.R_drewN | apply Kd.R_drew)); exact HO0_4.out) hb); have n2_ := Aside0.mk (Kept.below (S := (fun k_ => P0_0_ k_ ∨ P0_4_ k_)) (by repeat (first | (with_reducible first | exact HK.out | apply Kept.alloc | apply Kept.drewN | apply Kept.drew) | exact HK.out)) hb); have n3_ := Aside0.mk (below_step (by repeat (first | (with_reducible first | exact HB.out | apply below_alloc | apply pw_below_drewN | apply below_drew1) | exact HB.out)) hb); have n4_ := Aside0.mk (hbox); have n5_ := Aside0.mk ((by rw [hg]; exact (by first | exact HK.out.1 | exact (show Kept w _ (fun k_ => P0_0_ k_ ∨ P0_4_ k_) from by repeat (first | (with_reducible first | exact HK.out | apply Kept.alloc | apply Kept.drewN | apply Kept.drew) | exact HK.out)).1) : w.heap.size ≤ gb568)); have n6_ := Aside0.mk ((by rw [hg]; exact (below_size (by repeat (first | (with_reducible first | exact HB.out | apply below_alloc | apply pw_below_drewN | apply below_drew1) | exact HB.out))) : w0.heap.size ≤ gb568)); clear HO0_0; clear HO0_4; clear HK; clear HB; have HO0_0 := n0_; have HO0_4 := n1_; have HK := n2_; have HB := n3_; have BK568 := n4_; have GW568 := n5_; have GE568 := n6_; clear n0_ n1_ n2_ n3_ n4_ n5_ n6_; clear hb hbox hg; have hcz8_0 : w7.cell? ⟨gb568, 0, none⟩ = some (.slice Ao5 l0_0.length co5) := (blk_cell BK568.out 0).trans rfl; have hcz8_1 : w7.cell? ⟨gb568, 1, none⟩ = some (.int .i64 a0_1) := (blk_cell BK568.out 1).trans rfl; have hcz8_2 : w7.cell? ⟨gb568, 2, none⟩ = some (.int .i64 a0_2) := (blk_cell BK568.out 2).trans rfl; have hcz8_3 : w7.cell? ⟨gb568, 3, none⟩ = some (.int .i64 a0_3) := (blk_cell BK568.out 3).trans rfl; have hcz8_4 : w7.cell? ⟨gb568, 4, none⟩ = some (.slice Ao6 l0_4.length co6) := (blk_cell BK568.out 4).trans rfl; have hfz8_0 := blk_frozen BK568.out 0; have hfz8_1 := blk_frozen BK568.out 1; have hfz8_2 := blk_frozen BK568.out 2; have hfz8_3 := blk_frozen BK568.out 3; have hfz8_4 := blk_frozen BK568.out 4) | ((with_reducible refine gate_callee (f := 30) rfl ?_); refine goesL_ (some 8) rfl rfl Try.func30 (by kernel_rfl) rfl #[.slice Ao5 l0_0.length co5, .int .i64 a1] rfl (by (try simp only [List.map_toArray, List.map_cons, List.map_nil]); first | done | rfl | (simp only [List.length_drop, List.length_take]; rfl)) ?_; (with_reducible refine (laws_markIntS.calls k (fun k_ => some k_ = (.slice Ao5 l0_0.length co5 : Value).ownBlock) (.slice Ao5 l0_0.length co5) l0_0 a1 t569 t570 w0 _ ?side1 ?side2 A3.out).mono ?_); (case side1 => repeat (first | (with_reducible first | exact HB.out | apply below_alloc | apply pw_below_drewN | apply below_drew1 | refine below_set ?_ GE568.out) | exact HB.out)); (case side2 => exact Kd.R_tight rfl HO0_0.out); rintro e w9 ⟨rfl, hy0, hb, hkp⟩; refine ⟨_, rfl, ?_⟩; have n0_ := Aside0.mk (Kd.R_reok rfl hy0 (fun k_ e_ => HO0_0.out.1 k_ e_)); have n1_ := Aside0.mk (Kd.R_mono (ok' := fun k_ => ((P0_0_ k_ ∨ P0_4_ k_) ∨ w.heap.size ≤ k_)) (Kd.R_keptB ((Kd.R_apart' HO0_4.out (Kd.R_typed HO0_0.out) (by decide))) hkp (fun k_ hk_ hs_ => (hk_.2) hs_)) (fun k_ hk_ => hk_.1.1)); have n2_ := Aside0.mk (blk_kept (by (with_reducible repeat (first | refine blk_drewN ?_ _ | refine blk_drew ?_ | refine blk_alloc ?_ _)); exact BK568.out) hkp (fun hs_ => (fun e_ => (Kd.R_ne HO0_0.out BK568.out (by decide)) e_) hs_)); have n3_ := Aside0.mk (Kept.then_ (S := (fun k_ => P0_0_ k_ ∨ P0_4_ k_)) (by repeat (first | (with_reducible first | exact HK.out | apply Kept.alloc | apply Kept.drewN | apply Kept.drew | refine Kept.setCell ?_ (.inr GW568.out) _) | exact HK.out)) hkp (fun k_ hs_ => (fun e_ => (HO0_0.out.1 k_ e_.symm)) hs_)); have n4_ := Aside0.mk (hb); clear HO0_0; clear HO0_4; clear BK568; clear HK; clear HB; have HO0_0 := n0_; have HO0_4 := n1_; have BK568 := n2_; have HK := n3_; have HB := n4_; clear n0_ n1_ n2_ n3_ n4_; (try clear hb); (try clear hkp); (try clear hy0); have hcz10_0 : w9.cell? ⟨gb568, 0, none⟩ = some (.slice Ao5 l0_0.length co5) := (blk_cell BK568.out 0).trans rfl; have hcz10_1 : w9.cell? ⟨gb568, 1, none⟩ = some (.int .i64 a0_1) := (blk_cell BK568.out 1).trans rfl; have hcz10_2 : w9.cell? ⟨gb568, 2, none⟩ = some (.int .i64 a0_2) := (blk_cell BK568.out 2).trans rfl; have hcz10_3 : w9.cell? ⟨gb568, 3, none⟩ = some (.int .i64 a0_3) := (blk_cell BK568.out 3).trans rfl; have hcz10_4 : w9.cell? ⟨gb568, 4, none⟩ = some (.slice Ao6 l0_4.length co6) := (blk_cell BK568.out 4).trans rfl; have hfz10_0 := blk_frozen BK568.out 0; have hfz10_1 := blk_frozen BK568.out 1; have hfz10_2 := blk_frozen BK568.out 2; have hfz10_3 := blk_frozen BK568.out 3; have hfz10_4 := blk_frozen BK568.out 4) | ((with_reducible refine gate_callee (f := 60) rfl ?_); refine goesL_ (some 12) rfl rfl Try.func60 (by kernel_rfl) rfl #[.slice Ao6 l0_4.length co6, .int .i64 t569] rfl (by (try simp only [List.map_toArray, List.map_cons, List.map_nil]); first | done | rfl | (simp only [List.length_drop, List.length_take]; rfl)) ?_; (with_reducible refine (laws_markBoolS.calls k (fun k_ => some k_ = (.slice Ao6 l0_4.length co6 : Value).ownBlock) (.slice Ao6 l0_4.length co6) l0_4 t569 t571 t572 w0 _ ?side1 ?side2 A4.out).mono ?_); (case side1 => repeat (first | (with_reducible first | exact HB.out | apply below_alloc | apply pw_below_drewN | apply below_drew1 | refine below_set ?_ GE568.out) | exact HB.out)); (case side2 => exact Kd.R_tight rfl HO0_4.out); rintro e w11 ⟨rfl, hy0, hb, hkp⟩; refine ⟨_, rfl, ?_⟩; have n0_ := Aside0.mk (Kd.R_mono (ok' := fun k_ => ((P0_0_ k_ ∨ P0_4_ k_) ∨ w.heap.size ≤ k_)) (Kd.R_keptB ((Kd.R_apart' HO0_0.out (Kd.R_typed HO0_4.out) (by decide))) hkp (fun k_ hk_ hs_ => (hk_.2) hs_)) (fun k_ hk_ => hk_.1.1)); have n1_ := Aside0.mk (Kd.R_reok rfl hy0 (fun k_ e_ => HO0_4.out.1 k_ e_)); have n2_ := Aside0.mk (blk_kept (by (with_reducible repeat (first | refine blk_drewN ?_ _ | refine blk_drew ?_ | refine blk_alloc ?_ _)); exact BK568.out) hkp (fun hs_ => (fun e_ => (Kd.R_ne HO0_4.out BK568.out (by decide)) e_) hs_)); have n3_ := Aside0.mk (Kept.then_ (S := (fun k_ => P0_0_ k_ ∨ P0_4_ k_)) (by repeat (first | (with_reducible first | exact HK.out | apply Kept.alloc | apply Kept.drewN | apply Kept.drew | refine Kept.setCell ?_ (.inr GW568.out) _) | exact HK.out)) hkp (fun k_ hs_ => (fun e_ => (HO0_4.out.1 k_ e_.symm)) hs_)); have n4_ := Aside0.mk (hb); clear HO0_0; clear HO0_4; clear BK568; clear HK; clear HB; have HO0_0 := n0_; have HO0_4 := n1_; have BK568 := n2_; have HK := n3_; have HB := n4_; clear n0_ n1_ n2_ n3_ n4_; (try clear hb); (try clear hkp); (try clear hy0)))
  go_ret
  exact ⟨by first | rfl | (simp [errW_none, errW_some] <;> rfl) | (simp [*, errW_none, errW_some] <;> rfl), by (with_reducible repeat (first | apply Kd.R_alloc | apply Kd.R_drewN | apply Kd.R_drew)); exact HO0_0.out, by (with_reducible repeat (first | apply Kd.R_alloc | apply Kd.R_drewN | apply Kd.R_drew)); exact HO0_4.out, by repeat (first | (with_reducible first | exact HB.out | apply below_alloc | apply pw_below_drewN | apply below_drew1 | refine below_set ?_ GE568.out) | exact HB.out), by repeat (first | (with_reducible first | exact HK.out | apply Kept.alloc | apply Kept.drewN | apply Kept.drew | refine Kept.setCell ?_ (.inr GW568.out) _) | exact HK.out)⟩
end Go.Proofs.Ytjnbilfhpdkcbaa.K
namespace Go.Proofs.Ytjnbilfhpdkcbaa.K
open Go.RowKit Go.Proofs.YtjnbilfhpdkcbaaW.PrintWords Go.Proofs.YtjnbilfhpdkcbaaW.PrintLast Go.Proofs.YtjnbilfhpdkcbaaW.PrintMore
attribute [local go_sem] max2_int min2_int max_two min_two max_three min_three max_four min_four
set_option linter.unusedVariables false
set_option linter.unusedSimpArgs false
def laws_heldIntS.l0 : Nat → List Int → Int → Int → Option (Int)
  | 0, _, _, _ => none
  | k + 1, x0, x1, x5 => if x5 < (x0.length : Int) then (if 0 ≤ x5 then (if (rd x0 x5) = x1 then (laws_heldIntS.l0 k x0 (wrap64 (x1 + 1)) (wrap64 (x5 + 1))) else (some (-1))) else (none)) else (some x1)
def laws_heldIntS.f (k : Nat) (l0 : List Int) (a1 : Int) : Option (Int) := laws_heldIntS.l0 k l0 a1 0
theorem laws_heldIntS.mono_l : ∀ k, (∀ y0 y1 y2, LeO (laws_heldIntS.l0 k y0 y1 y2) (laws_heldIntS.l0 (k + 1) y0 y1 y2))
  | 0 => fun _ _ _ r h => by simp [laws_heldIntS.l0] at h
  | k + 1 => by
    have ih0 := laws_heldIntS.mono_l k
    · intro y0 y1 y2
      unfold laws_heldIntS.l0
      repeat' first
      | (with_reducible exact ih0 _ _ _)
      | (with_reducible exact LeO.refl _)
      | (with_reducible exact LeO.none _)
      | (with_reducible refine LeO.ite ?_ ?_)
      | (with_reducible refine LeO.bind ?_ (fun _ => ?_))
      | exact ih0 _ _ _
      | exact LeO.none _
      | refine LeO.ite ?_ ?_
      | refine LeO.bind ?_ (fun _ => ?_)
theorem laws_heldIntS.mono : ∀ a0 a1 k, LeO (laws_heldIntS.f k a0 a1) (laws_heldIntS.f (k + 1) a0 a1) := by
  intro a0 a1 k
  have ih0 := laws_heldIntS.mono_l k
  unfold laws_heldIntS.f
  repeat' first
      | (with_reducible exact ih0 _ _ _)
      | (with_reducible exact LeO.refl _)
      | (with_reducible exact LeO.none _)
      | (with_reducible refine LeO.ite ?_ ?_)
      | (with_reducible refine LeO.bind ?_ (fun _ => ?_))
      | exact ih0 _ _ _
      | exact LeO.none _
      | refine LeO.ite ?_ ?_
      | refine LeO.bind ?_ (fun _ => ?_)
set_option maxHeartbeats 8000000 in
set_option maxRecDepth 100000 in
theorem laws_heldIntS.calls (k : Nat) (A0 : Option Addr) (c0 : Nat) (l0 : List Int) (a1 : Int) (r : Int) (w : World) (hr0 : Kd.C (Kd.int .i64) w A0 l0.length l0) (hc0 : l0.length ≤ c0) (h : laws_heldIntS.f k l0 a1 = some r) :
    Calls Try.prog 31 #[.slice A0 l0.length c0, .int .i64 a1] w fun e w' => e = .returned (.int .i64 r) ∧ Drawn0 w w' := by
  have HR0 := Aside0.mk hr0
  have HC0 := Aside0.mk hc0
  clear hr0 hc0
  have H : (laws_heldIntS.l0 k l0 a1 0) = some r := h
  clear h
  have H' := Aside0.mk H
  clear H
  go_enter Try.func31, Try.ntmps31
  go_wp2
  go_loopg [1, 5] k (fun kq v1 v5 w' => ∃ (x1_1 : Int) (x5_1 : Int), v1 = .int .i64 x1_1 ∧ v5 = .int .i64 x5_1 ∧ Aside0 (laws_heldIntS.l0 kq l0 x1_1 x5_1 = some r) ∧ Aside0 (kq ≤ k) ∧ Drawn0 w w')
  case atStart => exact ⟨(a1), (0), (by first | rfl | (simp; done) | (simp [*]; done)), (by first | rfl | (simp; done) | (simp [*]; done)), H', ⟨Nat.le_refl _⟩, by repeat (first | exact Drawn0.refl _ | apply Drawn0.step)⟩
  case round =>
    clear H'
    try clear p2
    obtain ⟨x1_1, x5_1, rfl, rfl, HA, HK1, ⟨m1, rfl⟩⟩ := hrel
    cases gk with
    | zero => exact absurd HA.out (by simp [laws_heldIntS.l0])
    | succ k1 =>
      have H := HA.out
      clear HA
      simp only [laws_heldIntS.l0] at H
      by_cases c3 : x5_1 < (l0.length : Int)
      · rw [if_pos c3] at H
        have c3b0 : decide (x5_1 < (l0.length : Int)) = true := decide_eq_true c3
        clear c3
        by_cases c4 : 0 ≤ x5_1
        · rw [if_pos c4] at H
          have c4b0 : decide (0 ≤ x5_1) = true := decide_eq_true c4
          clear c4
          by_cases c5 : (rd l0 x5_1) = x1_1
          · rw [if_pos c5] at H
            have c5b0 : ((rd l0 x5_1) == x1_1) = true := beq_iff_eq.mpr c5
            have c5b1 : ((rd l0 x5_1) != x1_1) = false := bne_eq_false_iff_eq.mpr c5
            clear c5
            have H' := Aside0.mk H
            clear H
            have p573 : 0 ≤ (x5_1 : Int) := of_decide_eq_true (by first | (with_reducible assumption) | assumption)
            have q573 : x5_1 < (l0.length : Int) := of_decide_eq_true (by first | (with_reducible assumption) | assumption)
            obtain ⟨ad573, e573, hx573_0⟩ := Kd.at_int HR0.out x5_1 p573 q573
            cases e573
            replace p573 := eq_true p573
            replace q573 := eq_true q573
            go_wp2
            go_roundg k1
            case measure => have := HK1.out; omega
            case rel => exact ⟨(wrap64 (x1_1 + 1)), (wrap64 (x5_1 + 1)), (by first | rfl | (simp; done) | (simp [*]; done)), (by first | rfl | (simp; done) | (simp [*]; done)), H', ⟨by have := HK1.out; omega⟩, by repeat (first | exact Drawn0.refl _ | apply Drawn0.step)⟩
          · rw [if_neg c5] at H
            have c5b0 : ((rd l0 x5_1) == x1_1) = false := beq_eq_false_iff_ne.mpr c5
            have c5b1 : ((rd l0 x5_1) != x1_1) = true := bne_iff_ne.mpr c5
            obtain rfl := Option.some.inj H
            have p573 : 0 ≤ (x5_1 : Int) := of_decide_eq_true (by first | (with_reducible assumption) | assumption)
            have q573 : x5_1 < (l0.length : Int) := of_decide_eq_true (by first | (with_reducible assumption) | assumption)
            obtain ⟨ad573, e573, hx573_0⟩ := Kd.at_int HR0.out x5_1 p573 q573
            cases e573
            replace p573 := eq_true p573
            replace q573 := eq_true q573
            go_wp2
            go_ret
            exact ⟨by first | rfl | (simp; done) | (simp [*]; done), by repeat (first | exact Drawn0.refl _ | apply Drawn0.step)⟩
        · rw [if_neg c4] at H
          exact absurd H (by simp)
      · rw [if_neg c3] at H
        have c3b0 : decide (x5_1 < (l0.length : Int)) = false := decide_eq_false c3
        clear c3
        obtain rfl := Option.some.inj H
        go_wp2
        go_ret
        exact ⟨by first | rfl | (simp; done) | (simp [*]; done), by repeat (first | exact Drawn0.refl _ | apply Drawn0.step)⟩
end Go.Proofs.Ytjnbilfhpdkcbaa.K
namespace Go.Proofs.Ytjnbilfhpdkcbaa.K
open Go.RowKit Go.Proofs.YtjnbilfhpdkcbaaW.PrintWords Go.Proofs.YtjnbilfhpdkcbaaW.PrintLast Go.Proofs.YtjnbilfhpdkcbaaW.PrintMore
attribute [local go_sem] max2_int min2_int max_two min_two max_three min_three max_four min_four
set_option linter.unusedVariables false
set_option linter.unusedSimpArgs false
def laws_FnExactMemWalk.f (k : Nat) (l0 : List (S69)) (l1_0 : List Int) (a1_1 : Int) (a1_2 : Int) (a1_3 : Int) (l1_4 : List Bool) : Option (Bool) :=
  (laws_szClassS.f k l0 1048576).bind fun t => if t < 0 then some true else (laws_szMem.f l1_0 a1_1 a1_2 a1_3 l1_4 t).bind fun t2 => if t2 < 0 then some true else
  (laws_toClassS.f k l0).bind fun cs => (laws_toMem.f k l1_0 a1_1 a1_2 a1_3 l1_4).bind fun M => if M = (l1_0, a1_1, a1_2, a1_3, l1_4) ∧ cs.length ≤ 1048576 then
  (spec_MemWalk.f k cs l1_0 a1_1 a1_2 a1_3 l1_4).bind fun w0 => (impl_MemWalk.f k cs l1_0 a1_1 a1_2 a1_3 l1_4).bind fun g0 => (laws_eqIntS.f k g0 w0).bind fun e1 => (laws_eqClassS.f k cs cs).bind fun e2 =>
  (laws_eqMem.f k l1_0 a1_1 a1_2 a1_3 l1_4 l1_0 a1_1 a1_2 a1_3 l1_4).bind fun e3 => (mcs k cs 1).bind fun k1 => (laws_markMem.f k l1_0 a1_1 a1_2 a1_3 l1_4 k1).bind fun pm => (laws_markIntS.f k g0 1).bind fun m => (laws_heldIntS.f k m.2 1).bind fun q =>
  if (e1 = true ∧ e2 = true ∧ e3 = true) ∧ 0 ≤ pm.1 ∧ q = m.1 ∧ 0 ≤ q then some true else none
  else none
set_option maxHeartbeats 32000000 in
set_option maxRecDepth 100000 in
theorem laws_FnExactMemWalk.calls (k : Nat) (A0 : Option Addr) (c0 : Nat) (l0 : List (S69)) (A1_0 : Option Addr) (c1_0 : Nat) (l1_0 : List Int) (a1_1 : Int) (a1_2 : Int) (a1_3 : Int) (A1_4 : Option Addr) (c1_4 : Nat) (l1_4 : List Bool) (r : Bool) (w : World) (hr_ : Aside0 (r = true)) (hr0 : Kd.C k69 w A0 l0.length l0) (hc0 : l0.length ≤ c0) (hr1_0 : Kd.C (Kd.int .i64) w A1_0 l1_0.length l1_0) (hc1_0 : l1_0.length ≤ c1_0) (hr1_4 : Kd.C Kd.bool w A1_4 l1_4.length l1_4) (hc1_4 : l1_4.length ≤ c1_4) (h : laws_FnExactMemWalk.f k l0 l1_0 a1_1 a1_2 a1_3 l1_4 = some r) :
    Calls Try.prog 7 #[.slice A0 l0.length c0, .agg #[.slice A1_0 l1_0.length c1_0, .int .i64 a1_1, .int .i64 a1_2, .int .i64 a1_3, .slice A1_4 l1_4.length c1_4]] w fun e w' => e = .returned (.bool r) ∧ Below w.heap.size w w' := by
  obtain rfl := hr_.out
  have HR0 := Aside0.mk hr0
  have HC0 := Aside0.mk hc0
  have HR1 := Aside0.mk hr1_0
  have HC1 := Aside0.mk hc1_0
  have HR4 := Aside0.mk hr1_4
  have HC4 := Aside0.mk hc1_4
  clear hr0 hc0 hr1_0 hc1_0 hr1_4 hc1_4 hr_
  have HB0 := Aside0.mk (below_alloc (Below.refl w.heap.size w) (.cells #[.slice A1_0 l1_0.length c1_0, .int .i64 a1_1, .int .i64 a1_2, .int .i64 a1_3, .slice A1_4 l1_4.length c1_4] 38 (0, 0)))
  have BM0 := Aside0.mk (blk_new w (.cells #[.slice A1_0 l1_0.length c1_0, .int .i64 a1_1, .int .i64 a1_2, .int .i64 a1_3, .slice A1_4 l1_4.length c1_4] 38 (0, 0)))
  unfold laws_FnExactMemWalk.f at h
  obtain ⟨t, h1, h⟩ := Option.bind_eq_some_iff.mp h
  have H1 := Aside0.mk h1
  clear h1
  by_cases c1 : t < 0
  · have d1 : decide (t < 0) = true := decide_eq_true c1
    go_enter Try.func7, Try.ntmps7
    go_wp2_with fail
    go_at_call 15
    refine (laws_szClassS.calls k A0 c0 l0 1048576 t _ (Kd.C_below HR0.out HB0.out) HC0.out H1.out).mono ?_
    rintro e w1 ⟨rfl, hb⟩
    have HB := Aside0.mk (below_step HB0.out hb)
    clear hb
    go_wp2
    go_ret
    exact ⟨rfl, HB.out⟩
  rw [if_neg c1] at h
  have d1 : decide (t < 0) = false := decide_eq_false c1
  obtain ⟨t2, h2, h⟩ := Option.bind_eq_some_iff.mp h
  have H2 := Aside0.mk h2
  clear h2
  by_cases c2 : t2 < 0
  · have d2 : decide (t2 < 0) = true := decide_eq_true c2
    go_enter Try.func7, Try.ntmps7
    go_wp2_with fail
    go_at_call 15
    refine (laws_szClassS.calls k A0 c0 l0 1048576 t _ (Kd.C_below HR0.out HB0.out) HC0.out H1.out).mono ?_
    rintro e w1 ⟨rfl, hb⟩
    have HB := Aside0.mk (below_step HB0.out hb)
    have BM := Aside0.mk ((hb.block _ (blk_lt BM0.out)).trans BM0.out)
    clear hb HB0 BM0
    have m0 := (blk_cell BM.out 0).trans rfl
    have m1 := (blk_cell BM.out 1).trans rfl
    have m2 := (blk_cell BM.out 2).trans rfl
    have m3 := (blk_cell BM.out 3).trans rfl
    have m4 := (blk_cell BM.out 4).trans rfl
    go_wp2_with fail
    go_at_call 16
    refine (laws_szMem.calls A1_0 c1_0 l1_0 a1_1 a1_2 a1_3 A1_4 c1_4 l1_4 t t2 _ (Kd.C_below HR1.out HB.out) HC1.out (Kd.C_below HR4.out HB.out) HC4.out H2.out).mono ?_
    rintro e w2 ⟨rfl, hb⟩
    clear m0 m1 m2 m3 m4
    have HBn := Aside0.mk (below_step HB.out hb)
    have BMn := Aside0.mk ((hb.block _ (blk_lt BM.out)).trans BM.out)
    clear HB BM
    have HB := HBn
    have BM := BMn
    clear HBn BMn
    clear hb
    go_wp2
    go_ret
    exact ⟨rfl, HB.out⟩
  rw [if_neg c2] at h
  have d2 : decide (t2 < 0) = false := decide_eq_false c2
  obtain ⟨cs, h3, h⟩ := Option.bind_eq_some_iff.mp h
  obtain ⟨M, h4, h⟩ := Option.bind_eq_some_iff.mp h
  split at h
  case isFalse => simp at h
  case isTrue hM =>
  obtain ⟨rfl, hcl⟩ := hM
  obtain ⟨w0, h5, h⟩ := Option.bind_eq_some_iff.mp h
  obtain ⟨g0, h6, h⟩ := Option.bind_eq_some_iff.mp h
  obtain ⟨e1, h7, h⟩ := Option.bind_eq_some_iff.mp h
  obtain ⟨e2, h8, h⟩ := Option.bind_eq_some_iff.mp h
  obtain ⟨e3, h9, h⟩ := Option.bind_eq_some_iff.mp h
  obtain ⟨k1, h10, h⟩ := Option.bind_eq_some_iff.mp h
  obtain ⟨⟨k2, pm1, pm2⟩, h11, h⟩ := Option.bind_eq_some_iff.mp h
  obtain ⟨⟨mk, gm⟩, h12, h⟩ := Option.bind_eq_some_iff.mp h
  obtain ⟨q, h13, h⟩ := Option.bind_eq_some_iff.mp h
  split at h
  case isFalse => simp at h
  case isTrue hE =>
  obtain ⟨⟨rfl, rfl, rfl⟩, hk2, hq, hq0⟩ := hE
  dsimp only at hk2 hq hq0
  subst hq
  have d3 : decide (k2 < 0) = false := decide_eq_false (by omega)
  have d4 : decide (q < 0) = false := decide_eq_false (by omega)
  have d5 : (q != q) = false := by simp
  have HCL := Aside0.mk hcl
  have H3 := Aside0.mk h3
  have H4 := Aside0.mk h4
  have H5 := Aside0.mk h5
  have H6 := Aside0.mk h6
  have H7 := Aside0.mk h7
  have H8 := Aside0.mk h8
  have H9 := Aside0.mk h9
  have H10 := Aside0.mk h10
  have H11 := Aside0.mk h11
  have H12 := Aside0.mk h12
  have H13 := Aside0.mk h13
  clear h h3 h4 h5 h6 h7 h8 h9 h10 h11 h12 h13 hcl hk2 hq0 c1 c2
  go_enter Try.func7, Try.ntmps7
  go_wp2_with fail
  go_at_call 15
  refine (laws_szClassS.calls k A0 c0 l0 1048576 t _ (Kd.C_below HR0.out HB0.out) HC0.out H1.out).mono ?_
  rintro e w1 ⟨rfl, hb⟩
  have HB := Aside0.mk (below_step HB0.out hb)
  have BM := Aside0.mk ((hb.block _ (blk_lt BM0.out)).trans BM0.out)
  clear hb HB0 BM0
  have m0 := (blk_cell BM.out 0).trans rfl
  have m1 := (blk_cell BM.out 1).trans rfl
  have m2 := (blk_cell BM.out 2).trans rfl
  have m3 := (blk_cell BM.out 3).trans rfl
  have m4 := (blk_cell BM.out 4).trans rfl
  go_wp2_with fail
  go_at_call 16
  refine (laws_szMem.calls A1_0 c1_0 l1_0 a1_1 a1_2 a1_3 A1_4 c1_4 l1_4 t t2 _ (Kd.C_below HR1.out HB.out) HC1.out (Kd.C_below HR4.out HB.out) HC4.out H2.out).mono ?_
  rintro e w2 ⟨rfl, hb⟩
  clear m0 m1 m2 m3 m4
  have HBn := Aside0.mk (below_step HB.out hb)
  have BMn := Aside0.mk ((hb.block _ (blk_lt BM.out)).trans BM.out)
  clear HB BM
  have HB := HBn
  have BM := BMn
  clear HBn BMn
  clear hb
  have m0 := (blk_cell BM.out 0).trans rfl
  have m1 := (blk_cell BM.out 1).trans rfl
  have m2 := (blk_cell BM.out 2).trans rfl
  have m3 := (blk_cell BM.out 3).trans rfl
  have m4 := (blk_cell BM.out 4).trans rfl
  go_wp2
  refine start_ (n := 6) (S := fun w' => Aside0 (Below w2.heap.size w2 w') ∧ w'.cell? (⟨w.heap.size, 0, none⟩) = some (.slice A1_0 l1_0.length c1_0) ∧ w'.cell? (⟨w.heap.size, 1, none⟩) = some (.int .i64 a1_1) ∧ w'.cell? (⟨w.heap.size, 2, none⟩) = some (.int .i64 a1_2) ∧ w'.cell? (⟨w.heap.size, 3, none⟩) = some (.int .i64 a1_3) ∧ w'.cell? (⟨w.heap.size, 4, none⟩) = some (.slice A1_4 l1_4.length c1_4)) (ds := []) #[false, false, false, false, false, false] (by kernel_rfl) rfl rfl ⟨⟨below_drew1 (Below.refl _ _)⟩, (by go_simp), (by go_simp), (by go_simp), (by go_simp), (by go_simp)⟩ (fun hHeld => ?_)
  refine pS 0 24 #[true, false, false, false, false, false] ?_
  refine tS 2 26 #[true, false, true, false, false, false] rfl rfl (by kernel_rfl) hHeld (by rintro w' ⟨s0, s1, s2, s3, s4, s5⟩; go_simp; with_reducible rfl) ?_
  refine one_ (i := 1) (N := some 25) #[true, true, true, false, false, false] rfl rfl (by kernel_rfl) (by decide) (fun K hK => ?_)
  refine goes_ Try.func18 (by kernel_rfl) rfl #[.slice A0 l0.length c0] (by rfl) rfl rfl (by simp only [List.map_toArray, List.map_cons, List.map_nil]; rfl) ?_
  with_reducible refine (laws_toClassS.calls k A0 c0 l0 cs _ (Kd.C_below HR0.out (below_step HB.out hHeld.1.out)) HC0.out H3.out).mono ?_
  rintro e wa ⟨vc, rfl, hc, hba⟩
  have HVC := Aside0.mk hc
  obtain ⟨AVC, cVC, rfl⟩ := Kd.S_slice hc
  refine ⟨_, rfl, ?_⟩
  refine hK.out _ _ ⟨⟨below_step hHeld.1.out hba⟩, (pw_cell_below hba hHeld.2.1), (pw_cell_below hba hHeld.2.2.1), (pw_cell_below hba hHeld.2.2.2.1), (pw_cell_below hba hHeld.2.2.2.2.1), (pw_cell_below hba hHeld.2.2.2.2.2)⟩ (fun hHeld => ?_)
  clear hK K
  refine norm_ (a' := ?_) ?_ ?_
  rotate_left
  · show Act.put _ (some 25) _ = _
    simp only [Act.put, lA1, lA2, lA3, i64_w, i32_w]
    rfl
  refine one_ (i := 3) (N := some 27) #[true, true, true, true, false, false] rfl rfl (by kernel_rfl) (by decide) (fun K hK => ?_)
  refine goes_ Try.func19 (by kernel_rfl) rfl #[.agg #[.slice A1_0 l1_0.length c1_0, .int .i64 a1_1, .int .i64 a1_2, .int .i64 a1_3, .slice A1_4 l1_4.length c1_4]] (by rfl) rfl rfl (by simp only [List.map_toArray, List.map_cons, List.map_nil]; rfl) ?_
  with_reducible refine (laws_toMem.calls k A1_0 c1_0 l1_0 a1_1 a1_2 a1_3 A1_4 c1_4 l1_4 l1_0 a1_1 a1_2 a1_3 l1_4 _ (Kd.C_below HR1.out (below_step HB.out hHeld.1.out)) HC1.out (Kd.C_below HR4.out (below_step HB.out hHeld.1.out)) HC4.out H4.out).mono ?_
  rintro e wb ⟨vm, vn, rfl, hm_, hn_, hbb⟩
  have HVM := Aside0.mk hm_
  have HVN := Aside0.mk hn_
  have HBB := Aside0.mk hbb
  obtain ⟨AVM, cVM, rfl⟩ := Kd.R_slice hm_
  obtain ⟨AVN, cVN, rfl⟩ := Kd.R_slice hn_
  refine ⟨_, rfl, ?_⟩
  refine hK.out _ _ ⟨⟨below_step hHeld.1.out hbb⟩, (pw_cell_below hbb hHeld.2.1), (pw_cell_below hbb hHeld.2.2.1), (pw_cell_below hbb hHeld.2.2.2.1), (pw_cell_below hbb hHeld.2.2.2.2.1), (pw_cell_below hbb hHeld.2.2.2.2.2)⟩ (fun hHeld => ?_)
  clear hK K
  refine norm_ (a' := ?_) ?_ ?_
  rotate_left
  · show Act.put _ (some 27) _ = _
    simp only [Act.put, lA1, lA2, lA3, i64_w, i32_w]
    rfl
  refine one_ (i := 4) (N := some 28) #[true, true, true, true, true, false] rfl rfl (by kernel_rfl) (by decide) (fun K hK => ?_)
  refine goes_ Try.func26 (by kernel_rfl) rfl #[.slice AVC cs.length cVC, .agg #[.slice AVM l1_0.length cVM, .int .i64 a1_1, .int .i64 a1_2, .int .i64 a1_3, .slice AVN l1_4.length cVN]] (by rfl) rfl rfl (by simp only [List.map_toArray, List.map_cons, List.map_nil]; rfl) ?_
  with_reducible refine (spec_MemWalk.calls k AVC cVC cs AVM cVM l1_0 a1_1 a1_2 a1_3 AVN cVN l1_4 w0 _ (Kd.C_below (Kd.R_reads' (Kd.S_R HVC.out)).2.2 HBB.out) (Kd.R_reads' (Kd.S_R HVC.out)).2.1 (Kd.C_below (Kd.R_reads' HVM.out).2.2 (Below.refl _ _)) (Kd.R_reads' HVM.out).2.1 (Kd.C_below (Kd.R_reads' HVN.out).2.2 (Below.refl _ _)) (Kd.R_reads' HVN.out).2.1 H5.out).mono ?_
  rintro e wc ⟨vr, rfl, hvr, hbc⟩
  have HWr := Aside0.mk hvr
  have HWB := Aside0.mk (below_size (below_step HB.out hHeld.1.out))
  refine ⟨_, rfl, ?_⟩
  refine hK.out _ _ ⟨⟨below_step hHeld.1.out hbc⟩, (pw_cell_below hbc hHeld.2.1), (pw_cell_below hbc hHeld.2.2.1), (pw_cell_below hbc hHeld.2.2.2.1), (pw_cell_below hbc hHeld.2.2.2.2.1), (pw_cell_below hbc hHeld.2.2.2.2.2)⟩ (fun hHeld => ?_)
  clear hK K
  refine norm_ (a' := ?_) ?_ ?_
  rotate_left
  · show Act.put _ (some 28) _ = _
    simp only [Act.put, lA1, lA2, lA3, i64_w, i32_w]
    rfl
  refine pS 5 6 #[true, true, true, true, true, true] ?_
  refine done_ (by kernel_rfl) ?_
  have hb := hHeld.1.out
  clear hHeld
  have HBn := Aside0.mk (below_step HB.out hb)
  have BMn := Aside0.mk ((hb.block _ (blk_lt BM.out)).trans BM.out)
  clear HB BM
  have HB := HBn
  have BM := BMn
  clear HBn BMn
  clear hb
  clear m0 m1 m2 m3 m4
  obtain ⟨s3, hs3⟩ : ∃ s, s = wc.heap.size := ⟨_, rfl⟩
  have HW0 := Aside0.mk (show Kd.R (Kd.int .i64) 3 wc w.heap.size (fun k_ => k_ < s3) vr w0 from Kd.R_lower (Kd.R_mono (Kd.R_bound HWr.out) (fun k_ hk_ => by rw [hs3]; exact hk_.2.2.1)) HWB.out)
  have HO := Aside0.mk (show w.heap.size < s3 from by rw [hs3]; exact blk_lt BM.out)
  obtain ⟨AW, cW, rfl⟩ := Kd.R_slice HW0.out
  clear HVC HVM HVN HBB HWr HWB
  go_wp2_with fail
  go_at_call 18
  refine (laws_toClassS.calls k A0 c0 l0 cs _ (Kd.C_below HR0.out HB.out) HC0.out H3.out).mono ?_
  rintro e w6 ⟨vx, rfl, hx, hb⟩
  have HBn := Aside0.mk (below_step HB.out hb)
  have BMn := Aside0.mk ((hb.block _ (blk_lt BM.out)).trans BM.out)
  have HW0n := Aside0.mk (Kd.R_below HW0.out hb)
  clear HB BM HW0
  have HB := HBn
  have BM := BMn
  have HW0 := HW0n
  clear HBn BMn HW0n
  obtain ⟨s4, hs4⟩ : ∃ s, s = w6.heap.size := ⟨_, rfl⟩
  have HX0 := Aside0.mk (show Kd.S k32 32 w6 w.heap.size (fun k_ => s3 ≤ k_ ∧ k_ < s4) vx cs from Kd.S_lower (Kd.S_mono (Kd.S_bound hx) (fun k_ hk_ => ⟨by rw [hs3]; exact hk_.2.1, by rw [hs4]; exact hk_.2.2.1⟩)) (by have := HO.out; omega))
  have HOn := Aside0.mk (show w.heap.size < s3 ∧ s3 ≤ s4 from ⟨HO.out, by rw [hs3, hs4]; exact hb.size⟩)
  clear HO hx hb hs3
  have HO := HOn
  clear HOn
  obtain ⟨AX0, cX0, rfl⟩ := Kd.S_slice HX0.out
  have m0 := (blk_cell BM.out 0).trans rfl
  have m1 := (blk_cell BM.out 1).trans rfl
  have m2 := (blk_cell BM.out 2).trans rfl
  have m3 := (blk_cell BM.out 3).trans rfl
  have m4 := (blk_cell BM.out 4).trans rfl
  go_wp2_with fail
  go_at_call 19
  refine (laws_toMem.calls k A1_0 c1_0 l1_0 a1_1 a1_2 a1_3 A1_4 c1_4 l1_4 l1_0 a1_1 a1_2 a1_3 l1_4 _ (Kd.C_below HR1.out HB.out) HC1.out (Kd.C_below HR4.out HB.out) HC4.out H4.out).mono ?_
  rintro e w7 ⟨vm, vn, rfl, hm_, hn_, hb⟩
  clear m0 m1 m2 m3 m4
  have HBn := Aside0.mk (below_step HB.out hb)
  have BMn := Aside0.mk ((hb.block _ (blk_lt BM.out)).trans BM.out)
  have HW0n := Aside0.mk (Kd.R_below HW0.out hb)
  have HX0n := Aside0.mk (Kd.S_below HX0.out hb)
  clear HB BM HW0 HX0
  have HB := HBn
  have BM := BMn
  have HW0 := HW0n
  have HX0 := HX0n
  clear HBn BMn HW0n HX0n
  obtain ⟨s5, hs5⟩ : ∃ s, s = w7.heap.size := ⟨_, rfl⟩
  have HX1 := Aside0.mk (show Kd.R (Kd.int .i64) 3 w7 w.heap.size (fun k_ => s4 ≤ k_ ∧ k_ < s5) vm l1_0 from Kd.R_lower (Kd.R_mono (Kd.R_bound hm_) (fun k_ hk_ => ⟨by rw [hs4]; exact hk_.2.1, by rw [hs5]; exact hk_.2.2.1⟩)) (by have := HO.out; omega))
  have HX2 := Aside0.mk (show Kd.R Kd.bool 4 w7 w.heap.size (fun k_ => s4 ≤ k_ ∧ k_ < s5) vn l1_4 from Kd.R_lower (Kd.R_mono (Kd.R_bound hn_) (fun k_ hk_ => ⟨by rw [hs4]; exact hk_.2.1, by rw [hs5]; exact hk_.2.2.1⟩)) (by have := HO.out; omega))
  have HOn := Aside0.mk (show w.heap.size < s3 ∧ s3 ≤ s4 ∧ s4 ≤ s5 from ⟨HO.out.1, HO.out.2, by rw [hs4, hs5]; exact hb.size⟩)
  clear HO hm_ hn_ hb hs4
  have HO := HOn
  clear HOn
  obtain ⟨AX, cX, rfl⟩ := Kd.R_slice HX1.out
  obtain ⟨AY, cY, rfl⟩ := Kd.R_slice HX2.out
  go_wp2_with fail
  go_at_call 14
  have BX := Aside0.mk (show ((w7.alloc (.cells #[.slice AX l1_0.length cX, .int .i64 a1_1, .int .i64 a1_2, .int .i64 a1_3, .slice AY l1_4.length cY] 28 (0, 0)))).heap[w7.heap.size]? = some (.cells #[.slice AX l1_0.length cX, .int .i64 a1_1, .int .i64 a1_2, .int .i64 a1_3, .slice AY l1_4.length cY] 28 (0, 0)) from blk_new w7 _)
  have hb : Below w7.heap.size w7 (w7.alloc (.cells #[.slice AX l1_0.length cX, .int .i64 a1_1, .int .i64 a1_2, .int .i64 a1_3, .slice AY l1_4.length cY] 28 (0, 0))) := below_alloc (Below.refl _ _) _
  generalize (w7.alloc (.cells #[.slice AX l1_0.length cX, .int .i64 a1_1, .int .i64 a1_2, .int .i64 a1_3, .slice AY l1_4.length cY] 28 (0, 0))) = W8 at BX hb ⊢
  have HBn := Aside0.mk (below_step HB.out hb)
  have BMn := Aside0.mk ((hb.block _ (blk_lt BM.out)).trans BM.out)
  have HW0n := Aside0.mk (Kd.R_below HW0.out hb)
  have HX0n := Aside0.mk (Kd.S_below HX0.out hb)
  have HX1n := Aside0.mk (Kd.R_below HX1.out hb)
  have HX2n := Aside0.mk (Kd.R_below HX2.out hb)
  clear HB BM HW0 HX0 HX1 HX2
  have HB := HBn
  have BM := BMn
  have HW0 := HW0n
  have HX0 := HX0n
  have HX1 := HX1n
  have HX2 := HX2n
  clear HBn BMn HW0n HX0n HX1n HX2n
  obtain ⟨gx, hgx⟩ : ∃ g, g = w7.heap.size := ⟨_, rfl⟩
  rw [← hgx] at BX ⊢
  obtain ⟨s6, hs6⟩ : ∃ s, s = W8.heap.size := ⟨_, rfl⟩
  have HOn := Aside0.mk (show w.heap.size < s3 ∧ s3 ≤ s4 ∧ s4 ≤ s5 ∧ s5 ≤ gx ∧ gx < s6 from ⟨HO.out.1, HO.out.2.1, HO.out.2.2, by rw [hs5, hgx]; exact Nat.le_refl _, by rw [hs6]; exact blk_lt BX.out⟩)
  clear HO hb hs5 hgx
  have HO := HOn
  clear HOn
  refine (impl_MemWalk.calls k AX0 cX0 cs AX cX l1_0 a1_1 a1_2 a1_3 AY cY l1_4 g0 _ (Kd.R_reads' (Kd.S_R HX0.out)).2.2 (Kd.R_reads' (Kd.S_R HX0.out)).2.1 (Kd.R_reads' HX1.out).2.2 (Kd.R_reads' HX1.out).2.1 (Kd.R_reads' HX2.out).2.2 (Kd.R_reads' HX2.out).2.1 H6.out).mono ?_
  rintro e w9 ⟨vg, rfl, hg, hb⟩
  have HBn := Aside0.mk (below_step HB.out hb)
  have BMn := Aside0.mk ((hb.block _ (blk_lt BM.out)).trans BM.out)
  have HW0n := Aside0.mk (Kd.R_below HW0.out hb)
  have HX0n := Aside0.mk (Kd.S_below HX0.out hb)
  have HX1n := Aside0.mk (Kd.R_below HX1.out hb)
  have HX2n := Aside0.mk (Kd.R_below HX2.out hb)
  have BXn := Aside0.mk ((hb.block _ (blk_lt BX.out)).trans BX.out)
  clear HB BM HW0 HX0 HX1 HX2 BX
  have HB := HBn
  have BM := BMn
  have HW0 := HW0n
  have HX0 := HX0n
  have HX1 := HX1n
  have HX2 := HX2n
  have BX := BXn
  clear HBn BMn HW0n HX0n HX1n HX2n BXn
  have HG0 := Aside0.mk (show Kd.R (Kd.int .i64) 3 w9 w.heap.size (fun k_ => s6 ≤ k_) vg g0 from Kd.R_lower (Kd.R_mono (Kd.R_bound hg) (fun k_ hk_ => by rw [hs6]; exact hk_.2.1)) (by have := HO.out; omega))
  clear hg hb hs6
  obtain ⟨AG, cG, rfl⟩ := Kd.R_slice HG0.out
  go_wp2_with fail
  go_at_call 27
  refine (laws_eqIntS.calls k AG cG g0 AW cW w0 true _ (Kd.R_reads' HG0.out).2.2 (Kd.R_reads' HG0.out).2.1 (Kd.R_reads' HW0.out).2.2 (Kd.R_reads' HW0.out).2.1 H7.out).mono ?_
  rintro e w10 ⟨rfl, hd_⟩
  have hb := hd_.below
  have HBn := Aside0.mk (below_step HB.out hb)
  have BMn := Aside0.mk ((hb.block _ (blk_lt BM.out)).trans BM.out)
  have HW0n := Aside0.mk (Kd.R_below HW0.out hb)
  have HX0n := Aside0.mk (Kd.S_below HX0.out hb)
  have HX1n := Aside0.mk (Kd.R_below HX1.out hb)
  have HX2n := Aside0.mk (Kd.R_below HX2.out hb)
  have BXn := Aside0.mk ((hb.block _ (blk_lt BX.out)).trans BX.out)
  have HG0n := Aside0.mk (Kd.R_below HG0.out hb)
  clear HB BM HW0 HX0 HX1 HX2 BX HG0
  have HB := HBn
  have BM := BMn
  have HW0 := HW0n
  have HX0 := HX0n
  have HX1 := HX1n
  have HX2 := HX2n
  have BX := BXn
  have HG0 := HG0n
  clear HBn BMn HW0n HX0n HX1n HX2n BXn HG0n
  clear hb hd_
  go_wp2_with fail
  go_at_call 18
  refine (laws_toClassS.calls k A0 c0 l0 cs _ (Kd.C_below HR0.out HB.out) HC0.out H3.out).mono ?_
  rintro e w11 ⟨vt, rfl, ht, hb⟩
  have HBn := Aside0.mk (below_step HB.out hb)
  have BMn := Aside0.mk ((hb.block _ (blk_lt BM.out)).trans BM.out)
  have HW0n := Aside0.mk (Kd.R_below HW0.out hb)
  have HX0n := Aside0.mk (Kd.S_below HX0.out hb)
  have HX1n := Aside0.mk (Kd.R_below HX1.out hb)
  have HX2n := Aside0.mk (Kd.R_below HX2.out hb)
  have BXn := Aside0.mk ((hb.block _ (blk_lt BX.out)).trans BX.out)
  have HG0n := Aside0.mk (Kd.R_below HG0.out hb)
  clear HB BM HW0 HX0 HX1 HX2 BX HG0
  have HB := HBn
  have BM := BMn
  have HW0 := HW0n
  have HX0 := HX0n
  have HX1 := HX1n
  have HX2 := HX2n
  have BX := BXn
  have HG0 := HG0n
  clear HBn BMn HW0n HX0n HX1n HX2n BXn HG0n
  have HT := Aside0.mk ht
  clear hb ht
  obtain ⟨AT, cT, rfl⟩ := Kd.S_slice HT.out
  go_wp2_with fail
  go_at_call 20
  refine (laws_eqClassS.calls k AX0 cX0 cs AT cT cs true _ (Kd.R_reads' (Kd.S_R HX0.out)).2.2 (Kd.R_reads' (Kd.S_R HX0.out)).2.1 (Kd.R_reads' (Kd.S_R HT.out)).2.2 (Kd.R_reads' (Kd.S_R HT.out)).2.1 H8.out).mono ?_
  rintro e w12 ⟨rfl, hb⟩
  have HBn := Aside0.mk (below_step HB.out hb)
  have BMn := Aside0.mk ((hb.block _ (blk_lt BM.out)).trans BM.out)
  have HW0n := Aside0.mk (Kd.R_below HW0.out hb)
  have HX0n := Aside0.mk (Kd.S_below HX0.out hb)
  have HX1n := Aside0.mk (Kd.R_below HX1.out hb)
  have HX2n := Aside0.mk (Kd.R_below HX2.out hb)
  have BXn := Aside0.mk ((hb.block _ (blk_lt BX.out)).trans BX.out)
  have HG0n := Aside0.mk (Kd.R_below HG0.out hb)
  clear HB BM HW0 HX0 HX1 HX2 BX HG0
  have HB := HBn
  have BM := BMn
  have HW0 := HW0n
  have HX0 := HX0n
  have HX1 := HX1n
  have HX2 := HX2n
  have BX := BXn
  have HG0 := HG0n
  clear HBn BMn HW0n HX0n HX1n HX2n BXn HG0n
  clear hb HT
  have m0 := (blk_cell BM.out 0).trans rfl
  have m1 := (blk_cell BM.out 1).trans rfl
  have m2 := (blk_cell BM.out 2).trans rfl
  have m3 := (blk_cell BM.out 3).trans rfl
  have m4 := (blk_cell BM.out 4).trans rfl
  have n0 := (blk_cell BX.out 0).trans rfl
  have n1 := (blk_cell BX.out 1).trans rfl
  have n2 := (blk_cell BX.out 2).trans rfl
  have n3 := (blk_cell BX.out 3).trans rfl
  have n4 := (blk_cell BX.out 4).trans rfl
  go_wp2
  refine start_ (n := 5) (S := fun w' => Aside0 (Below w12.heap.size w12 w') ∧ w'.cell? (⟨w.heap.size, 0, none⟩) = some (.slice A1_0 l1_0.length c1_0) ∧ w'.cell? (⟨w.heap.size, 1, none⟩) = some (.int .i64 a1_1) ∧ w'.cell? (⟨w.heap.size, 2, none⟩) = some (.int .i64 a1_2) ∧ w'.cell? (⟨w.heap.size, 3, none⟩) = some (.int .i64 a1_3) ∧ w'.cell? (⟨w.heap.size, 4, none⟩) = some (.slice A1_4 l1_4.length c1_4) ∧ w'.cell? (⟨gx, 0, none⟩) = some (.slice AX l1_0.length cX) ∧ w'.cell? (⟨gx, 1, none⟩) = some (.int .i64 a1_1) ∧ w'.cell? (⟨gx, 2, none⟩) = some (.int .i64 a1_2) ∧ w'.cell? (⟨gx, 3, none⟩) = some (.int .i64 a1_3) ∧ w'.cell? (⟨gx, 4, none⟩) = some (.slice AY l1_4.length cY)) (ds := []) #[false, false, false, false, false] (by kernel_rfl) rfl rfl ⟨⟨below_drew1 (Below.refl _ _)⟩, (by go_simp), (by go_simp), (by go_simp), (by go_simp), (by go_simp), (by go_simp), (by go_simp), (by go_simp), (by go_simp), (by go_simp)⟩ (fun hHeld => ?_)
  refine tS 0 45 #[true, false, false, false, false] rfl rfl (by kernel_rfl) hHeld (by rintro w' ⟨s0, s1, s2, s3, s4, s5, s6, s7, s8, s9, s10⟩; go_simp; with_reducible rfl) ?_
  refine tS 1 46 #[true, true, false, false, false] rfl rfl (by kernel_rfl) hHeld (by rintro w' ⟨s0, s1, s2, s3, s4, s5, s6, s7, s8, s9, s10⟩; go_simp; with_reducible rfl) ?_
  refine one_ (i := 2) (N := some 47) #[true, true, true, false, false] rfl rfl (by kernel_rfl) (by decide) (fun K hK => ?_)
  refine goes_ Try.func19 (by kernel_rfl) rfl #[.agg #[.slice A1_0 l1_0.length c1_0, .int .i64 a1_1, .int .i64 a1_2, .int .i64 a1_3, .slice A1_4 l1_4.length c1_4]] (by rfl) rfl rfl (by simp only [List.map_toArray, List.map_cons, List.map_nil]; rfl) ?_
  with_reducible refine (laws_toMem.calls k A1_0 c1_0 l1_0 a1_1 a1_2 a1_3 A1_4 c1_4 l1_4 l1_0 a1_1 a1_2 a1_3 l1_4 _ (Kd.C_below HR1.out (below_step HB.out hHeld.1.out)) HC1.out (Kd.C_below HR4.out (below_step HB.out hHeld.1.out)) HC4.out H4.out).mono ?_
  rintro e wb ⟨vm, vn, rfl, hm_, hn_, hbb⟩
  have HVM := Aside0.mk hm_
  have HVN := Aside0.mk hn_
  have HBB := Aside0.mk hbb
  obtain ⟨AVM, cVM, rfl⟩ := Kd.R_slice hm_
  obtain ⟨AVN, cVN, rfl⟩ := Kd.R_slice hn_
  refine ⟨_, rfl, ?_⟩
  refine hK.out _ _ ⟨⟨below_step hHeld.1.out hbb⟩, (pw_cell_below hbb hHeld.2.1), (pw_cell_below hbb hHeld.2.2.1), (pw_cell_below hbb hHeld.2.2.2.1), (pw_cell_below hbb hHeld.2.2.2.2.1), (pw_cell_below hbb hHeld.2.2.2.2.2.1), (pw_cell_below hbb hHeld.2.2.2.2.2.2.1), (pw_cell_below hbb hHeld.2.2.2.2.2.2.2.1), (pw_cell_below hbb hHeld.2.2.2.2.2.2.2.2.1), (pw_cell_below hbb hHeld.2.2.2.2.2.2.2.2.2.1), (pw_cell_below hbb hHeld.2.2.2.2.2.2.2.2.2.2)⟩ (fun hHeld => ?_)
  clear hK K
  refine norm_ (a' := ?_) ?_ ?_
  rotate_left
  · show Act.put _ (some 47) _ = _
    simp only [Act.put, lA1, lA2, lA3, i64_w, i32_w]
    rfl
  refine one_ (i := 3) (N := some 48) #[true, true, true, true, false] rfl rfl (by kernel_rfl) (by decide) (fun K hK => ?_)
  refine goes_ Try.func21 (by kernel_rfl) rfl #[.agg #[.slice AX l1_0.length cX, .int .i64 a1_1, .int .i64 a1_2, .int .i64 a1_3, .slice AY l1_4.length cY], .agg #[.slice AVM l1_0.length cVM, .int .i64 a1_1, .int .i64 a1_2, .int .i64 a1_3, .slice AVN l1_4.length cVN]] (by rfl) rfl rfl (by simp only [List.map_toArray, List.map_cons, List.map_nil]; rfl) ?_
  with_reducible refine (laws_eqMem.calls k AX cX l1_0 a1_1 a1_2 a1_3 AY cY l1_4 AVM cVM l1_0 a1_1 a1_2 a1_3 AVN cVN l1_4 true _ (Kd.C_below (Kd.R_reads' HX1.out).2.2 hHeld.1.out) (Kd.R_reads' HX1.out).2.1 (Kd.C_below (Kd.R_reads' HX2.out).2.2 hHeld.1.out) (Kd.R_reads' HX2.out).2.1 (Kd.C_below (Kd.R_reads' HVM.out).2.2 (Below.refl _ _)) (Kd.R_reads' HVM.out).2.1 (Kd.C_below (Kd.R_reads' HVN.out).2.2 (Below.refl _ _)) (Kd.R_reads' HVN.out).2.1 H9.out).mono ?_
  rintro e wc ⟨rfl, hbc⟩
  refine ⟨_, rfl, ?_⟩
  refine hK.out _ _ ⟨⟨below_step hHeld.1.out hbc⟩, (pw_cell_below hbc hHeld.2.1), (pw_cell_below hbc hHeld.2.2.1), (pw_cell_below hbc hHeld.2.2.2.1), (pw_cell_below hbc hHeld.2.2.2.2.1), (pw_cell_below hbc hHeld.2.2.2.2.2.1), (pw_cell_below hbc hHeld.2.2.2.2.2.2.1), (pw_cell_below hbc hHeld.2.2.2.2.2.2.2.1), (pw_cell_below hbc hHeld.2.2.2.2.2.2.2.2.1), (pw_cell_below hbc hHeld.2.2.2.2.2.2.2.2.2.1), (pw_cell_below hbc hHeld.2.2.2.2.2.2.2.2.2.2)⟩ (fun hHeld => ?_)
  clear hK K
  refine norm_ (a' := ?_) ?_ ?_
  rotate_left
  · show Act.put _ (some 48) _ = _
    simp only [Act.put, lA1, lA2, lA3, i64_w, i32_w]
    rfl
  refine pS 4 49 #[true, true, true, true, true] ?_
  refine done_ (by kernel_rfl) ?_
  have hb := hHeld.1.out
  clear hHeld
  have HBn := Aside0.mk (below_step HB.out hb)
  have BMn := Aside0.mk ((hb.block _ (blk_lt BM.out)).trans BM.out)
  have HW0n := Aside0.mk (Kd.R_below HW0.out hb)
  have HX0n := Aside0.mk (Kd.S_below HX0.out hb)
  have HX1n := Aside0.mk (Kd.R_below HX1.out hb)
  have HX2n := Aside0.mk (Kd.R_below HX2.out hb)
  have BXn := Aside0.mk ((hb.block _ (blk_lt BX.out)).trans BX.out)
  have HG0n := Aside0.mk (Kd.R_below HG0.out hb)
  clear HB BM HW0 HX0 HX1 HX2 BX HG0
  have HB := HBn
  have BM := BMn
  have HW0 := HW0n
  have HX0 := HX0n
  have HX1 := HX1n
  have HX2 := HX2n
  have BX := BXn
  have HG0 := HG0n
  clear HBn BMn HW0n HX0n HX1n HX2n BXn HG0n
  clear hb
  clear HVM HVN HBB m0 m1 m2 m3 m4 n0 n1 n2 n3 n4
  go_wp2_with fail
  go_at_call 28
  refine (laws_markClassS.calls k (fun k_ => s3 ≤ k_ ∧ k_ < s4) AX0 cs.length cX0 cs 1 k1 w _ HB.out HX0.out HCL.out H10.out).mono ?_
  rintro e w14 ⟨rfl, hB_, hk⟩
  have HBn := Aside0.mk hB_
  have BMn := Aside0.mk (blk_kept BM.out hk (by intro hs; have := HO.out; omega))
  have HW0n := Aside0.mk (Kd.R_kept HW0.out hk (fun k_ hk_ hs_ => by have := HO.out; omega))
  have HX1n := Aside0.mk (Kd.R_kept HX1.out hk (fun k_ hk_ hs_ => by have := HO.out; omega))
  have HX2n := Aside0.mk (Kd.R_kept HX2.out hk (fun k_ hk_ hs_ => by have := HO.out; omega))
  have BXn := Aside0.mk (blk_kept BX.out hk (by intro hs_; have := HO.out; omega))
  have HG0n := Aside0.mk (Kd.R_kept HG0.out hk (fun k_ hk_ hs_ => by have := HO.out; omega))
  clear HB BM HW0 HX0 HX1 HX2 BX HG0
  have HB := HBn
  have BM := BMn
  have HW0 := HW0n
  have HX1 := HX1n
  have HX2 := HX2n
  have BX := BXn
  have HG0 := HG0n
  clear HBn BMn HW0n HX1n HX2n BXn HG0n
  clear hk hB_
  have n0 := (blk_cell BX.out 0).trans rfl
  have n1 := (blk_cell BX.out 1).trans rfl
  have n2 := (blk_cell BX.out 2).trans rfl
  have n3 := (blk_cell BX.out 3).trans rfl
  have n4 := (blk_cell BX.out 4).trans rfl
  go_wp2_with fail
  go_at_call 29
  refine (laws_markMem.calls k (fun k_ => s4 ≤ k_ ∧ k_ < s5) _ l1_0 a1_1 a1_2 a1_3 (fun k_ => s4 ≤ k_ ∧ k_ < s5) _ l1_4 k1 k2 pm1 pm2 w _ HB.out HX1.out HX2.out H11.out).mono ?_
  rintro e w15 ⟨rfl, _, _, hB_, hk⟩
  clear n0 n1 n2 n3 n4
  have HBn := Aside0.mk hB_
  have BMn := Aside0.mk (blk_kept BM.out hk (by intro hs; have := HO.out; omega))
  have HW0n := Aside0.mk (Kd.R_kept HW0.out hk (fun k_ hk_ hs_ => by have := HO.out; omega))
  have BXn := Aside0.mk (blk_kept BX.out hk (by intro hs_; have := HO.out; omega))
  have HG0n := Aside0.mk (Kd.R_kept HG0.out hk (fun k_ hk_ hs_ => by have := HO.out; omega))
  clear HB BM HW0 HX1 HX2 BX HG0
  have HB := HBn
  have BM := BMn
  have HW0 := HW0n
  have BX := BXn
  have HG0 := HG0n
  clear HBn BMn HW0n BXn HG0n
  clear hk hB_
  go_wp2_with fail
  go_at_call 27
  refine (laws_eqIntS.calls k AG cG g0 AW cW w0 true _ (Kd.R_reads' HG0.out).2.2 (Kd.R_reads' HG0.out).2.1 (Kd.R_reads' HW0.out).2.2 (Kd.R_reads' HW0.out).2.1 H7.out).mono ?_
  rintro e w10 ⟨rfl, hd_⟩
  have hb := hd_.below
  have HBn := Aside0.mk (below_step HB.out hb)
  have BMn := Aside0.mk ((hb.block _ (blk_lt BM.out)).trans BM.out)
  have HW0n := Aside0.mk (Kd.R_below HW0.out hb)
  have BXn := Aside0.mk ((hb.block _ (blk_lt BX.out)).trans BX.out)
  have HG0n := Aside0.mk (Kd.R_below HG0.out hb)
  clear HB BM HW0 BX HG0
  have HB := HBn
  have BM := BMn
  have HW0 := HW0n
  have BX := BXn
  have HG0 := HG0n
  clear HBn BMn HW0n BXn HG0n
  clear hb hd_
  go_wp2_with fail
  go_at_call 30
  refine (laws_markIntS.calls k (fun k_ => s6 ≤ k_) _ g0 1 q gm w _ HB.out HG0.out H12.out).mono ?_
  rintro e w16 ⟨rfl, hgm, hB_, hk⟩
  have HGn := Aside0.mk (show Kd.R (Kd.int .i64) 3 w16 w.heap.size (fun k_ => s6 ≤ k_) (.slice AG g0.length cG) gm from Kd.R_of_own (Kd.own_of_R hgm) HG0.out.1)
  have HBn := Aside0.mk hB_
  have BMn := Aside0.mk (blk_kept BM.out hk (by intro hs; have := HO.out; omega))
  have HW0n := Aside0.mk (Kd.R_kept HW0.out hk (fun k_ hk_ hs_ => by have := HO.out; omega))
  have BXn := Aside0.mk (blk_kept BX.out hk (by intro hs_; have := HO.out; omega))
  clear HB BM HW0 BX HG0
  have HB := HBn
  have BM := BMn
  have HW0 := HW0n
  have BX := BXn
  clear HBn BMn HW0n BXn
  have HG0 := HGn
  clear hk hB_ HGn hgm
  have HGl := Aside0.mk (Kd.R_reads' HG0.out).1
  rw [HGl.out] at HG0
  go_wp2_with fail
  go_at_call 31
  try rw [HGl.out]
  refine (laws_heldIntS.calls k AG cG gm 1 q _ (Kd.R_reads' HG0.out).2.2 (Kd.R_reads' HG0.out).2.1 H13.out).mono ?_
  rintro e w17 ⟨rfl, hd_⟩
  have hb := hd_.below
  have HBn := Aside0.mk (below_step HB.out hb)
  have BMn := Aside0.mk ((hb.block _ (blk_lt BM.out)).trans BM.out)
  have HW0n := Aside0.mk (Kd.R_below HW0.out hb)
  have BXn := Aside0.mk ((hb.block _ (blk_lt BX.out)).trans BX.out)
  have HG0n := Aside0.mk (Kd.R_below HG0.out hb)
  clear HB BM HW0 BX HG0
  have HB := HBn
  have BM := BMn
  have HW0 := HW0n
  have BX := BXn
  have HG0 := HG0n
  clear HBn BMn HW0n BXn HG0n
  clear hb hd_
  have m0 := (blk_cell BM.out 0).trans rfl
  have m1 := (blk_cell BM.out 1).trans rfl
  have m2 := (blk_cell BM.out 2).trans rfl
  have m3 := (blk_cell BM.out 3).trans rfl
  have m4 := (blk_cell BM.out 4).trans rfl
  go_wp2
  refine start_ (n := 6) (S := fun w' => Aside0 (Below w17.heap.size w17 w') ∧ w'.cell? (⟨w.heap.size, 0, none⟩) = some (.slice A1_0 l1_0.length c1_0) ∧ w'.cell? (⟨w.heap.size, 1, none⟩) = some (.int .i64 a1_1) ∧ w'.cell? (⟨w.heap.size, 2, none⟩) = some (.int .i64 a1_2) ∧ w'.cell? (⟨w.heap.size, 3, none⟩) = some (.int .i64 a1_3) ∧ w'.cell? (⟨w.heap.size, 4, none⟩) = some (.slice A1_4 l1_4.length c1_4)) (ds := []) #[false, false, false, false, false, false] (by kernel_rfl) rfl rfl ⟨⟨below_drew1 (Below.refl _ _)⟩, (by go_simp), (by go_simp), (by go_simp), (by go_simp), (by go_simp)⟩ (fun hHeld => ?_)
  refine pS 0 75 #[true, false, false, false, false, false] ?_
  refine tS 2 77 #[true, false, true, false, false, false] rfl rfl (by kernel_rfl) hHeld (by rintro w' ⟨s0, s1, s2, s3, s4, s5⟩; go_simp; with_reducible rfl) ?_
  refine one_ (i := 1) (N := some 76) #[true, true, true, false, false, false] rfl rfl (by kernel_rfl) (by decide) (fun K hK => ?_)
  refine goes_ Try.func18 (by kernel_rfl) rfl #[.slice A0 l0.length c0] (by rfl) rfl rfl (by simp only [List.map_toArray, List.map_cons, List.map_nil]; rfl) ?_
  with_reducible refine (laws_toClassS.calls k A0 c0 l0 cs _ (Kd.C_below HR0.out (below_step HB.out hHeld.1.out)) HC0.out H3.out).mono ?_
  rintro e wa ⟨vc, rfl, hc, hba⟩
  have HVC := Aside0.mk hc
  obtain ⟨AVC, cVC, rfl⟩ := Kd.S_slice hc
  refine ⟨_, rfl, ?_⟩
  refine hK.out _ _ ⟨⟨below_step hHeld.1.out hba⟩, (pw_cell_below hba hHeld.2.1), (pw_cell_below hba hHeld.2.2.1), (pw_cell_below hba hHeld.2.2.2.1), (pw_cell_below hba hHeld.2.2.2.2.1), (pw_cell_below hba hHeld.2.2.2.2.2)⟩ (fun hHeld => ?_)
  clear hK K
  refine norm_ (a' := ?_) ?_ ?_
  rotate_left
  · show Act.put _ (some 76) _ = _
    simp only [Act.put, lA1, lA2, lA3, i64_w, i32_w]
    rfl
  refine one_ (i := 3) (N := some 78) #[true, true, true, true, false, false] rfl rfl (by kernel_rfl) (by decide) (fun K hK => ?_)
  refine goes_ Try.func19 (by kernel_rfl) rfl #[.agg #[.slice A1_0 l1_0.length c1_0, .int .i64 a1_1, .int .i64 a1_2, .int .i64 a1_3, .slice A1_4 l1_4.length c1_4]] (by rfl) rfl rfl (by simp only [List.map_toArray, List.map_cons, List.map_nil]; rfl) ?_
  with_reducible refine (laws_toMem.calls k A1_0 c1_0 l1_0 a1_1 a1_2 a1_3 A1_4 c1_4 l1_4 l1_0 a1_1 a1_2 a1_3 l1_4 _ (Kd.C_below HR1.out (below_step HB.out hHeld.1.out)) HC1.out (Kd.C_below HR4.out (below_step HB.out hHeld.1.out)) HC4.out H4.out).mono ?_
  rintro e wb ⟨vm, vn, rfl, hm_, hn_, hbb⟩
  have HVM := Aside0.mk hm_
  have HVN := Aside0.mk hn_
  have HBB := Aside0.mk hbb
  obtain ⟨AVM, cVM, rfl⟩ := Kd.R_slice hm_
  obtain ⟨AVN, cVN, rfl⟩ := Kd.R_slice hn_
  refine ⟨_, rfl, ?_⟩
  refine hK.out _ _ ⟨⟨below_step hHeld.1.out hbb⟩, (pw_cell_below hbb hHeld.2.1), (pw_cell_below hbb hHeld.2.2.1), (pw_cell_below hbb hHeld.2.2.2.1), (pw_cell_below hbb hHeld.2.2.2.2.1), (pw_cell_below hbb hHeld.2.2.2.2.2)⟩ (fun hHeld => ?_)
  clear hK K
  refine norm_ (a' := ?_) ?_ ?_
  rotate_left
  · show Act.put _ (some 78) _ = _
    simp only [Act.put, lA1, lA2, lA3, i64_w, i32_w]
    rfl
  refine one_ (i := 4) (N := some 79) #[true, true, true, true, true, false] rfl rfl (by kernel_rfl) (by decide) (fun K hK => ?_)
  refine goes_ Try.func14 (by kernel_rfl) rfl #[.slice AVC cs.length cVC, .agg #[.slice AVM l1_0.length cVM, .int .i64 a1_1, .int .i64 a1_2, .int .i64 a1_3, .slice AVN l1_4.length cVN]] (by rfl) rfl rfl (by simp only [List.map_toArray, List.map_cons, List.map_nil]; rfl) ?_
  with_reducible refine (impl_MemWalk.calls k AVC cVC cs AVM cVM l1_0 a1_1 a1_2 a1_3 AVN cVN l1_4 g0 _ (Kd.C_below (Kd.R_reads' (Kd.S_R HVC.out)).2.2 HBB.out) (Kd.R_reads' (Kd.S_R HVC.out)).2.1 (Kd.C_below (Kd.R_reads' HVM.out).2.2 (Below.refl _ _)) (Kd.R_reads' HVM.out).2.1 (Kd.C_below (Kd.R_reads' HVN.out).2.2 (Below.refl _ _)) (Kd.R_reads' HVN.out).2.1 H6.out).mono ?_
  rintro e wc ⟨vr, rfl, hvr, hbc⟩
  have HWr := Aside0.mk hvr
  have HWB := Aside0.mk (below_size (below_step HB.out hHeld.1.out))
  refine ⟨_, rfl, ?_⟩
  refine hK.out _ _ ⟨⟨below_step hHeld.1.out hbc⟩, (pw_cell_below hbc hHeld.2.1), (pw_cell_below hbc hHeld.2.2.1), (pw_cell_below hbc hHeld.2.2.2.1), (pw_cell_below hbc hHeld.2.2.2.2.1), (pw_cell_below hbc hHeld.2.2.2.2.2)⟩ (fun hHeld => ?_)
  clear hK K
  refine norm_ (a' := ?_) ?_ ?_
  rotate_left
  · show Act.put _ (some 79) _ = _
    simp only [Act.put, lA1, lA2, lA3, i64_w, i32_w]
    rfl
  refine pS 5 13 #[true, true, true, true, true, true] ?_
  refine done_ (by kernel_rfl) ?_
  have hb := hHeld.1.out
  clear hHeld
  have HBn := Aside0.mk (below_step HB.out hb)
  have BMn := Aside0.mk ((hb.block _ (blk_lt BM.out)).trans BM.out)
  have HW0n := Aside0.mk (Kd.R_below HW0.out hb)
  have BXn := Aside0.mk ((hb.block _ (blk_lt BX.out)).trans BX.out)
  have HG0n := Aside0.mk (Kd.R_below HG0.out hb)
  clear HB BM HW0 BX HG0
  have HB := HBn
  have BM := BMn
  have HW0 := HW0n
  have BX := BXn
  have HG0 := HG0n
  clear HBn BMn HW0n BXn HG0n
  clear hb
  clear m0 m1 m2 m3 m4
  obtain ⟨AH, cH, rfl⟩ := Kd.R_slice HWr.out
  go_wp2_with fail
  go_at_call 27
  refine (laws_eqIntS.calls k AH cH g0 AW cW w0 true _ (Kd.R_reads' HWr.out).2.2 (Kd.R_reads' HWr.out).2.1 (Kd.R_reads' HW0.out).2.2 (Kd.R_reads' HW0.out).2.1 H7.out).mono ?_
  rintro e w18 ⟨rfl, hd_⟩
  have hb := hd_.below
  have HBn := Aside0.mk (below_step HB.out hb)
  have BMn := Aside0.mk ((hb.block _ (blk_lt BM.out)).trans BM.out)
  have HW0n := Aside0.mk (Kd.R_below HW0.out hb)
  have BXn := Aside0.mk ((hb.block _ (blk_lt BX.out)).trans BX.out)
  have HG0n := Aside0.mk (Kd.R_below HG0.out hb)
  clear HB BM HW0 BX HG0
  have HB := HBn
  have BM := BMn
  have HW0 := HW0n
  have BX := BXn
  have HG0 := HG0n
  clear HBn BMn HW0n BXn HG0n
  clear hb hd_
  go_wp2_with fail
  go_at_call 31
  try rw [HGl.out]
  refine (laws_heldIntS.calls k AG cG gm 1 q _ (Kd.R_reads' HG0.out).2.2 (Kd.R_reads' HG0.out).2.1 H13.out).mono ?_
  rintro e w17 ⟨rfl, hd_⟩
  have hb := hd_.below
  have HBn := Aside0.mk (below_step HB.out hb)
  have BMn := Aside0.mk ((hb.block _ (blk_lt BM.out)).trans BM.out)
  have HW0n := Aside0.mk (Kd.R_below HW0.out hb)
  have BXn := Aside0.mk ((hb.block _ (blk_lt BX.out)).trans BX.out)
  have HG0n := Aside0.mk (Kd.R_below HG0.out hb)
  clear HB BM HW0 BX HG0
  have HB := HBn
  have BM := BMn
  have HW0 := HW0n
  have BX := BXn
  have HG0 := HG0n
  clear HBn BMn HW0n BXn HG0n
  clear hb hd_
  go_wp2
  go_ret
  exact ⟨rfl, HB.out⟩
end Go.Proofs.Ytjnbilfhpdkcbaa.K
namespace Go.Proofs.Ytjnbilfhpdkcbaa.K
open Go.RowKit Go.Proofs.YtjnbilfhpdkcbaaW.PrintWords Go.Proofs.YtjnbilfhpdkcbaaW.PrintLast Go.Proofs.YtjnbilfhpdkcbaaW.PrintMore
attribute [local go_sem] max2_int min2_int max_two min_two max_three min_three max_four min_four
set_option linter.unusedVariables false
set_option linter.unusedSimpArgs false
def laws_FnExactMemWalk.Pure : Prop := ∀ (a0 : List (S69)) (a1 : S38), (GL G69) a0 → G38 a1 → ∃ k, laws_FnExactMemWalk.f k a0 a1.f0 a1.f1 a1.f2 a1.f3 a1.f4 = some true
end Go.Proofs.Ytjnbilfhpdkcbaa.K
