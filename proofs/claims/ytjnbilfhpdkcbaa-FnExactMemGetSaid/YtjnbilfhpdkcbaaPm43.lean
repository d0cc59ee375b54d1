import Derived.Test.YtjnbilfhpdkcbaaPm24
import Derived.Test.YtjnbilfhpdkcbaaPm27
import Derived.Test.YtjnbilfhpdkcbaaPm28
import Derived.Test.YtjnbilfhpdkcbaaPm32
import Derived.Test.YtjnbilfhpdkcbaaPm33
import Derived.Test.YtjnbilfhpdkcbaaPm42
import Derived.Test.YtjnbilfhpdkcbaaPm35
import Derived.Test.YtjnbilfhpdkcbaaPm38
import Derived.Test.YtjnbilfhpdkcbaaPm36
namespace Go.Proofs.Ytjnbilfhpdkcbaa.K
open Go.RowKit Go.Proofs.YtjnbilfhpdkcbaaW.PrintWords Go.Proofs.YtjnbilfhpdkcbaaW.PrintLast Go.Proofs.YtjnbilfhpdkcbaaW.PrintMore
attribute [local go_sem] max2_int min2_int max_two min_two max_three min_three max_four min_four
set_option linter.unusedVariables false
set_option linter.unusedSimpArgs false
def laws_FnExactMemGet.j0 : Nat → List (S69) → List (S32) → Bool → List Int → Int → Int → Int → List Bool → List Int → Int → Int → Int → List Bool → Option (Bool)
  | 0, _, _, _, _, _, _, _, _, _, _, _, _, _ => none
  | k + 1, x0, x12, x55, x410000, x410001, x410002, x410003, x410004, x439000, x439001, x439002, x439003, x439004 => if x55 = true then (some false) else ((laws_toClassS.f k x0).bind fun t441 => ((laws_eqClassS.f k x12 t441).bind fun t444 => (if t444 = true then ((laws_toMem.f k x410000 x410001 x410002 x410003 x410004).bind fun bt445 => ((laws_eqMem.f k x439000 x439001 x439002 x439003 x439004 bt445.1 bt445.2.1 bt445.2.2.1 bt445.2.2.2.1 bt445.2.2.2.2).bind fun t454 => (if t454 = true then (some true) else (some false)))) else (some false))))
def laws_FnExactMemGet.f (k : Nat) (l0 : List (S69)) (l1_0 : List Int) (a1_1 : Int) (a1_2 : Int) (a1_3 : Int) (l1_4 : List Bool) (a2 : Int) (a3 : Int) : Option (Bool) := (laws_szClassS.f k l0 1048576).bind fun t410 => (if t410 < 0 then (some true) else ((laws_szMem.f l1_0 a1_1 a1_2 a1_3 l1_4 t410).bind fun t411 => (if t411 < 0 then (some true) else ((laws_toClassS.f k l0).bind fun t412 => ((laws_toMem.f k l1_0 a1_1 a1_2 a1_3 l1_4).bind fun bt415 => ((spec_MemGet.f k t412 bt415.1 bt415.2.1 bt415.2.2.1 bt415.2.2.2.1 bt415.2.2.2.2 a2 a3).bind fun bt424 => ((laws_toClassS.f k l0).bind fun t426 => ((laws_toMem.f k l1_0 a1_1 a1_2 a1_3 l1_4).bind fun bt429 => ((impl_MemGet.f k t426 bt429.1 bt429.2.1 bt429.2.2.1 bt429.2.2.2.1 bt429.2.2.2.2 a2 a3).bind fun bt439 => (if bt439.1 = bt424.1 then (laws_FnExactMemGet.j0 k l0 t426 (bt439.2 != bt424.2) l1_0 a1_1 a1_2 a1_3 l1_4 bt429.1 bt429.2.1 bt429.2.2.1 bt429.2.2.2.1 bt429.2.2.2.2) else (laws_FnExactMemGet.j0 k l0 t426 true l1_0 a1_1 a1_2 a1_3 l1_4 bt429.1 bt429.2.1 bt429.2.2.1 bt429.2.2.2.1 bt429.2.2.2.2)))))))))))
def laws_FnExactMemGet.T8 : Bool × List (List Nat × List Nat) := (true, [([], []), ([0], [0]), ([], []), ([2, 1], [2]), ([], []), ([], []), ([1, 3, 4, 5, 3], [1, 3, 4, 5]), ([6], [6]), ([7], [7]), ([7], [7]), ([8, 6, 0, 1, 2, 3, 4, 5, 6, 7, 8], [8]), ([9, 10, 0, 1, 2, 3, 4, 5, 6, 7, 8, 9, 10], [9])])
def laws_FnExactMemGet.B8 : List Nat := [0, 1, 0, 7, 0, 0, 63, 127, 255, 255, 511, 2047]
theorem laws_FnExactMemGet.tab8 : rtab .any (opsOf Try.f6 8) = laws_FnExactMemGet.T8 := by kernel_rfl
theorem laws_FnExactMemGet.bits8 : waitsOk laws_FnExactMemGet.T8.2 laws_FnExactMemGet.B8 = true := by kernel_rfl
set_option maxHeartbeats 8000000 in
set_option maxRecDepth 100000 in
theorem laws_FnExactMemGet.calls (k : Nat) (A0 : Option Addr) (c0 : Nat) (l0 : List (S69)) (A1_0 : Option Addr) (c1_0 : Nat) (l1_0 : List Int) (a1_1 : Int) (a1_2 : Int) (a1_3 : Int) (A1_4 : Option Addr) (c1_4 : Nat) (l1_4 : List Bool) (a2 : Int) (a3 : Int) (r : Bool) (w : World) (hr_ : Aside0 (r = true)) (hr0 : Kd.C k69 w A0 l0.length l0) (hc0 : l0.length ≤ c0) (hr1_0 : Kd.C (Kd.int .i64) w A1_0 l1_0.length l1_0) (hc1_0 : l1_0.length ≤ c1_0) (hr1_4 : Kd.C Kd.bool w A1_4 l1_4.length l1_4) (hc1_4 : l1_4.length ≤ c1_4) (h : laws_FnExactMemGet.f k l0 l1_0 a1_1 a1_2 a1_3 l1_4 a2 a3 = some r) :
    Calls Try.prog 6 #[.slice A0 l0.length c0, .agg #[.slice A1_0 l1_0.length c1_0, .int .i64 a1_1, .int .i64 a1_2, .int .i64 a1_3, .slice A1_4 l1_4.length c1_4], .int .i64 a2, .int .i64 a3] w fun e w' => e = .returned (.bool r) ∧ Below w.heap.size w w' := by
  have hu38 := Try.underlying38
  have hu28 := Try.underlying28
  have HR0 := Aside0.mk hr0
  have HC0 := Aside0.mk hc0
  clear hr0 hc0
  have HR1_0 := Aside0.mk hr1_0
  have HC1_0 := Aside0.mk hc1_0
  clear hr1_0 hc1_0
  have HR1_4 := Aside0.mk hr1_4
  have HC1_4 := Aside0.mk hc1_4
  clear hr1_4 hc1_4
  have HB := Aside0.mk (Below.refl w.heap.size w)
  have H : ((laws_szClassS.f k l0 1048576).bind fun t410 => (if t410 < 0 then (some true) else ((laws_szMem.f l1_0 a1_1 a1_2 a1_3 l1_4 t410).bind fun t411 => (if t411 < 0 then (some true) else ((laws_toClassS.f k l0).bind fun t412 => ((laws_toMem.f k l1_0 a1_1 a1_2 a1_3 l1_4).bind fun bt415 => ((spec_MemGet.f k t412 bt415.1 bt415.2.1 bt415.2.2.1 bt415.2.2.2.1 bt415.2.2.2.2 a2 a3).bind fun bt424 => ((laws_toClassS.f k l0).bind fun t426 => ((laws_toMem.f k l1_0 a1_1 a1_2 a1_3 l1_4).bind fun bt429 => ((impl_MemGet.f k t426 bt429.1 bt429.2.1 bt429.2.2.1 bt429.2.2.2.1 bt429.2.2.2.2 a2 a3).bind fun bt439 => (if bt439.1 = bt424.1 then (laws_FnExactMemGet.j0 k l0 t426 (bt439.2 != bt424.2) l1_0 a1_1 a1_2 a1_3 l1_4 bt429.1 bt429.2.1 bt429.2.2.1 bt429.2.2.2.1 bt429.2.2.2.2) else (laws_FnExactMemGet.j0 k l0 t426 true l1_0 a1_1 a1_2 a1_3 l1_4 bt429.1 bt429.2.1 bt429.2.2.1 bt429.2.2.2.1 bt429.2.2.2.2)))))))))))) = some r := h
  clear h
  replace H := Option.bind_eq_some_iff.mp H
  obtain ⟨t410, A50, H⟩ := H
  replace H : (if t410 < 0 then (some true) else ((laws_szMem.f l1_0 a1_1 a1_2 a1_3 l1_4 t410).bind fun t411 => (if t411 < 0 then (some true) else ((laws_toClassS.f k l0).bind fun t412 => ((laws_toMem.f k l1_0 a1_1 a1_2 a1_3 l1_4).bind fun bt415 => ((spec_MemGet.f k t412 bt415.1 bt415.2.1 bt415.2.2.1 bt415.2.2.2.1 bt415.2.2.2.2 a2 a3).bind fun bt424 => ((laws_toClassS.f k l0).bind fun t426 => ((laws_toMem.f k l1_0 a1_1 a1_2 a1_3 l1_4).bind fun bt429 => ((impl_MemGet.f k t426 bt429.1 bt429.2.1 bt429.2.2.1 bt429.2.2.2.1 bt429.2.2.2.2 a2 a3).bind fun bt439 => (if bt439.1 = bt424.1 then (laws_FnExactMemGet.j0 k l0 t426 (bt439.2 != bt424.2) l1_0 a1_1 a1_2 a1_3 l1_4 bt429.1 bt429.2.1 bt429.2.2.1 bt429.2.2.2.1 bt429.2.2.2.2) else (laws_FnExactMemGet.j0 k l0 t426 true l1_0 a1_1 a1_2 a1_3 l1_4 bt429.1 bt429.2.1 bt429.2.2.1 bt429.2.2.2.1 bt429.2.2.2.2))))))))))) = some r := H
  have A5 := Aside0.mk A50
  clear A50
  by_cases c6 : t410 < 0
  · rw [if_pos c6] at H
    have c6b0 : decide (t410 < 0) = true := decide_eq_true c6
    clear c6
    obtain rfl := Option.some.inj H
    go_enter Try.func6, Try.ntmps6
    go_wp2_with (first | ((with_reducible refine gate_dst (N := 5) rfl ?_); refine box_event ?hg (N := 5) ?hd (cs := #[.slice A1_0 l1_0.length c1_0, .int .i64 a1_1, .int .i64 a1_2, .int .i64 a1_3, .slice A1_4 l1_4.length c1_4]) (t := 38) ?hr ?_; (case hd => rfl); (case hg => rfl); (case hr => first | (go_simp; done) | (go_simp; rfl)); intro gb409 hg w7 hbox hb; have n0_ := Aside0.mk (below_step (by repeat (first | (with_reducible first | exact HB.out | apply below_alloc | apply pw_below_drewN | apply below_drew1) | exact HB.out)) hb); have n1_ := Aside0.mk (hbox); have n2_ := Aside0.mk ((by rw [hg]; exact (below_size (by repeat (first | (with_reducible first | exact HB.out | apply below_alloc | apply pw_below_drewN | apply below_drew1) | exact HB.out))) : w.heap.size ≤ gb409)); have n3_ := Aside0.mk ((by rw [hg]; exact (below_size (by repeat (first | (with_reducible first | exact HB.out | apply below_alloc | apply pw_below_drewN | apply below_drew1) | exact HB.out))) : w.heap.size ≤ gb409)); clear HB; have HB := n0_; have BK409 := n1_; have GW409 := n2_; have GE409 := n3_; clear n0_ n1_ n2_ n3_; clear hb hbox hg) | ((with_reducible refine gate_callee (f := 15) rfl ?_); refine goesL_ (some 18) rfl rfl Try.func15 (by kernel_rfl) rfl #[.slice A0 l0.length c0, .int .i64 1048576] rfl (by (try simp only [List.map_toArray, List.map_cons, List.map_nil]); first | done | rfl | (simp only [List.length_drop, List.length_take]; rfl)) ?_; (with_reducible refine (laws_szClassS.calls k _ _ l0 1048576 t410 _ ?side1 ?side2 A5.out).mono ?_); (case side1 => repeat (first | exact (Kd.C_below HR0.out HB.out) | (with_reducible refine Kd.C_alloc ?_ _) | (with_reducible refine Kd.C_drewN ?_ _) | (with_reducible refine Kd.C_drew ?_))); (case side2 => exact HC0.out); rintro e w8 ⟨rfl, hb⟩; refine ⟨_, rfl, ?_⟩; have n0_ := Aside0.mk (blk_below (g := gb409) (o := .cells #[.slice A1_0 l1_0.length c1_0, .int .i64 a1_1, .int .i64 a1_2, .int .i64 a1_3, .slice A1_4 l1_4.length c1_4] 38 (0, 0)) (by (with_reducible repeat (first | refine blk_drewN ?_ _ | refine blk_drew ?_ | refine blk_alloc ?_ _)); exact BK409.out) hb); have n1_ := Aside0.mk (below_step (by repeat (first | (with_reducible first | exact HB.out | apply below_alloc | apply pw_below_drewN | apply below_drew1 | refine below_set ?_ GE409.out) | exact HB.out)) hb); clear BK409; clear HB; have BK409 := n0_; have HB := n1_; clear n0_ n1_; (try clear hb); (try clear hb2); (try clear hk); (try clear hi)))
    go_ret
    exact ⟨by first | rfl | (simp [errW_none, errW_some] <;> rfl) | (simp [*, errW_none, errW_some] <;> rfl), by repeat (first | (with_reducible first | exact HB.out | apply below_alloc | apply pw_below_drewN | apply below_drew1 | refine below_set ?_ GE409.out) | exact HB.out)⟩
  · rw [if_neg c6] at H
    have c6b0 : decide (t410 < 0) = false := decide_eq_false c6
    clear c6
    replace H := Option.bind_eq_some_iff.mp H
    obtain ⟨t411, A90, H⟩ := H
    replace H : (if t411 < 0 then (some true) else ((laws_toClassS.f k l0).bind fun t412 => ((laws_toMem.f k l1_0 a1_1 a1_2 a1_3 l1_4).bind fun bt415 => ((spec_MemGet.f k t412 bt415.1 bt415.2.1 bt415.2.2.1 bt415.2.2.2.1 bt415.2.2.2.2 a2 a3).bind fun bt424 => ((laws_toClassS.f k l0).bind fun t426 => ((laws_toMem.f k l1_0 a1_1 a1_2 a1_3 l1_4).bind fun bt429 => ((impl_MemGet.f k t426 bt429.1 bt429.2.1 bt429.2.2.1 bt429.2.2.2.1 bt429.2.2.2.2 a2 a3).bind fun bt439 => (if bt439.1 = bt424.1 then (laws_FnExactMemGet.j0 k l0 t426 (bt439.2 != bt424.2) l1_0 a1_1 a1_2 a1_3 l1_4 bt429.1 bt429.2.1 bt429.2.2.1 bt429.2.2.2.1 bt429.2.2.2.2) else (laws_FnExactMemGet.j0 k l0 t426 true l1_0 a1_1 a1_2 a1_3 l1_4 bt429.1 bt429.2.1 bt429.2.2.1 bt429.2.2.2.1 bt429.2.2.2.2))))))))) = some r := H
    have A9 := Aside0.mk A90
    clear A90
    by_cases c10 : t411 < 0
    · rw [if_pos c10] at H
      have c10b0 : decide (t411 < 0) = true := decide_eq_true c10
      clear c10
      obtain rfl := Option.some.inj H
      go_enter Try.func6, Try.ntmps6
      go_wp2_with (first | ((with_reducible refine gate_dst (N := 5) rfl ?_); refine box_event ?hg (N := 5) ?hd (cs := #[.slice A1_0 l1_0.length c1_0, .int .i64 a1_1, .int .i64 a1_2, .int .i64 a1_3, .slice A1_4 l1_4.length c1_4]) (t := 38) ?hr ?_; (case hd => rfl); (case hg => rfl); (case hr => first | (go_simp; done) | (go_simp; rfl)); intro gb409 hg w11 hbox hb; have n0_ := Aside0.mk (below_step (by repeat (first | (with_reducible first | exact HB.out | apply below_alloc | apply pw_below_drewN | apply below_drew1) | exact HB.out)) hb); have n1_ := Aside0.mk (hbox); have n2_ := Aside0.mk ((by rw [hg]; exact (below_size (by repeat (first | (with_reducible first | exact HB.out | apply below_alloc | apply pw_below_drewN | apply below_drew1) | exact HB.out))) : w.heap.size ≤ gb409)); have n3_ := Aside0.mk ((by rw [hg]; exact (below_size (by repeat (first | (with_reducible first | exact HB.out | apply below_alloc | apply pw_below_drewN | apply below_drew1) | exact HB.out))) : w.heap.size ≤ gb409)); clear HB; have HB := n0_; have BK409 := n1_; have GW409 := n2_; have GE409 := n3_; clear n0_ n1_ n2_ n3_; clear hb hbox hg) | ((with_reducible refine gate_callee (f := 15) rfl ?_); refine goesL_ (some 18) rfl rfl Try.func15 (by kernel_rfl) rfl #[.slice A0 l0.length c0, .int .i64 1048576] rfl (by (try simp only [List.map_toArray, List.map_cons, List.map_nil]); first | done | rfl | (simp only [List.length_drop, List.length_take]; rfl)) ?_; (with_reducible refine (laws_szClassS.calls k _ _ l0 1048576 t410 _ ?side1 ?side2 A5.out).mono ?_); (case side1 => repeat (first | exact (Kd.C_below HR0.out HB.out) | (with_reducible refine Kd.C_alloc ?_ _) | (with_reducible refine Kd.C_drewN ?_ _) | (with_reducible refine Kd.C_drew ?_))); (case side2 => exact HC0.out); rintro e w12 ⟨rfl, hb⟩; refine ⟨_, rfl, ?_⟩; have n0_ := Aside0.mk (blk_below (g := gb409) (o := .cells #[.slice A1_0 l1_0.length c1_0, .int .i64 a1_1, .int .i64 a1_2, .int .i64 a1_3, .slice A1_4 l1_4.length c1_4] 38 (0, 0)) (by (with_reducible repeat (first | refine blk_drewN ?_ _ | refine blk_drew ?_ | refine blk_alloc ?_ _)); exact BK409.out) hb); have n1_ := Aside0.mk (below_step (by repeat (first | (with_reducible first | exact HB.out | apply below_alloc | apply pw_below_drewN | apply below_drew1 | refine below_set ?_ GE409.out) | exact HB.out)) hb); clear BK409; clear HB; have BK409 := n0_; have HB := n1_; clear n0_ n1_; (try clear hb); (try clear hb2); (try clear hk); (try clear hi); have hcz13_0 : w12.cell? ⟨gb409, 0, none⟩ = some (.slice A1_0 l1_0.length c1_0) := (blk_cell BK409.out 0).trans rfl; have hcz13_1 : w12.cell? ⟨gb409, 1, none⟩ = some (.int .i64 a1_1) := (blk_cell BK409.out 1).trans rfl; have hcz13_2 : w12.cell? ⟨gb409, 2, none⟩ = some (.int .i64 a1_2) := (blk_cell BK409.out 2).trans rfl; have hcz13_3 : w12.cell? ⟨gb409, 3, none⟩ = some (.int .i64 a1_3) := (blk_cell BK409.out 3).trans rfl; have hcz13_4 : w12.cell? ⟨gb409, 4, none⟩ = some (.slice A1_4 l1_4.length c1_4) := (blk_cell BK409.out 4).trans rfl; have hfz13_0 := blk_frozen BK409.out 0; have hfz13_1 := blk_frozen BK409.out 1; have hfz13_2 := blk_frozen BK409.out 2; have hfz13_3 := blk_frozen BK409.out 3; have hfz13_4 := blk_frozen BK409.out 4) | ((with_reducible refine gate_callee (f := 16) rfl ?_); refine goesL_ (some 23) rfl rfl Try.func16 (by kernel_rfl) rfl #[.agg #[.slice A1_0 l1_0.length c1_0, .int .i64 a1_1, .int .i64 a1_2, .int .i64 a1_3, .slice A1_4 l1_4.length c1_4], .int .i64 t410] rfl (by (try simp only [List.map_toArray, List.map_cons, List.map_nil]); first | done | rfl | (simp only [List.length_drop, List.length_take]; rfl)) ?_; (with_reducible refine (laws_szMem.calls _ _ l1_0 a1_1 a1_2 a1_3 _ _ l1_4 t410 t411 _ ?side1 ?side2 ?side3 ?side4 A9.out).mono ?_); (case side1 => repeat (first | exact (Kd.C_below HR1_0.out HB.out) | (with_reducible refine Kd.C_alloc ?_ _) | (with_reducible refine Kd.C_drewN ?_ _) | (with_reducible refine Kd.C_drew ?_))); (case side2 => exact HC1_0.out); (case side3 => repeat (first | exact (Kd.C_below HR1_4.out HB.out) | (with_reducible refine Kd.C_alloc ?_ _) | (with_reducible refine Kd.C_drewN ?_ _) | (with_reducible refine Kd.C_drew ?_))); (case side4 => exact HC1_4.out); rintro e w14 ⟨rfl, hb⟩; refine ⟨_, rfl, ?_⟩; have n0_ := Aside0.mk (blk_below (g := gb409) (o := .cells #[.slice A1_0 l1_0.length c1_0, .int .i64 a1_1, .int .i64 a1_2, .int .i64 a1_3, .slice A1_4 l1_4.length c1_4] 38 (0, 0)) (by (with_reducible repeat (first | refine blk_drewN ?_ _ | refine blk_drew ?_ | refine blk_alloc ?_ _)); exact BK409.out) hb); have n1_ := Aside0.mk (below_step (by repeat (first | (with_reducible first | exact HB.out | apply below_alloc | apply pw_below_drewN | apply below_drew1 | refine below_set ?_ GE409.out) | exact HB.out)) hb); clear BK409; clear HB; have BK409 := n0_; have HB := n1_; clear n0_ n1_; (try clear hb); (try clear hb2); (try clear hk); (try clear hi)))
      go_ret
      exact ⟨by first | rfl | (simp [errW_none, errW_some] <;> rfl) | (simp [*, errW_none, errW_some] <;> rfl), by repeat (first | (with_reducible first | exact HB.out | apply below_alloc | apply pw_below_drewN | apply below_drew1 | refine below_set ?_ GE409.out) | exact HB.out)⟩
    · rw [if_neg c10] at H
      have c10b0 : decide (t411 < 0) = false := decide_eq_false c10
      clear c10
      replace H := Option.bind_eq_some_iff.mp H
      obtain ⟨t412, A150, H⟩ := H
      replace H : ((laws_toMem.f k l1_0 a1_1 a1_2 a1_3 l1_4).bind fun bt415 => ((spec_MemGet.f k t412 bt415.1 bt415.2.1 bt415.2.2.1 bt415.2.2.2.1 bt415.2.2.2.2 a2 a3).bind fun bt424 => ((laws_toClassS.f k l0).bind fun t426 => ((laws_toMem.f k l1_0 a1_1 a1_2 a1_3 l1_4).bind fun bt429 => ((impl_MemGet.f k t426 bt429.1 bt429.2.1 bt429.2.2.1 bt429.2.2.2.1 bt429.2.2.2.2 a2 a3).bind fun bt439 => (if bt439.1 = bt424.1 then (laws_FnExactMemGet.j0 k l0 t426 (bt439.2 != bt424.2) l1_0 a1_1 a1_2 a1_3 l1_4 bt429.1 bt429.2.1 bt429.2.2.1 bt429.2.2.2.1 bt429.2.2.2.2) else (laws_FnExactMemGet.j0 k l0 t426 true l1_0 a1_1 a1_2 a1_3 l1_4 bt429.1 bt429.2.1 bt429.2.2.1 bt429.2.2.2.1 bt429.2.2.2.2))))))) = some r := H
      have A15 := Aside0.mk A150
      clear A150
      replace H := Option.bind_eq_some_iff.mp H
      obtain ⟨⟨t415, t418, t419, t420, t421⟩, A160, H⟩ := H
      replace H : ((spec_MemGet.f k t412 t415 t418 t419 t420 t421 a2 a3).bind fun bt424 => ((laws_toClassS.f k l0).bind fun t426 => ((laws_toMem.f k l1_0 a1_1 a1_2 a1_3 l1_4).bind fun bt429 => ((impl_MemGet.f k t426 bt429.1 bt429.2.1 bt429.2.2.1 bt429.2.2.2.1 bt429.2.2.2.2 a2 a3).bind fun bt439 => (if bt439.1 = bt424.1 then (laws_FnExactMemGet.j0 k l0 t426 (bt439.2 != bt424.2) l1_0 a1_1 a1_2 a1_3 l1_4 bt429.1 bt429.2.1 bt429.2.2.1 bt429.2.2.2.1 bt429.2.2.2.2) else (laws_FnExactMemGet.j0 k l0 t426 true l1_0 a1_1 a1_2 a1_3 l1_4 bt429.1 bt429.2.1 bt429.2.2.1 bt429.2.2.2.1 bt429.2.2.2.2)))))) = some r := H
      have A16 := Aside0.mk A160
      clear A160
      replace H := Option.bind_eq_some_iff.mp H
      obtain ⟨⟨t424, t425⟩, A170, H⟩ := H
      replace H : ((laws_toClassS.f k l0).bind fun t426 => ((laws_toMem.f k l1_0 a1_1 a1_2 a1_3 l1_4).bind fun bt429 => ((impl_MemGet.f k t426 bt429.1 bt429.2.1 bt429.2.2.1 bt429.2.2.2.1 bt429.2.2.2.2 a2 a3).bind fun bt439 => (if bt439.1 = t424 then (laws_FnExactMemGet.j0 k l0 t426 (bt439.2 != t425) l1_0 a1_1 a1_2 a1_3 l1_4 bt429.1 bt429.2.1 bt429.2.2.1 bt429.2.2.2.1 bt429.2.2.2.2) else (laws_FnExactMemGet.j0 k l0 t426 true l1_0 a1_1 a1_2 a1_3 l1_4 bt429.1 bt429.2.1 bt429.2.2.1 bt429.2.2.2.1 bt429.2.2.2.2))))) = some r := H
      have A17 := Aside0.mk A170
      clear A170
      replace H := Option.bind_eq_some_iff.mp H
      obtain ⟨t426, A180, H⟩ := H
      replace H : ((laws_toMem.f k l1_0 a1_1 a1_2 a1_3 l1_4).bind fun bt429 => ((impl_MemGet.f k t426 bt429.1 bt429.2.1 bt429.2.2.1 bt429.2.2.2.1 bt429.2.2.2.2 a2 a3).bind fun bt439 => (if bt439.1 = t424 then (laws_FnExactMemGet.j0 k l0 t426 (bt439.2 != t425) l1_0 a1_1 a1_2 a1_3 l1_4 bt429.1 bt429.2.1 bt429.2.2.1 bt429.2.2.2.1 bt429.2.2.2.2) else (laws_FnExactMemGet.j0 k l0 t426 true l1_0 a1_1 a1_2 a1_3 l1_4 bt429.1 bt429.2.1 bt429.2.2.1 bt429.2.2.2.1 bt429.2.2.2.2)))) = some r := H
      have A18 := Aside0.mk A180
      clear A180
      replace H := Option.bind_eq_some_iff.mp H
      obtain ⟨⟨t429, t432, t433, t434, t435⟩, A190, H⟩ := H
      replace H : ((impl_MemGet.f k t426 t429 t432 t433 t434 t435 a2 a3).bind fun bt439 => (if bt439.1 = t424 then (laws_FnExactMemGet.j0 k l0 t426 (bt439.2 != t425) l1_0 a1_1 a1_2 a1_3 l1_4 t429 t432 t433 t434 t435) else (laws_FnExactMemGet.j0 k l0 t426 true l1_0 a1_1 a1_2 a1_3 l1_4 t429 t432 t433 t434 t435))) = some r := H
      have A19 := Aside0.mk A190
      clear A190
      replace H := Option.bind_eq_some_iff.mp H
      obtain ⟨⟨t439, t440⟩, A200, H⟩ := H
      replace H : (if t439 = t424 then (laws_FnExactMemGet.j0 k l0 t426 (t440 != t425) l1_0 a1_1 a1_2 a1_3 l1_4 t429 t432 t433 t434 t435) else (laws_FnExactMemGet.j0 k l0 t426 true l1_0 a1_1 a1_2 a1_3 l1_4 t429 t432 t433 t434 t435)) = some r := H
      have A20 := Aside0.mk A200
      clear A200
      have HC21 := Aside0.mk H
      clear H
      go_enter Try.func6, Try.ntmps6
      try go_wp2_with (first | ((with_reducible refine gate_dst (N := 5) rfl ?_); refine box_event ?hg (N := 5) ?hd (cs := #[.slice A1_0 l1_0.length c1_0, .int .i64 a1_1, .int .i64 a1_2, .int .i64 a1_3, .slice A1_4 l1_4.length c1_4]) (t := 38) ?hr ?_; (case hd => rfl); (case hg => rfl); (case hr => first | (go_simp; done) | (go_simp; rfl)); intro gb409 hg w22 hbox hb; have n0_ := Aside0.mk (below_step (by repeat (first | (with_reducible first | exact HB.out | apply below_alloc | apply pw_below_drewN | apply below_drew1) | exact HB.out)) hb); have n1_ := Aside0.mk (hbox); have n2_ := Aside0.mk ((by rw [hg]; exact (below_size (by repeat (first | (with_reducible first | exact HB.out | apply below_alloc | apply pw_below_drewN | apply below_drew1) | exact HB.out))) : w.heap.size ≤ gb409)); have n3_ := Aside0.mk ((by rw [hg]; exact (below_size (by repeat (first | (with_reducible first | exact HB.out | apply below_alloc | apply pw_below_drewN | apply below_drew1) | exact HB.out))) : w.heap.size ≤ gb409)); clear HB; have HB := n0_; have BK409 := n1_; have GW409 := n2_; have GE409 := n3_; clear n0_ n1_ n2_ n3_; clear hb hbox hg) | ((with_reducible refine gate_callee (f := 15) rfl ?_); refine goesL_ (some 18) rfl rfl Try.func15 (by kernel_rfl) rfl #[.slice A0 l0.length c0, .int .i64 1048576] rfl (by (try simp only [List.map_toArray, List.map_cons, List.map_nil]); first | done | rfl | (simp only [List.length_drop, List.length_take]; rfl)) ?_; (with_reducible refine (laws_szClassS.calls k _ _ l0 1048576 t410 _ ?side1 ?side2 A5.out).mono ?_); (case side1 => repeat (first | exact (Kd.C_below HR0.out HB.out) | (with_reducible refine Kd.C_alloc ?_ _) | (with_reducible refine Kd.C_drewN ?_ _) | (with_reducible refine Kd.C_drew ?_))); (case side2 => exact HC0.out); rintro e w23 ⟨rfl, hb⟩; refine ⟨_, rfl, ?_⟩; have n0_ := Aside0.mk (blk_below (g := gb409) (o := .cells #[.slice A1_0 l1_0.length c1_0, .int .i64 a1_1, .int .i64 a1_2, .int .i64 a1_3, .slice A1_4 l1_4.length c1_4] 38 (0, 0)) (by (with_reducible repeat (first | refine blk_drewN ?_ _ | refine blk_drew ?_ | refine blk_alloc ?_ _)); exact BK409.out) hb); have n1_ := Aside0.mk (below_step (by repeat (first | (with_reducible first | exact HB.out | apply below_alloc | apply pw_below_drewN | apply below_drew1 | refine below_set ?_ GE409.out) | exact HB.out)) hb); clear BK409; clear HB; have BK409 := n0_; have HB := n1_; clear n0_ n1_; (try clear hb); (try clear hb2); (try clear hk); (try clear hi); have hcz24_0 : w23.cell? ⟨gb409, 0, none⟩ = some (.slice A1_0 l1_0.length c1_0) := (blk_cell BK409.out 0).trans rfl; have hcz24_1 : w23.cell? ⟨gb409, 1, none⟩ = some (.int .i64 a1_1) := (blk_cell BK409.out 1).trans rfl; have hcz24_2 : w23.cell? ⟨gb409, 2, none⟩ = some (.int .i64 a1_2) := (blk_cell BK409.out 2).trans rfl; have hcz24_3 : w23.cell? ⟨gb409, 3, none⟩ = some (.int .i64 a1_3) := (blk_cell BK409.out 3).trans rfl; have hcz24_4 : w23.cell? ⟨gb409, 4, none⟩ = some (.slice A1_4 l1_4.length c1_4) := (blk_cell BK409.out 4).trans rfl; have hfz24_0 := blk_frozen BK409.out 0; have hfz24_1 := blk_frozen BK409.out 1; have hfz24_2 := blk_frozen BK409.out 2; have hfz24_3 := blk_frozen BK409.out 3; have hfz24_4 := blk_frozen BK409.out 4) | ((with_reducible refine gate_callee (f := 16) rfl ?_); refine goesL_ (some 23) rfl rfl Try.func16 (by kernel_rfl) rfl #[.agg #[.slice A1_0 l1_0.length c1_0, .int .i64 a1_1, .int .i64 a1_2, .int .i64 a1_3, .slice A1_4 l1_4.length c1_4], .int .i64 t410] rfl (by (try simp only [List.map_toArray, List.map_cons, List.map_nil]); first | done | rfl | (simp only [List.length_drop, List.length_take]; rfl)) ?_; (with_reducible refine (laws_szMem.calls _ _ l1_0 a1_1 a1_2 a1_3 _ _ l1_4 t410 t411 _ ?side1 ?side2 ?side3 ?side4 A9.out).mono ?_); (case side1 => repeat (first | exact (Kd.C_below HR1_0.out HB.out) | (with_reducible refine Kd.C_alloc ?_ _) | (with_reducible refine Kd.C_drewN ?_ _) | (with_reducible refine Kd.C_drew ?_))); (case side2 => exact HC1_0.out); (case side3 => repeat (first | exact (Kd.C_below HR1_4.out HB.out) | (with_reducible refine Kd.C_alloc ?_ _) | (with_reducible refine Kd.C_drewN ?_ _) | (with_reducible refine Kd.C_drew ?_))); (case side4 => exact HC1_4.out); rintro e w25 ⟨rfl, hb⟩; refine ⟨_, rfl, ?_⟩; have n0_ := Aside0.mk (blk_below (g := gb409) (o := .cells #[.slice A1_0 l1_0.length c1_0, .int .i64 a1_1, .int .i64 a1_2, .int .i64 a1_3, .slice A1_4 l1_4.length c1_4] 38 (0, 0)) (by (with_reducible repeat (first | refine blk_drewN ?_ _ | refine blk_drew ?_ | refine blk_alloc ?_ _)); exact BK409.out) hb); have n1_ := Aside0.mk (below_step (by repeat (first | (with_reducible first | exact HB.out | apply below_alloc | apply pw_below_drewN | apply below_drew1 | refine below_set ?_ GE409.out) | exact HB.out)) hb); clear BK409; clear HB; have BK409 := n0_; have HB := n1_; clear n0_ n1_; (try clear hb); (try clear hb2); (try clear hk); (try clear hi)))
      have n0_ := Aside0.mk (blk_drew BK409.out)
      have n1_ := Aside0.mk (below_drew1 HB.out)
      clear BK409
      clear HB
      have BK409 := n0_
      have HB := n1_
      clear n0_ n1_
      refine start_ (n := 12) (S := fun w' => w'.cell? ⟨gb409, 0, none⟩ = some (.slice A1_0 l1_0.length c1_0) ∧ w'.cell? ⟨gb409, 1, none⟩ = some (.int .i64 a1_1) ∧ w'.cell? ⟨gb409, 2, none⟩ = some (.int .i64 a1_2) ∧ w'.cell? ⟨gb409, 3, none⟩ = some (.int .i64 a1_3) ∧ w'.cell? ⟨gb409, 4, none⟩ = some (.slice A1_4 l1_4.length c1_4)) (ds := []) #[false, false, false, false, false, false, false, false, false, false, false, false] (by kernel_rfl) rfl rfl ⟨(blk_cell BK409.out 0).trans rfl, (blk_cell BK409.out 1).trans rfl, (blk_cell BK409.out 2).trans rfl, (blk_cell BK409.out 3).trans rfl, (blk_cell BK409.out 4).trans rfl⟩ (fun hHeld => ?_); refine with_tabW laws_FnExactMemGet.tab8 laws_FnExactMemGet.bits8 (fun HT_ HW_ => ?_)
      generalize w25.drew = w26 at BK409 HB hHeld ⊢
      refine pS 0 27 (lA 12 1) ?_ (hc := (any_of HT_.out (by kernel_rfl)))
      refine pS 4 31 (lA 12 17) ?_ (hc := (any_of HT_.out (by kernel_rfl)))
      refine pS 5 32 (lA 12 49) ?_ (hc := (any_of HT_.out (by kernel_rfl)))
      refine tS 2 29 (lA 12 53) rfl rfl (take_ofW HT_.out HW_.out (by kernel_rfl)) hHeld (by rintro w' ⟨s0, s1, s2, s3, s4⟩; go_simp; with_reducible rfl) ?_
      refine one_ (i := 1) (N := some 28) (lA 12 55) rfl rfl (one_of HT_.out (by kernel_rfl)) (by decide) (fun K hK => ?_)
      refine goes_ Try.func18 (by kernel_rfl) rfl #[.slice A0 l0.length c0] (by rfl) rfl rfl (by (try simp only [List.map_toArray, List.map_cons, List.map_nil]); first | done | rfl | (simp only [List.length_drop, List.length_take]; rfl)) ?_
      with_reducible refine (laws_toClassS.calls k _ _ l0 t412 _ ?side1 ?side2 A15.out).mono ?_
      (case side1 => repeat (first | exact (Kd.C_below HR0.out HB.out) | (with_reducible refine Kd.C_alloc ?_ _) | (with_reducible refine Kd.C_drewN ?_ _) | (with_reducible refine Kd.C_drew ?_)))
      (case side2 => exact HC0.out)
      rintro e w27 ⟨v413, rfl, ho0, hb⟩
      refine ⟨_, rfl, ?_⟩
      have n0_ := Aside0.mk (Kd.S_lower ho0 (below_size (by repeat (first | (with_reducible first | exact HB.out | apply below_alloc | apply pw_below_drewN | apply below_drew1 | refine below_set ?_ GE409.out) | exact HB.out))))
      have n1_ := Aside0.mk (blk_below (g := gb409) (o := .cells #[.slice A1_0 l1_0.length c1_0, .int .i64 a1_1, .int .i64 a1_2, .int .i64 a1_3, .slice A1_4 l1_4.length c1_4] 38 (0, 0)) (by (with_reducible repeat (first | refine blk_drewN ?_ _ | refine blk_drew ?_ | refine blk_alloc ?_ _)); exact BK409.out) hb)
      have n2_ := Aside0.mk (below_step (by repeat (first | (with_reducible first | exact HB.out | apply below_alloc | apply pw_below_drewN | apply below_drew1 | refine below_set ?_ GE409.out) | exact HB.out)) hb)
      clear BK409
      clear HB
      have HO414 := n0_
      have BK409 := n1_
      have HB := n2_
      clear n0_ n1_ n2_
      (try clear hb)
      (try clear hb2)
      (try clear hk)
      (try clear hi)
      (try clear ho0)
      refine hK.out _ _ ⟨(blk_cell BK409.out 0).trans rfl, (blk_cell BK409.out 1).trans rfl, (blk_cell BK409.out 2).trans rfl, (blk_cell BK409.out 3).trans rfl, (blk_cell BK409.out 4).trans rfl⟩ (fun hHeld => ?_)
      clear hK K
      refine norm_ (a' := ?_) ?_ ?_
      rotate_left
      · show Act.put _ (some 28) _ = _
        simp only [Act.put, lA1, lA2, lA3, i64_w, i32_w]
        rfl
      refine one_ (i := 3) (N := some 30) (lA 12 63) rfl rfl (one_of HT_.out (by kernel_rfl)) (by decide) (fun K hK => ?_)
      refine goes_ Try.func19 (by kernel_rfl) rfl #[.agg #[.slice A1_0 l1_0.length c1_0, .int .i64 a1_1, .int .i64 a1_2, .int .i64 a1_3, .slice A1_4 l1_4.length c1_4]] (by rfl) rfl rfl (by (try simp only [List.map_toArray, List.map_cons, List.map_nil]); first | done | rfl | (simp only [List.length_drop, List.length_take]; rfl)) ?_
      with_reducible refine (laws_toMem.calls k _ _ l1_0 a1_1 a1_2 a1_3 _ _ l1_4 t415 t418 t419 t420 t421 _ ?side1 ?side2 ?side3 ?side4 A16.out).mono ?_
      (case side1 => repeat (first | exact (Kd.C_below HR1_0.out HB.out) | (with_reducible refine Kd.C_alloc ?_ _) | (with_reducible refine Kd.C_drewN ?_ _) | (with_reducible refine Kd.C_drew ?_)))
      (case side2 => exact HC1_0.out)
      (case side3 => repeat (first | exact (Kd.C_below HR1_4.out HB.out) | (with_reducible refine Kd.C_alloc ?_ _) | (with_reducible refine Kd.C_drewN ?_ _) | (with_reducible refine Kd.C_drew ?_)))
      (case side4 => exact HC1_4.out)
      rintro e w28 ⟨v416, v422, rfl, ho0, ho1, hb⟩
      refine ⟨_, rfl, ?_⟩
      have n0_ := Aside0.mk (Kd.S_elder' (by (with_reducible repeat (first | apply Kd.S_alloc | apply Kd.S_drewN | apply Kd.S_drew)); exact HO414.out) (Kd.R_base ho0) hb)
      have n1_ := Aside0.mk (Kd.R_lower ho0 (below_size (by repeat (first | (with_reducible first | exact HB.out | apply below_alloc | apply pw_below_drewN | apply below_drew1 | refine below_set ?_ GE409.out) | exact HB.out))))
      have n2_ := Aside0.mk (Kd.R_lower ho1 (below_size (by repeat (first | (with_reducible first | exact HB.out | apply below_alloc | apply pw_below_drewN | apply below_drew1 | refine below_set ?_ GE409.out) | exact HB.out))))
      have n3_ := Aside0.mk (blk_below (g := gb409) (o := .cells #[.slice A1_0 l1_0.length c1_0, .int .i64 a1_1, .int .i64 a1_2, .int .i64 a1_3, .slice A1_4 l1_4.length c1_4] 38 (0, 0)) (by (with_reducible repeat (first | refine blk_drewN ?_ _ | refine blk_drew ?_ | refine blk_alloc ?_ _)); exact BK409.out) hb)
      have n4_ := Aside0.mk (below_step (by repeat (first | (with_reducible first | exact HB.out | apply below_alloc | apply pw_below_drewN | apply below_drew1 | refine below_set ?_ GE409.out) | exact HB.out)) hb)
      clear HO414
      clear BK409
      clear HB
      have HO414 := n0_
      have HO417 := n1_
      have HO423 := n2_
      have BK409 := n3_
      have HB := n4_
      clear n0_ n1_ n2_ n3_ n4_
      (try clear hb)
      (try clear hb2)
      (try clear hk)
      (try clear hi)
      (try clear ho0)
      (try clear ho1)
      obtain ⟨Ao29, co29, eo29⟩ := Kd.S_slice HO414.out
      (first | subst eo29 | (injection eo29 with f1_ f2_ f3_; have f4_ := f1_.symm; have f5_ := f3_.symm; clear f1_ f2_ f3_; subst f4_; subst f5_))
      obtain ⟨Ao30, co30, eo30⟩ := Kd.R_slice HO417.out
      (first | subst eo30 | (injection eo30 with f1_ f2_ f3_; have f4_ := f1_.symm; have f5_ := f3_.symm; clear f1_ f2_ f3_; subst f4_; subst f5_))
      obtain ⟨Ao31, co31, eo31⟩ := Kd.R_slice HO423.out
      (first | subst eo31 | (injection eo31 with f1_ f2_ f3_; have f4_ := f1_.symm; have f5_ := f3_.symm; clear f1_ f2_ f3_; subst f4_; subst f5_))
      refine hK.out _ _ ⟨(blk_cell BK409.out 0).trans rfl, (blk_cell BK409.out 1).trans rfl, (blk_cell BK409.out 2).trans rfl, (blk_cell BK409.out 3).trans rfl, (blk_cell BK409.out 4).trans rfl⟩ (fun hHeld => ?_)
      clear hK K
      refine norm_ (a' := ?_) ?_ ?_
      rotate_left
      · show Act.put _ (some 30) _ = _
        simp only [Act.put, lA1, lA2, lA3, i64_w, i32_w]
        rfl
      refine one_ (i := 6) (N := some 33) (lA 12 127) rfl rfl (one_of HT_.out (by kernel_rfl)) (by decide) (fun K hK => ?_)
      refine goes_ Try.func24 (by kernel_rfl) rfl #[.slice Ao29 t412.length co29, .agg #[.slice Ao30 t415.length co30, .int .i64 t418, .int .i64 t419, .int .i64 t420, .slice Ao31 t421.length co31], .int .i64 a2, .int .i64 a3] (by rfl) rfl rfl (by (try simp only [List.map_toArray, List.map_cons, List.map_nil]); first | done | rfl | (simp only [List.length_drop, List.length_take]; rfl)) ?_
      with_reducible refine (spec_MemGet.calls k _ _ t412 _ _ t415 t418 t419 t420 _ _ t421 a2 a3 t424 t425 _ ?side1 ?side2 ?side3 ?side4 ?side5 ?side6 A17.out).mono ?_
      (case side1 => repeat (first | exact (Kd.S_reads' HO414.out).2.2 | (with_reducible refine Kd.C_alloc ?_ _) | (with_reducible refine Kd.C_drewN ?_ _) | (with_reducible refine Kd.C_drew ?_)))
      (case side2 => exact (Kd.S_reads' HO414.out).2.1)
      (case side3 => repeat (first | exact (Kd.R_reads' HO417.out).2.2 | (with_reducible refine Kd.C_alloc ?_ _) | (with_reducible refine Kd.C_drewN ?_ _) | (with_reducible refine Kd.C_drew ?_)))
      (case side4 => exact (Kd.R_reads' HO417.out).2.1)
      (case side5 => repeat (first | exact (Kd.R_reads' HO423.out).2.2 | (with_reducible refine Kd.C_alloc ?_ _) | (with_reducible refine Kd.C_drewN ?_ _) | (with_reducible refine Kd.C_drew ?_)))
      (case side6 => exact (Kd.R_reads' HO423.out).2.1)
      rintro e w32 ⟨rfl, hb⟩
      refine ⟨_, rfl, ?_⟩
      have n0_ := Aside0.mk (Kd.S_below (by (with_reducible repeat (first | apply Kd.S_alloc | apply Kd.S_drewN | apply Kd.S_drew)); exact HO414.out) hb)
      have n1_ := Aside0.mk (Kd.R_below (by (with_reducible repeat (first | apply Kd.R_alloc | apply Kd.R_drewN | apply Kd.R_drew)); exact HO417.out) hb)
      have n2_ := Aside0.mk (Kd.R_below (by (with_reducible repeat (first | apply Kd.R_alloc | apply Kd.R_drewN | apply Kd.R_drew)); exact HO423.out) hb)
      have n3_ := Aside0.mk (blk_below (g := gb409) (o := .cells #[.slice A1_0 l1_0.length c1_0, .int .i64 a1_1, .int .i64 a1_2, .int .i64 a1_3, .slice A1_4 l1_4.length c1_4] 38 (0, 0)) (by (with_reducible repeat (first | refine blk_drewN ?_ _ | refine blk_drew ?_ | refine blk_alloc ?_ _)); exact BK409.out) hb)
      have n4_ := Aside0.mk (below_step (by repeat (first | (with_reducible first | exact HB.out | apply below_alloc | apply pw_below_drewN | apply below_drew1 | refine below_set ?_ GE409.out) | exact HB.out)) hb)
      clear HO414
      clear HO417
      clear HO423
      clear BK409
      clear HB
      have HO414 := n0_
      have HO417 := n1_
      have HO423 := n2_
      have BK409 := n3_
      have HB := n4_
      clear n0_ n1_ n2_ n3_ n4_
      (try clear hb)
      (try clear hb2)
      (try clear hk)
      (try clear hi)
      refine hK.out _ _ ⟨(blk_cell BK409.out 0).trans rfl, (blk_cell BK409.out 1).trans rfl, (blk_cell BK409.out 2).trans rfl, (blk_cell BK409.out 3).trans rfl, (blk_cell BK409.out 4).trans rfl⟩ (fun hHeld => ?_)
      clear hK K
      refine norm_ (a' := ?_) ?_ ?_
      rotate_left
      · show Act.put _ (some 33) _ = _
        simp only [Act.put, lA1, lA2, lA3, i64_w, i32_w]
        rfl
      refine pS 7 26 (lA 12 255) ?_ (hc := (any_of HT_.out (by kernel_rfl)))
      refine pS 8 34 (lA 12 511) ?_ (hc := (any_of HT_.out (by kernel_rfl)))
      refine pS 9 35 (lA 12 1023) ?_ (hc := (any_of HT_.out (by kernel_rfl)))
      refine pS 10 10 (lA 12 2047) ?_ (hc := (any_of HT_.out (by kernel_rfl)))
      refine pS 11 11 (lA 12 4095) ?_ (hc := (any_of HT_.out (by kernel_rfl)))
      refine done_ (done_of HT_.out (by kernel_rfl)) ?_
      go_upto_region 12 with (first | ((with_reducible refine gate_callee (f := 18) rfl ?_); refine goesL_ (some 37) rfl rfl Try.func18 (by kernel_rfl) rfl #[.slice A0 l0.length c0] rfl (by (try simp only [List.map_toArray, List.map_cons, List.map_nil]); first | done | rfl | (simp only [List.length_drop, List.length_take]; rfl)) ?_; (with_reducible refine (laws_toClassS.calls k _ _ l0 t426 _ ?side1 ?side2 A18.out).mono ?_); (case side1 => repeat (first | exact (Kd.C_below HR0.out HB.out) | (with_reducible refine Kd.C_alloc ?_ _) | (with_reducible refine Kd.C_drewN ?_ _) | (with_reducible refine Kd.C_drew ?_))); (case side2 => exact HC0.out); rintro e w33 ⟨v427, rfl, ho0, hb⟩; refine ⟨_, rfl, ?_⟩; have n0_ := Aside0.mk (Kd.S_elder' (by (with_reducible repeat (first | apply Kd.S_alloc | apply Kd.S_drewN | apply Kd.S_drew)); exact HO414.out) (Kd.S_base ho0) hb); have n1_ := Aside0.mk (Kd.R_below (by (with_reducible repeat (first | apply Kd.R_alloc | apply Kd.R_drewN | apply Kd.R_drew)); exact HO417.out) hb); have n2_ := Aside0.mk (Kd.R_below (by (with_reducible repeat (first | apply Kd.R_alloc | apply Kd.R_drewN | apply Kd.R_drew)); exact HO423.out) hb); have n3_ := Aside0.mk (Kd.S_lower (Kd.S_new' (Kd.S_new' ho0 (Kd.S_lt (by (with_reducible repeat (first | apply Kd.S_alloc | apply Kd.S_drewN | apply Kd.S_drew)); exact HO414.out))) (Kd.R_lt (by (with_reducible repeat (first | apply Kd.R_alloc | apply Kd.R_drewN | apply Kd.R_drew)); exact HO417.out))) (below_size (by repeat (first | (with_reducible first | exact HB.out | apply below_alloc | apply pw_below_drewN | apply below_drew1 | refine below_set ?_ GE409.out) | exact HB.out)))); have n4_ := Aside0.mk (blk_below (g := gb409) (o := .cells #[.slice A1_0 l1_0.length c1_0, .int .i64 a1_1, .int .i64 a1_2, .int .i64 a1_3, .slice A1_4 l1_4.length c1_4] 38 (0, 0)) (by (with_reducible repeat (first | refine blk_drewN ?_ _ | refine blk_drew ?_ | refine blk_alloc ?_ _)); exact BK409.out) hb); have n5_ := Aside0.mk (below_step (by repeat (first | (with_reducible first | exact HB.out | apply below_alloc | apply pw_below_drewN | apply below_drew1 | refine below_set ?_ GE409.out) | exact HB.out)) hb); clear HO414; clear HO417; clear HO423; clear BK409; clear HB; have HO414 := n0_; have HO417 := n1_; have HO423 := n2_; have HO428 := n3_; have BK409 := n4_; have HB := n5_; clear n0_ n1_ n2_ n3_ n4_ n5_; (try clear hb); (try clear hb2); (try clear hk); (try clear hi); (try clear ho0); have hcz34_0 : w33.cell? ⟨gb409, 0, none⟩ = some (.slice A1_0 l1_0.length c1_0) := (blk_cell BK409.out 0).trans rfl; have hcz34_1 : w33.cell? ⟨gb409, 1, none⟩ = some (.int .i64 a1_1) := (blk_cell BK409.out 1).trans rfl; have hcz34_2 : w33.cell? ⟨gb409, 2, none⟩ = some (.int .i64 a1_2) := (blk_cell BK409.out 2).trans rfl; have hcz34_3 : w33.cell? ⟨gb409, 3, none⟩ = some (.int .i64 a1_3) := (blk_cell BK409.out 3).trans rfl; have hcz34_4 : w33.cell? ⟨gb409, 4, none⟩ = some (.slice A1_4 l1_4.length c1_4) := (blk_cell BK409.out 4).trans rfl; have hfz34_0 := blk_frozen BK409.out 0; have hfz34_1 := blk_frozen BK409.out 1; have hfz34_2 := blk_frozen BK409.out 2; have hfz34_3 := blk_frozen BK409.out 3; have hfz34_4 := blk_frozen BK409.out 4) | ((with_reducible refine gate_callee (f := 19) rfl ?_); refine goesL_ (some 39) rfl rfl Try.func19 (by kernel_rfl) rfl #[.agg #[.slice A1_0 l1_0.length c1_0, .int .i64 a1_1, .int .i64 a1_2, .int .i64 a1_3, .slice A1_4 l1_4.length c1_4]] rfl (by (try simp only [List.map_toArray, List.map_cons, List.map_nil]); first | done | rfl | (simp only [List.length_drop, List.length_take]; rfl)) ?_; (with_reducible refine (laws_toMem.calls k _ _ l1_0 a1_1 a1_2 a1_3 _ _ l1_4 t429 t432 t433 t434 t435 _ ?side1 ?side2 ?side3 ?side4 A19.out).mono ?_); (case side1 => repeat (first | exact (Kd.C_below HR1_0.out HB.out) | (with_reducible refine Kd.C_alloc ?_ _) | (with_reducible refine Kd.C_drewN ?_ _) | (with_reducible refine Kd.C_drew ?_))); (case side2 => exact HC1_0.out); (case side3 => repeat (first | exact (Kd.C_below HR1_4.out HB.out) | (with_reducible refine Kd.C_alloc ?_ _) | (with_reducible refine Kd.C_drewN ?_ _) | (with_reducible refine Kd.C_drew ?_))); (case side4 => exact HC1_4.out); rintro e w35 ⟨v430, v436, rfl, ho0, ho1, hb⟩; refine ⟨_, rfl, ?_⟩; have n0_ := Aside0.mk (Kd.S_elder' (by (with_reducible repeat (first | apply Kd.S_alloc | apply Kd.S_drewN | apply Kd.S_drew)); exact HO414.out) (Kd.R_base ho0) hb); have n1_ := Aside0.mk (Kd.R_elder' (by (with_reducible repeat (first | apply Kd.R_alloc | apply Kd.R_drewN | apply Kd.R_drew)); exact HO417.out) (Kd.R_base ho0) hb); have n2_ := Aside0.mk (Kd.R_elder' (by (with_reducible repeat (first | apply Kd.R_alloc | apply Kd.R_drewN | apply Kd.R_drew)); exact HO423.out) (Kd.R_base ho1) hb); have n3_ := Aside0.mk (Kd.S_elder' (by (with_reducible repeat (first | apply Kd.S_alloc | apply Kd.S_drewN | apply Kd.S_drew)); exact HO428.out) (Kd.R_base ho0) hb); have n4_ := Aside0.mk (Kd.R_lower (Kd.R_new' ho0 (Kd.R_lt (by (with_reducible repeat (first | apply Kd.R_alloc | apply Kd.R_drewN | apply Kd.R_drew)); exact HO417.out))) (below_size (by repeat (first | (with_reducible first | exact HB.out | apply below_alloc | apply pw_below_drewN | apply below_drew1 | refine below_set ?_ GE409.out) | exact HB.out)))); have n5_ := Aside0.mk (Kd.R_lower (Kd.R_new' ho1 (Kd.R_lt (by (with_reducible repeat (first | apply Kd.R_alloc | apply Kd.R_drewN | apply Kd.R_drew)); exact HO423.out))) (below_size (by repeat (first | (with_reducible first | exact HB.out | apply below_alloc | apply pw_below_drewN | apply below_drew1 | refine below_set ?_ GE409.out) | exact HB.out)))); have n6_ := Aside0.mk (blk_below (g := gb409) (o := .cells #[.slice A1_0 l1_0.length c1_0, .int .i64 a1_1, .int .i64 a1_2, .int .i64 a1_3, .slice A1_4 l1_4.length c1_4] 38 (0, 0)) (by (with_reducible repeat (first | refine blk_drewN ?_ _ | refine blk_drew ?_ | refine blk_alloc ?_ _)); exact BK409.out) hb); have n7_ := Aside0.mk (below_step (by repeat (first | (with_reducible first | exact HB.out | apply below_alloc | apply pw_below_drewN | apply below_drew1 | refine below_set ?_ GE409.out) | exact HB.out)) hb); clear HO414; clear HO417; clear HO423; clear HO428; clear BK409; clear HB; have HO414 := n0_; have HO417 := n1_; have HO423 := n2_; have HO428 := n3_; have HO431 := n4_; have HO437 := n5_; have BK409 := n6_; have HB := n7_; clear n0_ n1_ n2_ n3_ n4_ n5_ n6_ n7_; (try clear hb); (try clear hb2); (try clear hk); (try clear hi); (try clear ho0); (try clear ho1)) | ((with_reducible refine gate_dst (N := 13) rfl ?_); refine box_event ?hg (N := 13) ?hd (cs := #[.slice none 0 0, .int .i64 0, .int .i64 0, .int .i64 0, .slice none 0 0]) (t := 28) ?hr ?_; (case hd => rfl); (case hg => rfl); (case hr => first | (go_simp; done) | (go_simp; rfl)); intro gb438 hg w36 hbox hb; have n0_ := Aside0.mk (Kd.S_below (by (with_reducible repeat (first | apply Kd.S_alloc | apply Kd.S_drewN | apply Kd.S_drew)); exact HO414.out) hb); have n1_ := Aside0.mk (Kd.R_below (by (with_reducible repeat (first | apply Kd.R_alloc | apply Kd.R_drewN | apply Kd.R_drew)); exact HO417.out) hb); have n2_ := Aside0.mk (Kd.R_below (by (with_reducible repeat (first | apply Kd.R_alloc | apply Kd.R_drewN | apply Kd.R_drew)); exact HO423.out) hb); have n3_ := Aside0.mk (Kd.S_below (by (with_reducible repeat (first | apply Kd.S_alloc | apply Kd.S_drewN | apply Kd.S_drew)); exact HO428.out) hb); have n4_ := Aside0.mk (Kd.R_below (by (with_reducible repeat (first | apply Kd.R_alloc | apply Kd.R_drewN | apply Kd.R_drew)); exact HO431.out) hb); have n5_ := Aside0.mk (Kd.R_below (by (with_reducible repeat (first | apply Kd.R_alloc | apply Kd.R_drewN | apply Kd.R_drew)); exact HO437.out) hb); have n6_ := Aside0.mk (blk_below (g := gb409) (o := .cells #[.slice A1_0 l1_0.length c1_0, .int .i64 a1_1, .int .i64 a1_2, .int .i64 a1_3, .slice A1_4 l1_4.length c1_4] 38 (0, 0)) (by (with_reducible repeat (first | refine blk_drewN ?_ _ | refine blk_drew ?_ | refine blk_alloc ?_ _)); exact BK409.out) hb); have n7_ := Aside0.mk (below_step (by repeat (first | (with_reducible first | exact HB.out | apply below_alloc | apply pw_below_drewN | apply below_drew1 | refine below_set ?_ GE409.out) | exact HB.out)) hb); have n8_ := Aside0.mk (hbox); have n9_ := Aside0.mk ((by rw [hg]; exact (below_size (by repeat (first | (with_reducible first | exact HB.out | apply below_alloc | apply pw_below_drewN | apply below_drew1 | refine below_set ?_ GE409.out) | exact HB.out))) : w.heap.size ≤ gb438)); have n10_ := Aside0.mk ((by rw [hg]; exact (below_size (by repeat (first | (with_reducible first | exact HB.out | apply below_alloc | apply pw_below_drewN | apply below_drew1 | refine below_set ?_ GE409.out) | exact HB.out))) : w.heap.size ≤ gb438)); have n11_ := Aside0.mk ((by rw [hg]; exact Nat.ne_of_lt (blk_lt (g := gb409) (o := .cells #[.slice A1_0 l1_0.length c1_0, .int .i64 a1_1, .int .i64 a1_2, .int .i64 a1_3, .slice A1_4 l1_4.length c1_4] 38 (0, 0)) (by (with_reducible repeat (first | refine blk_drewN ?_ _ | refine blk_drew ?_ | refine blk_alloc ?_ _)); exact BK409.out)) : gb409 ≠ gb438)); have n12_ := Aside0.mk ((by rw [hg]; exact Nat.ne_of_gt (blk_lt (g := gb409) (o := .cells #[.slice A1_0 l1_0.length c1_0, .int .i64 a1_1, .int .i64 a1_2, .int .i64 a1_3, .slice A1_4 l1_4.length c1_4] 38 (0, 0)) (by (with_reducible repeat (first | refine blk_drewN ?_ _ | refine blk_drew ?_ | refine blk_alloc ?_ _)); exact BK409.out)) : gb438 ≠ gb409)); clear HO414; clear HO417; clear HO423; clear HO428; clear HO431; clear HO437; clear BK409; clear HB; have HO414 := n0_; have HO417 := n1_; have HO423 := n2_; have HO428 := n3_; have HO431 := n4_; have HO437 := n5_; have BK409 := n6_; have HB := n7_; have BK438 := n8_; have GW438 := n9_; have GE438 := n10_; have NB409_438 := n11_; have NB438_409 := n12_; clear n0_ n1_ n2_ n3_ n4_ n5_ n6_ n7_ n8_ n9_ n10_ n11_ n12_; clear hb hbox hg; obtain ⟨Ao37, co37, eo37⟩ := Kd.R_slice HO431.out; subst eo37; have hnb38 := NB438_409.out; have hnc38 := NB409_438.out; have hcz39_0 : w36.cell? ⟨gb438, 0, none⟩ = some (.slice none 0 0) := (blk_cell BK438.out 0).trans rfl; have hcz39_1 : w36.cell? ⟨gb438, 1, none⟩ = some (.int .i64 0) := (blk_cell BK438.out 1).trans rfl; have hcz39_2 : w36.cell? ⟨gb438, 2, none⟩ = some (.int .i64 0) := (blk_cell BK438.out 2).trans rfl; have hcz39_3 : w36.cell? ⟨gb438, 3, none⟩ = some (.int .i64 0) := (blk_cell BK438.out 3).trans rfl; have hcz39_4 : w36.cell? ⟨gb438, 4, none⟩ = some (.slice none 0 0) := (blk_cell BK438.out 4).trans rfl; have hfz39_0 := blk_frozen BK438.out 0; have hfz39_1 := blk_frozen BK438.out 1; have hfz39_2 := blk_frozen BK438.out 2; have hfz39_3 := blk_frozen BK438.out 3; have hfz39_4 := blk_frozen BK438.out 4; obtain ⟨Ao40, co40, eo40⟩ := Kd.R_slice HO437.out; subst eo40; obtain ⟨Ao41, co41, eo41⟩ := Kd.S_slice HO428.out; subst eo41) | ((with_reducible refine gate_callee (f := 25) rfl ?_); refine goesL_ (some 45) rfl rfl Try.func25 (by kernel_rfl) rfl #[.slice Ao41 t426.length co41, .agg #[.slice Ao37 t429.length co37, .int .i64 t432, .int .i64 t433, .int .i64 t434, .slice Ao40 t435.length co40], .int .i64 a2, .int .i64 a3] rfl (by (try simp only [List.map_toArray, List.map_cons, List.map_nil]); first | done | rfl | (simp only [List.length_drop, List.length_take]; rfl)) ?_; (with_reducible refine (impl_MemGet.calls k _ _ t426 _ _ t429 t432 t433 t434 _ _ t435 a2 a3 t439 t440 _ ?side1 ?side2 ?side3 ?side4 ?side5 ?side6 A20.out).mono ?_); (case side1 => refine (Kd.S_reads' (e := 32) (base := w.heap.size) (ok := fun k_ => (((True ∧ some k_ ≠ (.slice Ao29 t412.length co29 : Value).ownBlock) ∧ some k_ ≠ (.slice Ao30 t415.length co30 : Value).ownBlock) ∧ some k_ ≠ (.slice Ao37 t429.length co37 : Value).ownBlock)) (n := t426.length) (c := co41) ?_).2.2; exact (by (with_reducible repeat (first | apply Kd.S_alloc | apply Kd.S_drewN | apply Kd.S_drew)); exact (Kd.S_mono (Kd.S_far (p := ⟨gb438, 4, none⟩) (Kd.S_far (p := ⟨gb438, 3, none⟩) (Kd.S_far (p := ⟨gb438, 2, none⟩) (Kd.S_far (p := ⟨gb438, 1, none⟩) (Kd.S_far (p := ⟨gb438, 0, none⟩) (Kd.S_types HO428.out BK438.out (by decide)) (fun _ hk => hk.2) (.slice Ao37 t429.length co37)) (fun _ hk => hk.2) (.int .i64 t432)) (fun _ hk => hk.2) (.int .i64 t433)) (fun _ hk => hk.2) (.int .i64 t434)) (fun _ hk => hk.2) (.slice Ao40 t435.length co40)) (fun _ h_ => h_.1)))); (case side2 => exact (Kd.S_reads' HO428.out).2.1); (case side3 => refine (Kd.R_reads' (e := 3) (base := w.heap.size) (ok := fun k_ => (True ∧ some k_ ≠ (.slice Ao30 t415.length co30 : Value).ownBlock)) (n := t429.length) (c := co37) ?_).2.2; exact (by (with_reducible repeat (first | apply Kd.R_alloc | apply Kd.R_drewN | apply Kd.R_drew)); exact (Kd.R_mono (Kd.R_far (p := ⟨gb438, 4, none⟩) (Kd.R_far (p := ⟨gb438, 3, none⟩) (Kd.R_far (p := ⟨gb438, 2, none⟩) (Kd.R_far (p := ⟨gb438, 1, none⟩) (Kd.R_far (p := ⟨gb438, 0, none⟩) (Kd.R_types HO431.out BK438.out (by decide)) (fun _ hk => hk.2) (.slice Ao37 t429.length co37)) (fun _ hk => hk.2) (.int .i64 t432)) (fun _ hk => hk.2) (.int .i64 t433)) (fun _ hk => hk.2) (.int .i64 t434)) (fun _ hk => hk.2) (.slice Ao40 t435.length co40)) (fun _ h_ => h_.1)))); (case side4 => exact (Kd.R_reads' HO431.out).2.1); (case side5 => refine (Kd.R_reads' (e := 4) (base := w.heap.size) (ok := fun k_ => (True ∧ some k_ ≠ (.slice Ao31 t421.length co31 : Value).ownBlock)) (n := t435.length) (c := co40) ?_).2.2; exact (by (with_reducible repeat (first | apply Kd.R_alloc | apply Kd.R_drewN | apply Kd.R_drew)); exact (Kd.R_mono (Kd.R_far (p := ⟨gb438, 4, none⟩) (Kd.R_far (p := ⟨gb438, 3, none⟩) (Kd.R_far (p := ⟨gb438, 2, none⟩) (Kd.R_far (p := ⟨gb438, 1, none⟩) (Kd.R_far (p := ⟨gb438, 0, none⟩) (Kd.R_types HO437.out BK438.out (by decide)) (fun _ hk => hk.2) (.slice Ao37 t429.length co37)) (fun _ hk => hk.2) (.int .i64 t432)) (fun _ hk => hk.2) (.int .i64 t433)) (fun _ hk => hk.2) (.int .i64 t434)) (fun _ hk => hk.2) (.slice Ao40 t435.length co40)) (fun _ h_ => h_.1)))); (case side6 => exact (Kd.R_reads' HO437.out).2.1); rintro e w42 ⟨rfl, hb⟩; refine ⟨_, rfl, ?_⟩; have n0_ := Aside0.mk (Kd.S_below (by (with_reducible repeat (first | apply Kd.S_alloc | apply Kd.S_drewN | apply Kd.S_drew)); exact (Kd.S_mono (Kd.S_far (p := ⟨gb438, 4, none⟩) (Kd.S_far (p := ⟨gb438, 3, none⟩) (Kd.S_far (p := ⟨gb438, 2, none⟩) (Kd.S_far (p := ⟨gb438, 1, none⟩) (Kd.S_far (p := ⟨gb438, 0, none⟩) (Kd.S_types HO414.out BK438.out (by decide)) (fun _ hk => hk.2) (.slice Ao37 t429.length co37)) (fun _ hk => hk.2) (.int .i64 t432)) (fun _ hk => hk.2) (.int .i64 t433)) (fun _ hk => hk.2) (.int .i64 t434)) (fun _ hk => hk.2) (.slice Ao40 t435.length co40)) (fun _ h_ => h_.1))) hb); have n1_ := Aside0.mk (Kd.R_below (by (with_reducible repeat (first | apply Kd.R_alloc | apply Kd.R_drewN | apply Kd.R_drew)); exact (Kd.R_mono (Kd.R_far (p := ⟨gb438, 4, none⟩) (Kd.R_far (p := ⟨gb438, 3, none⟩) (Kd.R_far (p := ⟨gb438, 2, none⟩) (Kd.R_far (p := ⟨gb438, 1, none⟩) (Kd.R_far (p := ⟨gb438, 0, none⟩) (Kd.R_types HO417.out BK438.out (by decide)) (fun _ hk => hk.2) (.slice Ao37 t429.length co37)) (fun _ hk => hk.2) (.int .i64 t432)) (fun _ hk => hk.2) (.int .i64 t433)) (fun _ hk => hk.2) (.int .i64 t434)) (fun _ hk => hk.2) (.slice Ao40 t435.length co40)) (fun _ h_ => h_.1))) hb); have n2_ := Aside0.mk (Kd.R_below (by (with_reducible repeat (first | apply Kd.R_alloc | apply Kd.R_drewN | apply Kd.R_drew)); exact (Kd.R_mono (Kd.R_far (p := ⟨gb438, 4, none⟩) (Kd.R_far (p := ⟨gb438, 3, none⟩) (Kd.R_far (p := ⟨gb438, 2, none⟩) (Kd.R_far (p := ⟨gb438, 1, none⟩) (Kd.R_far (p := ⟨gb438, 0, none⟩) (Kd.R_types HO423.out BK438.out (by decide)) (fun _ hk => hk.2) (.slice Ao37 t429.length co37)) (fun _ hk => hk.2) (.int .i64 t432)) (fun _ hk => hk.2) (.int .i64 t433)) (fun _ hk => hk.2) (.int .i64 t434)) (fun _ hk => hk.2) (.slice Ao40 t435.length co40)) (fun _ h_ => h_.1))) hb); have n3_ := Aside0.mk (Kd.S_below (by (with_reducible repeat (first | apply Kd.S_alloc | apply Kd.S_drewN | apply Kd.S_drew)); exact (Kd.S_mono (Kd.S_far (p := ⟨gb438, 4, none⟩) (Kd.S_far (p := ⟨gb438, 3, none⟩) (Kd.S_far (p := ⟨gb438, 2, none⟩) (Kd.S_far (p := ⟨gb438, 1, none⟩) (Kd.S_far (p := ⟨gb438, 0, none⟩) (Kd.S_types HO428.out BK438.out (by decide)) (fun _ hk => hk.2) (.slice Ao37 t429.length co37)) (fun _ hk => hk.2) (.int .i64 t432)) (fun _ hk => hk.2) (.int .i64 t433)) (fun _ hk => hk.2) (.int .i64 t434)) (fun _ hk => hk.2) (.slice Ao40 t435.length co40)) (fun _ h_ => h_.1))) hb); have n4_ := Aside0.mk (Kd.R_below (by (with_reducible repeat (first | apply Kd.R_alloc | apply Kd.R_drewN | apply Kd.R_drew)); exact (Kd.R_mono (Kd.R_far (p := ⟨gb438, 4, none⟩) (Kd.R_far (p := ⟨gb438, 3, none⟩) (Kd.R_far (p := ⟨gb438, 2, none⟩) (Kd.R_far (p := ⟨gb438, 1, none⟩) (Kd.R_far (p := ⟨gb438, 0, none⟩) (Kd.R_types HO431.out BK438.out (by decide)) (fun _ hk => hk.2) (.slice Ao37 t429.length co37)) (fun _ hk => hk.2) (.int .i64 t432)) (fun _ hk => hk.2) (.int .i64 t433)) (fun _ hk => hk.2) (.int .i64 t434)) (fun _ hk => hk.2) (.slice Ao40 t435.length co40)) (fun _ h_ => h_.1))) hb); have n5_ := Aside0.mk (Kd.R_below (by (with_reducible repeat (first | apply Kd.R_alloc | apply Kd.R_drewN | apply Kd.R_drew)); exact (Kd.R_mono (Kd.R_far (p := ⟨gb438, 4, none⟩) (Kd.R_far (p := ⟨gb438, 3, none⟩) (Kd.R_far (p := ⟨gb438, 2, none⟩) (Kd.R_far (p := ⟨gb438, 1, none⟩) (Kd.R_far (p := ⟨gb438, 0, none⟩) (Kd.R_types HO437.out BK438.out (by decide)) (fun _ hk => hk.2) (.slice Ao37 t429.length co37)) (fun _ hk => hk.2) (.int .i64 t432)) (fun _ hk => hk.2) (.int .i64 t433)) (fun _ hk => hk.2) (.int .i64 t434)) (fun _ hk => hk.2) (.slice Ao40 t435.length co40)) (fun _ h_ => h_.1))) hb); have n6_ := Aside0.mk (blk_below (g := gb409) (o := .cells #[.slice A1_0 l1_0.length c1_0, .int .i64 a1_1, .int .i64 a1_2, .int .i64 a1_3, .slice A1_4 l1_4.length c1_4] 38 (0, 0)) (by (with_reducible repeat (first | refine blk_drewN ?_ _ | refine blk_drew ?_ | refine blk_alloc ?_ _)); refine blk_far ?_ NB409_438.out _; (with_reducible repeat (first | refine blk_drewN ?_ _ | refine blk_drew ?_ | refine blk_alloc ?_ _)); refine blk_far ?_ NB409_438.out _; (with_reducible repeat (first | refine blk_drewN ?_ _ | refine blk_drew ?_ | refine blk_alloc ?_ _)); refine blk_far ?_ NB409_438.out _; (with_reducible repeat (first | refine blk_drewN ?_ _ | refine blk_drew ?_ | refine blk_alloc ?_ _)); refine blk_far ?_ NB409_438.out _; (with_reducible repeat (first | refine blk_drewN ?_ _ | refine blk_drew ?_ | refine blk_alloc ?_ _)); refine blk_far ?_ NB409_438.out _; (with_reducible repeat (first | refine blk_drewN ?_ _ | refine blk_drew ?_ | refine blk_alloc ?_ _)); exact BK409.out) hb); have n7_ := Aside0.mk (blk_below (g := gb438) (o := .cells #[.slice Ao37 t429.length co37, .int .i64 t432, .int .i64 t433, .int .i64 t434, .slice Ao40 t435.length co40] 28 (0, 0)) (by (with_reducible repeat (first | refine blk_drewN ?_ _ | refine blk_drew ?_ | refine blk_alloc ?_ _)); refine blk_put (cs := #[.slice Ao37 t429.length co37, .int .i64 t432, .int .i64 t433, .int .i64 t434, .slice none 0 0]) ?_ 4 _ rfl; (with_reducible repeat (first | refine blk_drewN ?_ _ | refine blk_drew ?_ | refine blk_alloc ?_ _)); refine blk_put (cs := #[.slice Ao37 t429.length co37, .int .i64 t432, .int .i64 t433, .int .i64 0, .slice none 0 0]) ?_ 3 _ rfl; (with_reducible repeat (first | refine blk_drewN ?_ _ | refine blk_drew ?_ | refine blk_alloc ?_ _)); refine blk_put (cs := #[.slice Ao37 t429.length co37, .int .i64 t432, .int .i64 0, .int .i64 0, .slice none 0 0]) ?_ 2 _ rfl; (with_reducible repeat (first | refine blk_drewN ?_ _ | refine blk_drew ?_ | refine blk_alloc ?_ _)); refine blk_put (cs := #[.slice Ao37 t429.length co37, .int .i64 0, .int .i64 0, .int .i64 0, .slice none 0 0]) ?_ 1 _ rfl; (with_reducible repeat (first | refine blk_drewN ?_ _ | refine blk_drew ?_ | refine blk_alloc ?_ _)); refine blk_put (cs := #[.slice none 0 0, .int .i64 0, .int .i64 0, .int .i64 0, .slice none 0 0]) ?_ 0 _ rfl; (with_reducible repeat (first | refine blk_drewN ?_ _ | refine blk_drew ?_ | refine blk_alloc ?_ _)); exact BK438.out) hb); have n8_ := Aside0.mk (below_step (by repeat (first | (with_reducible first | exact HB.out | apply below_alloc | apply pw_below_drewN | apply below_drew1 | refine below_set ?_ GE409.out | refine below_set ?_ GE438.out) | exact HB.out)) hb); clear HO414; clear HO417; clear HO423; clear HO428; clear HO431; clear HO437; clear BK409; clear BK438; clear HB; have HO414 := n0_; have HO417 := n1_; have HO423 := n2_; have HO428 := n3_; have HO431 := n4_; have HO437 := n5_; have BK409 := n6_; have BK438 := n7_; have HB := n8_; clear n0_ n1_ n2_ n3_ n4_ n5_ n6_ n7_ n8_; (try clear hb); (try clear hb2); (try clear hk); (try clear hi)))
      (try simp only [Act.put, List.setIfInBounds_toArray, List.set_cons_zero, List.set_cons_succ])
      go_cut [55] (fun v55 wc => ∃ (kq : Nat) (x55_20 : Bool), v55 = .bool x55_20 ∧ Aside0 (laws_FnExactMemGet.j0 kq l0 t426 x55_20 l1_0 a1_1 a1_2 a1_3 l1_4 t429 t432 t433 t434 t435 = some r) ∧ Aside0 (kq ≤ k) ∧ Aside0 (Kd.S k32 32 wc w.heap.size (fun k_ => some k_ ≠ ((.slice Ao37 t429.length co37) : Value).ownBlock) (.slice Ao41 t426.length co41) t426) ∧ Aside0 (Kd.R (Kd.int .i64) 3 wc w.heap.size (fun _ => True) (.slice Ao37 t429.length co37) t429) ∧ Aside0 (Kd.R Kd.bool 4 wc w.heap.size (fun _ => True) (.slice Ao40 t435.length co40) t435) ∧ Aside0 (wc.heap[gb409]? = some (.cells #[(.slice A1_0 l1_0.length c1_0), .int .i64 a1_1, .int .i64 a1_2, .int .i64 a1_3, (.slice A1_4 l1_4.length c1_4)] 38 (0, 0))) ∧ Aside0 (wc.heap[gb438]? = some (.cells #[(.slice Ao37 t429.length co37), .int .i64 t432, .int .i64 t433, .int .i64 t434, (.slice Ao40 t435.length co40)] 28 (0, 0))) ∧ Aside0 (Below w.heap.size w wc))
      case first =>
        have H := HC21.out
        clear HC21
        by_cases c43 : t439 = t424
        · rw [if_pos c43] at H
          have c43b0 : (t439 == t424) = true := beq_iff_eq.mpr c43
          have c43b1 : (t439 != t424) = false := bne_eq_false_iff_eq.mpr c43
          clear c43
          (first | rw [c43b0] | (simp only [i64_w, i32_w]; rw [c43b0]) | skip)
          have H' := Aside0.mk H
          clear H
          go_wp2
          go_meet
          case rel => exact ⟨_, ((t440 != t425)), (by first | rfl | (simp; done) | (simp [*]; done)), H', ⟨by first | omega | exact Nat.le_refl _⟩, ⟨by (with_reducible repeat (first | apply Kd.S_alloc | apply Kd.S_drewN | apply Kd.S_drew)); exact Kd.S_mono HO428.out (fun _ hk => hk.2)⟩, ⟨by (with_reducible repeat (first | apply Kd.R_alloc | apply Kd.R_drewN | apply Kd.R_drew)); exact Kd.R_mono HO431.out (fun _ hk => trivial)⟩, ⟨by (with_reducible repeat (first | apply Kd.R_alloc | apply Kd.R_drewN | apply Kd.R_drew)); exact Kd.R_mono HO437.out (fun _ hk => trivial)⟩, ⟨by (with_reducible repeat (first | refine blk_drewN ?_ _ | refine blk_drew ?_ | refine blk_alloc ?_ _)); exact BK409.out⟩, ⟨by (with_reducible repeat (first | refine blk_drewN ?_ _ | refine blk_drew ?_ | refine blk_alloc ?_ _)); exact BK438.out⟩, ⟨by repeat (first | (with_reducible first | exact HB.out | apply below_alloc | apply pw_below_drewN | apply below_drew1 | refine below_set ?_ GE409.out | refine below_set ?_ GE438.out) | exact HB.out)⟩⟩
        · rw [if_neg c43] at H
          have c43b0 : (t439 == t424) = false := beq_eq_false_iff_ne.mpr c43
          have c43b1 : (t439 != t424) = true := bne_iff_ne.mpr c43
          (first | rw [c43b0] | (simp only [i64_w, i32_w]; rw [c43b0]) | skip)
          have H' := Aside0.mk H
          clear H
          go_wp2
          go_meet
          case rel => exact ⟨_, (true), (by first | rfl | (simp; done) | (simp [*]; done)), H', ⟨by first | omega | exact Nat.le_refl _⟩, ⟨by (with_reducible repeat (first | apply Kd.S_alloc | apply Kd.S_drewN | apply Kd.S_drew)); exact Kd.S_mono HO428.out (fun _ hk => hk.2)⟩, ⟨by (with_reducible repeat (first | apply Kd.R_alloc | apply Kd.R_drewN | apply Kd.R_drew)); exact Kd.R_mono HO431.out (fun _ hk => trivial)⟩, ⟨by (with_reducible repeat (first | apply Kd.R_alloc | apply Kd.R_drewN | apply Kd.R_drew)); exact Kd.R_mono HO437.out (fun _ hk => trivial)⟩, ⟨by (with_reducible repeat (first | refine blk_drewN ?_ _ | refine blk_drew ?_ | refine blk_alloc ?_ _)); exact BK409.out⟩, ⟨by (with_reducible repeat (first | refine blk_drewN ?_ _ | refine blk_drew ?_ | refine blk_alloc ?_ _)); exact BK438.out⟩, ⟨by repeat (first | (with_reducible first | exact HB.out | apply below_alloc | apply pw_below_drewN | apply below_drew1 | refine below_set ?_ GE409.out | refine below_set ?_ GE438.out) | exact HB.out)⟩⟩
      case rest =>
        clear HC21
        try clear c1
        try clear c2
        try clear p2
        try clear c3
        try clear c4
        try clear c6
        try clear c6b0
        try clear c10
        try clear c10b0
        try clear c15
        try clear c16
        try clear c18
        try clear c19
        try clear c24
        try clear c25
        try clear c38
        try clear c43
        try clear c43b0
        try clear c43b1
        try clear hcz13_0
        try clear hcz13_1
        try clear hcz13_2
        try clear hcz13_3
        try clear hcz13_4
        try clear hcz24_0
        try clear hcz24_1
        try clear hcz24_2
        try clear hcz24_3
        try clear hcz24_4
        try clear hcz34_0
        try clear hcz34_1
        try clear hcz34_2
        try clear hcz34_3
        try clear hcz34_4
        try clear hcz39_0
        try clear hcz39_1
        try clear hcz39_2
        try clear hcz39_3
        try clear hcz39_4
        try clear hfz13_0
        try clear hfz13_1
        try clear hfz13_2
        try clear hfz13_3
        try clear hfz13_4
        try clear hfz24_0
        try clear hfz24_1
        try clear hfz24_2
        try clear hfz24_3
        try clear hfz24_4
        try clear hfz34_0
        try clear hfz34_1
        try clear hfz34_2
        try clear hfz34_3
        try clear hfz34_4
        try clear hfz39_0
        try clear hfz39_1
        try clear hfz39_2
        try clear hfz39_3
        try clear hfz39_4
        obtain ⟨kq, x55_20, rfl, HA, HJ20, HO_12, HO_439000, HO_439004, BK409, BK438, HB⟩ := hcut
        cases kq with
        | zero => exact absurd HA.out (by simp [laws_FnExactMemGet.j0])
        | succ kj20 =>
          have H := HA.out
          clear HA
          simp only [laws_FnExactMemGet.j0] at H
          by_cases c44 : x55_20 = true
          · subst c44
            have H1 : (some false) = some r := by rw [if_pos rfl] at H; exact H
            clear H
            have H := H1
            clear H1
            exact absurd ((Option.some.inj H).trans hr_.out) (by decide)
          · replace c44 := Bool.eq_false_iff.mpr c44
            subst c44
            have H1 : ((laws_toClassS.f kj20 l0).bind fun t441 => ((laws_eqClassS.f kj20 t426 t441).bind fun t444 => (if t444 = true then ((laws_toMem.f kj20 l1_0 a1_1 a1_2 a1_3 l1_4).bind fun bt445 => ((laws_eqMem.f kj20 t429 t432 t433 t434 t435 bt445.1 bt445.2.1 bt445.2.2.1 bt445.2.2.2.1 bt445.2.2.2.2).bind fun t454 => (if t454 = true then (some true) else (some false)))) else (some false)))) = some r := by rw [if_neg (show ¬ (false = true) by decide)] at H; exact H
            clear H
            have H := H1
            clear H1
            replace H := Option.bind_eq_some_iff.mp H
            obtain ⟨t441, A450, H⟩ := H
            replace H : ((laws_eqClassS.f kj20 t426 t441).bind fun t444 => (if t444 = true then ((laws_toMem.f kj20 l1_0 a1_1 a1_2 a1_3 l1_4).bind fun bt445 => ((laws_eqMem.f kj20 t429 t432 t433 t434 t435 bt445.1 bt445.2.1 bt445.2.2.1 bt445.2.2.2.1 bt445.2.2.2.2).bind fun t454 => (if t454 = true then (some true) else (some false)))) else (some false))) = some r := H
            have A45 := Aside0.mk A450
            clear A450
            replace H := Option.bind_eq_some_iff.mp H
            obtain ⟨t444, A460, H⟩ := H
            replace H : (if t444 = true then ((laws_toMem.f kj20 l1_0 a1_1 a1_2 a1_3 l1_4).bind fun bt445 => ((laws_eqMem.f kj20 t429 t432 t433 t434 t435 bt445.1 bt445.2.1 bt445.2.2.1 bt445.2.2.2.1 bt445.2.2.2.2).bind fun t454 => (if t454 = true then (some true) else (some false)))) else (some false)) = some r := H
            have A46 := Aside0.mk A460
            clear A460
            by_cases c47 : t444 = true
            · subst c47
              have H1 : ((laws_toMem.f kj20 l1_0 a1_1 a1_2 a1_3 l1_4).bind fun bt445 => ((laws_eqMem.f kj20 t429 t432 t433 t434 t435 bt445.1 bt445.2.1 bt445.2.2.1 bt445.2.2.2.1 bt445.2.2.2.2).bind fun t454 => (if t454 = true then (some true) else (some false)))) = some r := by rw [if_pos rfl] at H; exact H
              clear H
              have H := H1
              clear H1
              replace H := Option.bind_eq_some_iff.mp H
              obtain ⟨⟨t445, t448, t449, t450, t451⟩, A480, H⟩ := H
              replace H : ((laws_eqMem.f kj20 t429 t432 t433 t434 t435 t445 t448 t449 t450 t451).bind fun t454 => (if t454 = true then (some true) else (some false))) = some r := H
              have A48 := Aside0.mk A480
              clear A480
              replace H := Option.bind_eq_some_iff.mp H
              obtain ⟨t454, A490, H⟩ := H
              replace H : (if t454 = true then (some true) else (some false)) = some r := H
              have A49 := Aside0.mk A490
              clear A490
              by_cases c50 : t454 = true
              · subst c50
                have H1 : (some true) = some r := by rw [if_pos rfl] at H; exact H
                clear H
                have H := H1
                clear H1
                obtain rfl := Option.some.inj H
                try go_wp2_with (first | ((with_reducible refine gate_callee (f := 18) rfl ?_); refine goesL_ (some 58) rfl rfl Try.func18 (by kernel_rfl) rfl #[.slice A0 l0.length c0] rfl (by (try simp only [List.map_toArray, List.map_cons, List.map_nil]); first | done | rfl | (simp only [List.length_drop, List.length_take]; rfl)) ?_; (with_reducible refine (laws_toClassS.calls kj20 _ _ l0 t441 _ ?side1 ?side2 A45.out).mono ?_); (case side1 => repeat (first | exact (Kd.C_below HR0.out HB.out) | (with_reducible refine Kd.C_alloc ?_ _) | (with_reducible refine Kd.C_drewN ?_ _) | (with_reducible refine Kd.C_drew ?_))); (case side2 => exact HC0.out); rintro e w51 ⟨v442, rfl, ho0, hb⟩; refine ⟨_, rfl, ?_⟩; have n0_ := Aside0.mk (Kd.S_elder' (by (with_reducible repeat (first | apply Kd.S_alloc | apply Kd.S_drewN | apply Kd.S_drew)); exact HO_12.out) (Kd.S_base ho0) hb); have n1_ := Aside0.mk (Kd.R_below (by (with_reducible repeat (first | apply Kd.R_alloc | apply Kd.R_drewN | apply Kd.R_drew)); exact HO_439000.out) hb); have n2_ := Aside0.mk (Kd.R_below (by (with_reducible repeat (first | apply Kd.R_alloc | apply Kd.R_drewN | apply Kd.R_drew)); exact HO_439004.out) hb); have n3_ := Aside0.mk (Kd.S_lower (Kd.S_new' (Kd.S_new' ho0 (Kd.S_lt (by (with_reducible repeat (first | apply Kd.S_alloc | apply Kd.S_drewN | apply Kd.S_drew)); exact HO_12.out))) (Kd.R_lt (by (with_reducible repeat (first | apply Kd.R_alloc | apply Kd.R_drewN | apply Kd.R_drew)); exact HO_439000.out))) (below_size (by repeat (first | (with_reducible first | exact HB.out | apply below_alloc | apply pw_below_drewN | apply below_drew1 | refine below_set ?_ GE409.out | refine below_set ?_ GE438.out) | exact HB.out)))); have n4_ := Aside0.mk (blk_below (g := gb409) (o := .cells #[.slice A1_0 l1_0.length c1_0, .int .i64 a1_1, .int .i64 a1_2, .int .i64 a1_3, .slice A1_4 l1_4.length c1_4] 38 (0, 0)) (by (with_reducible repeat (first | refine blk_drewN ?_ _ | refine blk_drew ?_ | refine blk_alloc ?_ _)); exact BK409.out) hb); have n5_ := Aside0.mk (blk_below (g := gb438) (o := .cells #[.slice Ao37 t429.length co37, .int .i64 t432, .int .i64 t433, .int .i64 t434, .slice Ao40 t435.length co40] 28 (0, 0)) (by (with_reducible repeat (first | refine blk_drewN ?_ _ | refine blk_drew ?_ | refine blk_alloc ?_ _)); exact BK438.out) hb); have n6_ := Aside0.mk (below_step (by repeat (first | (with_reducible first | exact HB.out | apply below_alloc | apply pw_below_drewN | apply below_drew1 | refine below_set ?_ GE409.out | refine below_set ?_ GE438.out) | exact HB.out)) hb); clear HO_12; clear HO_439000; clear HO_439004; clear BK409; clear BK438; clear HB; have HO_12 := n0_; have HO_439000 := n1_; have HO_439004 := n2_; have HO443 := n3_; have BK409 := n4_; have BK438 := n5_; have HB := n6_; clear n0_ n1_ n2_ n3_ n4_ n5_ n6_; (try clear hb); (try clear hb2); (try clear hk); (try clear hi); (try clear ho0); obtain ⟨Ao52, co52, eo52⟩ := Kd.S_slice HO443.out; subst eo52) | ((with_reducible refine gate_callee (f := 20) rfl ?_); refine goesL_ (some 59) rfl rfl Try.func20 (by kernel_rfl) rfl #[.slice Ao41 t426.length co41, .slice Ao52 t441.length co52] rfl (by (try simp only [List.map_toArray, List.map_cons, List.map_nil]); first | done | rfl | (simp only [List.length_drop, List.length_take]; rfl)) ?_; (with_reducible refine (laws_eqClassS.calls kj20 _ _ t426 _ _ t441 true _ ?side1 ?side2 ?side3 ?side4 A46.out).mono ?_); (case side1 => repeat (first | exact (Kd.S_reads' HO_12.out).2.2 | (with_reducible refine Kd.C_alloc ?_ _) | (with_reducible refine Kd.C_drewN ?_ _) | (with_reducible refine Kd.C_drew ?_))); (case side2 => exact (Kd.S_reads' HO_12.out).2.1); (case side3 => repeat (first | exact (Kd.S_reads' HO443.out).2.2 | (with_reducible refine Kd.C_alloc ?_ _) | (with_reducible refine Kd.C_drewN ?_ _) | (with_reducible refine Kd.C_drew ?_))); (case side4 => exact (Kd.S_reads' HO443.out).2.1); rintro e w53 ⟨rfl, hb⟩; refine ⟨_, rfl, ?_⟩; have n0_ := Aside0.mk (Kd.S_below (by (with_reducible repeat (first | apply Kd.S_alloc | apply Kd.S_drewN | apply Kd.S_drew)); exact HO_12.out) hb); have n1_ := Aside0.mk (Kd.R_below (by (with_reducible repeat (first | apply Kd.R_alloc | apply Kd.R_drewN | apply Kd.R_drew)); exact HO_439000.out) hb); have n2_ := Aside0.mk (Kd.R_below (by (with_reducible repeat (first | apply Kd.R_alloc | apply Kd.R_drewN | apply Kd.R_drew)); exact HO_439004.out) hb); have n3_ := Aside0.mk (Kd.S_below (by (with_reducible repeat (first | apply Kd.S_alloc | apply Kd.S_drewN | apply Kd.S_drew)); exact HO443.out) hb); have n4_ := Aside0.mk (blk_below (g := gb409) (o := .cells #[.slice A1_0 l1_0.length c1_0, .int .i64 a1_1, .int .i64 a1_2, .int .i64 a1_3, .slice A1_4 l1_4.length c1_4] 38 (0, 0)) (by (with_reducible repeat (first | refine blk_drewN ?_ _ | refine blk_drew ?_ | refine blk_alloc ?_ _)); exact BK409.out) hb); have n5_ := Aside0.mk (blk_below (g := gb438) (o := .cells #[.slice Ao37 t429.length co37, .int .i64 t432, .int .i64 t433, .int .i64 t434, .slice Ao40 t435.length co40] 28 (0, 0)) (by (with_reducible repeat (first | refine blk_drewN ?_ _ | refine blk_drew ?_ | refine blk_alloc ?_ _)); exact BK438.out) hb); have n6_ := Aside0.mk (below_step (by repeat (first | (with_reducible first | exact HB.out | apply below_alloc | apply pw_below_drewN | apply below_drew1 | refine below_set ?_ GE409.out | refine below_set ?_ GE438.out) | exact HB.out)) hb); clear HO_12; clear HO_439000; clear HO_439004; clear HO443; clear BK409; clear BK438; clear HB; have HO_12 := n0_; have HO_439000 := n1_; have HO_439004 := n2_; have HO443 := n3_; have BK409 := n4_; have BK438 := n5_; have HB := n6_; clear n0_ n1_ n2_ n3_ n4_ n5_ n6_; (try clear hb); (try clear hb2); (try clear hk); (try clear hi)))
                have n0_ := Aside0.mk (Kd.S_drew HO_12.out)
                have n1_ := Aside0.mk (Kd.R_drew HO_439000.out)
                have n2_ := Aside0.mk (Kd.R_drew HO_439004.out)
                have n3_ := Aside0.mk (Kd.S_drew HO443.out)
                have n4_ := Aside0.mk (blk_drew BK409.out)
                have n5_ := Aside0.mk (blk_drew BK438.out)
                have n6_ := Aside0.mk (below_drew1 HB.out)
                clear HO_12
                clear HO_439000
                clear HO_439004
                clear HO443
                clear BK409
                clear BK438
                clear HB
                have HO_12 := n0_
                have HO_439000 := n1_
                have HO_439004 := n2_
                have HO443 := n3_
                have BK409 := n4_
                have BK438 := n5_
                have HB := n6_
                clear n0_ n1_ n2_ n3_ n4_ n5_ n6_
                refine start_ (n := 5) (S := fun w' => w'.cell? ⟨gb438, 0, none⟩ = some (.slice Ao37 t429.length co37) ∧ w'.cell? ⟨gb438, 1, none⟩ = some (.int .i64 t432) ∧ w'.cell? ⟨gb438, 2, none⟩ = some (.int .i64 t433) ∧ w'.cell? ⟨gb438, 3, none⟩ = some (.int .i64 t434) ∧ w'.cell? ⟨gb438, 4, none⟩ = some (.slice Ao40 t435.length co40) ∧ w'.cell? ⟨gb409, 0, none⟩ = some (.slice A1_0 l1_0.length c1_0) ∧ w'.cell? ⟨gb409, 1, none⟩ = some (.int .i64 a1_1) ∧ w'.cell? ⟨gb409, 2, none⟩ = some (.int .i64 a1_2) ∧ w'.cell? ⟨gb409, 3, none⟩ = some (.int .i64 a1_3) ∧ w'.cell? ⟨gb409, 4, none⟩ = some (.slice A1_4 l1_4.length c1_4)) (ds := []) #[false, false, false, false, false] (by kernel_rfl) rfl rfl ⟨(blk_cell BK438.out 0).trans rfl, (blk_cell BK438.out 1).trans rfl, (blk_cell BK438.out 2).trans rfl, (blk_cell BK438.out 3).trans rfl, (blk_cell BK438.out 4).trans rfl, (blk_cell BK409.out 0).trans rfl, (blk_cell BK409.out 1).trans rfl, (blk_cell BK409.out 2).trans rfl, (blk_cell BK409.out 3).trans rfl, (blk_cell BK409.out 4).trans rfl⟩ (fun hHeld => ?_)
                generalize w53.drew = w54 at HO_12 HO_439000 HO_439004 HO443 BK409 BK438 HB hHeld ⊢
                refine tS 0 61 #[true, false, false, false, false] rfl rfl (by kernel_rfl) hHeld (by rintro w' ⟨s0, s1, s2, s3, s4, s5, s6, s7, s8, s9⟩; go_simp; with_reducible rfl) ?_
                refine tS 1 62 #[true, true, false, false, false] rfl rfl (by kernel_rfl) hHeld (by rintro w' ⟨s0, s1, s2, s3, s4, s5, s6, s7, s8, s9⟩; go_simp; with_reducible rfl) ?_
                refine one_ (i := 2) (N := some 63) #[true, true, true, false, false] rfl rfl (by kernel_rfl) (by decide) (fun K hK => ?_)
                refine goes_ Try.func19 (by kernel_rfl) rfl #[.agg #[.slice A1_0 l1_0.length c1_0, .int .i64 a1_1, .int .i64 a1_2, .int .i64 a1_3, .slice A1_4 l1_4.length c1_4]] (by rfl) rfl rfl (by (try simp only [List.map_toArray, List.map_cons, List.map_nil]); first | done | rfl | (simp only [List.length_drop, List.length_take]; rfl)) ?_
                with_reducible refine (laws_toMem.calls kj20 _ _ l1_0 a1_1 a1_2 a1_3 _ _ l1_4 t445 t448 t449 t450 t451 _ ?side1 ?side2 ?side3 ?side4 A48.out).mono ?_
                (case side1 => repeat (first | exact (Kd.C_below HR1_0.out HB.out) | (with_reducible refine Kd.C_alloc ?_ _) | (with_reducible refine Kd.C_drewN ?_ _) | (with_reducible refine Kd.C_drew ?_)))
                (case side2 => exact HC1_0.out)
                (case side3 => repeat (first | exact (Kd.C_below HR1_4.out HB.out) | (with_reducible refine Kd.C_alloc ?_ _) | (with_reducible refine Kd.C_drewN ?_ _) | (with_reducible refine Kd.C_drew ?_)))
                (case side4 => exact HC1_4.out)
                rintro e w55 ⟨v446, v452, rfl, ho0, ho1, hb⟩
                refine ⟨_, rfl, ?_⟩
                have n0_ := Aside0.mk (Kd.S_elder' (by (with_reducible repeat (first | apply Kd.S_alloc | apply Kd.S_drewN | apply Kd.S_drew)); exact HO_12.out) (Kd.R_base ho0) hb)
                have n1_ := Aside0.mk (Kd.R_elder' (by (with_reducible repeat (first | apply Kd.R_alloc | apply Kd.R_drewN | apply Kd.R_drew)); exact HO_439000.out) (Kd.R_base ho0) hb)
                have n2_ := Aside0.mk (Kd.R_elder' (by (with_reducible repeat (first | apply Kd.R_alloc | apply Kd.R_drewN | apply Kd.R_drew)); exact HO_439004.out) (Kd.R_base ho1) hb)
                have n3_ := Aside0.mk (Kd.S_elder' (by (with_reducible repeat (first | apply Kd.S_alloc | apply Kd.S_drewN | apply Kd.S_drew)); exact HO443.out) (Kd.R_base ho0) hb)
                have n4_ := Aside0.mk (Kd.R_lower (Kd.R_new' ho0 (Kd.R_lt (by (with_reducible repeat (first | apply Kd.R_alloc | apply Kd.R_drewN | apply Kd.R_drew)); exact HO_439000.out))) (below_size (by repeat (first | (with_reducible first | exact HB.out | apply below_alloc | apply pw_below_drewN | apply below_drew1 | refine below_set ?_ GE409.out | refine below_set ?_ GE438.out) | exact HB.out))))
                have n5_ := Aside0.mk (Kd.R_lower (Kd.R_new' ho1 (Kd.R_lt (by (with_reducible repeat (first | apply Kd.R_alloc | apply Kd.R_drewN | apply Kd.R_drew)); exact HO_439004.out))) (below_size (by repeat (first | (with_reducible first | exact HB.out | apply below_alloc | apply pw_below_drewN | apply below_drew1 | refine below_set ?_ GE409.out | refine below_set ?_ GE438.out) | exact HB.out))))
                have n6_ := Aside0.mk (blk_below (g := gb409) (o := .cells #[.slice A1_0 l1_0.length c1_0, .int .i64 a1_1, .int .i64 a1_2, .int .i64 a1_3, .slice A1_4 l1_4.length c1_4] 38 (0, 0)) (by (with_reducible repeat (first | refine blk_drewN ?_ _ | refine blk_drew ?_ | refine blk_alloc ?_ _)); exact BK409.out) hb)
                have n7_ := Aside0.mk (blk_below (g := gb438) (o := .cells #[.slice Ao37 t429.length co37, .int .i64 t432, .int .i64 t433, .int .i64 t434, .slice Ao40 t435.length co40] 28 (0, 0)) (by (with_reducible repeat (first | refine blk_drewN ?_ _ | refine blk_drew ?_ | refine blk_alloc ?_ _)); exact BK438.out) hb)
                have n8_ := Aside0.mk (below_step (by repeat (first | (with_reducible first | exact HB.out | apply below_alloc | apply pw_below_drewN | apply below_drew1 | refine below_set ?_ GE409.out | refine below_set ?_ GE438.out) | exact HB.out)) hb)
                clear HO_12
                clear HO_439000
                clear HO_439004
                clear HO443
                clear BK409
                clear BK438
                clear HB
                have HO_12 := n0_
                have HO_439000 := n1_
                have HO_439004 := n2_
                have HO443 := n3_
                have HO447 := n4_
                have HO453 := n5_
                have BK409 := n6_
                have BK438 := n7_
                have HB := n8_
                clear n0_ n1_ n2_ n3_ n4_ n5_ n6_ n7_ n8_
                (try clear hb)
                (try clear hb2)
                (try clear hk)
                (try clear hi)
                (try clear ho0)
                (try clear ho1)
                obtain ⟨Ao56, co56, eo56⟩ := Kd.R_slice HO447.out
                (first | subst eo56 | (injection eo56 with f1_ f2_ f3_; have f4_ := f1_.symm; have f5_ := f3_.symm; clear f1_ f2_ f3_; subst f4_; subst f5_))
                obtain ⟨Ao57, co57, eo57⟩ := Kd.R_slice HO453.out
                (first | subst eo57 | (injection eo57 with f1_ f2_ f3_; have f4_ := f1_.symm; have f5_ := f3_.symm; clear f1_ f2_ f3_; subst f4_; subst f5_))
                refine hK.out _ _ ⟨(blk_cell BK438.out 0).trans rfl, (blk_cell BK438.out 1).trans rfl, (blk_cell BK438.out 2).trans rfl, (blk_cell BK438.out 3).trans rfl, (blk_cell BK438.out 4).trans rfl, (blk_cell BK409.out 0).trans rfl, (blk_cell BK409.out 1).trans rfl, (blk_cell BK409.out 2).trans rfl, (blk_cell BK409.out 3).trans rfl, (blk_cell BK409.out 4).trans rfl⟩ (fun hHeld => ?_)
                clear hK K
                refine norm_ (a' := ?_) ?_ ?_
                rotate_left
                · show Act.put _ (some 63) _ = _
                  simp only [Act.put, lA1, lA2, lA3, i64_w, i32_w]
                  rfl
                refine one_ (i := 3) (N := some 64) #[true, true, true, true, false] rfl rfl (by kernel_rfl) (by decide) (fun K hK => ?_)
                refine goes_ Try.func21 (by kernel_rfl) rfl #[.agg #[.slice Ao37 t429.length co37, .int .i64 t432, .int .i64 t433, .int .i64 t434, .slice Ao40 t435.length co40], .agg #[.slice Ao56 t445.length co56, .int .i64 t448, .int .i64 t449, .int .i64 t450, .slice Ao57 t451.length co57]] (by rfl) rfl rfl (by (try simp only [List.map_toArray, List.map_cons, List.map_nil]); first | done | rfl | (simp only [List.length_drop, List.length_take]; rfl)) ?_
                with_reducible refine (laws_eqMem.calls kj20 _ _ t429 t432 t433 t434 _ _ t435 _ _ t445 t448 t449 t450 _ _ t451 true _ ?side1 ?side2 ?side3 ?side4 ?side5 ?side6 ?side7 ?side8 A49.out).mono ?_
                (case side1 => repeat (first | exact (Kd.R_reads' HO_439000.out).2.2 | (with_reducible refine Kd.C_alloc ?_ _) | (with_reducible refine Kd.C_drewN ?_ _) | (with_reducible refine Kd.C_drew ?_)))
                (case side2 => exact (Kd.R_reads' HO_439000.out).2.1)
                (case side3 => repeat (first | exact (Kd.R_reads' HO_439004.out).2.2 | (with_reducible refine Kd.C_alloc ?_ _) | (with_reducible refine Kd.C_drewN ?_ _) | (with_reducible refine Kd.C_drew ?_)))
                (case side4 => exact (Kd.R_reads' HO_439004.out).2.1)
                (case side5 => repeat (first | exact (Kd.R_reads' HO447.out).2.2 | (with_reducible refine Kd.C_alloc ?_ _) | (with_reducible refine Kd.C_drewN ?_ _) | (with_reducible refine Kd.C_drew ?_)))
                (case side6 => exact (Kd.R_reads' HO447.out).2.1)
                (case side7 => repeat (first | exact (Kd.R_reads' HO453.out).2.2 | (with_reducible refine Kd.C_alloc ?_ _) | (with_reducible refine Kd.C_drewN ?_ _) | (with_reducible refine Kd.C_drew ?_)))
                (case side8 => exact (Kd.R_reads' HO453.out).2.1)
                rintro e w58 ⟨rfl, hb⟩
                refine ⟨_, rfl, ?_⟩
                have n0_ := Aside0.mk (Kd.S_below (by (with_reducible repeat (first | apply Kd.S_alloc | apply Kd.S_drewN | apply Kd.S_drew)); exact HO_12.out) hb)
                have n1_ := Aside0.mk (Kd.R_below (by (with_reducible repeat (first | apply Kd.R_alloc | apply Kd.R_drewN | apply Kd.R_drew)); exact HO_439000.out) hb)
                have n2_ := Aside0.mk (Kd.R_below (by (with_reducible repeat (first | apply Kd.R_alloc | apply Kd.R_drewN | apply Kd.R_drew)); exact HO_439004.out) hb)
                have n3_ := Aside0.mk (Kd.S_below (by (with_reducible repeat (first | apply Kd.S_alloc | apply Kd.S_drewN | apply Kd.S_drew)); exact HO443.out) hb)
                have n4_ := Aside0.mk (Kd.R_below (by (with_reducible repeat (first | apply Kd.R_alloc | apply Kd.R_drewN | apply Kd.R_drew)); exact HO447.out) hb)
                have n5_ := Aside0.mk (Kd.R_below (by (with_reducible repeat (first | apply Kd.R_alloc | apply Kd.R_drewN | apply Kd.R_drew)); exact HO453.out) hb)
                have n6_ := Aside0.mk (blk_below (g := gb409) (o := .cells #[.slice A1_0 l1_0.length c1_0, .int .i64 a1_1, .int .i64 a1_2, .int .i64 a1_3, .slice A1_4 l1_4.length c1_4] 38 (0, 0)) (by (with_reducible repeat (first | refine blk_drewN ?_ _ | refine blk_drew ?_ | refine blk_alloc ?_ _)); exact BK409.out) hb)
                have n7_ := Aside0.mk (blk_below (g := gb438) (o := .cells #[.slice Ao37 t429.length co37, .int .i64 t432, .int .i64 t433, .int .i64 t434, .slice Ao40 t435.length co40] 28 (0, 0)) (by (with_reducible repeat (first | refine blk_drewN ?_ _ | refine blk_drew ?_ | refine blk_alloc ?_ _)); exact BK438.out) hb)
                have n8_ := Aside0.mk (below_step (by repeat (first | (with_reducible first | exact HB.out | apply below_alloc | apply pw_below_drewN | apply below_drew1 | refine below_set ?_ GE409.out | refine below_set ?_ GE438.out) | exact HB.out)) hb)
                clear HO_12
                clear HO_439000
                clear HO_439004
                clear HO443
                clear HO447
                clear HO453
                clear BK409
                clear BK438
                clear HB
                have HO_12 := n0_
                have HO_439000 := n1_
                have HO_439004 := n2_
                have HO443 := n3_
                have HO447 := n4_
                have HO453 := n5_
                have BK409 := n6_
                have BK438 := n7_
                have HB := n8_
                clear n0_ n1_ n2_ n3_ n4_ n5_ n6_ n7_ n8_
                (try clear hb)
                (try clear hb2)
                (try clear hk)
                (try clear hi)
                refine hK.out _ _ ⟨(blk_cell BK438.out 0).trans rfl, (blk_cell BK438.out 1).trans rfl, (blk_cell BK438.out 2).trans rfl, (blk_cell BK438.out 3).trans rfl, (blk_cell BK438.out 4).trans rfl, (blk_cell BK409.out 0).trans rfl, (blk_cell BK409.out 1).trans rfl, (blk_cell BK409.out 2).trans rfl, (blk_cell BK409.out 3).trans rfl, (blk_cell BK409.out 4).trans rfl⟩ (fun hHeld => ?_)
                clear hK K
                refine norm_ (a' := ?_) ?_ ?_
                rotate_left
                · show Act.put _ (some 64) _ = _
                  simp only [Act.put, lA1, lA2, lA3, i64_w, i32_w]
                  rfl
                refine pS 4 65 #[true, true, true, true, true] ?_
                refine done_ (by kernel_rfl) ?_
                try go_wp2
                go_ret
                exact ⟨by first | rfl | (simp [errW_none, errW_some] <;> rfl) | (simp [*, errW_none, errW_some] <;> rfl), by repeat (first | (with_reducible first | exact HB.out | apply below_alloc | apply pw_below_drewN | apply below_drew1 | refine below_set ?_ GE409.out | refine below_set ?_ GE438.out) | exact HB.out)⟩
              · replace c50 := Bool.eq_false_iff.mpr c50
                subst c50
                have H1 : (some false) = some r := by rw [if_neg (show ¬ (false = true) by decide)] at H; exact H
                clear H
                have H := H1
                clear H1
                exact absurd ((Option.some.inj H).trans hr_.out) (by decide)
            · replace c47 := Bool.eq_false_iff.mpr c47
              subst c47
              have H1 : (some false) = some r := by rw [if_neg (show ¬ (false = true) by decide)] at H; exact H
              clear H
              have H := H1
              clear H1
              exact absurd ((Option.some.inj H).trans hr_.out) (by decide)
end Go.Proofs.Ytjnbilfhpdkcbaa.K
namespace Go.Proofs.Ytjnbilfhpdkcbaa.K
open Go.RowKit Go.Proofs.YtjnbilfhpdkcbaaW.PrintWords Go.Proofs.YtjnbilfhpdkcbaaW.PrintLast Go.Proofs.YtjnbilfhpdkcbaaW.PrintMore
attribute [local go_sem] max2_int min2_int max_two min_two max_three min_three max_four min_four
set_option linter.unusedVariables false
set_option linter.unusedSimpArgs false
def laws_FnExactMemGet.Pure : Prop := ∀ (a0 : List (S69)) (a1 : S38) (a2 : Int) (a3 : Int), (GL G69) a0 → G38 a1 → (fun n : Int => (Lit.int .i64 n).wf = true) a2 → (fun n : Int => (Lit.int .i64 n).wf = true) a3 → ∃ k, laws_FnExactMemGet.f k a0 a1.f0 a1.f1 a1.f2 a1.f3 a1.f4 a2 a3 = some true
end Go.Proofs.Ytjnbilfhpdkcbaa.K
namespace Go.Proofs.Ytjnbilfhpdkcbaa.Pure
open Go.RowKit Go.Proofs.Ytjnbilfhpdkcbaa.K Go.Proofs.YtjnbilfhpdkcbaaW.PrintWords Go.Proofs.YtjnbilfhpdkcbaaW.PrintLast Go.Proofs.YtjnbilfhpdkcbaaW.PrintMore
set_option linter.unusedVariables false
set_option linter.unusedSimpArgs false
theorem MemGet_eq {cs : Cs} (hf : fewF cs) {ws : List Int} {y t o : Int} {cards : List Bool} (hn : ws.length ≤ 1048576) (hc : cards.length ≤ 1048576) (a b : Int) :
    ∃ s, (∀ k, 4000000 ≤ k → impl_MemGet.f k cs ws y t o cards a b = some s) ∧ ∀ k, 4000000 ≤ k → spec_MemGet.f k cs ws y t o cards a b = some s := by
  obtain ⟨r, h1, h2, h3⟩ := open_eq (cs := cs) hf (ws := ws) (y := y) (t := t) (o := o) (cards := cards) hn hc
  cases r with
  | none => exact ⟨(0, false), fun k hk => by unfold impl_MemGet.f; rw [h1 k hk]; rfl, fun k hk => by unfold spec_MemGet.f; rw [h2 k hk]; rfl⟩
  | some m =>
    obtain ⟨W, hb, hw, hm, hk⟩ := h3 m rfl
    have n0 := hb.n0; have n1 := hb.n1; have y0 := hb.y0; have y1 := hb.y1
    have hh := has_eq hw m (by rw [hm]) a
    have hi := is_eq hb hw hk a
    have hS : ∀ k, 4000000 ≤ k → spec_MemGet.f k cs ws y t o cards a b = (spec_l21Inside.f k cs ws y t o cards a b).bind fun p => if p.2 = true then (if 0 ≤ p.1 then (if p.1 < (ws.length : Int) then some (rd ws p.1, true) else none) else none) else some (0, false) := fun k hk2 => by
      unfold spec_MemGet.f
      rw [h2 k hk2, Option.bind_some]; rfl
    by_cases c : a - 1 ∈ W
    · obtain ⟨cc, hd, cnt, hcc, h0, hhd, hcn, hcn8, hsz, hco, hfi, hhe, hl21, _⟩ := thing_facts hb hw m hm c
      rw [show a - 1 + 1 = a by omega] at hco hfi
      have hI : ∀ k, 4000000 ≤ k → spec_l21Inside.f k cs ws y t o cards a b = some (wrap64 (wrap64 (a - 1 + hd) + b), decide (0 ≤ b ∧ b ≤ cnt - 1)) := fun k hk2 => by
        unfold spec_l21Inside.f
        rw [hi k hk2, Option.bind_some, decide_eq_true c, if_pos rfl, wrap64_of (n := a - 1) (by omega) (by omega), if_pos (by omega), if_pos (by omega), ← hcc, hhe, Option.bind_some, hl21 k (by omega), Option.bind_some, spec_l6In_eq, Option.bind_some,
          show hd + cnt - hd = cnt by omega, wrap64_of (n := cnt) (by omega) (by omega), wrap64_of (n := cnt - 1) (by omega) (by omega)]
      by_cases z : 0 ≤ b ∧ b ≤ cnt - 1
      · refine ⟨(rd ws (a - 1 + hd + b), true), fun k hk2 => ?_, fun k hk2 => ?_⟩
        · unfold impl_MemGet.f
          rw [h1 k hk2, Option.bind_some]
          show ((memory_hasIn.f k m a b).bind fun q => if q = true then (memory_get.f m a b).bind fun x => some (x, true) else some (0, false)) = _
          unfold memory_hasIn.f memory_get.f
          rw [hh k (by omega), Option.bind_some, decide_eq_true c, if_pos rfl, if_pos z.1, hco, Option.bind_some, decide_eq_true (show b < cnt by omega), Option.bind_some, if_pos rfl, hfi, Option.bind_some, hm]
          show (if 0 ≤ a - 1 + hd + b ∧ a - 1 + hd + b < (ws.length : Int) then some (rd ws (a - 1 + hd + b)) else none).bind _ = _
          rw [if_pos (by omega)]; rfl
        · rw [hS k hk2, hI k hk2, Option.bind_some, decide_eq_true z, wrap64_of (n := a - 1 + hd) (by omega) (by omega), wrap64_of (n := a - 1 + hd + b) (by omega) (by omega)]
          show (if true = true then (if 0 ≤ a - 1 + hd + b then (if a - 1 + hd + b < (ws.length : Int) then some (rd ws (a - 1 + hd + b), true) else none) else none) else some (0, false)) = _
          rw [if_pos rfl, if_pos (by omega), if_pos (by omega)]
      · refine ⟨(0, false), fun k hk2 => ?_, fun k hk2 => ?_⟩
        · unfold impl_MemGet.f
          rw [h1 k hk2, Option.bind_some]
          show ((memory_hasIn.f k m a b).bind fun q => if q = true then (memory_get.f m a b).bind fun x => some (x, true) else some (0, false)) = _
          unfold memory_hasIn.f
          rw [hh k (by omega), Option.bind_some, decide_eq_true c, if_pos rfl]
          by_cases z0 : 0 ≤ b
          · rw [if_pos z0, hco, Option.bind_some, decide_eq_false (show ¬ b < cnt by omega)]; rfl
          · rw [if_neg z0]; rfl
        · rw [hS k hk2, hI k hk2, Option.bind_some, decide_eq_false z]; rfl
    · refine ⟨(0, false), fun k hk2 => ?_, fun k hk2 => ?_⟩
      · unfold impl_MemGet.f
        rw [h1 k hk2, Option.bind_some]
        show ((memory_hasIn.f k m a b).bind fun q => if q = true then (memory_get.f m a b).bind fun x => some (x, true) else some (0, false)) = _
        unfold memory_hasIn.f
        rw [hh k (by omega), Option.bind_some, decide_eq_false c]; rfl
      · rw [hS k hk2]
        unfold spec_l21Inside.f
        rw [hi k hk2, Option.bind_some, decide_eq_false c]; rfl
theorem FnExactMemGet : laws_FnExactMemGet.Pure := by
  intro l M a b hl hM _ _
  refine Ev.rounds ?_
  simp only [laws_FnExactMemGet.f]
  refine small_ev l M hl hM (fun q1 q2 q3 q4 => ?_)
  obtain ⟨s, h1, h2⟩ := MemGet_eq (cs := toCs l) (fewF_of q2) (ws := M.f0) (y := M.f1) (t := M.f2) (o := M.f3) (cards := M.f4) q3 q4 a b
  refine (toClassS_ev l q2 q1).bind ?_
  refine (toMem_ev M q3 q4).bind ?_
  refine (ev_from 4000000 h2).bind ?_
  refine (toClassS_ev l q2 q1).bind ?_
  refine (toMem_ev M q3 q4).bind ?_
  refine (ev_from 4000000 h1).bind ?_
  refine evp rfl ?_
  refine Ev.step (fun k => laws_FnExactMemGet.j0.eq_2 ..) ?_
  refine evn (by simp) ?_
  refine (toClassS_ev l q2 q1).bind ?_
  refine (eqClassS_ev l q2 q1).bind ?_
  refine evp rfl ?_
  refine (toMem_ev M q3 q4).bind ?_
  refine (eqMem_self M q3 q4).bind ?_
  exact evp rfl (Ev.now _)
end Go.Proofs.Ytjnbilfhpdkcbaa.Pure
