import Derived.Test.YtjnbilfhpdkcbaaPm24
import Derived.Test.YtjnbilfhpdkcbaaPm27
import Derived.Test.YtjnbilfhpdkcbaaPm28
import Derived.Test.YtjnbilfhpdkcbaaPm32
import Derived.Test.YtjnbilfhpdkcbaaPm33
import Derived.Test.YtjnbilfhpdkcbaaPm39
import Derived.Test.YtjnbilfhpdkcbaaPm26
import Derived.Test.YtjnbilfhpdkcbaaPm35
import Derived.Test.YtjnbilfhpdkcbaaPm38
import Derived.Test.YtjnbilfhpdkcbaaPm36
namespace Go.Proofs.Ytjnbilfhpdkcbaa.K
open Go.RowKit Go.Proofs.YtjnbilfhpdkcbaaW.PrintWords Go.Proofs.YtjnbilfhpdkcbaaW.PrintLast Go.Proofs.YtjnbilfhpdkcbaaW.PrintMore
attribute [local go_sem] max2_int min2_int max_two min_two max_three min_three max_four min_four
set_option linter.unusedVariables false
set_option linter.unusedSimpArgs false
def laws_FnExactMemSize.f (k : Nat) (l0 : List (S69)) (l1_0 : List Int) (a1_1 : Int) (a1_2 : Int) (a1_3 : Int) (l1_4 : List Bool) (a2 : Int) : Option (Bool) := (laws_szClassS.f k l0 1048576).bind fun t355 => (if t355 < 0 then (some true) else ((laws_szMem.f l1_0 a1_1 a1_2 a1_3 l1_4 t355).bind fun t356 => (if t356 < 0 then (some true) else ((laws_toClassS.f k l0).bind fun t357 => ((laws_toMem.f k l1_0 a1_1 a1_2 a1_3 l1_4).bind fun bt360 => ((spec_MemSize.f k t357 bt360.1 bt360.2.1 bt360.2.2.1 bt360.2.2.2.1 bt360.2.2.2.2 a2).bind fun t369 => ((laws_toClassS.f k l0).bind fun t370 => ((laws_toMem.f k l1_0 a1_1 a1_2 a1_3 l1_4).bind fun bt373 => ((impl_MemSize.f k t370 bt373.1 bt373.2.1 bt373.2.2.1 bt373.2.2.2.1 bt373.2.2.2.2 a2).bind fun t383 => (if t383 = t369 then ((laws_toClassS.f k l0).bind fun t384 => ((laws_eqClassS.f k t370 t384).bind fun t387 => (if t387 = true then ((laws_toMem.f k l1_0 a1_1 a1_2 a1_3 l1_4).bind fun bt388 => ((laws_eqMem.f k bt373.1 bt373.2.1 bt373.2.2.1 bt373.2.2.2.1 bt373.2.2.2.2 bt388.1 bt388.2.1 bt388.2.2.1 bt388.2.2.2.1 bt388.2.2.2.2).bind fun t397 => (if t397 = true then (some true) else (some false)))) else (some false)))) else (some false)))))))))))
set_option maxHeartbeats 8000000 in
set_option maxRecDepth 100000 in
theorem laws_FnExactMemSize.calls (k : Nat) (A0 : Option Addr) (c0 : Nat) (l0 : List (S69)) (A1_0 : Option Addr) (c1_0 : Nat) (l1_0 : List Int) (a1_1 : Int) (a1_2 : Int) (a1_3 : Int) (A1_4 : Option Addr) (c1_4 : Nat) (l1_4 : List Bool) (a2 : Int) (r : Bool) (w : World) (hr_ : Aside0 (r = true)) (hr0 : Kd.C k69 w A0 l0.length l0) (hc0 : l0.length ≤ c0) (hr1_0 : Kd.C (Kd.int .i64) w A1_0 l1_0.length l1_0) (hc1_0 : l1_0.length ≤ c1_0) (hr1_4 : Kd.C Kd.bool w A1_4 l1_4.length l1_4) (hc1_4 : l1_4.length ≤ c1_4) (h : laws_FnExactMemSize.f k l0 l1_0 a1_1 a1_2 a1_3 l1_4 a2 = some r) :
    Calls Try.prog 5 #[.slice A0 l0.length c0, .agg #[.slice A1_0 l1_0.length c1_0, .int .i64 a1_1, .int .i64 a1_2, .int .i64 a1_3, .slice A1_4 l1_4.length c1_4], .int .i64 a2] w fun e w' => e = .returned (.bool r) ∧ Below w.heap.size w w' := by
  have hu38 := Try.underlying38
  have hu28 := Try.underlying28
  have HR0 := Aside0.mk hr0
  have HC0 := Aside0.mk hc0
  clear hr0 hc0
  have HR1_0 := Aside0.mk hr1_0
  have HC1_0 := Aside0.mk hc1_0
  clear hr1_0 hc1_0
  have HR1_4 := Aside0.mk hr1_4
  have HC1_4 := Aside0.mk hc1_4
  clear hr1_4 hc1_4
  have HB := Aside0.mk (Below.refl w.heap.size w)
  have H : ((laws_szClassS.f k l0 1048576).bind fun t355 => (if t355 < 0 then (some true) else ((laws_szMem.f l1_0 a1_1 a1_2 a1_3 l1_4 t355).bind fun t356 => (if t356 < 0 then (some true) else ((laws_toClassS.f k l0).bind fun t357 => ((laws_toMem.f k l1_0 a1_1 a1_2 a1_3 l1_4).bind fun bt360 => ((spec_MemSize.f k t357 bt360.1 bt360.2.1 bt360.2.2.1 bt360.2.2.2.1 bt360.2.2.2.2 a2).bind fun t369 => ((laws_toClassS.f k l0).bind fun t370 => ((laws_toMem.f k l1_0 a1_1 a1_2 a1_3 l1_4).bind fun bt373 => ((impl_MemSize.f k t370 bt373.1 bt373.2.1 bt373.2.2.1 bt373.2.2.2.1 bt373.2.2.2.2 a2).bind fun t383 => (if t383 = t369 then ((laws_toClassS.f k l0).bind fun t384 => ((laws_eqClassS.f k t370 t384).bind fun t387 => (if t387 = true then ((laws_toMem.f k l1_0 a1_1 a1_2 a1_3 l1_4).bind fun bt388 => ((laws_eqMem.f k bt373.1 bt373.2.1 bt373.2.2.1 bt373.2.2.2.1 bt373.2.2.2.2 bt388.1 bt388.2.1 bt388.2.2.1 bt388.2.2.2.1 bt388.2.2.2.2).bind fun t397 => (if t397 = true then (some true) else (some false)))) else (some false)))) else (some false)))))))))))) = some r := h
  clear h
  replace H := Option.bind_eq_some_iff.mp H
  obtain ⟨t355, A40, H⟩ := H
  replace H : (if t355 < 0 then (some true) else ((laws_szMem.f l1_0 a1_1 a1_2 a1_3 l1_4 t355).bind fun t356 => (if t356 < 0 then (some true) else ((laws_toClassS.f k l0).bind fun t357 => ((laws_toMem.f k l1_0 a1_1 a1_2 a1_3 l1_4).bind fun bt360 => ((spec_MemSize.f k t357 bt360.1 bt360.2.1 bt360.2.2.1 bt360.2.2.2.1 bt360.2.2.2.2 a2).bind fun t369 => ((laws_toClassS.f k l0).bind fun t370 => ((laws_toMem.f k l1_0 a1_1 a1_2 a1_3 l1_4).bind fun bt373 => ((impl_MemSize.f k t370 bt373.1 bt373.2.1 bt373.2.2.1 bt373.2.2.2.1 bt373.2.2.2.2 a2).bind fun t383 => (if t383 = t369 then ((laws_toClassS.f k l0).bind fun t384 => ((laws_eqClassS.f k t370 t384).bind fun t387 => (if t387 = true then ((laws_toMem.f k l1_0 a1_1 a1_2 a1_3 l1_4).bind fun bt388 => ((laws_eqMem.f k bt373.1 bt373.2.1 bt373.2.2.1 bt373.2.2.2.1 bt373.2.2.2.2 bt388.1 bt388.2.1 bt388.2.2.1 bt388.2.2.2.1 bt388.2.2.2.2).bind fun t397 => (if t397 = true then (some true) else (some false)))) else (some false)))) else (some false))))))))))) = some r := H
  have A4 := Aside0.mk A40
  clear A40
  by_cases c5 : t355 < 0
  · rw [if_pos c5] at H
    have c5b0 : decide (t355 < 0) = true := decide_eq_true c5
    clear c5
    obtain rfl := Option.some.inj H
    go_enter Try.func5, Try.ntmps5
    go_wp2_with (first | ((with_reducible refine gate_dst (N := 4) rfl ?_); refine box_event ?hg (N := 4) ?hd (cs := #[.slice A1_0 l1_0.length c1_0, .int .i64 a1_1, .int .i64 a1_2, .int .i64 a1_3, .slice A1_4 l1_4.length c1_4]) (t := 38) ?hr ?_; (case hd => rfl); (case hg => rfl); (case hr => first | (go_simp; done) | (go_simp; rfl)); intro gb354 hg w6 hbox hb; have n0_ := Aside0.mk (below_step (by repeat (first | (with_reducible first | exact HB.out | apply below_alloc | apply pw_below_drewN | apply below_drew1) | exact HB.out)) hb); have n1_ := Aside0.mk (hbox); have n2_ := Aside0.mk ((by rw [hg]; exact (below_size (by repeat (first | (with_reducible first | exact HB.out | apply below_alloc | apply pw_below_drewN | apply below_drew1) | exact HB.out))) : w.heap.size ≤ gb354)); have n3_ := Aside0.mk ((by rw [hg]; exact (below_size (by repeat (first | (with_reducible first | exact HB.out | apply below_alloc | apply pw_below_drewN | apply below_drew1) | exact HB.out))) : w.heap.size ≤ gb354)); clear HB; have HB := n0_; have BK354 := n1_; have GW354 := n2_; have GE354 := n3_; clear n0_ n1_ n2_ n3_; clear hb hbox hg) | ((with_reducible refine gate_callee (f := 15) rfl ?_); refine goesL_ (some 14) rfl rfl Try.func15 (by kernel_rfl) rfl #[.slice A0 l0.length c0, .int .i64 1048576] rfl (by (try simp only [List.map_toArray, List.map_cons, List.map_nil]); first | done | rfl | (simp only [List.length_drop, List.length_take]; rfl)) ?_; (with_reducible refine (laws_szClassS.calls k _ _ l0 1048576 t355 _ ?side1 ?side2 A4.out).mono ?_); (case side1 => repeat (first | exact (Kd.C_below HR0.out HB.out) | (with_reducible refine Kd.C_alloc ?_ _) | (with_reducible refine Kd.C_drewN ?_ _) | (with_reducible refine Kd.C_drew ?_))); (case side2 => exact HC0.out); rintro e w7 ⟨rfl, hb⟩; refine ⟨_, rfl, ?_⟩; have n0_ := Aside0.mk (blk_below (g := gb354) (o := .cells #[.slice A1_0 l1_0.length c1_0, .int .i64 a1_1, .int .i64 a1_2, .int .i64 a1_3, .slice A1_4 l1_4.length c1_4] 38 (0, 0)) (by (with_reducible repeat (first | refine blk_drewN ?_ _ | refine blk_drew ?_ | refine blk_alloc ?_ _)); exact BK354.out) hb); have n1_ := Aside0.mk (below_step (by repeat (first | (with_reducible first | exact HB.out | apply below_alloc | apply pw_below_drewN | apply below_drew1 | refine below_set ?_ GE354.out) | exact HB.out)) hb); clear BK354; clear HB; have BK354 := n0_; have HB := n1_; clear n0_ n1_; (try clear hb); (try clear hb2); (try clear hk); (try clear hi)))
    go_ret
    exact ⟨by first | rfl | (simp [errW_none, errW_some] <;> rfl) | (simp [*, errW_none, errW_some] <;> rfl), by repeat (first | (with_reducible first | exact HB.out | apply below_alloc | apply pw_below_drewN | apply below_drew1 | refine below_set ?_ GE354.out) | exact HB.out)⟩
  · rw [if_neg c5] at H
    have c5b0 : decide (t355 < 0) = false := decide_eq_false c5
    clear c5
    replace H := Option.bind_eq_some_iff.mp H
    obtain ⟨t356, A80, H⟩ := H
    replace H : (if t356 < 0 then (some true) else ((laws_toClassS.f k l0).bind fun t357 => ((laws_toMem.f k l1_0 a1_1 a1_2 a1_3 l1_4).bind fun bt360 => ((spec_MemSize.f k t357 bt360.1 bt360.2.1 bt360.2.2.1 bt360.2.2.2.1 bt360.2.2.2.2 a2).bind fun t369 => ((laws_toClassS.f k l0).bind fun t370 => ((laws_toMem.f k l1_0 a1_1 a1_2 a1_3 l1_4).bind fun bt373 => ((impl_MemSize.f k t370 bt373.1 bt373.2.1 bt373.2.2.1 bt373.2.2.2.1 bt373.2.2.2.2 a2).bind fun t383 => (if t383 = t369 then ((laws_toClassS.f k l0).bind fun t384 => ((laws_eqClassS.f k t370 t384).bind fun t387 => (if t387 = true then ((laws_toMem.f k l1_0 a1_1 a1_2 a1_3 l1_4).bind fun bt388 => ((laws_eqMem.f k bt373.1 bt373.2.1 bt373.2.2.1 bt373.2.2.2.1 bt373.2.2.2.2 bt388.1 bt388.2.1 bt388.2.2.1 bt388.2.2.2.1 bt388.2.2.2.2).bind fun t397 => (if t397 = true then (some true) else (some false)))) else (some false)))) else (some false))))))))) = some r := H
    have A8 := Aside0.mk A80
    clear A80
    by_cases c9 : t356 < 0
    · rw [if_pos c9] at H
      have c9b0 : decide (t356 < 0) = true := decide_eq_true c9
      clear c9
      obtain rfl := Option.some.inj H
      go_enter Try.func5, Try.ntmps5
      go_wp2_with (first | ((with_reducible refine gate_dst (N := 4) rfl ?_); refine box_event ?hg (N := 4) ?hd (cs := #[.slice A1_0 l1_0.length c1_0, .int .i64 a1_1, .int .i64 a1_2, .int .i64 a1_3, .slice A1_4 l1_4.length c1_4]) (t := 38) ?hr ?_; (case hd => rfl); (case hg => rfl); (case hr => first | (go_simp; done) | (go_simp; rfl)); intro gb354 hg w10 hbox hb; have n0_ := Aside0.mk (below_step (by repeat (first | (with_reducible first | exact HB.out | apply below_alloc | apply pw_below_drewN | apply below_drew1) | exact HB.out)) hb); have n1_ := Aside0.mk (hbox); have n2_ := Aside0.mk ((by rw [hg]; exact (below_size (by repeat (first | (with_reducible first | exact HB.out | apply below_alloc | apply pw_below_drewN | apply below_drew1) | exact HB.out))) : w.heap.size ≤ gb354)); have n3_ := Aside0.mk ((by rw [hg]; exact (below_size (by repeat (first | (with_reducible first | exact HB.out | apply below_alloc | apply pw_below_drewN | apply below_drew1) | exact HB.out))) : w.heap.size ≤ gb354)); clear HB; have HB := n0_; have BK354 := n1_; have GW354 := n2_; have GE354 := n3_; clear n0_ n1_ n2_ n3_; clear hb hbox hg) | ((with_reducible refine gate_callee (f := 15) rfl ?_); refine goesL_ (some 14) rfl rfl Try.func15 (by kernel_rfl) rfl #[.slice A0 l0.length c0, .int .i64 1048576] rfl (by (try simp only [List.map_toArray, List.map_cons, List.map_nil]); first | done | rfl | (simp only [List.length_drop, List.length_take]; rfl)) ?_; (with_reducible refine (laws_szClassS.calls k _ _ l0 1048576 t355 _ ?side1 ?side2 A4.out).mono ?_); (case side1 => repeat (first | exact (Kd.C_below HR0.out HB.out) | (with_reducible refine Kd.C_alloc ?_ _) | (with_reducible refine Kd.C_drewN ?_ _) | (with_reducible refine Kd.C_drew ?_))); (case side2 => exact HC0.out); rintro e w11 ⟨rfl, hb⟩; refine ⟨_, rfl, ?_⟩; have n0_ := Aside0.mk (blk_below (g := gb354) (o := .cells #[.slice A1_0 l1_0.length c1_0, .int .i64 a1_1, .int .i64 a1_2, .int .i64 a1_3, .slice A1_4 l1_4.length c1_4] 38 (0, 0)) (by (with_reducible repeat (first | refine blk_drewN ?_ _ | refine blk_drew ?_ | refine blk_alloc ?_ _)); exact BK354.out) hb); have n1_ := Aside0.mk (below_step (by repeat (first | (with_reducible first | exact HB.out | apply below_alloc | apply pw_below_drewN | apply below_drew1 | refine below_set ?_ GE354.out) | exact HB.out)) hb); clear BK354; clear HB; have BK354 := n0_; have HB := n1_; clear n0_ n1_; (try clear hb); (try clear hb2); (try clear hk); (try clear hi); have hcz12_0 : w11.cell? ⟨gb354, 0, none⟩ = some (.slice A1_0 l1_0.length c1_0) := (blk_cell BK354.out 0).trans rfl; have hcz12_1 : w11.cell? ⟨gb354, 1, none⟩ = some (.int .i64 a1_1) := (blk_cell BK354.out 1).trans rfl; have hcz12_2 : w11.cell? ⟨gb354, 2, none⟩ = some (.int .i64 a1_2) := (blk_cell BK354.out 2).trans rfl; have hcz12_3 : w11.cell? ⟨gb354, 3, none⟩ = some (.int .i64 a1_3) := (blk_cell BK354.out 3).trans rfl; have hcz12_4 : w11.cell? ⟨gb354, 4, none⟩ = some (.slice A1_4 l1_4.length c1_4) := (blk_cell BK354.out 4).trans rfl; have hfz12_0 := blk_frozen BK354.out 0; have hfz12_1 := blk_frozen BK354.out 1; have hfz12_2 := blk_frozen BK354.out 2; have hfz12_3 := blk_frozen BK354.out 3; have hfz12_4 := blk_frozen BK354.out 4) | ((with_reducible refine gate_callee (f := 16) rfl ?_); refine goesL_ (some 19) rfl rfl Try.func16 (by kernel_rfl) rfl #[.agg #[.slice A1_0 l1_0.length c1_0, .int .i64 a1_1, .int .i64 a1_2, .int .i64 a1_3, .slice A1_4 l1_4.length c1_4], .int .i64 t355] rfl (by (try simp only [List.map_toArray, List.map_cons, List.map_nil]); first | done | rfl | (simp only [List.length_drop, List.length_take]; rfl)) ?_; (with_reducible refine (laws_szMem.calls _ _ l1_0 a1_1 a1_2 a1_3 _ _ l1_4 t355 t356 _ ?side1 ?side2 ?side3 ?side4 A8.out).mono ?_); (case side1 => repeat (first | exact (Kd.C_below HR1_0.out HB.out) | (with_reducible refine Kd.C_alloc ?_ _) | (with_reducible refine Kd.C_drewN ?_ _) | (with_reducible refine Kd.C_drew ?_))); (case side2 => exact HC1_0.out); (case side3 => repeat (first | exact (Kd.C_below HR1_4.out HB.out) | (with_reducible refine Kd.C_alloc ?_ _) | (with_reducible refine Kd.C_drewN ?_ _) | (with_reducible refine Kd.C_drew ?_))); (case side4 => exact HC1_4.out); rintro e w13 ⟨rfl, hb⟩; refine ⟨_, rfl, ?_⟩; have n0_ := Aside0.mk (blk_below (g := gb354) (o := .cells #[.slice A1_0 l1_0.length c1_0, .int .i64 a1_1, .int .i64 a1_2, .int .i64 a1_3, .slice A1_4 l1_4.length c1_4] 38 (0, 0)) (by (with_reducible repeat (first | refine blk_drewN ?_ _ | refine blk_drew ?_ | refine blk_alloc ?_ _)); exact BK354.out) hb); have n1_ := Aside0.mk (below_step (by repeat (first | (with_reducible first | exact HB.out | apply below_alloc | apply pw_below_drewN | apply below_drew1 | refine below_set ?_ GE354.out) | exact HB.out)) hb); clear BK354; clear HB; have BK354 := n0_; have HB := n1_; clear n0_ n1_; (try clear hb); (try clear hb2); (try clear hk); (try clear hi)))
      go_ret
      exact ⟨by first | rfl | (simp [errW_none, errW_some] <;> rfl) | (simp [*, errW_none, errW_some] <;> rfl), by repeat (first | (with_reducible first | exact HB.out | apply below_alloc | apply pw_below_drewN | apply below_drew1 | refine below_set ?_ GE354.out) | exact HB.out)⟩
    · rw [if_neg c9] at H
      have c9b0 : decide (t356 < 0) = false := decide_eq_false c9
      clear c9
      replace H := Option.bind_eq_some_iff.mp H
      obtain ⟨t357, A140, H⟩ := H
      replace H : ((laws_toMem.f k l1_0 a1_1 a1_2 a1_3 l1_4).bind fun bt360 => ((spec_MemSize.f k t357 bt360.1 bt360.2.1 bt360.2.2.1 bt360.2.2.2.1 bt360.2.2.2.2 a2).bind fun t369 => ((laws_toClassS.f k l0).bind fun t370 => ((laws_toMem.f k l1_0 a1_1 a1_2 a1_3 l1_4).bind fun bt373 => ((impl_MemSize.f k t370 bt373.1 bt373.2.1 bt373.2.2.1 bt373.2.2.2.1 bt373.2.2.2.2 a2).bind fun t383 => (if t383 = t369 then ((laws_toClassS.f k l0).bind fun t384 => ((laws_eqClassS.f k t370 t384).bind fun t387 => (if t387 = true then ((laws_toMem.f k l1_0 a1_1 a1_2 a1_3 l1_4).bind fun bt388 => ((laws_eqMem.f k bt373.1 bt373.2.1 bt373.2.2.1 bt373.2.2.2.1 bt373.2.2.2.2 bt388.1 bt388.2.1 bt388.2.2.1 bt388.2.2.2.1 bt388.2.2.2.2).bind fun t397 => (if t397 = true then (some true) else (some false)))) else (some false)))) else (some false))))))) = some r := H
      have A14 := Aside0.mk A140
      clear A140
      replace H := Option.bind_eq_some_iff.mp H
      obtain ⟨⟨t360, t363, t364, t365, t366⟩, A150, H⟩ := H
      replace H : ((spec_MemSize.f k t357 t360 t363 t364 t365 t366 a2).bind fun t369 => ((laws_toClassS.f k l0).bind fun t370 => ((laws_toMem.f k l1_0 a1_1 a1_2 a1_3 l1_4).bind fun bt373 => ((impl_MemSize.f k t370 bt373.1 bt373.2.1 bt373.2.2.1 bt373.2.2.2.1 bt373.2.2.2.2 a2).bind fun t383 => (if t383 = t369 then ((laws_toClassS.f k l0).bind fun t384 => ((laws_eqClassS.f k t370 t384).bind fun t387 => (if t387 = true then ((laws_toMem.f k l1_0 a1_1 a1_2 a1_3 l1_4).bind fun bt388 => ((laws_eqMem.f k bt373.1 bt373.2.1 bt373.2.2.1 bt373.2.2.2.1 bt373.2.2.2.2 bt388.1 bt388.2.1 bt388.2.2.1 bt388.2.2.2.1 bt388.2.2.2.2).bind fun t397 => (if t397 = true then (some true) else (some false)))) else (some false)))) else (some false)))))) = some r := H
      have A15 := Aside0.mk A150
      clear A150
      replace H := Option.bind_eq_some_iff.mp H
      obtain ⟨t369, A160, H⟩ := H
      replace H : ((laws_toClassS.f k l0).bind fun t370 => ((laws_toMem.f k l1_0 a1_1 a1_2 a1_3 l1_4).bind fun bt373 => ((impl_MemSize.f k t370 bt373.1 bt373.2.1 bt373.2.2.1 bt373.2.2.2.1 bt373.2.2.2.2 a2).bind fun t383 => (if t383 = t369 then ((laws_toClassS.f k l0).bind fun t384 => ((laws_eqClassS.f k t370 t384).bind fun t387 => (if t387 = true then ((laws_toMem.f k l1_0 a1_1 a1_2 a1_3 l1_4).bind fun bt388 => ((laws_eqMem.f k bt373.1 bt373.2.1 bt373.2.2.1 bt373.2.2.2.1 bt373.2.2.2.2 bt388.1 bt388.2.1 bt388.2.2.1 bt388.2.2.2.1 bt388.2.2.2.2).bind fun t397 => (if t397 = true then (some true) else (some false)))) else (some false)))) else (some false))))) = some r := H
      have A16 := Aside0.mk A160
      clear A160
      replace H := Option.bind_eq_some_iff.mp H
      obtain ⟨t370, A170, H⟩ := H
      replace H : ((laws_toMem.f k l1_0 a1_1 a1_2 a1_3 l1_4).bind fun bt373 => ((impl_MemSize.f k t370 bt373.1 bt373.2.1 bt373.2.2.1 bt373.2.2.2.1 bt373.2.2.2.2 a2).bind fun t383 => (if t383 = t369 then ((laws_toClassS.f k l0).bind fun t384 => ((laws_eqClassS.f k t370 t384).bind fun t387 => (if t387 = true then ((laws_toMem.f k l1_0 a1_1 a1_2 a1_3 l1_4).bind fun bt388 => ((laws_eqMem.f k bt373.1 bt373.2.1 bt373.2.2.1 bt373.2.2.2.1 bt373.2.2.2.2 bt388.1 bt388.2.1 bt388.2.2.1 bt388.2.2.2.1 bt388.2.2.2.2).bind fun t397 => (if t397 = true then (some true) else (some false)))) else (some false)))) else (some false)))) = some r := H
      have A17 := Aside0.mk A170
      clear A170
      replace H := Option.bind_eq_some_iff.mp H
      obtain ⟨⟨t373, t376, t377, t378, t379⟩, A180, H⟩ := H
      replace H : ((impl_MemSize.f k t370 t373 t376 t377 t378 t379 a2).bind fun t383 => (if t383 = t369 then ((laws_toClassS.f k l0).bind fun t384 => ((laws_eqClassS.f k t370 t384).bind fun t387 => (if t387 = true then ((laws_toMem.f k l1_0 a1_1 a1_2 a1_3 l1_4).bind fun bt388 => ((laws_eqMem.f k t373 t376 t377 t378 t379 bt388.1 bt388.2.1 bt388.2.2.1 bt388.2.2.2.1 bt388.2.2.2.2).bind fun t397 => (if t397 = true then (some true) else (some false)))) else (some false)))) else (some false))) = some r := H
      have A18 := Aside0.mk A180
      clear A180
      replace H := Option.bind_eq_some_iff.mp H
      obtain ⟨t383, A190, H⟩ := H
      replace H : (if t383 = t369 then ((laws_toClassS.f k l0).bind fun t384 => ((laws_eqClassS.f k t370 t384).bind fun t387 => (if t387 = true then ((laws_toMem.f k l1_0 a1_1 a1_2 a1_3 l1_4).bind fun bt388 => ((laws_eqMem.f k t373 t376 t377 t378 t379 bt388.1 bt388.2.1 bt388.2.2.1 bt388.2.2.2.1 bt388.2.2.2.2).bind fun t397 => (if t397 = true then (some true) else (some false)))) else (some false)))) else (some false)) = some r := H
      have A19 := Aside0.mk A190
      clear A190
      by_cases c20 : t383 = t369
      · rw [if_pos c20] at H
        have c20b0 : (t383 == t369) = true := beq_iff_eq.mpr c20
        have c20b1 : (t383 != t369) = false := bne_eq_false_iff_eq.mpr c20
        clear c20
        replace H := Option.bind_eq_some_iff.mp H
        obtain ⟨t384, A210, H⟩ := H
        replace H : ((laws_eqClassS.f k t370 t384).bind fun t387 => (if t387 = true then ((laws_toMem.f k l1_0 a1_1 a1_2 a1_3 l1_4).bind fun bt388 => ((laws_eqMem.f k t373 t376 t377 t378 t379 bt388.1 bt388.2.1 bt388.2.2.1 bt388.2.2.2.1 bt388.2.2.2.2).bind fun t397 => (if t397 = true then (some true) else (some false)))) else (some false))) = some r := H
        have A21 := Aside0.mk A210
        clear A210
        replace H := Option.bind_eq_some_iff.mp H
        obtain ⟨t387, A220, H⟩ := H
        replace H : (if t387 = true then ((laws_toMem.f k l1_0 a1_1 a1_2 a1_3 l1_4).bind fun bt388 => ((laws_eqMem.f k t373 t376 t377 t378 t379 bt388.1 bt388.2.1 bt388.2.2.1 bt388.2.2.2.1 bt388.2.2.2.2).bind fun t397 => (if t397 = true then (some true) else (some false)))) else (some false)) = some r := H
        have A22 := Aside0.mk A220
        clear A220
        by_cases c23 : t387 = true
        · subst c23
          have H1 : ((laws_toMem.f k l1_0 a1_1 a1_2 a1_3 l1_4).bind fun bt388 => ((laws_eqMem.f k t373 t376 t377 t378 t379 bt388.1 bt388.2.1 bt388.2.2.1 bt388.2.2.2.1 bt388.2.2.2.2).bind fun t397 => (if t397 = true then (some true) else (some false)))) = some r := by rw [if_pos rfl] at H; exact H
          clear H
          have H := H1
          clear H1
          replace H := Option.bind_eq_some_iff.mp H
          obtain ⟨⟨t388, t391, t392, t393, t394⟩, A240, H⟩ := H
          replace H : ((laws_eqMem.f k t373 t376 t377 t378 t379 t388 t391 t392 t393 t394).bind fun t397 => (if t397 = true then (some true) else (some false))) = some r := H
          have A24 := Aside0.mk A240
          clear A240
          replace H := Option.bind_eq_some_iff.mp H
          obtain ⟨t397, A250, H⟩ := H
          replace H : (if t397 = true then (some true) else (some false)) = some r := H
          have A25 := Aside0.mk A250
          clear A250
          by_cases c26 : t397 = true
          · subst c26
            have H1 : (some true) = some r := by rw [if_pos rfl] at H; exact H
            clear H
            have H := H1
            clear H1
            obtain rfl := Option.some.inj H
            go_enter Try.func5, Try.ntmps5
            try go_wp2_with (first | ((with_reducible refine gate_dst (N := 4) rfl ?_); refine box_event ?hg (N := 4) ?hd (cs := #[.slice A1_0 l1_0.length c1_0, .int .i64 a1_1, .int .i64 a1_2, .int .i64 a1_3, .slice A1_4 l1_4.length c1_4]) (t := 38) ?hr ?_; (case hd => rfl); (case hg => rfl); (case hr => first | (go_simp; done) | (go_simp; rfl)); intro gb354 hg w27 hbox hb; have n0_ := Aside0.mk (below_step (by repeat (first | (with_reducible first | exact HB.out | apply below_alloc | apply pw_below_drewN | apply below_drew1) | exact HB.out)) hb); have n1_ := Aside0.mk (hbox); have n2_ := Aside0.mk ((by rw [hg]; exact (below_size (by repeat (first | (with_reducible first | exact HB.out | apply below_alloc | apply pw_below_drewN | apply below_drew1) | exact HB.out))) : w.heap.size ≤ gb354)); have n3_ := Aside0.mk ((by rw [hg]; exact (below_size (by repeat (first | (with_reducible first | exact HB.out | apply below_alloc | apply pw_below_drewN | apply below_drew1) | exact HB.out))) : w.heap.size ≤ gb354)); clear HB; have HB := n0_; have BK354 := n1_; have GW354 := n2_; have GE354 := n3_; clear n0_ n1_ n2_ n3_; clear hb hbox hg) | ((with_reducible refine gate_callee (f := 15) rfl ?_); refine goesL_ (some 14) rfl rfl Try.func15 (by kernel_rfl) rfl #[.slice A0 l0.length c0, .int .i64 1048576] rfl (by (try simp only [List.map_toArray, List.map_cons, List.map_nil]); first | done | rfl | (simp only [List.length_drop, List.length_take]; rfl)) ?_; (with_reducible refine (laws_szClassS.calls k _ _ l0 1048576 t355 _ ?side1 ?side2 A4.out).mono ?_); (case side1 => repeat (first | exact (Kd.C_below HR0.out HB.out) | (with_reducible refine Kd.C_alloc ?_ _) | (with_reducible refine Kd.C_drewN ?_ _) | (with_reducible refine Kd.C_drew ?_))); (case side2 => exact HC0.out); rintro e w28 ⟨rfl, hb⟩; refine ⟨_, rfl, ?_⟩; have n0_ := Aside0.mk (blk_below (g := gb354) (o := .cells #[.slice A1_0 l1_0.length c1_0, .int .i64 a1_1, .int .i64 a1_2, .int .i64 a1_3, .slice A1_4 l1_4.length c1_4] 38 (0, 0)) (by (with_reducible repeat (first | refine blk_drewN ?_ _ | refine blk_drew ?_ | refine blk_alloc ?_ _)); exact BK354.out) hb); have n1_ := Aside0.mk (below_step (by repeat (first | (with_reducible first | exact HB.out | apply below_alloc | apply pw_below_drewN | apply below_drew1 | refine below_set ?_ GE354.out) | exact HB.out)) hb); clear BK354; clear HB; have BK354 := n0_; have HB := n1_; clear n0_ n1_; (try clear hb); (try clear hb2); (try clear hk); (try clear hi); have hcz29_0 : w28.cell? ⟨gb354, 0, none⟩ = some (.slice A1_0 l1_0.length c1_0) := (blk_cell BK354.out 0).trans rfl; have hcz29_1 : w28.cell? ⟨gb354, 1, none⟩ = some (.int .i64 a1_1) := (blk_cell BK354.out 1).trans rfl; have hcz29_2 : w28.cell? ⟨gb354, 2, none⟩ = some (.int .i64 a1_2) := (blk_cell BK354.out 2).trans rfl; have hcz29_3 : w28.cell? ⟨gb354, 3, none⟩ = some (.int .i64 a1_3) := (blk_cell BK354.out 3).trans rfl; have hcz29_4 : w28.cell? ⟨gb354, 4, none⟩ = some (.slice A1_4 l1_4.length c1_4) := (blk_cell BK354.out 4).trans rfl; have hfz29_0 := blk_frozen BK354.out 0; have hfz29_1 := blk_frozen BK354.out 1; have hfz29_2 := blk_frozen BK354.out 2; have hfz29_3 := blk_frozen BK354.out 3; have hfz29_4 := blk_frozen BK354.out 4) | ((with_reducible refine gate_callee (f := 16) rfl ?_); refine goesL_ (some 19) rfl rfl Try.func16 (by kernel_rfl) rfl #[.agg #[.slice A1_0 l1_0.length c1_0, .int .i64 a1_1, .int .i64 a1_2, .int .i64 a1_3, .slice A1_4 l1_4.length c1_4], .int .i64 t355] rfl (by (try simp only [List.map_toArray, List.map_cons, List.map_nil]); first | done | rfl | (simp only [List.length_drop, List.length_take]; rfl)) ?_; (with_reducible refine (laws_szMem.calls _ _ l1_0 a1_1 a1_2 a1_3 _ _ l1_4 t355 t356 _ ?side1 ?side2 ?side3 ?side4 A8.out).mono ?_); (case side1 => repeat (first | exact (Kd.C_below HR1_0.out HB.out) | (with_reducible refine Kd.C_alloc ?_ _) | (with_reducible refine Kd.C_drewN ?_ _) | (with_reducible refine Kd.C_drew ?_))); (case side2 => exact HC1_0.out); (case side3 => repeat (first | exact (Kd.C_below HR1_4.out HB.out) | (with_reducible refine Kd.C_alloc ?_ _) | (with_reducible refine Kd.C_drewN ?_ _) | (with_reducible refine Kd.C_drew ?_))); (case side4 => exact HC1_4.out); rintro e w30 ⟨rfl, hb⟩; refine ⟨_, rfl, ?_⟩; have n0_ := Aside0.mk (blk_below (g := gb354) (o := .cells #[.slice A1_0 l1_0.length c1_0, .int .i64 a1_1, .int .i64 a1_2, .int .i64 a1_3, .slice A1_4 l1_4.length c1_4] 38 (0, 0)) (by (with_reducible repeat (first | refine blk_drewN ?_ _ | refine blk_drew ?_ | refine blk_alloc ?_ _)); exact BK354.out) hb); have n1_ := Aside0.mk (below_step (by repeat (first | (with_reducible first | exact HB.out | apply below_alloc | apply pw_below_drewN | apply below_drew1 | refine below_set ?_ GE354.out) | exact HB.out)) hb); clear BK354; clear HB; have BK354 := n0_; have HB := n1_; clear n0_ n1_; (try clear hb); (try clear hb2); (try clear hk); (try clear hi)))
            have n0_ := Aside0.mk (blk_drew BK354.out)
            have n1_ := Aside0.mk (below_drew1 HB.out)
            clear BK354
            clear HB
            have BK354 := n0_
            have HB := n1_
            clear n0_ n1_
            refine start_ (n := 7) (S := fun w' => w'.cell? ⟨gb354, 0, none⟩ = some (.slice A1_0 l1_0.length c1_0) ∧ w'.cell? ⟨gb354, 1, none⟩ = some (.int .i64 a1_1) ∧ w'.cell? ⟨gb354, 2, none⟩ = some (.int .i64 a1_2) ∧ w'.cell? ⟨gb354, 3, none⟩ = some (.int .i64 a1_3) ∧ w'.cell? ⟨gb354, 4, none⟩ = some (.slice A1_4 l1_4.length c1_4)) (ds := []) #[false, false, false, false, false, false, false] (by kernel_rfl) rfl rfl ⟨(blk_cell BK354.out 0).trans rfl, (blk_cell BK354.out 1).trans rfl, (blk_cell BK354.out 2).trans rfl, (blk_cell BK354.out 3).trans rfl, (blk_cell BK354.out 4).trans rfl⟩ (fun hHeld => ?_)
            generalize w30.drew = w31 at BK354 HB hHeld ⊢
            refine pS 0 22 #[true, false, false, false, false, false, false] ?_
            refine pS 4 26 #[true, false, false, false, true, false, false] ?_
            refine tS 2 24 #[true, false, true, false, true, false, false] rfl rfl (by kernel_rfl) hHeld (by rintro w' ⟨s0, s1, s2, s3, s4⟩; go_simp; with_reducible rfl) ?_
            refine one_ (i := 1) (N := some 23) #[true, true, true, false, true, false, false] rfl rfl (by kernel_rfl) (by decide) (fun K hK => ?_)
            refine goes_ Try.func18 (by kernel_rfl) rfl #[.slice A0 l0.length c0] (by rfl) rfl rfl (by (try simp only [List.map_toArray, List.map_cons, List.map_nil]); first | done | rfl | (simp only [List.length_drop, List.length_take]; rfl)) ?_
            with_reducible refine (laws_toClassS.calls k _ _ l0 t357 _ ?side1 ?side2 A14.out).mono ?_
            (case side1 => repeat (first | exact (Kd.C_below HR0.out HB.out) | (with_reducible refine Kd.C_alloc ?_ _) | (with_reducible refine Kd.C_drewN ?_ _) | (with_reducible refine Kd.C_drew ?_)))
            (case side2 => exact HC0.out)
            rintro e w32 ⟨v358, rfl, ho0, hb⟩
            refine ⟨_, rfl, ?_⟩
            have n0_ := Aside0.mk (Kd.S_lower ho0 (below_size (by repeat (first | (with_reducible first | exact HB.out | apply below_alloc | apply pw_below_drewN | apply below_drew1 | refine below_set ?_ GE354.out) | exact HB.out))))
            have n1_ := Aside0.mk (blk_below (g := gb354) (o := .cells #[.slice A1_0 l1_0.length c1_0, .int .i64 a1_1, .int .i64 a1_2, .int .i64 a1_3, .slice A1_4 l1_4.length c1_4] 38 (0, 0)) (by (with_reducible repeat (first | refine blk_drewN ?_ _ | refine blk_drew ?_ | refine blk_alloc ?_ _)); exact BK354.out) hb)
            have n2_ := Aside0.mk (below_step (by repeat (first | (with_reducible first | exact HB.out | apply below_alloc | apply pw_below_drewN | apply below_drew1 | refine below_set ?_ GE354.out) | exact HB.out)) hb)
            clear BK354
            clear HB
            have HO359 := n0_
            have BK354 := n1_
            have HB := n2_
            clear n0_ n1_ n2_
            (try clear hb)
            (try clear hb2)
            (try clear hk)
            (try clear hi)
            (try clear ho0)
            refine hK.out _ _ ⟨(blk_cell BK354.out 0).trans rfl, (blk_cell BK354.out 1).trans rfl, (blk_cell BK354.out 2).trans rfl, (blk_cell BK354.out 3).trans rfl, (blk_cell BK354.out 4).trans rfl⟩ (fun hHeld => ?_)
            clear hK K
            refine norm_ (a' := ?_) ?_ ?_
            rotate_left
            · show Act.put _ (some 23) _ = _
              simp only [Act.put, lA1, lA2, lA3, i64_w, i32_w]
              rfl
            refine one_ (i := 3) (N := some 25) #[true, true, true, true, true, false, false] rfl rfl (by kernel_rfl) (by decide) (fun K hK => ?_)
            refine goes_ Try.func19 (by kernel_rfl) rfl #[.agg #[.slice A1_0 l1_0.length c1_0, .int .i64 a1_1, .int .i64 a1_2, .int .i64 a1_3, .slice A1_4 l1_4.length c1_4]] (by rfl) rfl rfl (by (try simp only [List.map_toArray, List.map_cons, List.map_nil]); first | done | rfl | (simp only [List.length_drop, List.length_take]; rfl)) ?_
            with_reducible refine (laws_toMem.calls k _ _ l1_0 a1_1 a1_2 a1_3 _ _ l1_4 t360 t363 t364 t365 t366 _ ?side1 ?side2 ?side3 ?side4 A15.out).mono ?_
            (case side1 => repeat (first | exact (Kd.C_below HR1_0.out HB.out) | (with_reducible refine Kd.C_alloc ?_ _) | (with_reducible refine Kd.C_drewN ?_ _) | (with_reducible refine Kd.C_drew ?_)))
            (case side2 => exact HC1_0.out)
            (case side3 => repeat (first | exact (Kd.C_below HR1_4.out HB.out) | (with_reducible refine Kd.C_alloc ?_ _) | (with_reducible refine Kd.C_drewN ?_ _) | (with_reducible refine Kd.C_drew ?_)))
            (case side4 => exact HC1_4.out)
            rintro e w33 ⟨v361, v367, rfl, ho0, ho1, hb⟩
            refine ⟨_, rfl, ?_⟩
            have n0_ := Aside0.mk (Kd.S_elder' (by (with_reducible repeat (first | apply Kd.S_alloc | apply Kd.S_drewN | apply Kd.S_drew)); exact HO359.out) (Kd.R_base ho0) hb)
            have n1_ := Aside0.mk (Kd.R_lower ho0 (below_size (by repeat (first | (with_reducible first | exact HB.out | apply below_alloc | apply pw_below_drewN | apply below_drew1 | refine below_set ?_ GE354.out) | exact HB.out))))
            have n2_ := Aside0.mk (Kd.R_lower ho1 (below_size (by repeat (first | (with_reducible first | exact HB.out | apply below_alloc | apply pw_below_drewN | apply below_drew1 | refine below_set ?_ GE354.out) | exact HB.out))))
            have n3_ := Aside0.mk (blk_below (g := gb354) (o := .cells #[.slice A1_0 l1_0.length c1_0, .int .i64 a1_1, .int .i64 a1_2, .int .i64 a1_3, .slice A1_4 l1_4.length c1_4] 38 (0, 0)) (by (with_reducible repeat (first | refine blk_drewN ?_ _ | refine blk_drew ?_ | refine blk_alloc ?_ _)); exact BK354.out) hb)
            have n4_ := Aside0.mk (below_step (by repeat (first | (with_reducible first | exact HB.out | apply below_alloc | apply pw_below_drewN | apply below_drew1 | refine below_set ?_ GE354.out) | exact HB.out)) hb)
            clear HO359
            clear BK354
            clear HB
            have HO359 := n0_
            have HO362 := n1_
            have HO368 := n2_
            have BK354 := n3_
            have HB := n4_
            clear n0_ n1_ n2_ n3_ n4_
            (try clear hb)
            (try clear hb2)
            (try clear hk)
            (try clear hi)
            (try clear ho0)
            (try clear ho1)
            obtain ⟨Ao34, co34, eo34⟩ := Kd.S_slice HO359.out
            (first | subst eo34 | (injection eo34 with f1_ f2_ f3_; have f4_ := f1_.symm; have f5_ := f3_.symm; clear f1_ f2_ f3_; subst f4_; subst f5_))
            obtain ⟨Ao35, co35, eo35⟩ := Kd.R_slice HO362.out
            (first | subst eo35 | (injection eo35 with f1_ f2_ f3_; have f4_ := f1_.symm; have f5_ := f3_.symm; clear f1_ f2_ f3_; subst f4_; subst f5_))
            obtain ⟨Ao36, co36, eo36⟩ := Kd.R_slice HO368.out
            (first | subst eo36 | (injection eo36 with f1_ f2_ f3_; have f4_ := f1_.symm; have f5_ := f3_.symm; clear f1_ f2_ f3_; subst f4_; subst f5_))
            refine hK.out _ _ ⟨(blk_cell BK354.out 0).trans rfl, (blk_cell BK354.out 1).trans rfl, (blk_cell BK354.out 2).trans rfl, (blk_cell BK354.out 3).trans rfl, (blk_cell BK354.out 4).trans rfl⟩ (fun hHeld => ?_)
            clear hK K
            refine norm_ (a' := ?_) ?_ ?_
            rotate_left
            · show Act.put _ (some 25) _ = _
              simp only [Act.put, lA1, lA2, lA3, i64_w, i32_w]
              rfl
            refine one_ (i := 5) (N := some 27) #[true, true, true, true, true, true, false] rfl rfl (by kernel_rfl) (by decide) (fun K hK => ?_)
            refine goes_ Try.func22 (by kernel_rfl) rfl #[.slice Ao34 t357.length co34, .agg #[.slice Ao35 t360.length co35, .int .i64 t363, .int .i64 t364, .int .i64 t365, .slice Ao36 t366.length co36], .int .i64 a2] (by rfl) rfl rfl (by (try simp only [List.map_toArray, List.map_cons, List.map_nil]); first | done | rfl | (simp only [List.length_drop, List.length_take]; rfl)) ?_
            with_reducible refine (spec_MemSize.calls k _ _ t357 _ _ t360 t363 t364 t365 _ _ t366 a2 t369 _ ?side1 ?side2 ?side3 ?side4 ?side5 ?side6 A16.out).mono ?_
            (case side1 => repeat (first | exact (Kd.S_reads' HO359.out).2.2 | (with_reducible refine Kd.C_alloc ?_ _) | (with_reducible refine Kd.C_drewN ?_ _) | (with_reducible refine Kd.C_drew ?_)))
            (case side2 => exact (Kd.S_reads' HO359.out).2.1)
            (case side3 => repeat (first | exact (Kd.R_reads' HO362.out).2.2 | (with_reducible refine Kd.C_alloc ?_ _) | (with_reducible refine Kd.C_drewN ?_ _) | (with_reducible refine Kd.C_drew ?_)))
            (case side4 => exact (Kd.R_reads' HO362.out).2.1)
            (case side5 => repeat (first | exact (Kd.R_reads' HO368.out).2.2 | (with_reducible refine Kd.C_alloc ?_ _) | (with_reducible refine Kd.C_drewN ?_ _) | (with_reducible refine Kd.C_drew ?_)))
            (case side6 => exact (Kd.R_reads' HO368.out).2.1)
            rintro e w37 ⟨rfl, hb⟩
            refine ⟨_, rfl, ?_⟩
            have n0_ := Aside0.mk (Kd.S_below (by (with_reducible repeat (first | apply Kd.S_alloc | apply Kd.S_drewN | apply Kd.S_drew)); exact HO359.out) hb)
            have n1_ := Aside0.mk (Kd.R_below (by (with_reducible repeat (first | apply Kd.R_alloc | apply Kd.R_drewN | apply Kd.R_drew)); exact HO362.out) hb)
            have n2_ := Aside0.mk (Kd.R_below (by (with_reducible repeat (first | apply Kd.R_alloc | apply Kd.R_drewN | apply Kd.R_drew)); exact HO368.out) hb)
            have n3_ := Aside0.mk (blk_below (g := gb354) (o := .cells #[.slice A1_0 l1_0.length c1_0, .int .i64 a1_1, .int .i64 a1_2, .int .i64 a1_3, .slice A1_4 l1_4.length c1_4] 38 (0, 0)) (by (with_reducible repeat (first | refine blk_drewN ?_ _ | refine blk_drew ?_ | refine blk_alloc ?_ _)); exact BK354.out) hb)
            have n4_ := Aside0.mk (below_step (by repeat (first | (with_reducible first | exact HB.out | apply below_alloc | apply pw_below_drewN | apply below_drew1 | refine below_set ?_ GE354.out) | exact HB.out)) hb)
            clear HO359
            clear HO362
            clear HO368
            clear BK354
            clear HB
            have HO359 := n0_
            have HO362 := n1_
            have HO368 := n2_
            have BK354 := n3_
            have HB := n4_
            clear n0_ n1_ n2_ n3_ n4_
            (try clear hb)
            (try clear hb2)
            (try clear hk)
            (try clear hi)
            refine hK.out _ _ ⟨(blk_cell BK354.out 0).trans rfl, (blk_cell BK354.out 1).trans rfl, (blk_cell BK354.out 2).trans rfl, (blk_cell BK354.out 3).trans rfl, (blk_cell BK354.out 4).trans rfl⟩ (fun hHeld => ?_)
            clear hK K
            refine norm_ (a' := ?_) ?_ ?_
            rotate_left
            · show Act.put _ (some 27) _ = _
              simp only [Act.put, lA1, lA2, lA3, i64_w, i32_w]
              rfl
            refine pS 6 8 #[true, true, true, true, true, true, true] ?_
            refine done_ (by kernel_rfl) ?_
            try go_wp2_with (first | ((with_reducible refine gate_callee (f := 18) rfl ?_); refine goesL_ (some 29) rfl rfl Try.func18 (by kernel_rfl) rfl #[.slice A0 l0.length c0] rfl (by (try simp only [List.map_toArray, List.map_cons, List.map_nil]); first | done | rfl | (simp only [List.length_drop, List.length_take]; rfl)) ?_; (with_reducible refine (laws_toClassS.calls k _ _ l0 t370 _ ?side1 ?side2 A17.out).mono ?_); (case side1 => repeat (first | exact (Kd.C_below HR0.out HB.out) | (with_reducible refine Kd.C_alloc ?_ _) | (with_reducible refine Kd.C_drewN ?_ _) | (with_reducible refine Kd.C_drew ?_))); (case side2 => exact HC0.out); rintro e w38 ⟨v371, rfl, ho0, hb⟩; refine ⟨_, rfl, ?_⟩; have n0_ := Aside0.mk (Kd.S_elder' (by (with_reducible repeat (first | apply Kd.S_alloc | apply Kd.S_drewN | apply Kd.S_drew)); exact HO359.out) (Kd.S_base ho0) hb); have n1_ := Aside0.mk (Kd.R_below (by (with_reducible repeat (first | apply Kd.R_alloc | apply Kd.R_drewN | apply Kd.R_drew)); exact HO362.out) hb); have n2_ := Aside0.mk (Kd.R_below (by (with_reducible repeat (first | apply Kd.R_alloc | apply Kd.R_drewN | apply Kd.R_drew)); exact HO368.out) hb); have n3_ := Aside0.mk (Kd.S_lower (Kd.S_new' (Kd.S_new' ho0 (Kd.S_lt (by (with_reducible repeat (first | apply Kd.S_alloc | apply Kd.S_drewN | apply Kd.S_drew)); exact HO359.out))) (Kd.R_lt (by (with_reducible repeat (first | apply Kd.R_alloc | apply Kd.R_drewN | apply Kd.R_drew)); exact HO362.out))) (below_size (by repeat (first | (with_reducible first | exact HB.out | apply below_alloc | apply pw_below_drewN | apply below_drew1 | refine below_set ?_ GE354.out) | exact HB.out)))); have n4_ := Aside0.mk (blk_below (g := gb354) (o := .cells #[.slice A1_0 l1_0.length c1_0, .int .i64 a1_1, .int .i64 a1_2, .int .i64 a1_3, .slice A1_4 l1_4.length c1_4] 38 (0, 0)) (by (with_reducible repeat (first | refine blk_drewN ?_ _ | refine blk_drew ?_ | refine blk_alloc ?_ _)); exact BK354.out) hb); have n5_ := Aside0.mk (below_step (by repeat (first | (with_reducible first | exact HB.out | apply below_alloc | apply pw_below_drewN | apply below_drew1 | refine below_set ?_ GE354.out) | exact HB.out)) hb); clear HO359; clear HO362; clear HO368; clear BK354; clear HB; have HO359 := n0_; have HO362 := n1_; have HO368 := n2_; have HO372 := n3_; have BK354 := n4_; have HB := n5_; clear n0_ n1_ n2_ n3_ n4_ n5_; (try clear hb); (try clear hb2); (try clear hk); (try clear hi); (try clear ho0); have hcz39_0 : w38.cell? ⟨gb354, 0, none⟩ = some (.slice A1_0 l1_0.length c1_0) := (blk_cell BK354.out 0).trans rfl; have hcz39_1 : w38.cell? ⟨gb354, 1, none⟩ = some (.int .i64 a1_1) := (blk_cell BK354.out 1).trans rfl; have hcz39_2 : w38.cell? ⟨gb354, 2, none⟩ = some (.int .i64 a1_2) := (blk_cell BK354.out 2).trans rfl; have hcz39_3 : w38.cell? ⟨gb354, 3, none⟩ = some (.int .i64 a1_3) := (blk_cell BK354.out 3).trans rfl; have hcz39_4 : w38.cell? ⟨gb354, 4, none⟩ = some (.slice A1_4 l1_4.length c1_4) := (blk_cell BK354.out 4).trans rfl; have hfz39_0 := blk_frozen BK354.out 0; have hfz39_1 := blk_frozen BK354.out 1; have hfz39_2 := blk_frozen BK354.out 2; have hfz39_3 := blk_frozen BK354.out 3; have hfz39_4 := blk_frozen BK354.out 4) | ((with_reducible refine gate_callee (f := 19) rfl ?_); refine goesL_ (some 31) rfl rfl Try.func19 (by kernel_rfl) rfl #[.agg #[.slice A1_0 l1_0.length c1_0, .int .i64 a1_1, .int .i64 a1_2, .int .i64 a1_3, .slice A1_4 l1_4.length c1_4]] rfl (by (try simp only [List.map_toArray, List.map_cons, List.map_nil]); first | done | rfl | (simp only [List.length_drop, List.length_take]; rfl)) ?_; (with_reducible refine (laws_toMem.calls k _ _ l1_0 a1_1 a1_2 a1_3 _ _ l1_4 t373 t376 t377 t378 t379 _ ?side1 ?side2 ?side3 ?side4 A18.out).mono ?_); (case side1 => repeat (first | exact (Kd.C_below HR1_0.out HB.out) | (with_reducible refine Kd.C_alloc ?_ _) | (with_reducible refine Kd.C_drewN ?_ _) | (with_reducible refine Kd.C_drew ?_))); (case side2 => exact HC1_0.out); (case side3 => repeat (first | exact (Kd.C_below HR1_4.out HB.out) | (with_reducible refine Kd.C_alloc ?_ _) | (with_reducible refine Kd.C_drewN ?_ _) | (with_reducible refine Kd.C_drew ?_))); (case side4 => exact HC1_4.out); rintro e w40 ⟨v374, v380, rfl, ho0, ho1, hb⟩; refine ⟨_, rfl, ?_⟩; have n0_ := Aside0.mk (Kd.S_elder' (by (with_reducible repeat (first | apply Kd.S_alloc | apply Kd.S_drewN | apply Kd.S_drew)); exact HO359.out) (Kd.R_base ho0) hb); have n1_ := Aside0.mk (Kd.R_elder' (by (with_reducible repeat (first | apply Kd.R_alloc | apply Kd.R_drewN | apply Kd.R_drew)); exact HO362.out) (Kd.R_base ho0) hb); have n2_ := Aside0.mk (Kd.R_elder' (by (with_reducible repeat (first | apply Kd.R_alloc | apply Kd.R_drewN | apply Kd.R_drew)); exact HO368.out) (Kd.R_base ho1) hb); have n3_ := Aside0.mk (Kd.S_elder' (by (with_reducible repeat (first | apply Kd.S_alloc | apply Kd.S_drewN | apply Kd.S_drew)); exact HO372.out) (Kd.R_base ho0) hb); have n4_ := Aside0.mk (Kd.R_lower (Kd.R_new' ho0 (Kd.R_lt (by (with_reducible repeat (first | apply Kd.R_alloc | apply Kd.R_drewN | apply Kd.R_drew)); exact HO362.out))) (below_size (by repeat (first | (with_reducible first | exact HB.out | apply below_alloc | apply pw_below_drewN | apply below_drew1 | refine below_set ?_ GE354.out) | exact HB.out)))); have n5_ := Aside0.mk (Kd.R_lower (Kd.R_new' ho1 (Kd.R_lt (by (with_reducible repeat (first | apply Kd.R_alloc | apply Kd.R_drewN | apply Kd.R_drew)); exact HO368.out))) (below_size (by repeat (first | (with_reducible first | exact HB.out | apply below_alloc | apply pw_below_drewN | apply below_drew1 | refine below_set ?_ GE354.out) | exact HB.out)))); have n6_ := Aside0.mk (blk_below (g := gb354) (o := .cells #[.slice A1_0 l1_0.length c1_0, .int .i64 a1_1, .int .i64 a1_2, .int .i64 a1_3, .slice A1_4 l1_4.length c1_4] 38 (0, 0)) (by (with_reducible repeat (first | refine blk_drewN ?_ _ | refine blk_drew ?_ | refine blk_alloc ?_ _)); exact BK354.out) hb); have n7_ := Aside0.mk (below_step (by repeat (first | (with_reducible first | exact HB.out | apply below_alloc | apply pw_below_drewN | apply below_drew1 | refine below_set ?_ GE354.out) | exact HB.out)) hb); clear HO359; clear HO362; clear HO368; clear HO372; clear BK354; clear HB; have HO359 := n0_; have HO362 := n1_; have HO368 := n2_; have HO372 := n3_; have HO375 := n4_; have HO381 := n5_; have BK354 := n6_; have HB := n7_; clear n0_ n1_ n2_ n3_ n4_ n5_ n6_ n7_; (try clear hb); (try clear hb2); (try clear hk); (try clear hi); (try clear ho0); (try clear ho1)) | ((with_reducible refine gate_dst (N := 10) rfl ?_); refine box_event ?hg (N := 10) ?hd (cs := #[.slice none 0 0, .int .i64 0, .int .i64 0, .int .i64 0, .slice none 0 0]) (t := 28) ?hr ?_; (case hd => rfl); (case hg => rfl); (case hr => first | (go_simp; done) | (go_simp; rfl)); intro gb382 hg w41 hbox hb; have n0_ := Aside0.mk (Kd.S_below (by (with_reducible repeat (first | apply Kd.S_alloc | apply Kd.S_drewN | apply Kd.S_drew)); exact HO359.out) hb); have n1_ := Aside0.mk (Kd.R_below (by (with_reducible repeat (first | apply Kd.R_alloc | apply Kd.R_drewN | apply Kd.R_drew)); exact HO362.out) hb); have n2_ := Aside0.mk (Kd.R_below (by (with_reducible repeat (first | apply Kd.R_alloc | apply Kd.R_drewN | apply Kd.R_drew)); exact HO368.out) hb); have n3_ := Aside0.mk (Kd.S_below (by (with_reducible repeat (first | apply Kd.S_alloc | apply Kd.S_drewN | apply Kd.S_drew)); exact HO372.out) hb); have n4_ := Aside0.mk (Kd.R_below (by (with_reducible repeat (first | apply Kd.R_alloc | apply Kd.R_drewN | apply Kd.R_drew)); exact HO375.out) hb); have n5_ := Aside0.mk (Kd.R_below (by (with_reducible repeat (first | apply Kd.R_alloc | apply Kd.R_drewN | apply Kd.R_drew)); exact HO381.out) hb); have n6_ := Aside0.mk (blk_below (g := gb354) (o := .cells #[.slice A1_0 l1_0.length c1_0, .int .i64 a1_1, .int .i64 a1_2, .int .i64 a1_3, .slice A1_4 l1_4.length c1_4] 38 (0, 0)) (by (with_reducible repeat (first | refine blk_drewN ?_ _ | refine blk_drew ?_ | refine blk_alloc ?_ _)); exact BK354.out) hb); have n7_ := Aside0.mk (below_step (by repeat (first | (with_reducible first | exact HB.out | apply below_alloc | apply pw_below_drewN | apply below_drew1 | refine below_set ?_ GE354.out) | exact HB.out)) hb); have n8_ := Aside0.mk (hbox); have n9_ := Aside0.mk ((by rw [hg]; exact (below_size (by repeat (first | (with_reducible first | exact HB.out | apply below_alloc | apply pw_below_drewN | apply below_drew1 | refine below_set ?_ GE354.out) | exact HB.out))) : w.heap.size ≤ gb382)); have n10_ := Aside0.mk ((by rw [hg]; exact (below_size (by repeat (first | (with_reducible first | exact HB.out | apply below_alloc | apply pw_below_drewN | apply below_drew1 | refine below_set ?_ GE354.out) | exact HB.out))) : w.heap.size ≤ gb382)); have n11_ := Aside0.mk ((by rw [hg]; exact Nat.ne_of_lt (blk_lt (g := gb354) (o := .cells #[.slice A1_0 l1_0.length c1_0, .int .i64 a1_1, .int .i64 a1_2, .int .i64 a1_3, .slice A1_4 l1_4.length c1_4] 38 (0, 0)) (by (with_reducible repeat (first | refine blk_drewN ?_ _ | refine blk_drew ?_ | refine blk_alloc ?_ _)); exact BK354.out)) : gb354 ≠ gb382)); have n12_ := Aside0.mk ((by rw [hg]; exact Nat.ne_of_gt (blk_lt (g := gb354) (o := .cells #[.slice A1_0 l1_0.length c1_0, .int .i64 a1_1, .int .i64 a1_2, .int .i64 a1_3, .slice A1_4 l1_4.length c1_4] 38 (0, 0)) (by (with_reducible repeat (first | refine blk_drewN ?_ _ | refine blk_drew ?_ | refine blk_alloc ?_ _)); exact BK354.out)) : gb382 ≠ gb354)); clear HO359; clear HO362; clear HO368; clear HO372; clear HO375; clear HO381; clear BK354; clear HB; have HO359 := n0_; have HO362 := n1_; have HO368 := n2_; have HO372 := n3_; have HO375 := n4_; have HO381 := n5_; have BK354 := n6_; have HB := n7_; have BK382 := n8_; have GW382 := n9_; have GE382 := n10_; have NB354_382 := n11_; have NB382_354 := n12_; clear n0_ n1_ n2_ n3_ n4_ n5_ n6_ n7_ n8_ n9_ n10_ n11_ n12_; clear hb hbox hg; obtain ⟨Ao42, co42, eo42⟩ := Kd.R_slice HO375.out; subst eo42; have hnb43 := NB382_354.out; have hnc43 := NB354_382.out; have hcz44_0 : w41.cell? ⟨gb382, 0, none⟩ = some (.slice none 0 0) := (blk_cell BK382.out 0).trans rfl; have hcz44_1 : w41.cell? ⟨gb382, 1, none⟩ = some (.int .i64 0) := (blk_cell BK382.out 1).trans rfl; have hcz44_2 : w41.cell? ⟨gb382, 2, none⟩ = some (.int .i64 0) := (blk_cell BK382.out 2).trans rfl; have hcz44_3 : w41.cell? ⟨gb382, 3, none⟩ = some (.int .i64 0) := (blk_cell BK382.out 3).trans rfl; have hcz44_4 : w41.cell? ⟨gb382, 4, none⟩ = some (.slice none 0 0) := (blk_cell BK382.out 4).trans rfl; have hfz44_0 := blk_frozen BK382.out 0; have hfz44_1 := blk_frozen BK382.out 1; have hfz44_2 := blk_frozen BK382.out 2; have hfz44_3 := blk_frozen BK382.out 3; have hfz44_4 := blk_frozen BK382.out 4; obtain ⟨Ao45, co45, eo45⟩ := Kd.R_slice HO381.out; subst eo45; obtain ⟨Ao46, co46, eo46⟩ := Kd.S_slice HO372.out; subst eo46) | ((with_reducible refine gate_callee (f := 23) rfl ?_); refine goesL_ (some 35) rfl rfl Try.func23 (by kernel_rfl) rfl #[.slice Ao46 t370.length co46, .agg #[.slice Ao42 t373.length co42, .int .i64 t376, .int .i64 t377, .int .i64 t378, .slice Ao45 t379.length co45], .int .i64 a2] rfl (by (try simp only [List.map_toArray, List.map_cons, List.map_nil]); first | done | rfl | (simp only [List.length_drop, List.length_take]; rfl)) ?_; (with_reducible refine (impl_MemSize.calls k _ _ t370 _ _ t373 t376 t377 t378 _ _ t379 a2 t383 _ ?side1 ?side2 ?side3 ?side4 ?side5 ?side6 A19.out).mono ?_); (case side1 => refine (Kd.S_reads' (e := 32) (base := w.heap.size) (ok := fun k_ => (((True ∧ some k_ ≠ (.slice Ao34 t357.length co34 : Value).ownBlock) ∧ some k_ ≠ (.slice Ao35 t360.length co35 : Value).ownBlock) ∧ some k_ ≠ (.slice Ao42 t373.length co42 : Value).ownBlock)) (n := t370.length) (c := co46) ?_).2.2; exact (by (with_reducible repeat (first | apply Kd.S_alloc | apply Kd.S_drewN | apply Kd.S_drew)); exact (Kd.S_mono (Kd.S_far (p := ⟨gb382, 4, none⟩) (Kd.S_far (p := ⟨gb382, 3, none⟩) (Kd.S_far (p := ⟨gb382, 2, none⟩) (Kd.S_far (p := ⟨gb382, 1, none⟩) (Kd.S_far (p := ⟨gb382, 0, none⟩) (Kd.S_types HO372.out BK382.out (by decide)) (fun _ hk => hk.2) (.slice Ao42 t373.length co42)) (fun _ hk => hk.2) (.int .i64 t376)) (fun _ hk => hk.2) (.int .i64 t377)) (fun _ hk => hk.2) (.int .i64 t378)) (fun _ hk => hk.2) (.slice Ao45 t379.length co45)) (fun _ h_ => h_.1)))); (case side2 => exact (Kd.S_reads' HO372.out).2.1); (case side3 => refine (Kd.R_reads' (e := 3) (base := w.heap.size) (ok := fun k_ => (True ∧ some k_ ≠ (.slice Ao35 t360.length co35 : Value).ownBlock)) (n := t373.length) (c := co42) ?_).2.2; exact (by (with_reducible repeat (first | apply Kd.R_alloc | apply Kd.R_drewN | apply Kd.R_drew)); exact (Kd.R_mono (Kd.R_far (p := ⟨gb382, 4, none⟩) (Kd.R_far (p := ⟨gb382, 3, none⟩) (Kd.R_far (p := ⟨gb382, 2, none⟩) (Kd.R_far (p := ⟨gb382, 1, none⟩) (Kd.R_far (p := ⟨gb382, 0, none⟩) (Kd.R_types HO375.out BK382.out (by decide)) (fun _ hk => hk.2) (.slice Ao42 t373.length co42)) (fun _ hk => hk.2) (.int .i64 t376)) (fun _ hk => hk.2) (.int .i64 t377)) (fun _ hk => hk.2) (.int .i64 t378)) (fun _ hk => hk.2) (.slice Ao45 t379.length co45)) (fun _ h_ => h_.1)))); (case side4 => exact (Kd.R_reads' HO375.out).2.1); (case side5 => refine (Kd.R_reads' (e := 4) (base := w.heap.size) (ok := fun k_ => (True ∧ some k_ ≠ (.slice Ao36 t366.length co36 : Value).ownBlock)) (n := t379.length) (c := co45) ?_).2.2; exact (by (with_reducible repeat (first | apply Kd.R_alloc | apply Kd.R_drewN | apply Kd.R_drew)); exact (Kd.R_mono (Kd.R_far (p := ⟨gb382, 4, none⟩) (Kd.R_far (p := ⟨gb382, 3, none⟩) (Kd.R_far (p := ⟨gb382, 2, none⟩) (Kd.R_far (p := ⟨gb382, 1, none⟩) (Kd.R_far (p := ⟨gb382, 0, none⟩) (Kd.R_types HO381.out BK382.out (by decide)) (fun _ hk => hk.2) (.slice Ao42 t373.length co42)) (fun _ hk => hk.2) (.int .i64 t376)) (fun _ hk => hk.2) (.int .i64 t377)) (fun _ hk => hk.2) (.int .i64 t378)) (fun _ hk => hk.2) (.slice Ao45 t379.length co45)) (fun _ h_ => h_.1)))); (case side6 => exact (Kd.R_reads' HO381.out).2.1); rintro e w47 ⟨rfl, hb⟩; refine ⟨_, rfl, ?_⟩; have n0_ := Aside0.mk (Kd.S_below (by (with_reducible repeat (first | apply Kd.S_alloc | apply Kd.S_drewN | apply Kd.S_drew)); exact (Kd.S_mono (Kd.S_far (p := ⟨gb382, 4, none⟩) (Kd.S_far (p := ⟨gb382, 3, none⟩) (Kd.S_far (p := ⟨gb382, 2, none⟩) (Kd.S_far (p := ⟨gb382, 1, none⟩) (Kd.S_far (p := ⟨gb382, 0, none⟩) (Kd.S_types HO359.out BK382.out (by decide)) (fun _ hk => hk.2) (.slice Ao42 t373.length co42)) (fun _ hk => hk.2) (.int .i64 t376)) (fun _ hk => hk.2) (.int .i64 t377)) (fun _ hk => hk.2) (.int .i64 t378)) (fun _ hk => hk.2) (.slice Ao45 t379.length co45)) (fun _ h_ => h_.1))) hb); have n1_ := Aside0.mk (Kd.R_below (by (with_reducible repeat (first | apply Kd.R_alloc | apply Kd.R_drewN | apply Kd.R_drew)); exact (Kd.R_mono (Kd.R_far (p := ⟨gb382, 4, none⟩) (Kd.R_far (p := ⟨gb382, 3, none⟩) (Kd.R_far (p := ⟨gb382, 2, none⟩) (Kd.R_far (p := ⟨gb382, 1, none⟩) (Kd.R_far (p := ⟨gb382, 0, none⟩) (Kd.R_types HO362.out BK382.out (by decide)) (fun _ hk => hk.2) (.slice Ao42 t373.length co42)) (fun _ hk => hk.2) (.int .i64 t376)) (fun _ hk => hk.2) (.int .i64 t377)) (fun _ hk => hk.2) (.int .i64 t378)) (fun _ hk => hk.2) (.slice Ao45 t379.length co45)) (fun _ h_ => h_.1))) hb); have n2_ := Aside0.mk (Kd.R_below (by (with_reducible repeat (first | apply Kd.R_alloc | apply Kd.R_drewN | apply Kd.R_drew)); exact (Kd.R_mono (Kd.R_far (p := ⟨gb382, 4, none⟩) (Kd.R_far (p := ⟨gb382, 3, none⟩) (Kd.R_far (p := ⟨gb382, 2, none⟩) (Kd.R_far (p := ⟨gb382, 1, none⟩) (Kd.R_far (p := ⟨gb382, 0, none⟩) (Kd.R_types HO368.out BK382.out (by decide)) (fun _ hk => hk.2) (.slice Ao42 t373.length co42)) (fun _ hk => hk.2) (.int .i64 t376)) (fun _ hk => hk.2) (.int .i64 t377)) (fun _ hk => hk.2) (.int .i64 t378)) (fun _ hk => hk.2) (.slice Ao45 t379.length co45)) (fun _ h_ => h_.1))) hb); have n3_ := Aside0.mk (Kd.S_below (by (with_reducible repeat (first | apply Kd.S_alloc | apply Kd.S_drewN | apply Kd.S_drew)); exact (Kd.S_mono (Kd.S_far (p := ⟨gb382, 4, none⟩) (Kd.S_far (p := ⟨gb382, 3, none⟩) (Kd.S_far (p := ⟨gb382, 2, none⟩) (Kd.S_far (p := ⟨gb382, 1, none⟩) (Kd.S_far (p := ⟨gb382, 0, none⟩) (Kd.S_types HO372.out BK382.out (by decide)) (fun _ hk => hk.2) (.slice Ao42 t373.length co42)) (fun _ hk => hk.2) (.int .i64 t376)) (fun _ hk => hk.2) (.int .i64 t377)) (fun _ hk => hk.2) (.int .i64 t378)) (fun _ hk => hk.2) (.slice Ao45 t379.length co45)) (fun _ h_ => h_.1))) hb); have n4_ := Aside0.mk (Kd.R_below (by (with_reducible repeat (first | apply Kd.R_alloc | apply Kd.R_drewN | apply Kd.R_drew)); exact (Kd.R_mono (Kd.R_far (p := ⟨gb382, 4, none⟩) (Kd.R_far (p := ⟨gb382, 3, none⟩) (Kd.R_far (p := ⟨gb382, 2, none⟩) (Kd.R_far (p := ⟨gb382, 1, none⟩) (Kd.R_far (p := ⟨gb382, 0, none⟩) (Kd.R_types HO375.out BK382.out (by decide)) (fun _ hk => hk.2) (.slice Ao42 t373.length co42)) (fun _ hk => hk.2) (.int .i64 t376)) (fun _ hk => hk.2) (.int .i64 t377)) (fun _ hk => hk.2) (.int .i64 t378)) (fun _ hk => hk.2) (.slice Ao45 t379.length co45)) (fun _ h_ => h_.1))) hb); have n5_ := Aside0.mk (Kd.R_below (by (with_reducible repeat (first | apply Kd.R_alloc | apply Kd.R_drewN | apply Kd.R_drew)); exact (Kd.R_mono (Kd.R_far (p := ⟨gb382, 4, none⟩) (Kd.R_far (p := ⟨gb382, 3, none⟩) (Kd.R_far (p := ⟨gb382, 2, none⟩) (Kd.R_far (p := ⟨gb382, 1, none⟩) (Kd.R_far (p := ⟨gb382, 0, none⟩) (Kd.R_types HO381.out BK382.out (by decide)) (fun _ hk => hk.2) (.slice Ao42 t373.length co42)) (fun _ hk => hk.2) (.int .i64 t376)) (fun _ hk => hk.2) (.int .i64 t377)) (fun _ hk => hk.2) (.int .i64 t378)) (fun _ hk => hk.2) (.slice Ao45 t379.length co45)) (fun _ h_ => h_.1))) hb); have n6_ := Aside0.mk (blk_below (g := gb354) (o := .cells #[.slice A1_0 l1_0.length c1_0, .int .i64 a1_1, .int .i64 a1_2, .int .i64 a1_3, .slice A1_4 l1_4.length c1_4] 38 (0, 0)) (by (with_reducible repeat (first | refine blk_drewN ?_ _ | refine blk_drew ?_ | refine blk_alloc ?_ _)); refine blk_far ?_ NB354_382.out _; (with_reducible repeat (first | refine blk_drewN ?_ _ | refine blk_drew ?_ | refine blk_alloc ?_ _)); refine blk_far ?_ NB354_382.out _; (with_reducible repeat (first | refine blk_drewN ?_ _ | refine blk_drew ?_ | refine blk_alloc ?_ _)); refine blk_far ?_ NB354_382.out _; (with_reducible repeat (first | refine blk_drewN ?_ _ | refine blk_drew ?_ | refine blk_alloc ?_ _)); refine blk_far ?_ NB354_382.out _; (with_reducible repeat (first | refine blk_drewN ?_ _ | refine blk_drew ?_ | refine blk_alloc ?_ _)); refine blk_far ?_ NB354_382.out _; (with_reducible repeat (first | refine blk_drewN ?_ _ | refine blk_drew ?_ | refine blk_alloc ?_ _)); exact BK354.out) hb); have n7_ := Aside0.mk (blk_below (g := gb382) (o := .cells #[.slice Ao42 t373.length co42, .int .i64 t376, .int .i64 t377, .int .i64 t378, .slice Ao45 t379.length co45] 28 (0, 0)) (by (with_reducible repeat (first | refine blk_drewN ?_ _ | refine blk_drew ?_ | refine blk_alloc ?_ _)); refine blk_put (cs := #[.slice Ao42 t373.length co42, .int .i64 t376, .int .i64 t377, .int .i64 t378, .slice none 0 0]) ?_ 4 _ rfl; (with_reducible repeat (first | refine blk_drewN ?_ _ | refine blk_drew ?_ | refine blk_alloc ?_ _)); refine blk_put (cs := #[.slice Ao42 t373.length co42, .int .i64 t376, .int .i64 t377, .int .i64 0, .slice none 0 0]) ?_ 3 _ rfl; (with_reducible repeat (first | refine blk_drewN ?_ _ | refine blk_drew ?_ | refine blk_alloc ?_ _)); refine blk_put (cs := #[.slice Ao42 t373.length co42, .int .i64 t376, .int .i64 0, .int .i64 0, .slice none 0 0]) ?_ 2 _ rfl; (with_reducible repeat (first | refine blk_drewN ?_ _ | refine blk_drew ?_ | refine blk_alloc ?_ _)); refine blk_put (cs := #[.slice Ao42 t373.length co42, .int .i64 0, .int .i64 0, .int .i64 0, .slice none 0 0]) ?_ 1 _ rfl; (with_reducible repeat (first | refine blk_drewN ?_ _ | refine blk_drew ?_ | refine blk_alloc ?_ _)); refine blk_put (cs := #[.slice none 0 0, .int .i64 0, .int .i64 0, .int .i64 0, .slice none 0 0]) ?_ 0 _ rfl; (with_reducible repeat (first | refine blk_drewN ?_ _ | refine blk_drew ?_ | refine blk_alloc ?_ _)); exact BK382.out) hb); have n8_ := Aside0.mk (below_step (by repeat (first | (with_reducible first | exact HB.out | apply below_alloc | apply pw_below_drewN | apply below_drew1 | refine below_set ?_ GE354.out | refine below_set ?_ GE382.out) | exact HB.out)) hb); clear HO359; clear HO362; clear HO368; clear HO372; clear HO375; clear HO381; clear BK354; clear BK382; clear HB; have HO359 := n0_; have HO362 := n1_; have HO368 := n2_; have HO372 := n3_; have HO375 := n4_; have HO381 := n5_; have BK354 := n6_; have BK382 := n7_; have HB := n8_; clear n0_ n1_ n2_ n3_ n4_ n5_ n6_ n7_ n8_; (try clear hb); (try clear hb2); (try clear hk); (try clear hi)) | ((with_reducible refine gate_callee (f := 18) rfl ?_); refine goesL_ (some 41) rfl rfl Try.func18 (by kernel_rfl) rfl #[.slice A0 l0.length c0] rfl (by (try simp only [List.map_toArray, List.map_cons, List.map_nil]); first | done | rfl | (simp only [List.length_drop, List.length_take]; rfl)) ?_; (with_reducible refine (laws_toClassS.calls k _ _ l0 t384 _ ?side1 ?side2 A21.out).mono ?_); (case side1 => repeat (first | exact (Kd.C_below HR0.out HB.out) | (with_reducible refine Kd.C_alloc ?_ _) | (with_reducible refine Kd.C_drewN ?_ _) | (with_reducible refine Kd.C_drew ?_))); (case side2 => exact HC0.out); rintro e w48 ⟨v385, rfl, ho0, hb⟩; refine ⟨_, rfl, ?_⟩; have n0_ := Aside0.mk (Kd.S_elder' (by (with_reducible repeat (first | apply Kd.S_alloc | apply Kd.S_drewN | apply Kd.S_drew)); exact HO359.out) (Kd.S_base ho0) hb); have n1_ := Aside0.mk (Kd.R_below (by (with_reducible repeat (first | apply Kd.R_alloc | apply Kd.R_drewN | apply Kd.R_drew)); exact HO362.out) hb); have n2_ := Aside0.mk (Kd.R_below (by (with_reducible repeat (first | apply Kd.R_alloc | apply Kd.R_drewN | apply Kd.R_drew)); exact HO368.out) hb); have n3_ := Aside0.mk (Kd.S_elder' (by (with_reducible repeat (first | apply Kd.S_alloc | apply Kd.S_drewN | apply Kd.S_drew)); exact HO372.out) (Kd.S_base ho0) hb); have n4_ := Aside0.mk (Kd.R_below (by (with_reducible repeat (first | apply Kd.R_alloc | apply Kd.R_drewN | apply Kd.R_drew)); exact HO375.out) hb); have n5_ := Aside0.mk (Kd.R_below (by (with_reducible repeat (first | apply Kd.R_alloc | apply Kd.R_drewN | apply Kd.R_drew)); exact HO381.out) hb); have n6_ := Aside0.mk (Kd.S_lower (Kd.S_new' (Kd.S_new' (Kd.S_new' (Kd.S_new' ho0 (Kd.S_lt (by (with_reducible repeat (first | apply Kd.S_alloc | apply Kd.S_drewN | apply Kd.S_drew)); exact HO359.out))) (Kd.R_lt (by (with_reducible repeat (first | apply Kd.R_alloc | apply Kd.R_drewN | apply Kd.R_drew)); exact HO362.out))) (Kd.S_lt (by (with_reducible repeat (first | apply Kd.S_alloc | apply Kd.S_drewN | apply Kd.S_drew)); exact HO372.out))) (Kd.R_lt (by (with_reducible repeat (first | apply Kd.R_alloc | apply Kd.R_drewN | apply Kd.R_drew)); exact HO375.out))) (below_size (by repeat (first | (with_reducible first | exact HB.out | apply below_alloc | apply pw_below_drewN | apply below_drew1 | refine below_set ?_ GE354.out | refine below_set ?_ GE382.out) | exact HB.out)))); have n7_ := Aside0.mk (blk_below (g := gb354) (o := .cells #[.slice A1_0 l1_0.length c1_0, .int .i64 a1_1, .int .i64 a1_2, .int .i64 a1_3, .slice A1_4 l1_4.length c1_4] 38 (0, 0)) (by (with_reducible repeat (first | refine blk_drewN ?_ _ | refine blk_drew ?_ | refine blk_alloc ?_ _)); exact BK354.out) hb); have n8_ := Aside0.mk (blk_below (g := gb382) (o := .cells #[.slice Ao42 t373.length co42, .int .i64 t376, .int .i64 t377, .int .i64 t378, .slice Ao45 t379.length co45] 28 (0, 0)) (by (with_reducible repeat (first | refine blk_drewN ?_ _ | refine blk_drew ?_ | refine blk_alloc ?_ _)); exact BK382.out) hb); have n9_ := Aside0.mk (below_step (by repeat (first | (with_reducible first | exact HB.out | apply below_alloc | apply pw_below_drewN | apply below_drew1 | refine below_set ?_ GE354.out | refine below_set ?_ GE382.out) | exact HB.out)) hb); clear HO359; clear HO362; clear HO368; clear HO372; clear HO375; clear HO381; clear BK354; clear BK382; clear HB; have HO359 := n0_; have HO362 := n1_; have HO368 := n2_; have HO372 := n3_; have HO375 := n4_; have HO381 := n5_; have HO386 := n6_; have BK354 := n7_; have BK382 := n8_; have HB := n9_; clear n0_ n1_ n2_ n3_ n4_ n5_ n6_ n7_ n8_ n9_; (try clear hb); (try clear hb2); (try clear hk); (try clear hi); (try clear ho0); obtain ⟨Ao49, co49, eo49⟩ := Kd.S_slice HO386.out; subst eo49) | ((with_reducible refine gate_callee (f := 20) rfl ?_); refine goesL_ (some 42) rfl rfl Try.func20 (by kernel_rfl) rfl #[.slice Ao46 t370.length co46, .slice Ao49 t384.length co49] rfl (by (try simp only [List.map_toArray, List.map_cons, List.map_nil]); first | done | rfl | (simp only [List.length_drop, List.length_take]; rfl)) ?_; (with_reducible refine (laws_eqClassS.calls k _ _ t370 _ _ t384 true _ ?side1 ?side2 ?side3 ?side4 A22.out).mono ?_); (case side1 => repeat (first | exact (Kd.S_reads' HO372.out).2.2 | (with_reducible refine Kd.C_alloc ?_ _) | (with_reducible refine Kd.C_drewN ?_ _) | (with_reducible refine Kd.C_drew ?_))); (case side2 => exact (Kd.S_reads' HO372.out).2.1); (case side3 => repeat (first | exact (Kd.S_reads' HO386.out).2.2 | (with_reducible refine Kd.C_alloc ?_ _) | (with_reducible refine Kd.C_drewN ?_ _) | (with_reducible refine Kd.C_drew ?_))); (case side4 => exact (Kd.S_reads' HO386.out).2.1); rintro e w50 ⟨rfl, hb⟩; refine ⟨_, rfl, ?_⟩; have n0_ := Aside0.mk (Kd.S_below (by (with_reducible repeat (first | apply Kd.S_alloc | apply Kd.S_drewN | apply Kd.S_drew)); exact HO359.out) hb); have n1_ := Aside0.mk (Kd.R_below (by (with_reducible repeat (first | apply Kd.R_alloc | apply Kd.R_drewN | apply Kd.R_drew)); exact HO362.out) hb); have n2_ := Aside0.mk (Kd.R_below (by (with_reducible repeat (first | apply Kd.R_alloc | apply Kd.R_drewN | apply Kd.R_drew)); exact HO368.out) hb); have n3_ := Aside0.mk (Kd.S_below (by (with_reducible repeat (first | apply Kd.S_alloc | apply Kd.S_drewN | apply Kd.S_drew)); exact HO372.out) hb); have n4_ := Aside0.mk (Kd.R_below (by (with_reducible repeat (first | apply Kd.R_alloc | apply Kd.R_drewN | apply Kd.R_drew)); exact HO375.out) hb); have n5_ := Aside0.mk (Kd.R_below (by (with_reducible repeat (first | apply Kd.R_alloc | apply Kd.R_drewN | apply Kd.R_drew)); exact HO381.out) hb); have n6_ := Aside0.mk (Kd.S_below (by (with_reducible repeat (first | apply Kd.S_alloc | apply Kd.S_drewN | apply Kd.S_drew)); exact HO386.out) hb); have n7_ := Aside0.mk (blk_below (g := gb354) (o := .cells #[.slice A1_0 l1_0.length c1_0, .int .i64 a1_1, .int .i64 a1_2, .int .i64 a1_3, .slice A1_4 l1_4.length c1_4] 38 (0, 0)) (by (with_reducible repeat (first | refine blk_drewN ?_ _ | refine blk_drew ?_ | refine blk_alloc ?_ _)); exact BK354.out) hb); have n8_ := Aside0.mk (blk_below (g := gb382) (o := .cells #[.slice Ao42 t373.length co42, .int .i64 t376, .int .i64 t377, .int .i64 t378, .slice Ao45 t379.length co45] 28 (0, 0)) (by (with_reducible repeat (first | refine blk_drewN ?_ _ | refine blk_drew ?_ | refine blk_alloc ?_ _)); exact BK382.out) hb); have n9_ := Aside0.mk (below_step (by repeat (first | (with_reducible first | exact HB.out | apply below_alloc | apply pw_below_drewN | apply below_drew1 | refine below_set ?_ GE354.out | refine below_set ?_ GE382.out) | exact HB.out)) hb); clear HO359; clear HO362; clear HO368; clear HO372; clear HO375; clear HO381; clear HO386; clear BK354; clear BK382; clear HB; have HO359 := n0_; have HO362 := n1_; have HO368 := n2_; have HO372 := n3_; have HO375 := n4_; have HO381 := n5_; have HO386 := n6_; have BK354 := n7_; have BK382 := n8_; have HB := n9_; clear n0_ n1_ n2_ n3_ n4_ n5_ n6_ n7_ n8_ n9_; (try clear hb); (try clear hb2); (try clear hk); (try clear hi)))
            have n0_ := Aside0.mk (Kd.S_drew HO359.out)
            have n1_ := Aside0.mk (Kd.R_drew HO362.out)
            have n2_ := Aside0.mk (Kd.R_drew HO368.out)
            have n3_ := Aside0.mk (Kd.S_drew HO372.out)
            have n4_ := Aside0.mk (Kd.R_drew HO375.out)
            have n5_ := Aside0.mk (Kd.R_drew HO381.out)
            have n6_ := Aside0.mk (Kd.S_drew HO386.out)
            have n7_ := Aside0.mk (blk_drew BK354.out)
            have n8_ := Aside0.mk (blk_drew BK382.out)
            have n9_ := Aside0.mk (below_drew1 HB.out)
            clear HO359
            clear HO362
            clear HO368
            clear HO372
            clear HO375
            clear HO381
            clear HO386
            clear BK354
            clear BK382
            clear HB
            have HO359 := n0_
            have HO362 := n1_
            have HO368 := n2_
            have HO372 := n3_
            have HO375 := n4_
            have HO381 := n5_
            have HO386 := n6_
            have BK354 := n7_
            have BK382 := n8_
            have HB := n9_
            clear n0_ n1_ n2_ n3_ n4_ n5_ n6_ n7_ n8_ n9_
            refine start_ (n := 5) (S := fun w' => w'.cell? ⟨gb382, 0, none⟩ = some (.slice Ao42 t373.length co42) ∧ w'.cell? ⟨gb382, 1, none⟩ = some (.int .i64 t376) ∧ w'.cell? ⟨gb382, 2, none⟩ = some (.int .i64 t377) ∧ w'.cell? ⟨gb382, 3, none⟩ = some (.int .i64 t378) ∧ w'.cell? ⟨gb382, 4, none⟩ = some (.slice Ao45 t379.length co45) ∧ w'.cell? ⟨gb354, 0, none⟩ = some (.slice A1_0 l1_0.length c1_0) ∧ w'.cell? ⟨gb354, 1, none⟩ = some (.int .i64 a1_1) ∧ w'.cell? ⟨gb354, 2, none⟩ = some (.int .i64 a1_2) ∧ w'.cell? ⟨gb354, 3, none⟩ = some (.int .i64 a1_3) ∧ w'.cell? ⟨gb354, 4, none⟩ = some (.slice A1_4 l1_4.length c1_4)) (ds := []) #[false, false, false, false, false] (by kernel_rfl) rfl rfl ⟨(blk_cell BK382.out 0).trans rfl, (blk_cell BK382.out 1).trans rfl, (blk_cell BK382.out 2).trans rfl, (blk_cell BK382.out 3).trans rfl, (blk_cell BK382.out 4).trans rfl, (blk_cell BK354.out 0).trans rfl, (blk_cell BK354.out 1).trans rfl, (blk_cell BK354.out 2).trans rfl, (blk_cell BK354.out 3).trans rfl, (blk_cell BK354.out 4).trans rfl⟩ (fun hHeld => ?_)
            generalize w50.drew = w51 at HO359 HO362 HO368 HO372 HO375 HO381 HO386 BK354 BK382 HB hHeld ⊢
            refine tS 0 44 #[true, false, false, false, false] rfl rfl (by kernel_rfl) hHeld (by rintro w' ⟨s0, s1, s2, s3, s4, s5, s6, s7, s8, s9⟩; go_simp; with_reducible rfl) ?_
            refine tS 1 45 #[true, true, false, false, false] rfl rfl (by kernel_rfl) hHeld (by rintro w' ⟨s0, s1, s2, s3, s4, s5, s6, s7, s8, s9⟩; go_simp; with_reducible rfl) ?_
            refine one_ (i := 2) (N := some 46) #[true, true, true, false, false] rfl rfl (by kernel_rfl) (by decide) (fun K hK => ?_)
            refine goes_ Try.func19 (by kernel_rfl) rfl #[.agg #[.slice A1_0 l1_0.length c1_0, .int .i64 a1_1, .int .i64 a1_2, .int .i64 a1_3, .slice A1_4 l1_4.length c1_4]] (by rfl) rfl rfl (by (try simp only [List.map_toArray, List.map_cons, List.map_nil]); first | done | rfl | (simp only [List.length_drop, List.length_take]; rfl)) ?_
            with_reducible refine (laws_toMem.calls k _ _ l1_0 a1_1 a1_2 a1_3 _ _ l1_4 t388 t391 t392 t393 t394 _ ?side1 ?side2 ?side3 ?side4 A24.out).mono ?_
            (case side1 => repeat (first | exact (Kd.C_below HR1_0.out HB.out) | (with_reducible refine Kd.C_alloc ?_ _) | (with_reducible refine Kd.C_drewN ?_ _) | (with_reducible refine Kd.C_drew ?_)))
            (case side2 => exact HC1_0.out)
            (case side3 => repeat (first | exact (Kd.C_below HR1_4.out HB.out) | (with_reducible refine Kd.C_alloc ?_ _) | (with_reducible refine Kd.C_drewN ?_ _) | (with_reducible refine Kd.C_drew ?_)))
            (case side4 => exact HC1_4.out)
            rintro e w52 ⟨v389, v395, rfl, ho0, ho1, hb⟩
            refine ⟨_, rfl, ?_⟩
            have n0_ := Aside0.mk (Kd.S_elder' (by (with_reducible repeat (first | apply Kd.S_alloc | apply Kd.S_drewN | apply Kd.S_drew)); exact HO359.out) (Kd.R_base ho0) hb)
            have n1_ := Aside0.mk (Kd.R_elder' (by (with_reducible repeat (first | apply Kd.R_alloc | apply Kd.R_drewN | apply Kd.R_drew)); exact HO362.out) (Kd.R_base ho0) hb)
            have n2_ := Aside0.mk (Kd.R_elder' (by (with_reducible repeat (first | apply Kd.R_alloc | apply Kd.R_drewN | apply Kd.R_drew)); exact HO368.out) (Kd.R_base ho1) hb)
            have n3_ := Aside0.mk (Kd.S_elder' (by (with_reducible repeat (first | apply Kd.S_alloc | apply Kd.S_drewN | apply Kd.S_drew)); exact HO372.out) (Kd.R_base ho0) hb)
            have n4_ := Aside0.mk (Kd.R_elder' (by (with_reducible repeat (first | apply Kd.R_alloc | apply Kd.R_drewN | apply Kd.R_drew)); exact HO375.out) (Kd.R_base ho0) hb)
            have n5_ := Aside0.mk (Kd.R_elder' (by (with_reducible repeat (first | apply Kd.R_alloc | apply Kd.R_drewN | apply Kd.R_drew)); exact HO381.out) (Kd.R_base ho1) hb)
            have n6_ := Aside0.mk (Kd.S_elder' (by (with_reducible repeat (first | apply Kd.S_alloc | apply Kd.S_drewN | apply Kd.S_drew)); exact HO386.out) (Kd.R_base ho0) hb)
            have n7_ := Aside0.mk (Kd.R_lower (Kd.R_new' (Kd.R_new' ho0 (Kd.R_lt (by (with_reducible repeat (first | apply Kd.R_alloc | apply Kd.R_drewN | apply Kd.R_drew)); exact HO362.out))) (Kd.R_lt (by (with_reducible repeat (first | apply Kd.R_alloc | apply Kd.R_drewN | apply Kd.R_drew)); exact HO375.out))) (below_size (by repeat (first | (with_reducible first | exact HB.out | apply below_alloc | apply pw_below_drewN | apply below_drew1 | refine below_set ?_ GE354.out | refine below_set ?_ GE382.out) | exact HB.out))))
            have n8_ := Aside0.mk (Kd.R_lower (Kd.R_new' (Kd.R_new' ho1 (Kd.R_lt (by (with_reducible repeat (first | apply Kd.R_alloc | apply Kd.R_drewN | apply Kd.R_drew)); exact HO368.out))) (Kd.R_lt (by (with_reducible repeat (first | apply Kd.R_alloc | apply Kd.R_drewN | apply Kd.R_drew)); exact HO381.out))) (below_size (by repeat (first | (with_reducible first | exact HB.out | apply below_alloc | apply pw_below_drewN | apply below_drew1 | refine below_set ?_ GE354.out | refine below_set ?_ GE382.out) | exact HB.out))))
            have n9_ := Aside0.mk (blk_below (g := gb354) (o := .cells #[.slice A1_0 l1_0.length c1_0, .int .i64 a1_1, .int .i64 a1_2, .int .i64 a1_3, .slice A1_4 l1_4.length c1_4] 38 (0, 0)) (by (with_reducible repeat (first | refine blk_drewN ?_ _ | refine blk_drew ?_ | refine blk_alloc ?_ _)); exact BK354.out) hb)
            have n10_ := Aside0.mk (blk_below (g := gb382) (o := .cells #[.slice Ao42 t373.length co42, .int .i64 t376, .int .i64 t377, .int .i64 t378, .slice Ao45 t379.length co45] 28 (0, 0)) (by (with_reducible repeat (first | refine blk_drewN ?_ _ | refine blk_drew ?_ | refine blk_alloc ?_ _)); exact BK382.out) hb)
            have n11_ := Aside0.mk (below_step (by repeat (first | (with_reducible first | exact HB.out | apply below_alloc | apply pw_below_drewN | apply below_drew1 | refine below_set ?_ GE354.out | refine below_set ?_ GE382.out) | exact HB.out)) hb)
            clear HO359
            clear HO362
            clear HO368
            clear HO372
            clear HO375
            clear HO381
            clear HO386
            clear BK354
            clear BK382
            clear HB
            have HO359 := n0_
            have HO362 := n1_
            have HO368 := n2_
            have HO372 := n3_
            have HO375 := n4_
            have HO381 := n5_
            have HO386 := n6_
            have HO390 := n7_
            have HO396 := n8_
            have BK354 := n9_
            have BK382 := n10_
            have HB := n11_
            clear n0_ n1_ n2_ n3_ n4_ n5_ n6_ n7_ n8_ n9_ n10_ n11_
            (try clear hb)
            (try clear hb2)
            (try clear hk)
            (try clear hi)
            (try clear ho0)
            (try clear ho1)
            obtain ⟨Ao53, co53, eo53⟩ := Kd.R_slice HO390.out
            (first | subst eo53 | (injection eo53 with f1_ f2_ f3_; have f4_ := f1_.symm; have f5_ := f3_.symm; clear f1_ f2_ f3_; subst f4_; subst f5_))
            obtain ⟨Ao54, co54, eo54⟩ := Kd.R_slice HO396.out
            (first | subst eo54 | (injection eo54 with f1_ f2_ f3_; have f4_ := f1_.symm; have f5_ := f3_.symm; clear f1_ f2_ f3_; subst f4_; subst f5_))
            refine hK.out _ _ ⟨(blk_cell BK382.out 0).trans rfl, (blk_cell BK382.out 1).trans rfl, (blk_cell BK382.out 2).trans rfl, (blk_cell BK382.out 3).trans rfl, (blk_cell BK382.out 4).trans rfl, (blk_cell BK354.out 0).trans rfl, (blk_cell BK354.out 1).trans rfl, (blk_cell BK354.out 2).trans rfl, (blk_cell BK354.out 3).trans rfl, (blk_cell BK354.out 4).trans rfl⟩ (fun hHeld => ?_)
            clear hK K
            refine norm_ (a' := ?_) ?_ ?_
            rotate_left
            · show Act.put _ (some 46) _ = _
              simp only [Act.put, lA1, lA2, lA3, i64_w, i32_w]
              rfl
            refine one_ (i := 3) (N := some 47) #[true, true, true, true, false] rfl rfl (by kernel_rfl) (by decide) (fun K hK => ?_)
            refine goes_ Try.func21 (by kernel_rfl) rfl #[.agg #[.slice Ao42 t373.length co42, .int .i64 t376, .int .i64 t377, .int .i64 t378, .slice Ao45 t379.length co45], .agg #[.slice Ao53 t388.length co53, .int .i64 t391, .int .i64 t392, .int .i64 t393, .slice Ao54 t394.length co54]] (by rfl) rfl rfl (by (try simp only [List.map_toArray, List.map_cons, List.map_nil]); first | done | rfl | (simp only [List.length_drop, List.length_take]; rfl)) ?_
            with_reducible refine (laws_eqMem.calls k _ _ t373 t376 t377 t378 _ _ t379 _ _ t388 t391 t392 t393 _ _ t394 true _ ?side1 ?side2 ?side3 ?side4 ?side5 ?side6 ?side7 ?side8 A25.out).mono ?_
            (case side1 => repeat (first | exact (Kd.R_reads' HO375.out).2.2 | (with_reducible refine Kd.C_alloc ?_ _) | (with_reducible refine Kd.C_drewN ?_ _) | (with_reducible refine Kd.C_drew ?_)))
            (case side2 => exact (Kd.R_reads' HO375.out).2.1)
            (case side3 => repeat (first | exact (Kd.R_reads' HO381.out).2.2 | (with_reducible refine Kd.C_alloc ?_ _) | (with_reducible refine Kd.C_drewN ?_ _) | (with_reducible refine Kd.C_drew ?_)))
            (case side4 => exact (Kd.R_reads' HO381.out).2.1)
            (case side5 => repeat (first | exact (Kd.R_reads' HO390.out).2.2 | (with_reducible refine Kd.C_alloc ?_ _) | (with_reducible refine Kd.C_drewN ?_ _) | (with_reducible refine Kd.C_drew ?_)))
            (case side6 => exact (Kd.R_reads' HO390.out).2.1)
            (case side7 => repeat (first | exact (Kd.R_reads' HO396.out).2.2 | (with_reducible refine Kd.C_alloc ?_ _) | (with_reducible refine Kd.C_drewN ?_ _) | (with_reducible refine Kd.C_drew ?_)))
            (case side8 => exact (Kd.R_reads' HO396.out).2.1)
            rintro e w55 ⟨rfl, hb⟩
            refine ⟨_, rfl, ?_⟩
            have n0_ := Aside0.mk (Kd.S_below (by (with_reducible repeat (first | apply Kd.S_alloc | apply Kd.S_drewN | apply Kd.S_drew)); exact HO359.out) hb)
            have n1_ := Aside0.mk (Kd.R_below (by (with_reducible repeat (first | apply Kd.R_alloc | apply Kd.R_drewN | apply Kd.R_drew)); exact HO362.out) hb)
            have n2_ := Aside0.mk (Kd.R_below (by (with_reducible repeat (first | apply Kd.R_alloc | apply Kd.R_drewN | apply Kd.R_drew)); exact HO368.out) hb)
            have n3_ := Aside0.mk (Kd.S_below (by (with_reducible repeat (first | apply Kd.S_alloc | apply Kd.S_drewN | apply Kd.S_drew)); exact HO372.out) hb)
            have n4_ := Aside0.mk (Kd.R_below (by (with_reducible repeat (first | apply Kd.R_alloc | apply Kd.R_drewN | apply Kd.R_drew)); exact HO375.out) hb)
            have n5_ := Aside0.mk (Kd.R_below (by (with_reducible repeat (first | apply Kd.R_alloc | apply Kd.R_drewN | apply Kd.R_drew)); exact HO381.out) hb)
            have n6_ := Aside0.mk (Kd.S_below (by (with_reducible repeat (first | apply Kd.S_alloc | apply Kd.S_drewN | apply Kd.S_drew)); exact HO386.out) hb)
            have n7_ := Aside0.mk (Kd.R_below (by (with_reducible repeat (first | apply Kd.R_alloc | apply Kd.R_drewN | apply Kd.R_drew)); exact HO390.out) hb)
            have n8_ := Aside0.mk (Kd.R_below (by (with_reducible repeat (first | apply Kd.R_alloc | apply Kd.R_drewN | apply Kd.R_drew)); exact HO396.out) hb)
            have n9_ := Aside0.mk (blk_below (g := gb354) (o := .cells #[.slice A1_0 l1_0.length c1_0, .int .i64 a1_1, .int .i64 a1_2, .int .i64 a1_3, .slice A1_4 l1_4.length c1_4] 38 (0, 0)) (by (with_reducible repeat (first | refine blk_drewN ?_ _ | refine blk_drew ?_ | refine blk_alloc ?_ _)); exact BK354.out) hb)
            have n10_ := Aside0.mk (blk_below (g := gb382) (o := .cells #[.slice Ao42 t373.length co42, .int .i64 t376, .int .i64 t377, .int .i64 t378, .slice Ao45 t379.length co45] 28 (0, 0)) (by (with_reducible repeat (first | refine blk_drewN ?_ _ | refine blk_drew ?_ | refine blk_alloc ?_ _)); exact BK382.out) hb)
            have n11_ := Aside0.mk (below_step (by repeat (first | (with_reducible first | exact HB.out | apply below_alloc | apply pw_below_drewN | apply below_drew1 | refine below_set ?_ GE354.out | refine below_set ?_ GE382.out) | exact HB.out)) hb)
            clear HO359
            clear HO362
            clear HO368
            clear HO372
            clear HO375
            clear HO381
            clear HO386
            clear HO390
            clear HO396
            clear BK354
            clear BK382
            clear HB
            have HO359 := n0_
            have HO362 := n1_
            have HO368 := n2_
            have HO372 := n3_
            have HO375 := n4_
            have HO381 := n5_
            have HO386 := n6_
            have HO390 := n7_
            have HO396 := n8_
            have BK354 := n9_
            have BK382 := n10_
            have HB := n11_
            clear n0_ n1_ n2_ n3_ n4_ n5_ n6_ n7_ n8_ n9_ n10_ n11_
            (try clear hb)
            (try clear hb2)
            (try clear hk)
            (try clear hi)
            refine hK.out _ _ ⟨(blk_cell BK382.out 0).trans rfl, (blk_cell BK382.out 1).trans rfl, (blk_cell BK382.out 2).trans rfl, (blk_cell BK382.out 3).trans rfl, (blk_cell BK382.out 4).trans rfl, (blk_cell BK354.out 0).trans rfl, (blk_cell BK354.out 1).trans rfl, (blk_cell BK354.out 2).trans rfl, (blk_cell BK354.out 3).trans rfl, (blk_cell BK354.out 4).trans rfl⟩ (fun hHeld => ?_)
            clear hK K
            refine norm_ (a' := ?_) ?_ ?_
            rotate_left
            · show Act.put _ (some 47) _ = _
              simp only [Act.put, lA1, lA2, lA3, i64_w, i32_w]
              rfl
            refine pS 4 48 #[true, true, true, true, true] ?_
            refine done_ (by kernel_rfl) ?_
            try go_wp2
            go_ret
            exact ⟨by first | rfl | (simp [errW_none, errW_some] <;> rfl) | (simp [*, errW_none, errW_some] <;> rfl), by repeat (first | (with_reducible first | exact HB.out | apply below_alloc | apply pw_below_drewN | apply below_drew1 | refine below_set ?_ GE354.out | refine below_set ?_ GE382.out) | exact HB.out)⟩
          · replace c26 := Bool.eq_false_iff.mpr c26
            subst c26
            have H1 : (some false) = some r := by rw [if_neg (show ¬ (false = true) by decide)] at H; exact H
            clear H
            have H := H1
            clear H1
            exact absurd ((Option.some.inj H).trans hr_.out) (by decide)
        · replace c23 := Bool.eq_false_iff.mpr c23
          subst c23
          have H1 : (some false) = some r := by rw [if_neg (show ¬ (false = true) by decide)] at H; exact H
          clear H
          have H := H1
          clear H1
          exact absurd ((Option.some.inj H).trans hr_.out) (by decide)
      · rw [if_neg c20] at H
        have c20b0 : (t383 == t369) = false := beq_eq_false_iff_ne.mpr c20
        have c20b1 : (t383 != t369) = true := bne_iff_ne.mpr c20
        exact absurd ((Option.some.inj H).trans hr_.out) (by decide)
end Go.Proofs.Ytjnbilfhpdkcbaa.K
namespace Go.Proofs.Ytjnbilfhpdkcbaa.K
open Go.RowKit Go.Proofs.YtjnbilfhpdkcbaaW.PrintWords Go.Proofs.YtjnbilfhpdkcbaaW.PrintLast Go.Proofs.YtjnbilfhpdkcbaaW.PrintMore
attribute [local go_sem] max2_int min2_int max_two min_two max_three min_three max_four min_four
set_option linter.unusedVariables false
set_option linter.unusedSimpArgs false
def laws_FnExactMemSize.Pure : Prop := ∀ (a0 : List (S69)) (a1 : S38) (a2 : Int), (GL G69) a0 → G38 a1 → (fun n : Int => (Lit.int .i64 n).wf = true) a2 → ∃ k, laws_FnExactMemSize.f k a0 a1.f0 a1.f1 a1.f2 a1.f3 a1.f4 a2 = some true
end Go.Proofs.Ytjnbilfhpdkcbaa.K
namespace Go.Proofs.Ytjnbilfhpdkcbaa.Pure
open Go.RowKit Go.Proofs.Ytjnbilfhpdkcbaa.K Go.Proofs.YtjnbilfhpdkcbaaW.PrintWords Go.Proofs.YtjnbilfhpdkcbaaW.PrintLast Go.Proofs.YtjnbilfhpdkcbaaW.PrintMore
set_option linter.unusedVariables false
set_option linter.unusedSimpArgs false
theorem MemSize_eq {cs : Cs} (hf : fewF cs) {ws : List Int} {y t o : Int} {cards : List Bool} (hn : ws.length ≤ 1048576) (hc : cards.length ≤ 1048576) (a : Int) :
    ∃ s, (∀ k, 4000000 ≤ k → impl_MemSize.f k cs ws y t o cards a = some s) ∧ ∀ k, 4000000 ≤ k → spec_MemSize.f k cs ws y t o cards a = some s := by
  obtain ⟨r, h1, h2, h3⟩ := open_eq (cs := cs) hf (ws := ws) (y := y) (t := t) (o := o) (cards := cards) hn hc
  cases r with
  | none => exact ⟨0, fun k hk => by unfold impl_MemSize.f; rw [h1 k hk]; rfl, fun k hk => by unfold spec_MemSize.f; rw [h2 k hk]; rfl⟩
  | some m =>
    obtain ⟨W, hb, hw, hm, hk⟩ := h3 m rfl
    have n0 := hb.n0; have n1 := hb.n1; have y0 := hb.y0; have y1 := hb.y1
    have hh := has_eq hw m (by rw [hm]) a
    have hi := is_eq hb hw hk a
    by_cases c : a - 1 ∈ W
    · obtain ⟨cc, hd, cnt, hcc, h0, hhd, hcn, hcn8, hsz, hco, hfi, hhe, hl21, _⟩ := thing_facts hb hw m hm c
      rw [show a - 1 + 1 = a by omega] at hco hfi
      refine ⟨hd + cnt, fun k hk2 => ?_, fun k hk2 => ?_⟩
      · unfold impl_MemSize.f
        rw [h1 k hk2, Option.bind_some]
        show ((memory_has.f k m a).bind fun b => if b = true then thing_size.f m a else some 0) = _
        rw [hh k (by omega), Option.bind_some, decide_eq_true c, if_pos rfl]
        unfold thing_size.f
        rw [hfi, Option.bind_some, hco, Option.bind_some, show a - 1 + hd - (a - 1) + cnt = hd + cnt by omega, wrap64_of (by omega) (by omega)]
      · unfold spec_MemSize.f
        rw [h2 k hk2, Option.bind_some]
        simp only [Option.isSome_some, if_true]
        rw [hi k hk2, Option.bind_some, decide_eq_true c, if_pos rfl, wrap64_of (n := a - 1) (by omega) (by omega), hl21 k (by omega)]; rfl
    · refine ⟨0, fun k hk2 => ?_, fun k hk2 => ?_⟩
      · unfold impl_MemSize.f
        rw [h1 k hk2, Option.bind_some]
        show ((memory_has.f k m a).bind fun b => if b = true then thing_size.f m a else some 0) = _
        rw [hh k (by omega), Option.bind_some, decide_eq_false c]; rfl
      · unfold spec_MemSize.f
        rw [h2 k hk2, Option.bind_some]
        simp only [Option.isSome_some, if_true]
        rw [hi k hk2, Option.bind_some, decide_eq_false c]; rfl
theorem FnExactMemSize : laws_FnExactMemSize.Pure := by
  intro l M a hl hM _
  refine Ev.rounds ?_
  simp only [laws_FnExactMemSize.f]
  refine small_ev l M hl hM (fun q1 q2 q3 q4 => ?_)
  obtain ⟨s, h1, h2⟩ := MemSize_eq (cs := toCs l) (fewF_of q2) (ws := M.f0) (y := M.f1) (t := M.f2) (o := M.f3) (cards := M.f4) q3 q4 a
  refine (toClassS_ev l q2 q1).bind ?_
  refine (toMem_ev M q3 q4).bind ?_
  refine (ev_from 4000000 h2).bind ?_
  refine (toClassS_ev l q2 q1).bind ?_
  refine (toMem_ev M q3 q4).bind ?_
  refine (ev_from 4000000 h1).bind ?_
  refine evp rfl ?_
  refine (toClassS_ev l q2 q1).bind ?_
  refine (eqClassS_ev l q2 q1).bind ?_
  refine evp rfl ?_
  refine (toMem_ev M q3 q4).bind ?_
  refine (eqMem_self M q3 q4).bind ?_
  exact evp rfl (Ev.now _)
end Go.Proofs.Ytjnbilfhpdkcbaa.Pure
