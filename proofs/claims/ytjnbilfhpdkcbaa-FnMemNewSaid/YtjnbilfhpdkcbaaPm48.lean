import Derived.Test.YtjnbilfhpdkcbaaPm24
import Derived.Test.YtjnbilfhpdkcbaaPm45
import Derived.Test.YtjnbilfhpdkcbaaPm46
import Derived.Test.YtjnbilfhpdkcbaaPm47
import Derived.Test.YtjnbilfhpdkcbaaPm27
import Derived.Test.YtjnbilfhpdkcbaaPm33
import Derived.Test.YtjnbilfhpdkcbaaPm28
import Derived.Test.YtjnbilfhpdkcbaaPm25
import Derived.Test.YtjnbilfhpdkcbaaPm26
import Derived.Test.YtjnbilfhpdkcbaaPm35
namespace Go.Proofs.Ytjnbilfhpdkcbaa.K
open Go.RowKit Go.Proofs.YtjnbilfhpdkcbaaW.PrintWords Go.Proofs.YtjnbilfhpdkcbaaW.PrintLast Go.Proofs.YtjnbilfhpdkcbaaW.PrintMore
attribute [local go_sem] max2_int min2_int max_two min_two max_three min_three max_four min_four
set_option linter.unusedVariables false
set_option linter.unusedSimpArgs false
def laws_FnMemNew.j0 : Nat → Int → Int → Bool → List Int → Int → Int → Int → List Bool → Option (Bool)
  | 0, _, _, _, _, _, _, _, _ => none
  | k + 1, x3, x4, x29, x523000, x523001, x523002, x523003, x523004 => if x29 = true then ((spec_MemNew.f x3 x4).bind fun bt533 => ((laws_leMem.f k x523000 x523001 x523002 x523003 x523004 bt533.1 bt533.2.1 bt533.2.2.1 bt533.2.2.2.1 bt533.2.2.2.2).bind fun t542 => (some t542))) else ((some (([(⟨(-1), ([] : List Int)⟩ : S32), (⟨0, (([1] : List Int))⟩ : S32)] : List (S32)) : List (S32))).bind fun y546 => ((impl_MemOk.f k y546 x523000 x523001 x523002 x523003 x523004).bind fun t549 => (if t549 = true then (if (x523000.length : Int) = (wrap64 (x3 + x4)) then (if x523001 = x3 then (if x523002 = 0 then (if x523003 = x3 then ((impl_MemWalk.f k y546 x523000 x523001 x523002 x523003 x523004).bind fun t550 => (some ((t550.length : Int) == 0))) else (some false)) else (some false)) else (some false)) else (some false)) else (some false))))
def laws_FnMemNew.f (k : Nat) (l0 : List Int) : Option (Bool) := if (l0.length : Int) > 1048576 then (some true) else ((spec_DrawMemNew.f k l0).bind fun bt511 => ((impl_MemNew.f bt511.1 bt511.2).bind fun bt513 => ((spec_MemNew.f bt511.1 bt511.2).bind fun bt523 => ((laws_leMem.f k bt513.1 bt513.2.1 bt513.2.2.1 bt513.2.2.2.1 bt513.2.2.2.2 bt523.1 bt523.2.1 bt523.2.2.1 bt523.2.2.2.1 bt523.2.2.2.2).bind fun t532 => (if t532 = true then (laws_FnMemNew.j0 k bt511.1 bt511.2 ((bt513.1.length : Int) == 0) bt513.1 bt513.2.1 bt513.2.2.1 bt513.2.2.2.1 bt513.2.2.2.2) else (laws_FnMemNew.j0 k bt511.1 bt511.2 true bt513.1 bt513.2.1 bt513.2.2.1 bt513.2.2.2.1 bt513.2.2.2.2))))))
def laws_FnMemNew.T5 : Bool × List (List Nat × List Nat) := (true, [([], []), ([], []), ([], []), ([1, 2], [1, 2]), ([0, 3, 3], [0, 3]), ([4], [4]), ([5, 4], [5]), ([6], [6]), ([7, 6], [6, 7]), ([8, 6], [6, 8]), ([9, 6], [6, 9]), ([6, 10], [6, 10])])
def laws_FnMemNew.B5 : List Nat := [0, 0, 0, 6, 15, 31, 63, 127, 255, 511, 1023, 2047]
theorem laws_FnMemNew.tab5 : rtab .any (opsOf Try.f3 5) = laws_FnMemNew.T5 := by kernel_rfl
theorem laws_FnMemNew.bits5 : waitsOk laws_FnMemNew.T5.2 laws_FnMemNew.B5 = true := by kernel_rfl
set_option maxHeartbeats 8000000 in
set_option maxRecDepth 100000 in
theorem laws_FnMemNew.calls (k : Nat) (A0 : Option Addr) (c0 : Nat) (l0 : List Int) (r : Bool) (w : World) (hr_ : Aside0 (r = true)) (hr0 : Kd.C (Kd.int .u8) w A0 l0.length l0) (hc0 : l0.length ≤ c0) (h : laws_FnMemNew.f k l0 = some r) :
    Calls Try.prog 3 #[.slice A0 l0.length c0] w fun e w' => e = .returned (.bool r) ∧ Below w.heap.size w w' := by
  have hu28 := Try.underlying28
  have hu32 := Try.underlying32
  have HR0 := Aside0.mk hr0
  have HC0 := Aside0.mk hc0
  clear hr0 hc0
  have HB := Aside0.mk (Below.refl w.heap.size w)
  have H : (if (l0.length : Int) > 1048576 then (some true) else ((spec_DrawMemNew.f k l0).bind fun bt511 => ((impl_MemNew.f bt511.1 bt511.2).bind fun bt513 => ((spec_MemNew.f bt511.1 bt511.2).bind fun bt523 => ((laws_leMem.f k bt513.1 bt513.2.1 bt513.2.2.1 bt513.2.2.2.1 bt513.2.2.2.2 bt523.1 bt523.2.1 bt523.2.2.1 bt523.2.2.2.1 bt523.2.2.2.2).bind fun t532 => (if t532 = true then (laws_FnMemNew.j0 k bt511.1 bt511.2 ((bt513.1.length : Int) == 0) bt513.1 bt513.2.1 bt513.2.2.1 bt513.2.2.2.1 bt513.2.2.2.2) else (laws_FnMemNew.j0 k bt511.1 bt511.2 true bt513.1 bt513.2.1 bt513.2.2.1 bt513.2.2.2.1 bt513.2.2.2.2))))))) = some r := h
  clear h
  by_cases c2 : (l0.length : Int) > 1048576
  · rw [if_pos c2] at H
    have c2b0 : decide (1048576 < (l0.length : Int)) = true := decide_eq_true c2
    have c2b1 : decide (1048576 < l0.length) = true := decide_eq_true (by omega)
    clear c2
    obtain rfl := Option.some.inj H
    go_enter Try.func3, Try.ntmps3
    go_wp2
    go_ret
    exact ⟨by first | rfl | (simp [errW_none, errW_some] <;> rfl) | (simp [*, errW_none, errW_some] <;> rfl), by repeat (first | (with_reducible first | exact HB.out | apply below_alloc | apply pw_below_drewN | apply below_drew1) | exact HB.out)⟩
  · rw [if_neg c2] at H
    have c2b0 : decide (1048576 < (l0.length : Int)) = false := decide_eq_false c2
    have c2b1 : decide (1048576 < l0.length) = false := decide_eq_false (by omega)
    clear c2
    replace H := Option.bind_eq_some_iff.mp H
    obtain ⟨⟨t511, t512⟩, A30, H⟩ := H
    replace H : ((impl_MemNew.f t511 t512).bind fun bt513 => ((spec_MemNew.f t511 t512).bind fun bt523 => ((laws_leMem.f k bt513.1 bt513.2.1 bt513.2.2.1 bt513.2.2.2.1 bt513.2.2.2.2 bt523.1 bt523.2.1 bt523.2.2.1 bt523.2.2.2.1 bt523.2.2.2.2).bind fun t532 => (if t532 = true then (laws_FnMemNew.j0 k t511 t512 ((bt513.1.length : Int) == 0) bt513.1 bt513.2.1 bt513.2.2.1 bt513.2.2.2.1 bt513.2.2.2.2) else (laws_FnMemNew.j0 k t511 t512 true bt513.1 bt513.2.1 bt513.2.2.1 bt513.2.2.2.1 bt513.2.2.2.2))))) = some r := H
    have A3 := Aside0.mk A30
    clear A30
    replace H := Option.bind_eq_some_iff.mp H
    obtain ⟨⟨t513, t516, t517, t518, t519⟩, A40, H⟩ := H
    replace H : ((spec_MemNew.f t511 t512).bind fun bt523 => ((laws_leMem.f k t513 t516 t517 t518 t519 bt523.1 bt523.2.1 bt523.2.2.1 bt523.2.2.2.1 bt523.2.2.2.2).bind fun t532 => (if t532 = true then (laws_FnMemNew.j0 k t511 t512 ((t513.length : Int) == 0) t513 t516 t517 t518 t519) else (laws_FnMemNew.j0 k t511 t512 true t513 t516 t517 t518 t519)))) = some r := H
    have A4 := Aside0.mk A40
    clear A40
    have HC5 := Aside0.mk H
    clear H
    go_enter Try.func3, Try.ntmps3
    go_upto_region 5 with (first | ((with_reducible refine gate_callee (f := 9) rfl ?_); refine goesL_ (some 12) rfl rfl Try.func9 (by kernel_rfl) rfl #[.slice A0 l0.length c0] rfl (by (try simp only [List.map_toArray, List.map_cons, List.map_nil]); first | done | rfl | (simp only [List.length_drop, List.length_take]; rfl)) ?_; (with_reducible refine (spec_DrawMemNew.calls k _ _ l0 t511 t512 _ ?side1 ?side2 A3.out).mono ?_); (case side1 => repeat (first | exact HR0.out | (with_reducible refine Kd.C_alloc ?_ _) | (with_reducible refine Kd.C_drewN ?_ _) | (with_reducible refine Kd.C_drew ?_))); (case side2 => exact HC0.out); rintro e w6 ⟨rfl, hb⟩; refine ⟨_, rfl, ?_⟩; have n0_ := Aside0.mk (below_step (by repeat (first | (with_reducible first | exact HB.out | apply below_alloc | apply pw_below_drewN | apply below_drew1) | exact HB.out)) hb); clear HB; have HB := n0_; clear n0_; (try clear hb); (try clear hb2); (try clear hk); (try clear hi)) | ((with_reducible refine gate_callee (f := 10) rfl ?_); refine goesL_ (some 17) rfl rfl Try.func10 (by kernel_rfl) rfl #[.int .i64 t511, .int .i64 t512] rfl (by (try simp only [List.map_toArray, List.map_cons, List.map_nil]); first | done | rfl | (simp only [List.length_drop, List.length_take]; rfl)) ?_; (with_reducible refine (impl_MemNew.calls t511 t512 t513 t516 t517 t518 t519 _ A4.out).mono ?_); rintro e w7 ⟨v514, v520, rfl, ho0, ho1, hb⟩; refine ⟨_, rfl, ?_⟩; have n0_ := Aside0.mk (Kd.R_lower ho0 (below_size (by repeat (first | (with_reducible first | exact HB.out | apply below_alloc | apply pw_below_drewN | apply below_drew1) | exact HB.out)))); have n1_ := Aside0.mk (Kd.R_lower ho1 (below_size (by repeat (first | (with_reducible first | exact HB.out | apply below_alloc | apply pw_below_drewN | apply below_drew1) | exact HB.out)))); have n2_ := Aside0.mk (below_step (by repeat (first | (with_reducible first | exact HB.out | apply below_alloc | apply pw_below_drewN | apply below_drew1) | exact HB.out)) hb); clear HB; have HO515 := n0_; have HO521 := n1_; have HB := n2_; clear n0_ n1_ n2_; (try clear hb); (try clear hb2); (try clear hk); (try clear hi); (try clear ho0); (try clear ho1)) | ((with_reducible refine gate_dst (N := 5) rfl ?_); (try (refine gate_guard (by rfl) ?_; dsimp only)); refine box_event ?hg (N := 5) ?hd (cs := #[.slice none 0 0, .int .i64 0, .int .i64 0, .int .i64 0, .slice none 0 0]) (t := 28) ?hr ?_; (case hd => rfl); (case hg => rfl); (case hr => first | (go_simp; done) | (go_simp; rfl)); intro gb522 hg w8 hbox hb; have n0_ := Aside0.mk (Kd.R_below (by (with_reducible repeat (first | apply Kd.R_alloc | apply Kd.R_drewN | apply Kd.R_drew)); exact HO515.out) hb); have n1_ := Aside0.mk (Kd.R_below (by (with_reducible repeat (first | apply Kd.R_alloc | apply Kd.R_drewN | apply Kd.R_drew)); exact HO521.out) hb); have n2_ := Aside0.mk (below_step (by repeat (first | (with_reducible first | exact HB.out | apply below_alloc | apply pw_below_drewN | apply below_drew1) | exact HB.out)) hb); have n3_ := Aside0.mk (hbox); have n4_ := Aside0.mk ((by rw [hg]; exact (below_size (by repeat (first | (with_reducible first | exact HB.out | apply below_alloc | apply pw_below_drewN | apply below_drew1) | exact HB.out))) : w.heap.size ≤ gb522)); have n5_ := Aside0.mk ((by rw [hg]; exact (below_size (by repeat (first | (with_reducible first | exact HB.out | apply below_alloc | apply pw_below_drewN | apply below_drew1) | exact HB.out))) : w.heap.size ≤ gb522)); clear HO515; clear HO521; clear HB; have HO515 := n0_; have HO521 := n1_; have HB := n2_; have BK522 := n3_; have GW522 := n4_; have GE522 := n5_; clear n0_ n1_ n2_ n3_ n4_ n5_; clear hb hbox hg; obtain ⟨Ao9, co9, eo9⟩ := Kd.R_slice HO515.out; subst eo9; have hcz10_0 : w8.cell? ⟨gb522, 0, none⟩ = some (.slice none 0 0) := (blk_cell BK522.out 0).trans rfl; have hcz10_1 : w8.cell? ⟨gb522, 1, none⟩ = some (.int .i64 0) := (blk_cell BK522.out 1).trans rfl; have hcz10_2 : w8.cell? ⟨gb522, 2, none⟩ = some (.int .i64 0) := (blk_cell BK522.out 2).trans rfl; have hcz10_3 : w8.cell? ⟨gb522, 3, none⟩ = some (.int .i64 0) := (blk_cell BK522.out 3).trans rfl; have hcz10_4 : w8.cell? ⟨gb522, 4, none⟩ = some (.slice none 0 0) := (blk_cell BK522.out 4).trans rfl; have hfz10_0 := blk_frozen BK522.out 0; have hfz10_1 := blk_frozen BK522.out 1; have hfz10_2 := blk_frozen BK522.out 2; have hfz10_3 := blk_frozen BK522.out 3; have hfz10_4 := blk_frozen BK522.out 4; obtain ⟨Ao11, co11, eo11⟩ := Kd.R_slice HO521.out; subst eo11))
    (try simp only [Act.put, List.setIfInBounds_toArray, List.set_cons_zero, List.set_cons_succ])
    go_cut [29] (fun v29 wc => ∃ (kq : Nat) (x29_4 : Bool), v29 = .bool x29_4 ∧ Aside0 (laws_FnMemNew.j0 kq t511 t512 x29_4 t513 t516 t517 t518 t519 = some r) ∧ Aside0 (kq ≤ k) ∧ Aside0 (Kd.R (Kd.int .i64) 3 wc w.heap.size (fun _ => True) (.slice Ao9 t513.length co9) t513) ∧ Aside0 (Kd.R Kd.bool 4 wc w.heap.size (fun _ => True) (.slice Ao11 t519.length co11) t519) ∧ Aside0 (wc.heap[gb522]? = some (.cells #[(.slice Ao9 t513.length co9), .int .i64 t516, .int .i64 t517, .int .i64 t518, (.slice Ao11 t519.length co11)] 28 (0, 0))) ∧ Aside0 (Below w.heap.size w wc))
    case first =>
      have H := HC5.out
      clear HC5
      replace H := Option.bind_eq_some_iff.mp H
      obtain ⟨⟨t523, t526, t527, t528, t529⟩, A120, H⟩ := H
      replace H : ((laws_leMem.f k t513 t516 t517 t518 t519 t523 t526 t527 t528 t529).bind fun t532 => (if t532 = true then (laws_FnMemNew.j0 k t511 t512 ((t513.length : Int) == 0) t513 t516 t517 t518 t519) else (laws_FnMemNew.j0 k t511 t512 true t513 t516 t517 t518 t519))) = some r := H
      have A12 := Aside0.mk A120
      clear A120
      replace H := Option.bind_eq_some_iff.mp H
      obtain ⟨t532, A130, H⟩ := H
      replace H : (if t532 = true then (laws_FnMemNew.j0 k t511 t512 ((t513.length : Int) == 0) t513 t516 t517 t518 t519) else (laws_FnMemNew.j0 k t511 t512 true t513 t516 t517 t518 t519)) = some r := H
      have A13 := Aside0.mk A130
      clear A130
      by_cases c14 : t532 = true
      · subst c14
        have H1 : (laws_FnMemNew.j0 k t511 t512 ((t513.length : Int) == 0) t513 t516 t517 t518 t519) = some r := by rw [if_pos rfl] at H; exact H
        clear H
        have H := H1
        clear H1
        have H' := Aside0.mk H
        clear H
        try go_wp2
        have n0_ : Aside0 (Kd.R (Kd.int .i64) 3 (((((w8.setCell ⟨gb522, 0, none⟩ (.slice Ao9 t513.length co9)).setCell ⟨gb522, 1, none⟩ (.int .i64 t516)).setCell ⟨gb522, 2, none⟩ (.int .i64 t517)).setCell ⟨gb522, 3, none⟩ (.int .i64 t518)).setCell ⟨gb522, 4, none⟩ (.slice Ao11 t519.length co11)) w.heap.size (fun _ => True) (.slice Ao9 t513.length co9) t513) := ⟨by (with_reducible repeat (first | apply Kd.R_alloc | apply Kd.R_drewN | apply Kd.R_drew)); exact Kd.R_mono (Kd.R_far (p := ⟨gb522, 4, none⟩) (Kd.R_far (p := ⟨gb522, 3, none⟩) (Kd.R_far (p := ⟨gb522, 2, none⟩) (Kd.R_far (p := ⟨gb522, 1, none⟩) (Kd.R_far (p := ⟨gb522, 0, none⟩) (Kd.R_types HO515.out BK522.out (by decide)) (fun _ hk => hk.2) (.slice Ao9 t513.length co9)) (fun _ hk => hk.2) (.int .i64 t516)) (fun _ hk => hk.2) (.int .i64 t517)) (fun _ hk => hk.2) (.int .i64 t518)) (fun _ hk => hk.2) (.slice Ao11 t519.length co11)) (fun _ hk => trivial)⟩
        have n1_ : Aside0 (Kd.R Kd.bool 4 (((((w8.setCell ⟨gb522, 0, none⟩ (.slice Ao9 t513.length co9)).setCell ⟨gb522, 1, none⟩ (.int .i64 t516)).setCell ⟨gb522, 2, none⟩ (.int .i64 t517)).setCell ⟨gb522, 3, none⟩ (.int .i64 t518)).setCell ⟨gb522, 4, none⟩ (.slice Ao11 t519.length co11)) w.heap.size (fun _ => True) (.slice Ao11 t519.length co11) t519) := ⟨by (with_reducible repeat (first | apply Kd.R_alloc | apply Kd.R_drewN | apply Kd.R_drew)); exact Kd.R_mono (Kd.R_far (p := ⟨gb522, 4, none⟩) (Kd.R_far (p := ⟨gb522, 3, none⟩) (Kd.R_far (p := ⟨gb522, 2, none⟩) (Kd.R_far (p := ⟨gb522, 1, none⟩) (Kd.R_far (p := ⟨gb522, 0, none⟩) (Kd.R_types HO521.out BK522.out (by decide)) (fun _ hk => hk.2) (.slice Ao9 t513.length co9)) (fun _ hk => hk.2) (.int .i64 t516)) (fun _ hk => hk.2) (.int .i64 t517)) (fun _ hk => hk.2) (.int .i64 t518)) (fun _ hk => hk.2) (.slice Ao11 t519.length co11)) (fun _ hk => trivial)⟩
        have n2_ : Aside0 ((((((w8.setCell ⟨gb522, 0, none⟩ (.slice Ao9 t513.length co9)).setCell ⟨gb522, 1, none⟩ (.int .i64 t516)).setCell ⟨gb522, 2, none⟩ (.int .i64 t517)).setCell ⟨gb522, 3, none⟩ (.int .i64 t518)).setCell ⟨gb522, 4, none⟩ (.slice Ao11 t519.length co11)).heap[gb522]? = some (.cells #[.slice Ao9 t513.length co9, .int .i64 t516, .int .i64 t517, .int .i64 t518, .slice Ao11 t519.length co11] 28 (0, 0))) := ⟨by (with_reducible repeat (first | refine blk_drewN ?_ _ | refine blk_drew ?_ | refine blk_alloc ?_ _)); refine blk_put (cs := #[.slice Ao9 t513.length co9, .int .i64 t516, .int .i64 t517, .int .i64 t518, .slice none 0 0]) ?_ 4 _ rfl; (with_reducible repeat (first | refine blk_drewN ?_ _ | refine blk_drew ?_ | refine blk_alloc ?_ _)); refine blk_put (cs := #[.slice Ao9 t513.length co9, .int .i64 t516, .int .i64 t517, .int .i64 0, .slice none 0 0]) ?_ 3 _ rfl; (with_reducible repeat (first | refine blk_drewN ?_ _ | refine blk_drew ?_ | refine blk_alloc ?_ _)); refine blk_put (cs := #[.slice Ao9 t513.length co9, .int .i64 t516, .int .i64 0, .int .i64 0, .slice none 0 0]) ?_ 2 _ rfl; (with_reducible repeat (first | refine blk_drewN ?_ _ | refine blk_drew ?_ | refine blk_alloc ?_ _)); refine blk_put (cs := #[.slice Ao9 t513.length co9, .int .i64 0, .int .i64 0, .int .i64 0, .slice none 0 0]) ?_ 1 _ rfl; (with_reducible repeat (first | refine blk_drewN ?_ _ | refine blk_drew ?_ | refine blk_alloc ?_ _)); refine blk_put (cs := #[.slice none 0 0, .int .i64 0, .int .i64 0, .int .i64 0, .slice none 0 0]) ?_ 0 _ rfl; (with_reducible repeat (first | refine blk_drewN ?_ _ | refine blk_drew ?_ | refine blk_alloc ?_ _)); exact BK522.out⟩
        have n3_ : Aside0 (Below w.heap.size w (((((w8.setCell ⟨gb522, 0, none⟩ (.slice Ao9 t513.length co9)).setCell ⟨gb522, 1, none⟩ (.int .i64 t516)).setCell ⟨gb522, 2, none⟩ (.int .i64 t517)).setCell ⟨gb522, 3, none⟩ (.int .i64 t518)).setCell ⟨gb522, 4, none⟩ (.slice Ao11 t519.length co11))) := ⟨by repeat (first | (with_reducible first | exact HB.out | apply below_alloc | apply pw_below_drewN | apply below_drew1 | refine below_set ?_ GE522.out) | exact HB.out)⟩
        (try clear HO515)
        (try clear HO521)
        (try clear BK522)
        (try clear HB)
        generalize (((((w8.setCell ⟨gb522, 0, none⟩ (.slice Ao9 t513.length co9)).setCell ⟨gb522, 1, none⟩ (.int .i64 t516)).setCell ⟨gb522, 2, none⟩ (.int .i64 t517)).setCell ⟨gb522, 3, none⟩ (.int .i64 t518)).setCell ⟨gb522, 4, none⟩ (.slice Ao11 t519.length co11)) = w15 at n0_ n1_ n2_ n3_ ⊢
        have HO515 := n0_
        have HO521 := n1_
        have BK522 := n2_
        have HB := n3_
        clear n0_ n1_ n2_ n3_
        have n0_ := Aside0.mk (Kd.R_drew HO515.out)
        have n1_ := Aside0.mk (Kd.R_drew HO521.out)
        have n2_ := Aside0.mk (blk_drew BK522.out)
        have n3_ := Aside0.mk (below_drew1 HB.out)
        clear HO515
        clear HO521
        clear BK522
        clear HB
        have HO515 := n0_
        have HO521 := n1_
        have BK522 := n2_
        have HB := n3_
        clear n0_ n1_ n2_ n3_
        refine start_ (n := 12) (S := fun w' => w'.cell? ⟨gb522, 0, none⟩ = some (.slice Ao9 t513.length co9) ∧ w'.cell? ⟨gb522, 1, none⟩ = some (.int .i64 t516) ∧ w'.cell? ⟨gb522, 2, none⟩ = some (.int .i64 t517) ∧ w'.cell? ⟨gb522, 3, none⟩ = some (.int .i64 t518) ∧ w'.cell? ⟨gb522, 4, none⟩ = some (.slice Ao11 t519.length co11)) (ds := []) #[false, false, false, false, false, false, false, false, false, false, false, false] (by kernel_rfl) rfl rfl ⟨(blk_cell BK522.out 0).trans rfl, (blk_cell BK522.out 1).trans rfl, (blk_cell BK522.out 2).trans rfl, (blk_cell BK522.out 3).trans rfl, (blk_cell BK522.out 4).trans rfl⟩ (fun hHeld => ?_); refine with_tabW laws_FnMemNew.tab5 laws_FnMemNew.bits5 (fun HT_ HW_ => ?_)
        generalize w15.drew = w16 at HO515 HO521 BK522 HB hHeld ⊢
        refine pS 1 19 (lA 12 2) ?_ (hc := (any_of HT_.out (by kernel_rfl)))
        refine pS 2 20 (lA 12 6) ?_ (hc := (any_of HT_.out (by kernel_rfl)))
        refine tS 0 18 (lA 12 7) rfl rfl (take_ofW HT_.out HW_.out (by kernel_rfl)) hHeld (by rintro w' ⟨s0, s1, s2, s3, s4⟩; go_simp; with_reducible rfl) ?_
        refine one_ (i := 3) (N := some 21) (lA 12 15) rfl rfl (one_of HT_.out (by kernel_rfl)) (by decide) (fun K hK => ?_)
        refine goes_ Try.func12 (by kernel_rfl) rfl #[.int .i64 t511, .int .i64 t512] (by rfl) rfl rfl (by (try simp only [List.map_toArray, List.map_cons, List.map_nil]); first | done | rfl | (simp only [List.length_drop, List.length_take]; rfl)) ?_
        with_reducible refine (spec_MemNew.calls t511 t512 t523 t526 t527 t528 t529 _ A12.out).mono ?_
        rintro e w17 ⟨v524, v530, rfl, ho0, ho1, hb⟩
        refine ⟨_, rfl, ?_⟩
        have n0_ := Aside0.mk (Kd.R_elder' (by (with_reducible repeat (first | apply Kd.R_alloc | apply Kd.R_drewN | apply Kd.R_drew)); exact HO515.out) (Kd.R_base ho0) hb)
        have n1_ := Aside0.mk (Kd.R_elder' (by (with_reducible repeat (first | apply Kd.R_alloc | apply Kd.R_drewN | apply Kd.R_drew)); exact HO521.out) (Kd.R_base ho1) hb)
        have n2_ := Aside0.mk (Kd.R_lower (Kd.R_new' ho0 (Kd.R_lt (by (with_reducible repeat (first | apply Kd.R_alloc | apply Kd.R_drewN | apply Kd.R_drew)); exact HO515.out))) (below_size (by repeat (first | (with_reducible first | exact HB.out | apply below_alloc | apply pw_below_drewN | apply below_drew1 | refine below_set ?_ GE522.out) | exact HB.out))))
        have n3_ := Aside0.mk (Kd.R_lower (Kd.R_new' ho1 (Kd.R_lt (by (with_reducible repeat (first | apply Kd.R_alloc | apply Kd.R_drewN | apply Kd.R_drew)); exact HO521.out))) (below_size (by repeat (first | (with_reducible first | exact HB.out | apply below_alloc | apply pw_below_drewN | apply below_drew1 | refine below_set ?_ GE522.out) | exact HB.out))))
        have n4_ := Aside0.mk (blk_below (g := gb522) (o := .cells #[.slice Ao9 t513.length co9, .int .i64 t516, .int .i64 t517, .int .i64 t518, .slice Ao11 t519.length co11] 28 (0, 0)) (by (with_reducible repeat (first | refine blk_drewN ?_ _ | refine blk_drew ?_ | refine blk_alloc ?_ _)); exact BK522.out) hb)
        have n5_ := Aside0.mk (below_step (by repeat (first | (with_reducible first | exact HB.out | apply below_alloc | apply pw_below_drewN | apply below_drew1 | refine below_set ?_ GE522.out) | exact HB.out)) hb)
        clear HO515
        clear HO521
        clear BK522
        clear HB
        have HO515 := n0_
        have HO521 := n1_
        have HO525 := n2_
        have HO531 := n3_
        have BK522 := n4_
        have HB := n5_
        clear n0_ n1_ n2_ n3_ n4_ n5_
        (try clear hb)
        (try clear hb2)
        (try clear hk)
        (try clear hi)
        (try clear ho0)
        (try clear ho1)
        obtain ⟨Ao18, co18, eo18⟩ := Kd.R_slice HO525.out
        (first | subst eo18 | (injection eo18 with f1_ f2_ f3_; have f4_ := f1_.symm; have f5_ := f3_.symm; clear f1_ f2_ f3_; subst f4_; subst f5_))
        obtain ⟨Ao19, co19, eo19⟩ := Kd.R_slice HO531.out
        (first | subst eo19 | (injection eo19 with f1_ f2_ f3_; have f4_ := f1_.symm; have f5_ := f3_.symm; clear f1_ f2_ f3_; subst f4_; subst f5_))
        refine hK.out _ _ ⟨(blk_cell BK522.out 0).trans rfl, (blk_cell BK522.out 1).trans rfl, (blk_cell BK522.out 2).trans rfl, (blk_cell BK522.out 3).trans rfl, (blk_cell BK522.out 4).trans rfl⟩ (fun hHeld => ?_)
        clear hK K
        refine norm_ (a' := ?_) ?_ ?_
        rotate_left
        · show Act.put _ (some 21) _ = _
          simp only [Act.put, lA1, lA2, lA3, i64_w, i32_w]
          rfl
        refine one_ (i := 4) (N := some 22) (lA 12 31) rfl rfl (one_of HT_.out (by kernel_rfl)) (by decide) (fun K hK => ?_)
        refine goes_ Try.func11 (by kernel_rfl) rfl #[.agg #[.slice Ao9 t513.length co9, .int .i64 t516, .int .i64 t517, .int .i64 t518, .slice Ao11 t519.length co11], .agg #[.slice Ao18 t523.length co18, .int .i64 t526, .int .i64 t527, .int .i64 t528, .slice Ao19 t529.length co19]] (by rfl) rfl rfl (by (try simp only [List.map_toArray, List.map_cons, List.map_nil]); first | done | rfl | (simp only [List.length_drop, List.length_take]; rfl)) ?_
        with_reducible refine (laws_leMem.calls k _ _ t513 t516 t517 t518 _ _ t519 _ _ t523 t526 t527 t528 _ _ t529 true _ ?side1 ?side2 ?side3 ?side4 ?side5 ?side6 ?side7 ?side8 A13.out).mono ?_
        (case side1 => repeat (first | exact (Kd.R_reads' HO515.out).2.2 | (with_reducible refine Kd.C_alloc ?_ _) | (with_reducible refine Kd.C_drewN ?_ _) | (with_reducible refine Kd.C_drew ?_)))
        (case side2 => exact (Kd.R_reads' HO515.out).2.1)
        (case side3 => repeat (first | exact (Kd.R_reads' HO521.out).2.2 | (with_reducible refine Kd.C_alloc ?_ _) | (with_reducible refine Kd.C_drewN ?_ _) | (with_reducible refine Kd.C_drew ?_)))
        (case side4 => exact (Kd.R_reads' HO521.out).2.1)
        (case side5 => repeat (first | exact (Kd.R_reads' HO525.out).2.2 | (with_reducible refine Kd.C_alloc ?_ _) | (with_reducible refine Kd.C_drewN ?_ _) | (with_reducible refine Kd.C_drew ?_)))
        (case side6 => exact (Kd.R_reads' HO525.out).2.1)
        (case side7 => repeat (first | exact (Kd.R_reads' HO531.out).2.2 | (with_reducible refine Kd.C_alloc ?_ _) | (with_reducible refine Kd.C_drewN ?_ _) | (with_reducible refine Kd.C_drew ?_)))
        (case side8 => exact (Kd.R_reads' HO531.out).2.1)
        rintro e w20 ⟨rfl, hb⟩
        refine ⟨_, rfl, ?_⟩
        have n0_ := Aside0.mk (Kd.R_below (by (with_reducible repeat (first | apply Kd.R_alloc | apply Kd.R_drewN | apply Kd.R_drew)); exact HO515.out) hb)
        have n1_ := Aside0.mk (Kd.R_below (by (with_reducible repeat (first | apply Kd.R_alloc | apply Kd.R_drewN | apply Kd.R_drew)); exact HO521.out) hb)
        have n2_ := Aside0.mk (Kd.R_below (by (with_reducible repeat (first | apply Kd.R_alloc | apply Kd.R_drewN | apply Kd.R_drew)); exact HO525.out) hb)
        have n3_ := Aside0.mk (Kd.R_below (by (with_reducible repeat (first | apply Kd.R_alloc | apply Kd.R_drewN | apply Kd.R_drew)); exact HO531.out) hb)
        have n4_ := Aside0.mk (blk_below (g := gb522) (o := .cells #[.slice Ao9 t513.length co9, .int .i64 t516, .int .i64 t517, .int .i64 t518, .slice Ao11 t519.length co11] 28 (0, 0)) (by (with_reducible repeat (first | refine blk_drewN ?_ _ | refine blk_drew ?_ | refine blk_alloc ?_ _)); exact BK522.out) hb)
        have n5_ := Aside0.mk (below_step (by repeat (first | (with_reducible first | exact HB.out | apply below_alloc | apply pw_below_drewN | apply below_drew1 | refine below_set ?_ GE522.out) | exact HB.out)) hb)
        clear HO515
        clear HO521
        clear HO525
        clear HO531
        clear BK522
        clear HB
        have HO515 := n0_
        have HO521 := n1_
        have HO525 := n2_
        have HO531 := n3_
        have BK522 := n4_
        have HB := n5_
        clear n0_ n1_ n2_ n3_ n4_ n5_
        (try clear hb)
        (try clear hb2)
        (try clear hk)
        (try clear hi)
        refine hK.out _ _ ⟨(blk_cell BK522.out 0).trans rfl, (blk_cell BK522.out 1).trans rfl, (blk_cell BK522.out 2).trans rfl, (blk_cell BK522.out 3).trans rfl, (blk_cell BK522.out 4).trans rfl⟩ (fun hHeld => ?_)
        clear hK K
        refine norm_ (a' := ?_) ?_ ?_
        rotate_left
        · show Act.put _ (some 22) _ = _
          simp only [Act.put, lA1, lA2, lA3, i64_w, i32_w]
          rfl
        refine pS 5 23 (lA 12 63) ?_ (hc := (any_of HT_.out (by kernel_rfl)))
        refine pS 6 24 (lA 12 127) ?_ (hc := (any_of HT_.out (by kernel_rfl)))
        refine pS 7 25 (lA 12 255) ?_ (hc := (any_of HT_.out (by kernel_rfl)))
        refine tS 8 26 (lA 12 511) rfl rfl (take_ofW HT_.out HW_.out (by kernel_rfl)) hHeld (by rintro w' ⟨s0, s1, s2, s3, s4⟩; go_simp; with_reducible rfl) ?_
        refine pS 9 27 (lA 12 1023) ?_ (hc := (any_of HT_.out (by kernel_rfl)))
        refine pS 10 28 (lA 12 2047) ?_ (hc := (any_of HT_.out (by kernel_rfl)))
        refine pS 11 29 (lA 12 4095) ?_ (hc := (any_of HT_.out (by kernel_rfl)))
        refine done_ (done_of HT_.out (by kernel_rfl)) ?_
        try go_wp2
        go_meet
        case rel => exact ⟨_, (((t513.length : Int) == 0)), (by first | rfl | (simp; done) | (simp [*]; done)), H', ⟨by first | omega | exact Nat.le_refl _⟩, ⟨by (with_reducible repeat (first | apply Kd.R_alloc | apply Kd.R_drewN | apply Kd.R_drew)); exact Kd.R_mono HO515.out (fun _ hk => trivial)⟩, ⟨by (with_reducible repeat (first | apply Kd.R_alloc | apply Kd.R_drewN | apply Kd.R_drew)); exact Kd.R_mono HO521.out (fun _ hk => trivial)⟩, ⟨by (with_reducible repeat (first | refine blk_drewN ?_ _ | refine blk_drew ?_ | refine blk_alloc ?_ _)); exact BK522.out⟩, ⟨by repeat (first | (with_reducible first | exact HB.out | apply below_alloc | apply pw_below_drewN | apply below_drew1 | refine below_set ?_ GE522.out) | exact HB.out)⟩⟩
      · replace c14 := Bool.eq_false_iff.mpr c14
        subst c14
        have H1 : (laws_FnMemNew.j0 k t511 t512 true t513 t516 t517 t518 t519) = some r := by rw [if_neg (show ¬ (false = true) by decide)] at H; exact H
        clear H
        have H := H1
        clear H1
        have H' := Aside0.mk H
        clear H
        try go_wp2
        have n0_ : Aside0 (Kd.R (Kd.int .i64) 3 (((((w8.setCell ⟨gb522, 0, none⟩ (.slice Ao9 t513.length co9)).setCell ⟨gb522, 1, none⟩ (.int .i64 t516)).setCell ⟨gb522, 2, none⟩ (.int .i64 t517)).setCell ⟨gb522, 3, none⟩ (.int .i64 t518)).setCell ⟨gb522, 4, none⟩ (.slice Ao11 t519.length co11)) w.heap.size (fun _ => True) (.slice Ao9 t513.length co9) t513) := ⟨by (with_reducible repeat (first | apply Kd.R_alloc | apply Kd.R_drewN | apply Kd.R_drew)); exact Kd.R_mono (Kd.R_far (p := ⟨gb522, 4, none⟩) (Kd.R_far (p := ⟨gb522, 3, none⟩) (Kd.R_far (p := ⟨gb522, 2, none⟩) (Kd.R_far (p := ⟨gb522, 1, none⟩) (Kd.R_far (p := ⟨gb522, 0, none⟩) (Kd.R_types HO515.out BK522.out (by decide)) (fun _ hk => hk.2) (.slice Ao9 t513.length co9)) (fun _ hk => hk.2) (.int .i64 t516)) (fun _ hk => hk.2) (.int .i64 t517)) (fun _ hk => hk.2) (.int .i64 t518)) (fun _ hk => hk.2) (.slice Ao11 t519.length co11)) (fun _ hk => trivial)⟩
        have n1_ : Aside0 (Kd.R Kd.bool 4 (((((w8.setCell ⟨gb522, 0, none⟩ (.slice Ao9 t513.length co9)).setCell ⟨gb522, 1, none⟩ (.int .i64 t516)).setCell ⟨gb522, 2, none⟩ (.int .i64 t517)).setCell ⟨gb522, 3, none⟩ (.int .i64 t518)).setCell ⟨gb522, 4, none⟩ (.slice Ao11 t519.length co11)) w.heap.size (fun _ => True) (.slice Ao11 t519.length co11) t519) := ⟨by (with_reducible repeat (first | apply Kd.R_alloc | apply Kd.R_drewN | apply Kd.R_drew)); exact Kd.R_mono (Kd.R_far (p := ⟨gb522, 4, none⟩) (Kd.R_far (p := ⟨gb522, 3, none⟩) (Kd.R_far (p := ⟨gb522, 2, none⟩) (Kd.R_far (p := ⟨gb522, 1, none⟩) (Kd.R_far (p := ⟨gb522, 0, none⟩) (Kd.R_types HO521.out BK522.out (by decide)) (fun _ hk => hk.2) (.slice Ao9 t513.length co9)) (fun _ hk => hk.2) (.int .i64 t516)) (fun _ hk => hk.2) (.int .i64 t517)) (fun _ hk => hk.2) (.int .i64 t518)) (fun _ hk => hk.2) (.slice Ao11 t519.length co11)) (fun _ hk => trivial)⟩
        have n2_ : Aside0 ((((((w8.setCell ⟨gb522, 0, none⟩ (.slice Ao9 t513.length co9)).setCell ⟨gb522, 1, none⟩ (.int .i64 t516)).setCell ⟨gb522, 2, none⟩ (.int .i64 t517)).setCell ⟨gb522, 3, none⟩ (.int .i64 t518)).setCell ⟨gb522, 4, none⟩ (.slice Ao11 t519.length co11)).heap[gb522]? = some (.cells #[.slice Ao9 t513.length co9, .int .i64 t516, .int .i64 t517, .int .i64 t518, .slice Ao11 t519.length co11] 28 (0, 0))) := ⟨by (with_reducible repeat (first | refine blk_drewN ?_ _ | refine blk_drew ?_ | refine blk_alloc ?_ _)); refine blk_put (cs := #[.slice Ao9 t513.length co9, .int .i64 t516, .int .i64 t517, .int .i64 t518, .slice none 0 0]) ?_ 4 _ rfl; (with_reducible repeat (first | refine blk_drewN ?_ _ | refine blk_drew ?_ | refine blk_alloc ?_ _)); refine blk_put (cs := #[.slice Ao9 t513.length co9, .int .i64 t516, .int .i64 t517, .int .i64 0, .slice none 0 0]) ?_ 3 _ rfl; (with_reducible repeat (first | refine blk_drewN ?_ _ | refine blk_drew ?_ | refine blk_alloc ?_ _)); refine blk_put (cs := #[.slice Ao9 t513.length co9, .int .i64 t516, .int .i64 0, .int .i64 0, .slice none 0 0]) ?_ 2 _ rfl; (with_reducible repeat (first | refine blk_drewN ?_ _ | refine blk_drew ?_ | refine blk_alloc ?_ _)); refine blk_put (cs := #[.slice Ao9 t513.length co9, .int .i64 0, .int .i64 0, .int .i64 0, .slice none 0 0]) ?_ 1 _ rfl; (with_reducible repeat (first | refine blk_drewN ?_ _ | refine blk_drew ?_ | refine blk_alloc ?_ _)); refine blk_put (cs := #[.slice none 0 0, .int .i64 0, .int .i64 0, .int .i64 0, .slice none 0 0]) ?_ 0 _ rfl; (with_reducible repeat (first | refine blk_drewN ?_ _ | refine blk_drew ?_ | refine blk_alloc ?_ _)); exact BK522.out⟩
        have n3_ : Aside0 (Below w.heap.size w (((((w8.setCell ⟨gb522, 0, none⟩ (.slice Ao9 t513.length co9)).setCell ⟨gb522, 1, none⟩ (.int .i64 t516)).setCell ⟨gb522, 2, none⟩ (.int .i64 t517)).setCell ⟨gb522, 3, none⟩ (.int .i64 t518)).setCell ⟨gb522, 4, none⟩ (.slice Ao11 t519.length co11))) := ⟨by repeat (first | (with_reducible first | exact HB.out | apply below_alloc | apply pw_below_drewN | apply below_drew1 | refine below_set ?_ GE522.out) | exact HB.out)⟩
        (try clear HO515)
        (try clear HO521)
        (try clear BK522)
        (try clear HB)
        generalize (((((w8.setCell ⟨gb522, 0, none⟩ (.slice Ao9 t513.length co9)).setCell ⟨gb522, 1, none⟩ (.int .i64 t516)).setCell ⟨gb522, 2, none⟩ (.int .i64 t517)).setCell ⟨gb522, 3, none⟩ (.int .i64 t518)).setCell ⟨gb522, 4, none⟩ (.slice Ao11 t519.length co11)) = w21 at n0_ n1_ n2_ n3_ ⊢
        have HO515 := n0_
        have HO521 := n1_
        have BK522 := n2_
        have HB := n3_
        clear n0_ n1_ n2_ n3_
        have n0_ := Aside0.mk (Kd.R_drew HO515.out)
        have n1_ := Aside0.mk (Kd.R_drew HO521.out)
        have n2_ := Aside0.mk (blk_drew BK522.out)
        have n3_ := Aside0.mk (below_drew1 HB.out)
        clear HO515
        clear HO521
        clear BK522
        clear HB
        have HO515 := n0_
        have HO521 := n1_
        have BK522 := n2_
        have HB := n3_
        clear n0_ n1_ n2_ n3_
        refine start_ (n := 12) (S := fun w' => w'.cell? ⟨gb522, 0, none⟩ = some (.slice Ao9 t513.length co9) ∧ w'.cell? ⟨gb522, 1, none⟩ = some (.int .i64 t516) ∧ w'.cell? ⟨gb522, 2, none⟩ = some (.int .i64 t517) ∧ w'.cell? ⟨gb522, 3, none⟩ = some (.int .i64 t518) ∧ w'.cell? ⟨gb522, 4, none⟩ = some (.slice Ao11 t519.length co11)) (ds := []) #[false, false, false, false, false, false, false, false, false, false, false, false] (by kernel_rfl) rfl rfl ⟨(blk_cell BK522.out 0).trans rfl, (blk_cell BK522.out 1).trans rfl, (blk_cell BK522.out 2).trans rfl, (blk_cell BK522.out 3).trans rfl, (blk_cell BK522.out 4).trans rfl⟩ (fun hHeld => ?_); refine with_tabW laws_FnMemNew.tab5 laws_FnMemNew.bits5 (fun HT_ HW_ => ?_)
        generalize w21.drew = w22 at HO515 HO521 BK522 HB hHeld ⊢
        refine pS 1 19 (lA 12 2) ?_ (hc := (any_of HT_.out (by kernel_rfl)))
        refine pS 2 20 (lA 12 6) ?_ (hc := (any_of HT_.out (by kernel_rfl)))
        refine tS 0 18 (lA 12 7) rfl rfl (take_ofW HT_.out HW_.out (by kernel_rfl)) hHeld (by rintro w' ⟨s0, s1, s2, s3, s4⟩; go_simp; with_reducible rfl) ?_
        refine one_ (i := 3) (N := some 21) (lA 12 15) rfl rfl (one_of HT_.out (by kernel_rfl)) (by decide) (fun K hK => ?_)
        refine goes_ Try.func12 (by kernel_rfl) rfl #[.int .i64 t511, .int .i64 t512] (by rfl) rfl rfl (by (try simp only [List.map_toArray, List.map_cons, List.map_nil]); first | done | rfl | (simp only [List.length_drop, List.length_take]; rfl)) ?_
        with_reducible refine (spec_MemNew.calls t511 t512 t523 t526 t527 t528 t529 _ A12.out).mono ?_
        rintro e w23 ⟨v524, v530, rfl, ho0, ho1, hb⟩
        refine ⟨_, rfl, ?_⟩
        have n0_ := Aside0.mk (Kd.R_elder' (by (with_reducible repeat (first | apply Kd.R_alloc | apply Kd.R_drewN | apply Kd.R_drew)); exact HO515.out) (Kd.R_base ho0) hb)
        have n1_ := Aside0.mk (Kd.R_elder' (by (with_reducible repeat (first | apply Kd.R_alloc | apply Kd.R_drewN | apply Kd.R_drew)); exact HO521.out) (Kd.R_base ho1) hb)
        have n2_ := Aside0.mk (Kd.R_lower (Kd.R_new' ho0 (Kd.R_lt (by (with_reducible repeat (first | apply Kd.R_alloc | apply Kd.R_drewN | apply Kd.R_drew)); exact HO515.out))) (below_size (by repeat (first | (with_reducible first | exact HB.out | apply below_alloc | apply pw_below_drewN | apply below_drew1 | refine below_set ?_ GE522.out) | exact HB.out))))
        have n3_ := Aside0.mk (Kd.R_lower (Kd.R_new' ho1 (Kd.R_lt (by (with_reducible repeat (first | apply Kd.R_alloc | apply Kd.R_drewN | apply Kd.R_drew)); exact HO521.out))) (below_size (by repeat (first | (with_reducible first | exact HB.out | apply below_alloc | apply pw_below_drewN | apply below_drew1 | refine below_set ?_ GE522.out) | exact HB.out))))
        have n4_ := Aside0.mk (blk_below (g := gb522) (o := .cells #[.slice Ao9 t513.length co9, .int .i64 t516, .int .i64 t517, .int .i64 t518, .slice Ao11 t519.length co11] 28 (0, 0)) (by (with_reducible repeat (first | refine blk_drewN ?_ _ | refine blk_drew ?_ | refine blk_alloc ?_ _)); exact BK522.out) hb)
        have n5_ := Aside0.mk (below_step (by repeat (first | (with_reducible first | exact HB.out | apply below_alloc | apply pw_below_drewN | apply below_drew1 | refine below_set ?_ GE522.out) | exact HB.out)) hb)
        clear HO515
        clear HO521
        clear BK522
        clear HB
        have HO515 := n0_
        have HO521 := n1_
        have HO525 := n2_
        have HO531 := n3_
        have BK522 := n4_
        have HB := n5_
        clear n0_ n1_ n2_ n3_ n4_ n5_
        (try clear hb)
        (try clear hb2)
        (try clear hk)
        (try clear hi)
        (try clear ho0)
        (try clear ho1)
        obtain ⟨Ao24, co24, eo24⟩ := Kd.R_slice HO525.out
        (first | subst eo24 | (injection eo24 with f1_ f2_ f3_; have f4_ := f1_.symm; have f5_ := f3_.symm; clear f1_ f2_ f3_; subst f4_; subst f5_))
        obtain ⟨Ao25, co25, eo25⟩ := Kd.R_slice HO531.out
        (first | subst eo25 | (injection eo25 with f1_ f2_ f3_; have f4_ := f1_.symm; have f5_ := f3_.symm; clear f1_ f2_ f3_; subst f4_; subst f5_))
        refine hK.out _ _ ⟨(blk_cell BK522.out 0).trans rfl, (blk_cell BK522.out 1).trans rfl, (blk_cell BK522.out 2).trans rfl, (blk_cell BK522.out 3).trans rfl, (blk_cell BK522.out 4).trans rfl⟩ (fun hHeld => ?_)
        clear hK K
        refine norm_ (a' := ?_) ?_ ?_
        rotate_left
        · show Act.put _ (some 21) _ = _
          simp only [Act.put, lA1, lA2, lA3, i64_w, i32_w]
          rfl
        refine one_ (i := 4) (N := some 22) (lA 12 31) rfl rfl (one_of HT_.out (by kernel_rfl)) (by decide) (fun K hK => ?_)
        refine goes_ Try.func11 (by kernel_rfl) rfl #[.agg #[.slice Ao9 t513.length co9, .int .i64 t516, .int .i64 t517, .int .i64 t518, .slice Ao11 t519.length co11], .agg #[.slice Ao24 t523.length co24, .int .i64 t526, .int .i64 t527, .int .i64 t528, .slice Ao25 t529.length co25]] (by rfl) rfl rfl (by (try simp only [List.map_toArray, List.map_cons, List.map_nil]); first | done | rfl | (simp only [List.length_drop, List.length_take]; rfl)) ?_
        with_reducible refine (laws_leMem.calls k _ _ t513 t516 t517 t518 _ _ t519 _ _ t523 t526 t527 t528 _ _ t529 false _ ?side1 ?side2 ?side3 ?side4 ?side5 ?side6 ?side7 ?side8 A13.out).mono ?_
        (case side1 => repeat (first | exact (Kd.R_reads' HO515.out).2.2 | (with_reducible refine Kd.C_alloc ?_ _) | (with_reducible refine Kd.C_drewN ?_ _) | (with_reducible refine Kd.C_drew ?_)))
        (case side2 => exact (Kd.R_reads' HO515.out).2.1)
        (case side3 => repeat (first | exact (Kd.R_reads' HO521.out).2.2 | (with_reducible refine Kd.C_alloc ?_ _) | (with_reducible refine Kd.C_drewN ?_ _) | (with_reducible refine Kd.C_drew ?_)))
        (case side4 => exact (Kd.R_reads' HO521.out).2.1)
        (case side5 => repeat (first | exact (Kd.R_reads' HO525.out).2.2 | (with_reducible refine Kd.C_alloc ?_ _) | (with_reducible refine Kd.C_drewN ?_ _) | (with_reducible refine Kd.C_drew ?_)))
        (case side6 => exact (Kd.R_reads' HO525.out).2.1)
        (case side7 => repeat (first | exact (Kd.R_reads' HO531.out).2.2 | (with_reducible refine Kd.C_alloc ?_ _) | (with_reducible refine Kd.C_drewN ?_ _) | (with_reducible refine Kd.C_drew ?_)))
        (case side8 => exact (Kd.R_reads' HO531.out).2.1)
        rintro e w26 ⟨rfl, hb⟩
        refine ⟨_, rfl, ?_⟩
        have n0_ := Aside0.mk (Kd.R_below (by (with_reducible repeat (first | apply Kd.R_alloc | apply Kd.R_drewN | apply Kd.R_drew)); exact HO515.out) hb)
        have n1_ := Aside0.mk (Kd.R_below (by (with_reducible repeat (first | apply Kd.R_alloc | apply Kd.R_drewN | apply Kd.R_drew)); exact HO521.out) hb)
        have n2_ := Aside0.mk (Kd.R_below (by (with_reducible repeat (first | apply Kd.R_alloc | apply Kd.R_drewN | apply Kd.R_drew)); exact HO525.out) hb)
        have n3_ := Aside0.mk (Kd.R_below (by (with_reducible repeat (first | apply Kd.R_alloc | apply Kd.R_drewN | apply Kd.R_drew)); exact HO531.out) hb)
        have n4_ := Aside0.mk (blk_below (g := gb522) (o := .cells #[.slice Ao9 t513.length co9, .int .i64 t516, .int .i64 t517, .int .i64 t518, .slice Ao11 t519.length co11] 28 (0, 0)) (by (with_reducible repeat (first | refine blk_drewN ?_ _ | refine blk_drew ?_ | refine blk_alloc ?_ _)); exact BK522.out) hb)
        have n5_ := Aside0.mk (below_step (by repeat (first | (with_reducible first | exact HB.out | apply below_alloc | apply pw_below_drewN | apply below_drew1 | refine below_set ?_ GE522.out) | exact HB.out)) hb)
        clear HO515
        clear HO521
        clear HO525
        clear HO531
        clear BK522
        clear HB
        have HO515 := n0_
        have HO521 := n1_
        have HO525 := n2_
        have HO531 := n3_
        have BK522 := n4_
        have HB := n5_
        clear n0_ n1_ n2_ n3_ n4_ n5_
        (try clear hb)
        (try clear hb2)
        (try clear hk)
        (try clear hi)
        refine hK.out _ _ ⟨(blk_cell BK522.out 0).trans rfl, (blk_cell BK522.out 1).trans rfl, (blk_cell BK522.out 2).trans rfl, (blk_cell BK522.out 3).trans rfl, (blk_cell BK522.out 4).trans rfl⟩ (fun hHeld => ?_)
        clear hK K
        refine norm_ (a' := ?_) ?_ ?_
        rotate_left
        · show Act.put _ (some 22) _ = _
          simp only [Act.put, lA1, lA2, lA3, i64_w, i32_w]
          rfl
        refine pS 5 23 (lA 12 63) ?_ (hc := (any_of HT_.out (by kernel_rfl)))
        refine pS 6 24 (lA 12 127) ?_ (hc := (any_of HT_.out (by kernel_rfl)))
        refine pU 7 25 (lA 12 255) ?_ (hc := (any_of HT_.out (by kernel_rfl)))
        refine pU 8 26 (lA 12 511) ?_ (hc := (any_of HT_.out (by kernel_rfl)))
        refine pU 9 27 (lA 12 1023) ?_ (hc := (any_of HT_.out (by kernel_rfl)))
        refine pU 10 28 (lA 12 2047) ?_ (hc := (any_of HT_.out (by kernel_rfl)))
        refine pS 11 29 (lA 12 4095) ?_ (hc := (any_of HT_.out (by kernel_rfl)))
        refine done_ (done_of HT_.out (by kernel_rfl)) ?_
        try go_wp2
        go_meet
        case rel => exact ⟨_, (true), (by first | rfl | (simp; done) | (simp [*]; done)), H', ⟨by first | omega | exact Nat.le_refl _⟩, ⟨by (with_reducible repeat (first | apply Kd.R_alloc | apply Kd.R_drewN | apply Kd.R_drew)); exact Kd.R_mono HO515.out (fun _ hk => trivial)⟩, ⟨by (with_reducible repeat (first | apply Kd.R_alloc | apply Kd.R_drewN | apply Kd.R_drew)); exact Kd.R_mono HO521.out (fun _ hk => trivial)⟩, ⟨by (with_reducible repeat (first | refine blk_drewN ?_ _ | refine blk_drew ?_ | refine blk_alloc ?_ _)); exact BK522.out⟩, ⟨by repeat (first | (with_reducible first | exact HB.out | apply below_alloc | apply pw_below_drewN | apply below_drew1 | refine below_set ?_ GE522.out) | exact HB.out)⟩⟩
    case rest =>
      clear HC5
      try clear c1
      try clear c2
      try clear c2b0
      try clear c2b1
      try clear p2
      try clear c3
      try clear c9
      try clear c10
      try clear c11
      try clear c12
      try clear c14
      try clear hcz10_0
      try clear hcz10_1
      try clear hcz10_2
      try clear hcz10_3
      try clear hcz10_4
      try clear hfz10_0
      try clear hfz10_1
      try clear hfz10_2
      try clear hfz10_3
      try clear hfz10_4
      obtain ⟨kq, x29_4, rfl, HA, HJ4, HO_523000, HO_523004, BK522, HB⟩ := hcut
      cases kq with
      | zero => exact absurd HA.out (by simp [laws_FnMemNew.j0])
      | succ kj4 =>
        have H := HA.out
        clear HA
        simp only [laws_FnMemNew.j0] at H
        by_cases c27 : x29_4 = true
        · subst c27
          have H1 : ((spec_MemNew.f t511 t512).bind fun bt533 => ((laws_leMem.f kj4 t513 t516 t517 t518 t519 bt533.1 bt533.2.1 bt533.2.2.1 bt533.2.2.2.1 bt533.2.2.2.2).bind fun t542 => (some t542))) = some r := by rw [if_pos rfl] at H; exact H
          clear H
          have H := H1
          clear H1
          replace H := Option.bind_eq_some_iff.mp H
          obtain ⟨⟨t533, t536, t537, t538, t539⟩, A280, H⟩ := H
          replace H : ((laws_leMem.f kj4 t513 t516 t517 t518 t519 t533 t536 t537 t538 t539).bind fun t542 => (some t542)) = some r := H
          have A28 := Aside0.mk A280
          clear A280
          replace H := Option.bind_eq_some_iff.mp H
          obtain ⟨t542, A290, H⟩ := H
          replace H : (some t542) = some r := H
          have A29 := Aside0.mk A290
          clear A290
          obtain rfl := Option.some.inj H
          try go_wp2
          have n0_ := Aside0.mk (Kd.R_drew HO_523000.out)
          have n1_ := Aside0.mk (Kd.R_drew HO_523004.out)
          have n2_ := Aside0.mk (blk_drew BK522.out)
          have n3_ := Aside0.mk (below_drew1 HB.out)
          clear HO_523000
          clear HO_523004
          clear BK522
          clear HB
          have HO_523000 := n0_
          have HO_523004 := n1_
          have BK522 := n2_
          have HB := n3_
          clear n0_ n1_ n2_ n3_
          refine start_ (n := 6) (S := fun w' => w'.cell? ⟨gb522, 0, none⟩ = some (.slice Ao9 t513.length co9) ∧ w'.cell? ⟨gb522, 1, none⟩ = some (.int .i64 t516) ∧ w'.cell? ⟨gb522, 2, none⟩ = some (.int .i64 t517) ∧ w'.cell? ⟨gb522, 3, none⟩ = some (.int .i64 t518) ∧ w'.cell? ⟨gb522, 4, none⟩ = some (.slice Ao11 t519.length co11)) (ds := []) #[false, false, false, false, false, false] (by kernel_rfl) rfl rfl ⟨(blk_cell BK522.out 0).trans rfl, (blk_cell BK522.out 1).trans rfl, (blk_cell BK522.out 2).trans rfl, (blk_cell BK522.out 3).trans rfl, (blk_cell BK522.out 4).trans rfl⟩ (fun hHeld => ?_)
          generalize wc.drew = w30 at HO_523000 HO_523004 BK522 HB hHeld ⊢
          refine pS 1 31 #[false, true, false, false, false, false] ?_
          refine pS 2 32 #[false, true, true, false, false, false] ?_
          refine tS 0 30 #[true, true, true, false, false, false] rfl rfl (by kernel_rfl) hHeld (by rintro w' ⟨s0, s1, s2, s3, s4⟩; go_simp; with_reducible rfl) ?_
          refine one_ (i := 3) (N := some 33) #[true, true, true, true, false, false] rfl rfl (by kernel_rfl) (by decide) (fun K hK => ?_)
          refine goes_ Try.func12 (by kernel_rfl) rfl #[.int .i64 t511, .int .i64 t512] (by rfl) rfl rfl (by (try simp only [List.map_toArray, List.map_cons, List.map_nil]); first | done | rfl | (simp only [List.length_drop, List.length_take]; rfl)) ?_
          with_reducible refine (spec_MemNew.calls t511 t512 t533 t536 t537 t538 t539 _ A28.out).mono ?_
          rintro e w31 ⟨v534, v540, rfl, ho0, ho1, hb⟩
          refine ⟨_, rfl, ?_⟩
          have n0_ := Aside0.mk (Kd.R_elder' (by (with_reducible repeat (first | apply Kd.R_alloc | apply Kd.R_drewN | apply Kd.R_drew)); exact HO_523000.out) (Kd.R_base ho0) hb)
          have n1_ := Aside0.mk (Kd.R_elder' (by (with_reducible repeat (first | apply Kd.R_alloc | apply Kd.R_drewN | apply Kd.R_drew)); exact HO_523004.out) (Kd.R_base ho1) hb)
          have n2_ := Aside0.mk (Kd.R_lower (Kd.R_new' ho0 (Kd.R_lt (by (with_reducible repeat (first | apply Kd.R_alloc | apply Kd.R_drewN | apply Kd.R_drew)); exact HO_523000.out))) (below_size (by repeat (first | (with_reducible first | exact HB.out | apply below_alloc | apply pw_below_drewN | apply below_drew1 | refine below_set ?_ GE522.out) | exact HB.out))))
          have n3_ := Aside0.mk (Kd.R_lower (Kd.R_new' ho1 (Kd.R_lt (by (with_reducible repeat (first | apply Kd.R_alloc | apply Kd.R_drewN | apply Kd.R_drew)); exact HO_523004.out))) (below_size (by repeat (first | (with_reducible first | exact HB.out | apply below_alloc | apply pw_below_drewN | apply below_drew1 | refine below_set ?_ GE522.out) | exact HB.out))))
          have n4_ := Aside0.mk (blk_below (g := gb522) (o := .cells #[.slice Ao9 t513.length co9, .int .i64 t516, .int .i64 t517, .int .i64 t518, .slice Ao11 t519.length co11] 28 (0, 0)) (by (with_reducible repeat (first | refine blk_drewN ?_ _ | refine blk_drew ?_ | refine blk_alloc ?_ _)); exact BK522.out) hb)
          have n5_ := Aside0.mk (below_step (by repeat (first | (with_reducible first | exact HB.out | apply below_alloc | apply pw_below_drewN | apply below_drew1 | refine below_set ?_ GE522.out) | exact HB.out)) hb)
          clear HO_523000
          clear HO_523004
          clear BK522
          clear HB
          have HO_523000 := n0_
          have HO_523004 := n1_
          have HO535 := n2_
          have HO541 := n3_
          have BK522 := n4_
          have HB := n5_
          clear n0_ n1_ n2_ n3_ n4_ n5_
          (try clear hb)
          (try clear hb2)
          (try clear hk)
          (try clear hi)
          (try clear ho0)
          (try clear ho1)
          obtain ⟨Ao32, co32, eo32⟩ := Kd.R_slice HO535.out
          (first | subst eo32 | (injection eo32 with f1_ f2_ f3_; have f4_ := f1_.symm; have f5_ := f3_.symm; clear f1_ f2_ f3_; subst f4_; subst f5_))
          obtain ⟨Ao33, co33, eo33⟩ := Kd.R_slice HO541.out
          (first | subst eo33 | (injection eo33 with f1_ f2_ f3_; have f4_ := f1_.symm; have f5_ := f3_.symm; clear f1_ f2_ f3_; subst f4_; subst f5_))
          refine hK.out _ _ ⟨(blk_cell BK522.out 0).trans rfl, (blk_cell BK522.out 1).trans rfl, (blk_cell BK522.out 2).trans rfl, (blk_cell BK522.out 3).trans rfl, (blk_cell BK522.out 4).trans rfl⟩ (fun hHeld => ?_)
          clear hK K
          refine norm_ (a' := ?_) ?_ ?_
          rotate_left
          · show Act.put _ (some 33) _ = _
            simp only [Act.put, lA1, lA2, lA3, i64_w, i32_w]
            rfl
          refine one_ (i := 4) (N := some 34) #[true, true, true, true, true, false] rfl rfl (by kernel_rfl) (by decide) (fun K hK => ?_)
          refine goes_ Try.func11 (by kernel_rfl) rfl #[.agg #[.slice Ao9 t513.length co9, .int .i64 t516, .int .i64 t517, .int .i64 t518, .slice Ao11 t519.length co11], .agg #[.slice Ao32 t533.length co32, .int .i64 t536, .int .i64 t537, .int .i64 t538, .slice Ao33 t539.length co33]] (by rfl) rfl rfl (by (try simp only [List.map_toArray, List.map_cons, List.map_nil]); first | done | rfl | (simp only [List.length_drop, List.length_take]; rfl)) ?_
          with_reducible refine (laws_leMem.calls kj4 _ _ t513 t516 t517 t518 _ _ t519 _ _ t533 t536 t537 t538 _ _ t539 t542 _ ?side1 ?side2 ?side3 ?side4 ?side5 ?side6 ?side7 ?side8 A29.out).mono ?_
          (case side1 => repeat (first | exact (Kd.R_reads' HO_523000.out).2.2 | (with_reducible refine Kd.C_alloc ?_ _) | (with_reducible refine Kd.C_drewN ?_ _) | (with_reducible refine Kd.C_drew ?_)))
          (case side2 => exact (Kd.R_reads' HO_523000.out).2.1)
          (case side3 => repeat (first | exact (Kd.R_reads' HO_523004.out).2.2 | (with_reducible refine Kd.C_alloc ?_ _) | (with_reducible refine Kd.C_drewN ?_ _) | (with_reducible refine Kd.C_drew ?_)))
          (case side4 => exact (Kd.R_reads' HO_523004.out).2.1)
          (case side5 => repeat (first | exact (Kd.R_reads' HO535.out).2.2 | (with_reducible refine Kd.C_alloc ?_ _) | (with_reducible refine Kd.C_drewN ?_ _) | (with_reducible refine Kd.C_drew ?_)))
          (case side6 => exact (Kd.R_reads' HO535.out).2.1)
          (case side7 => repeat (first | exact (Kd.R_reads' HO541.out).2.2 | (with_reducible refine Kd.C_alloc ?_ _) | (with_reducible refine Kd.C_drewN ?_ _) | (with_reducible refine Kd.C_drew ?_)))
          (case side8 => exact (Kd.R_reads' HO541.out).2.1)
          rintro e w34 ⟨rfl, hb⟩
          refine ⟨_, rfl, ?_⟩
          have n0_ := Aside0.mk (Kd.R_below (by (with_reducible repeat (first | apply Kd.R_alloc | apply Kd.R_drewN | apply Kd.R_drew)); exact HO_523000.out) hb)
          have n1_ := Aside0.mk (Kd.R_below (by (with_reducible repeat (first | apply Kd.R_alloc | apply Kd.R_drewN | apply Kd.R_drew)); exact HO_523004.out) hb)
          have n2_ := Aside0.mk (Kd.R_below (by (with_reducible repeat (first | apply Kd.R_alloc | apply Kd.R_drewN | apply Kd.R_drew)); exact HO535.out) hb)
          have n3_ := Aside0.mk (Kd.R_below (by (with_reducible repeat (first | apply Kd.R_alloc | apply Kd.R_drewN | apply Kd.R_drew)); exact HO541.out) hb)
          have n4_ := Aside0.mk (blk_below (g := gb522) (o := .cells #[.slice Ao9 t513.length co9, .int .i64 t516, .int .i64 t517, .int .i64 t518, .slice Ao11 t519.length co11] 28 (0, 0)) (by (with_reducible repeat (first | refine blk_drewN ?_ _ | refine blk_drew ?_ | refine blk_alloc ?_ _)); exact BK522.out) hb)
          have n5_ := Aside0.mk (below_step (by repeat (first | (with_reducible first | exact HB.out | apply below_alloc | apply pw_below_drewN | apply below_drew1 | refine below_set ?_ GE522.out) | exact HB.out)) hb)
          clear HO_523000
          clear HO_523004
          clear HO535
          clear HO541
          clear BK522
          clear HB
          have HO_523000 := n0_
          have HO_523004 := n1_
          have HO535 := n2_
          have HO541 := n3_
          have BK522 := n4_
          have HB := n5_
          clear n0_ n1_ n2_ n3_ n4_ n5_
          (try clear hb)
          (try clear hb2)
          (try clear hk)
          (try clear hi)
          refine hK.out _ _ ⟨(blk_cell BK522.out 0).trans rfl, (blk_cell BK522.out 1).trans rfl, (blk_cell BK522.out 2).trans rfl, (blk_cell BK522.out 3).trans rfl, (blk_cell BK522.out 4).trans rfl⟩ (fun hHeld => ?_)
          clear hK K
          refine norm_ (a' := ?_) ?_ ?_
          rotate_left
          · show Act.put _ (some 34) _ = _
            simp only [Act.put, lA1, lA2, lA3, i64_w, i32_w]
            rfl
          refine pS 5 2 #[true, true, true, true, true, true] ?_
          refine done_ (by kernel_rfl) ?_
          try go_wp2
          go_ret
          exact ⟨by first | rfl | (simp [errW_none, errW_some] <;> rfl) | (simp [*, errW_none, errW_some] <;> rfl), by repeat (first | (with_reducible first | exact HB.out | apply below_alloc | apply pw_below_drewN | apply below_drew1 | refine below_set ?_ GE522.out) | exact HB.out)⟩
        · replace c27 := Bool.eq_false_iff.mpr c27
          subst c27
          have H1 : ((some (([(⟨(-1), ([] : List Int)⟩ : S32), (⟨0, (([1] : List Int))⟩ : S32)] : List (S32)) : List (S32))).bind fun y546 => ((impl_MemOk.f kj4 y546 t513 t516 t517 t518 t519).bind fun t549 => (if t549 = true then (if (t513.length : Int) = (wrap64 (t511 + t512)) then (if t516 = t511 then (if t517 = 0 then (if t518 = t511 then ((impl_MemWalk.f kj4 y546 t513 t516 t517 t518 t519).bind fun t550 => (some ((t550.length : Int) == 0))) else (some false)) else (some false)) else (some false)) else (some false)) else (some false)))) = some r := by rw [if_neg (show ¬ (false = true) by decide)] at H; exact H
          clear H
          have H := H1
          clear H1
          obtain ⟨y543, hy543⟩ : ∃ y_ : List Int, y_ = (([1] : List Int)) := ⟨_, rfl⟩
          replace H : ((some (([(⟨(-1), ([] : List Int)⟩ : S32), (⟨0, y543⟩ : S32)] : List (S32)) : List (S32))).bind fun y546 => ((impl_MemOk.f kj4 y546 t513 t516 t517 t518 t519).bind fun t549 => (if t549 = true then (if (t513.length : Int) = (wrap64 (t511 + t512)) then (if t516 = t511 then (if t517 = 0 then (if t518 = t511 then ((impl_MemWalk.f kj4 y546 t513 t516 t517 t518 t519).bind fun t550 => (some ((t550.length : Int) == 0))) else (some false)) else (some false)) else (some false)) else (some false)) else (some false)))) = some r := by first | (rw [hy543]; with_reducible exact H) | (have H2_ := (Option.bind_some _ _).symm.trans H; rw [hy543]; with_reducible exact H2_) | (have H2_ := (Option.bind_some _ _).symm.trans H; with_reducible exact H2_) | with_reducible exact H | (rw [hy543]; exact H) | exact H
          have Ny543 := Aside0.mk hy543
          clear hy543
          obtain ⟨y546, hy546⟩ : ∃ y_ : List (S32), y_ = (([(⟨(-1), ([] : List Int)⟩ : S32), (⟨0, y543⟩ : S32)] : List (S32))) := ⟨_, rfl⟩
          replace H : ((impl_MemOk.f kj4 y546 t513 t516 t517 t518 t519).bind fun t549 => (if t549 = true then (if (t513.length : Int) = (wrap64 (t511 + t512)) then (if t516 = t511 then (if t517 = 0 then (if t518 = t511 then ((impl_MemWalk.f kj4 y546 t513 t516 t517 t518 t519).bind fun t550 => (some ((t550.length : Int) == 0))) else (some false)) else (some false)) else (some false)) else (some false)) else (some false))) = some r := by first | (rw [hy546]; with_reducible exact H) | (have H2_ := (Option.bind_some _ _).symm.trans H; rw [hy546]; with_reducible exact H2_) | (have H2_ := (Option.bind_some _ _).symm.trans H; with_reducible exact H2_) | with_reducible exact H | (rw [hy546]; exact H) | exact H
          have Ny546 := Aside0.mk hy546
          clear hy546
          replace H := Option.bind_eq_some_iff.mp H
          obtain ⟨t549, A350, H⟩ := H
          replace H : (if t549 = true then (if (t513.length : Int) = (wrap64 (t511 + t512)) then (if t516 = t511 then (if t517 = 0 then (if t518 = t511 then ((impl_MemWalk.f kj4 y546 t513 t516 t517 t518 t519).bind fun t550 => (some ((t550.length : Int) == 0))) else (some false)) else (some false)) else (some false)) else (some false)) else (some false)) = some r := H
          have A35 := Aside0.mk A350
          clear A350
          by_cases c36 : t549 = true
          · subst c36
            have H1 : (if (t513.length : Int) = (wrap64 (t511 + t512)) then (if t516 = t511 then (if t517 = 0 then (if t518 = t511 then ((impl_MemWalk.f kj4 y546 t513 t516 t517 t518 t519).bind fun t550 => (some ((t550.length : Int) == 0))) else (some false)) else (some false)) else (some false)) else (some false)) = some r := by rw [if_pos rfl] at H; exact H
            clear H
            have H := H1
            clear H1
            by_cases c37 : (t513.length : Int) = (wrap64 (t511 + t512))
            · rw [if_pos c37] at H
              have c37b0 : ((t513.length : Int) == (wrap64 (t511 + t512))) = true := beq_iff_eq.mpr c37
              have c37b1 : ((t513.length : Int) != (wrap64 (t511 + t512))) = false := bne_eq_false_iff_eq.mpr c37
              clear c37
              by_cases c38 : t516 = t511
              · rw [if_pos c38] at H
                have c38b0 : (t516 == t511) = true := beq_iff_eq.mpr c38
                have c38b1 : (t516 != t511) = false := bne_eq_false_iff_eq.mpr c38
                clear c38
                by_cases c39 : t517 = 0
                · rw [if_pos c39] at H
                  have c39b0 : (t517 == 0) = true := beq_iff_eq.mpr c39
                  have c39b1 : (t517 != 0) = false := bne_eq_false_iff_eq.mpr c39
                  clear c39
                  by_cases c40 : t518 = t511
                  · rw [if_pos c40] at H
                    have c40b0 : (t518 == t511) = true := beq_iff_eq.mpr c40
                    have c40b1 : (t518 != t511) = false := bne_eq_false_iff_eq.mpr c40
                    clear c40
                    replace H := Option.bind_eq_some_iff.mp H
                    obtain ⟨t550, A410, H⟩ := H
                    replace H : (some ((t550.length : Int) == 0)) = some r := H
                    have A41 := Aside0.mk A410
                    clear A410
                    obtain rfl := Option.some.inj H
                    go_wp2_with (first | ((with_reducible refine gate_dst (N := 36) rfl ?_); (try (refine gate_guard (by rfl) ?_; dsimp only)); refine Kd.R_lit (Kd.int .i64) _ 3 ?hg (N := 36) ?hd (xs := ([1] : List Int)) (inner := [.int .i64 1]) (ok := fun _ => True) (okp := fun _ => True) ?hr ?hp (fun _ hk => hk) trivial (Below.refl _ _) (Nat.le_refl _) (by simp) ?_; (case hd => rfl); (case hg => rfl); (case hr => first | (go_simp; done) | (go_simp; rfl)); (case hp => exact (Reps.one (show Kd.M (Kd.int .i64) _ _ _ 1 [.int .i64 1] from rfl) (Reps.none _ _))); intro v544 w42 ho43 hb hg_ hnew_; clear hg_ hnew_; (first | rw [← Ny543.out] at ho43 | (simp only [Int.reduceToNat] at ho43; rw [← Ny543.out] at ho43)); have n0_ := Aside0.mk (Kd.R_elder' (by (with_reducible repeat (first | apply Kd.R_alloc | apply Kd.R_drewN | apply Kd.R_drew)); exact HO_523000.out) (Kd.R_base ho43) hb); have n1_ := Aside0.mk (Kd.R_below (by (with_reducible repeat (first | apply Kd.R_alloc | apply Kd.R_drewN | apply Kd.R_drew)); exact HO_523004.out) hb); have n2_ := Aside0.mk (Kd.R_lower (Kd.R_new' ho43 (Kd.R_lt (by (with_reducible repeat (first | apply Kd.R_alloc | apply Kd.R_drewN | apply Kd.R_drew)); exact HO_523000.out))) (below_size (by repeat (first | (with_reducible first | exact HB.out | apply below_alloc | apply pw_below_drewN | apply below_drew1 | refine below_set ?_ GE522.out) | exact HB.out)))); have n3_ := Aside0.mk (blk_below (g := gb522) (o := .cells #[.slice Ao9 t513.length co9, .int .i64 t516, .int .i64 t517, .int .i64 t518, .slice Ao11 t519.length co11] 28 (0, 0)) (by (with_reducible repeat (first | refine blk_drewN ?_ _ | refine blk_drew ?_ | refine blk_alloc ?_ _)); exact BK522.out) hb); have n4_ := Aside0.mk (below_step (by repeat (first | (with_reducible first | exact HB.out | apply below_alloc | apply pw_below_drewN | apply below_drew1 | refine below_set ?_ GE522.out) | exact HB.out)) hb); clear HO_523000; clear HO_523004; clear BK522; clear HB; have HO_523000 := n0_; have HO_523004 := n1_; have HO545 := n2_; have BK522 := n3_; have HB := n4_; clear n0_ n1_ n2_ n3_ n4_; clear hb ho43; obtain ⟨Ao44, co44, eo44⟩ := Kd.R_slice HO545.out; subst eo44) | ((with_reducible refine gate_dst (N := 38) rfl ?_); (try (refine gate_guard (by rfl) ?_; dsimp only)); refine Kd.N_lit k32 _ 32 ?hg (N' := 38) ?hd (xs := ([(⟨(-1), ([] : List Int)⟩ : S32), (⟨0, y543⟩ : S32)] : List (S32))) (inner := [.int .i64 (-1), .slice none 0 0, .int .i64 0, .slice Ao44 y543.length co44]) (ok := (fun k_ => some k_ ≠ (.slice Ao9 t513.length co9 : Value).ownBlock ∧ some k_ ≠ (.slice Ao11 t519.length co11 : Value).ownBlock ∧ k_ ≠ gb522)) (okp := (fun k_ => some k_ ≠ (.slice Ao9 t513.length co9 : Value).ownBlock ∧ some k_ ≠ (.slice Ao11 t519.length co11 : Value).ownBlock ∧ k_ ≠ gb522)) ?hr ?hp (fun _ hk => hk) ((show ∀ k_, w42.heap.size ≤ k_ → (fun k_ => some k_ ≠ (.slice Ao9 t513.length co9 : Value).ownBlock ∧ some k_ ≠ (.slice Ao11 t519.length co11 : Value).ownBlock ∧ k_ ≠ gb522) k_ from fun k_ hk => ⟨Kd.fresh' (Kd.R_lt (by (with_reducible repeat (first | apply Kd.R_alloc | apply Kd.R_drewN | apply Kd.R_drew)); exact HO_523000.out)) k_ hk, Kd.fresh' (Kd.R_lt (by (with_reducible repeat (first | apply Kd.R_alloc | apply Kd.R_drewN | apply Kd.R_drew)); exact HO_523004.out)) k_ hk, Kd.freshB (g := gb522) (o := .cells #[.slice Ao9 t513.length co9, .int .i64 t516, .int .i64 t517, .int .i64 t518, .slice Ao11 t519.length co11] 28 (0, 0)) (by (with_reducible repeat (first | refine blk_drewN ?_ _ | refine blk_drew ?_ | refine blk_alloc ?_ _)); exact BK522.out) k_ hk⟩) _ (Nat.le_refl _)) (Below.refl _ _) (Nat.le_refl _) (by simp) ?_; (case hd => rfl); (case hg => rfl); (case hr => first | (go_simp; done) | (go_simp; rfl)); (case hp => exact (Reps.c2 (show Kd.FK k32 _ _ (⟨(-1), ([] : List Int)⟩ : S32) [.int .i64 (-1), .slice none 0 0] from (k32_mkF _ _ (⟨(-1), ([] : List Int)⟩ : S32) (Nat.le_refl _) (Kd.F_nil _ _ _))) (Reps.c2 (show Kd.FK k32 _ _ (⟨0, y543⟩ : S32) [.int .i64 0, .slice Ao44 y543.length co44] from (k32_mkF _ _ (⟨0, y543⟩ : S32) (Kd.R_reads' (Kd.R_mono (ok' := (fun k_ => some k_ ≠ (.slice Ao9 t513.length co9 : Value).ownBlock ∧ some k_ ≠ (.slice Ao11 t519.length co11 : Value).ownBlock ∧ k_ ≠ gb522)) (Kd.R_types (Kd.R_apart' (HO545.out) (Kd.R_typed HO_523004.out) (by decide)) BK522.out (by decide)) (fun k_ hk => ⟨hk.1.1.2, ⟨hk.1.2, hk.2⟩⟩))).2.1 (Kd.R_F (Kd.R_mono (ok' := (fun k_ => some k_ ≠ (.slice Ao9 t513.length co9 : Value).ownBlock ∧ some k_ ≠ (.slice Ao11 t519.length co11 : Value).ownBlock ∧ k_ ≠ gb522)) (Kd.R_types (Kd.R_apart' (HO545.out) (Kd.R_typed HO_523004.out) (by decide)) BK522.out (by decide)) (fun k_ hk => ⟨hk.1.1.2, ⟨hk.1.2, hk.2⟩⟩))))) (Reps.none _ _)))); intro v547 w45 ho46 hb hg_ hnew_; clear hg_ hnew_; (first | rw [← Ny546.out] at ho46 | (simp only [Int.reduceToNat] at ho46; rw [← Ny546.out] at ho46)); have n0_ := Aside0.mk (Kd.R_below (by (with_reducible repeat (first | apply Kd.R_alloc | apply Kd.R_drewN | apply Kd.R_drew)); exact HO_523000.out) hb); have n1_ := Aside0.mk (Kd.R_below (by (with_reducible repeat (first | apply Kd.R_alloc | apply Kd.R_drewN | apply Kd.R_drew)); exact HO_523004.out) hb); have n2_ := Aside0.mk (Kd.N_lower ho46 (below_size (by repeat (first | (with_reducible first | exact HB.out | apply below_alloc | apply pw_below_drewN | apply below_drew1 | refine below_set ?_ GE522.out) | exact HB.out)))); have n3_ := Aside0.mk (blk_below (g := gb522) (o := .cells #[.slice Ao9 t513.length co9, .int .i64 t516, .int .i64 t517, .int .i64 t518, .slice Ao11 t519.length co11] 28 (0, 0)) (by (with_reducible repeat (first | refine blk_drewN ?_ _ | refine blk_drew ?_ | refine blk_alloc ?_ _)); exact BK522.out) hb); have n4_ := Aside0.mk (below_step (by repeat (first | (with_reducible first | exact HB.out | apply below_alloc | apply pw_below_drewN | apply below_drew1 | refine below_set ?_ GE522.out) | exact HB.out)) hb); clear HO_523000; clear HO_523004; clear BK522; clear HB; clear HO545; have HO_523000 := n0_; have HO_523004 := n1_; have HO548 := n2_; have BK522 := n3_; have HB := n4_; clear n0_ n1_ n2_ n3_ n4_; clear hb ho46; have hcz47_0 : w45.cell? ⟨gb522, 0, none⟩ = some (.slice Ao9 t513.length co9) := (blk_cell BK522.out 0).trans rfl; have hcz47_1 : w45.cell? ⟨gb522, 1, none⟩ = some (.int .i64 t516) := (blk_cell BK522.out 1).trans rfl; have hcz47_2 : w45.cell? ⟨gb522, 2, none⟩ = some (.int .i64 t517) := (blk_cell BK522.out 2).trans rfl; have hcz47_3 : w45.cell? ⟨gb522, 3, none⟩ = some (.int .i64 t518) := (blk_cell BK522.out 3).trans rfl; have hcz47_4 : w45.cell? ⟨gb522, 4, none⟩ = some (.slice Ao11 t519.length co11) := (blk_cell BK522.out 4).trans rfl; have hfz47_0 := blk_frozen BK522.out 0; have hfz47_1 := blk_frozen BK522.out 1; have hfz47_2 := blk_frozen BK522.out 2; have hfz47_3 := blk_frozen BK522.out 3; have hfz47_4 := blk_frozen BK522.out 4; obtain ⟨Ao48, co48, eo48⟩ := Kd.N_slice HO548.out; subst eo48) | ((with_reducible refine gate_callee (f := 13) rfl ?_); refine goesL_ (some 41) rfl rfl Try.func13 (by kernel_rfl) rfl #[.slice Ao48 y546.length co48, .agg #[.slice Ao9 t513.length co9, .int .i64 t516, .int .i64 t517, .int .i64 t518, .slice Ao11 t519.length co11]] rfl (by (try simp only [List.map_toArray, List.map_cons, List.map_nil]); first | done | rfl | (simp only [List.length_drop, List.length_take]; rfl)) ?_; (with_reducible refine (impl_MemOk.calls kj4 _ _ y546 _ _ t513 t516 t517 t518 _ _ t519 true _ ?side1 ?side2 ?side3 ?side4 ?side5 ?side6 A35.out).mono ?_); (case side1 => repeat (first | exact (Kd.N_reads' HO548.out).2.2 | (with_reducible refine Kd.C_alloc ?_ _) | (with_reducible refine Kd.C_drewN ?_ _) | (with_reducible refine Kd.C_drew ?_))); (case side2 => exact (Kd.N_reads' HO548.out).2.1); (case side3 => repeat (first | exact (Kd.R_reads' HO_523000.out).2.2 | (with_reducible refine Kd.C_alloc ?_ _) | (with_reducible refine Kd.C_drewN ?_ _) | (with_reducible refine Kd.C_drew ?_))); (case side4 => exact (Kd.R_reads' HO_523000.out).2.1); (case side5 => repeat (first | exact (Kd.R_reads' HO_523004.out).2.2 | (with_reducible refine Kd.C_alloc ?_ _) | (with_reducible refine Kd.C_drewN ?_ _) | (with_reducible refine Kd.C_drew ?_))); (case side6 => exact (Kd.R_reads' HO_523004.out).2.1); rintro e w49 ⟨rfl, hb⟩; refine ⟨_, rfl, ?_⟩; have n0_ := Aside0.mk (Kd.R_below (by (with_reducible repeat (first | apply Kd.R_alloc | apply Kd.R_drewN | apply Kd.R_drew)); exact HO_523000.out) hb); have n1_ := Aside0.mk (Kd.R_below (by (with_reducible repeat (first | apply Kd.R_alloc | apply Kd.R_drewN | apply Kd.R_drew)); exact HO_523004.out) hb); have n2_ := Aside0.mk (Kd.N_below (by (with_reducible repeat (first | apply Kd.N_alloc | apply Kd.N_drewN | apply Kd.N_drew)); exact HO548.out) hb); have n3_ := Aside0.mk (blk_below (g := gb522) (o := .cells #[.slice Ao9 t513.length co9, .int .i64 t516, .int .i64 t517, .int .i64 t518, .slice Ao11 t519.length co11] 28 (0, 0)) (by (with_reducible repeat (first | refine blk_drewN ?_ _ | refine blk_drew ?_ | refine blk_alloc ?_ _)); exact BK522.out) hb); have n4_ := Aside0.mk (below_step (by repeat (first | (with_reducible first | exact HB.out | apply below_alloc | apply pw_below_drewN | apply below_drew1 | refine below_set ?_ GE522.out) | exact HB.out)) hb); clear HO_523000; clear HO_523004; clear HO548; clear BK522; clear HB; have HO_523000 := n0_; have HO_523004 := n1_; have HO548 := n2_; have BK522 := n3_; have HB := n4_; clear n0_ n1_ n2_ n3_ n4_; (try clear hb); (try clear hb2); (try clear hk); (try clear hi); have hcz50_0 : w49.cell? ⟨gb522, 0, none⟩ = some (.slice Ao9 t513.length co9) := (blk_cell BK522.out 0).trans rfl; have hcz50_1 : w49.cell? ⟨gb522, 1, none⟩ = some (.int .i64 t516) := (blk_cell BK522.out 1).trans rfl; have hcz50_2 : w49.cell? ⟨gb522, 2, none⟩ = some (.int .i64 t517) := (blk_cell BK522.out 2).trans rfl; have hcz50_3 : w49.cell? ⟨gb522, 3, none⟩ = some (.int .i64 t518) := (blk_cell BK522.out 3).trans rfl; have hcz50_4 : w49.cell? ⟨gb522, 4, none⟩ = some (.slice Ao11 t519.length co11) := (blk_cell BK522.out 4).trans rfl; have hfz50_0 := blk_frozen BK522.out 0; have hfz50_1 := blk_frozen BK522.out 1; have hfz50_2 := blk_frozen BK522.out 2; have hfz50_3 := blk_frozen BK522.out 3; have hfz50_4 := blk_frozen BK522.out 4) | (go_at_call 14; (with_reducible refine (impl_MemWalk.calls kj4 _ _ y546 _ _ t513 t516 t517 t518 _ _ t519 t550 _ ?side1 ?side2 ?side3 ?side4 ?side5 ?side6 A41.out).mono ?_); (case side1 => repeat (first | exact (Kd.N_reads' HO548.out).2.2 | (with_reducible refine Kd.C_alloc ?_ _) | (with_reducible refine Kd.C_drewN ?_ _) | (with_reducible refine Kd.C_drew ?_))); (case side2 => exact (Kd.N_reads' HO548.out).2.1); (case side3 => repeat (first | exact (Kd.R_reads' HO_523000.out).2.2 | (with_reducible refine Kd.C_alloc ?_ _) | (with_reducible refine Kd.C_drewN ?_ _) | (with_reducible refine Kd.C_drew ?_))); (case side4 => exact (Kd.R_reads' HO_523000.out).2.1); (case side5 => repeat (first | exact (Kd.R_reads' HO_523004.out).2.2 | (with_reducible refine Kd.C_alloc ?_ _) | (with_reducible refine Kd.C_drewN ?_ _) | (with_reducible refine Kd.C_drew ?_))); (case side6 => exact (Kd.R_reads' HO_523004.out).2.1); rintro e w51 ⟨v551, rfl, ho0, hb⟩; have n0_ := Aside0.mk (Kd.R_elder' (by (with_reducible repeat (first | apply Kd.R_alloc | apply Kd.R_drewN | apply Kd.R_drew)); exact HO_523000.out) (Kd.R_base ho0) hb); have n1_ := Aside0.mk (Kd.R_below (by (with_reducible repeat (first | apply Kd.R_alloc | apply Kd.R_drewN | apply Kd.R_drew)); exact HO_523004.out) hb); have n2_ := Aside0.mk (Kd.N_elder' (by (with_reducible repeat (first | apply Kd.N_alloc | apply Kd.N_drewN | apply Kd.N_drew)); exact HO548.out) (Kd.R_base ho0) hb); have n3_ := Aside0.mk (Kd.R_lower (Kd.R_new' ho0 (Kd.R_lt (by (with_reducible repeat (first | apply Kd.R_alloc | apply Kd.R_drewN | apply Kd.R_drew)); exact HO_523000.out))) (below_size (by repeat (first | (with_reducible first | exact HB.out | apply below_alloc | apply pw_below_drewN | apply below_drew1 | refine below_set ?_ GE522.out) | exact HB.out)))); have n4_ := Aside0.mk (blk_below (g := gb522) (o := .cells #[.slice Ao9 t513.length co9, .int .i64 t516, .int .i64 t517, .int .i64 t518, .slice Ao11 t519.length co11] 28 (0, 0)) (by (with_reducible repeat (first | refine blk_drewN ?_ _ | refine blk_drew ?_ | refine blk_alloc ?_ _)); exact BK522.out) hb); have n5_ := Aside0.mk (below_step (by repeat (first | (with_reducible first | exact HB.out | apply below_alloc | apply pw_below_drewN | apply below_drew1 | refine below_set ?_ GE522.out) | exact HB.out)) hb); clear HO_523000; clear HO_523004; clear HO548; clear BK522; clear HB; have HO_523000 := n0_; have HO_523004 := n1_; have HO548 := n2_; have HO552 := n3_; have BK522 := n4_; have HB := n5_; clear n0_ n1_ n2_ n3_ n4_ n5_; (try clear hb); (try clear hb2); (try clear hk); (try clear hi); (try clear ho0); obtain ⟨Ao52, co52, eo52⟩ := Kd.R_slice HO552.out; subst eo52))
                    go_ret
                    exact ⟨by first | rfl | (simp [errW_none, errW_some] <;> rfl) | (simp [*, errW_none, errW_some] <;> rfl), by repeat (first | (with_reducible first | exact HB.out | apply below_alloc | apply pw_below_drewN | apply below_drew1 | refine below_set ?_ GE522.out) | exact HB.out)⟩
                  · rw [if_neg c40] at H
                    have c40b0 : (t518 == t511) = false := beq_eq_false_iff_ne.mpr c40
                    have c40b1 : (t518 != t511) = true := bne_iff_ne.mpr c40
                    exact absurd ((Option.some.inj H).trans hr_.out) (by decide)
                · rw [if_neg c39] at H
                  have c39b0 : (t517 == 0) = false := beq_eq_false_iff_ne.mpr c39
                  have c39b1 : (t517 != 0) = true := bne_iff_ne.mpr c39
                  exact absurd ((Option.some.inj H).trans hr_.out) (by decide)
              · rw [if_neg c38] at H
                have c38b0 : (t516 == t511) = false := beq_eq_false_iff_ne.mpr c38
                have c38b1 : (t516 != t511) = true := bne_iff_ne.mpr c38
                exact absurd ((Option.some.inj H).trans hr_.out) (by decide)
            · rw [if_neg c37] at H
              have c37b0 : ((t513.length : Int) == (wrap64 (t511 + t512))) = false := beq_eq_false_iff_ne.mpr c37
              have c37b1 : ((t513.length : Int) != (wrap64 (t511 + t512))) = true := bne_iff_ne.mpr c37
              exact absurd ((Option.some.inj H).trans hr_.out) (by decide)
          · replace c36 := Bool.eq_false_iff.mpr c36
            subst c36
            have H1 : (some false) = some r := by rw [if_neg (show ¬ (false = true) by decide)] at H; exact H
            clear H
            have H := H1
            clear H1
            exact absurd ((Option.some.inj H).trans hr_.out) (by decide)
def laws_FnMemNew.Pure : Prop := ∀ (l0 : List Int), l0.length ≤ maxLen → l0.length * 1 ≤ 140737488351232 → (∀ x ∈ l0, (Lit.int .u8 x).wf = true) → ∃ k, laws_FnMemNew.f k l0 = some true
theorem laws_FnMemNew.walk (P : laws_FnMemNew.Pure) (a0 : Option Addr) (len0 cap0 : Nat) (z0 : List Int) (w : World) (w0 : (a0 = none ∧ len0 = 0 ∧ cap0 = 0 ∧ z0 = []) ∨ ∃ x, a0 = some x ∧ len0 ≤ cap0 ∧ cap0 ≤ maxLen ∧ z0.length = cap0 ∧ (∀ i, i < z0.length → w.cell? (x.add i) = some (.int .u8 (z0.getD i 0))) ∧ ∀ n ∈ z0, (Lit.int .u8 n).wf = true) (y0 : len0 * 1 ≤ 140737488351232) :
    Calls Try.prog 3 #[.slice a0 len0 cap0] w fun e w' => e = .returned (.bool true) ∧ Below w.heap.size w w' := by
  obtain ⟨l0, rfl, hr0, hm0, hw0, hc0⟩ := ReadsInt.ofRowC w0
  obtain ⟨k, h⟩ := P l0 hm0 y0 hw0
  refine (laws_FnMemNew.calls k _ _ l0 true w ⟨rfl⟩ (Kd.C_of_reads (d := (0 : Int)) (h1 := fun _ => rfl) hr0) hc0 h).mono ?_
  rintro e w' ⟨rfl, hd⟩
  exact ⟨rfl, hd⟩
end Go.Proofs.Ytjnbilfhpdkcbaa.K
namespace Go.Proofs.Ytjnbilfhpdkcbaa.Pure
open Go.RowKit Go.Proofs.Ytjnbilfhpdkcbaa.K Go.Proofs.YtjnbilfhpdkcbaaW.PrintWords Go.Proofs.YtjnbilfhpdkcbaaW.PrintLast Go.Proofs.YtjnbilfhpdkcbaaW.PrintMore
set_option linter.unusedVariables false
set_option linter.unusedSimpArgs false
theorem leInts_l0 (xs : List Int) (hl : xs.length ≤ 1048576) (d : Nat) : ∀ (k i : Nat), i + d = xs.length → d < k → laws_leInts.l0 k xs xs i = some true := by
  induction d with
  | zero =>
    intro k i hi hk
    obtain ⟨k, rfl⟩ : ∃ m, k = m + 1 := ⟨k - 1, by omega⟩
    rw [laws_leInts.l0, if_neg (by omega)]
  | succ d ih =>
    intro k i hi hk
    obtain ⟨k, rfl⟩ : ∃ m, k = m + 1 := ⟨k - 1, by omega⟩
    rw [laws_leInts.l0, if_pos (by omega), if_pos (by omega), if_pos (by omega), if_pos rfl, wrap_inc (n := 1048577) (by omega) (by omega) (by omega)]
    have := ih k (i + 1) (by omega) (by omega)
    rw [show ((i + 1 : Nat) : Int) = (i : Int) + 1 by omega] at this
    exact this
theorem leInts_self (xs : List Int) (hl : xs.length ≤ 1048576) (k : Nat) (hk : 1048578 ≤ k) : laws_leInts.f k xs xs = some true := by
  unfold laws_leInts.f
  rw [if_pos rfl]
  exact leInts_l0 xs hl xs.length k 0 (by omega) (by omega)
theorem leMem_l0 (ws : List Int) (y t o : Int) (cs : List Bool) (hl : cs.length ≤ 1048576) (d : Nat) : ∀ (k i : Nat), i + d = cs.length → d < k → laws_leMem.l0 k i ws y t o cs ws y t o cs = some true := by
  induction d with
  | zero =>
    intro k i hi hk
    obtain ⟨k, rfl⟩ : ∃ m, k = m + 1 := ⟨k - 1, by omega⟩
    rw [laws_leMem.l0, if_neg (by omega)]
  | succ d ih =>
    intro k i hi hk
    obtain ⟨k, rfl⟩ : ∃ m, k = m + 1 := ⟨k - 1, by omega⟩
    rw [laws_leMem.l0, if_pos (by omega), if_pos (by omega), if_pos (by omega), if_neg (by simp), wrap_inc (n := 1048577) (by omega) (by omega) (by omega)]
    have := ih k (i + 1) (by omega) (by omega)
    rw [show ((i + 1 : Nat) : Int) = (i : Int) + 1 by omega] at this
    exact this
theorem leMem_self (ws : List Int) (y t o : Int) (cs : List Bool) (hw : ws.length ≤ 1048576) (hl : cs.length ≤ 1048576) : Ev (fun k => laws_leMem.f k ws y t o cs ws y t o cs) true := by
  refine ⟨1048580, fun k hk => ?_⟩
  show laws_leMem.f k ws y t o cs ws y t o cs = some true
  unfold laws_leMem.f
  rw [leInts_self ws hw k (by omega), Option.bind_some, if_pos rfl, if_pos rfl, if_pos rfl, if_pos rfl]
  obtain ⟨k, rfl⟩ : ∃ m, k = m + 1 := ⟨k - 1, by omega⟩
  rw [laws_leMem.j0, if_neg (by simp)]
  exact leMem_l0 ws y t o cs hl cs.length k 0 (by omega) (by omega)
end Go.Proofs.Ytjnbilfhpdkcbaa.Pure
namespace Go.Proofs.Ytjnbilfhpdkcbaa.Pure
open Go.RowKit Go.Proofs.Ytjnbilfhpdkcbaa.K Go.Proofs.YtjnbilfhpdkcbaaW.PrintWords Go.Proofs.YtjnbilfhpdkcbaaW.PrintLast Go.Proofs.YtjnbilfhpdkcbaaW.PrintMore
set_option linter.unusedVariables false
set_option linter.unusedSimpArgs false
theorem impl_within_eq (a b c : Int) : impl_within.f a b c = some (decide (a ≤ b ∧ b ≤ c)) := by
  unfold impl_within.f
  by_cases h : a ≤ b
  · rw [if_pos h]; simp [h]
  · rw [if_neg h]; simp [h]
end Go.Proofs.Ytjnbilfhpdkcbaa.Pure
namespace Go.Proofs.Ytjnbilfhpdkcbaa.Pure
open Go.RowKit Go.Proofs.Ytjnbilfhpdkcbaa.K Go.Proofs.YtjnbilfhpdkcbaaW.PrintWords Go.Proofs.YtjnbilfhpdkcbaaW.PrintLast Go.Proofs.YtjnbilfhpdkcbaaW.PrintMore
set_option linter.unusedVariables false
set_option linter.unusedSimpArgs false
def memNewR (a0 a1 : Int) : List Int × Int × Int × Int × List Bool :=
  if (0 ≤ a0 ∧ a0 ≤ 40) ∧ (14 ≤ a1 ∧ a1 ≤ 120) then (List.replicate (a0 + a1).toNat 0, a0, 0, a0, List.replicate ((a1 + 3) / 4).toNat false) else ([], 0, 0, 0, [])
theorem spec_l21Cards_eq (a : Int) (h0 : 0 ≤ a) (h : a ≤ 1000000) : spec_l21Cards.f a = some ((a + 3) / 4) := by
  unfold spec_l21Cards.f
  rw [wrap64_of (n := a + 4) (by omega) (by omega), wrap64_of (n := a + 4 - 1) (by omega) (by omega), Int.tdiv_eq_ediv_of_nonneg (by omega), show a + 4 - 1 = a + 3 from by omega, wrap64_of (by omega) (by omega)]
theorem impl_cardsOf_eq (a : Int) (h0 : 0 ≤ a) (h : a ≤ 1000000) : impl_cardsOf.f a = some ((a + 3) / 4) := by
  have := spec_l21Cards_eq a h0 h
  unfold spec_l21Cards.f at this
  unfold impl_cardsOf.f
  exact this
theorem spec_MemNew_eq (a0 a1 : Int) : spec_MemNew.f a0 a1 = some (memNewR a0 a1) := by
  unfold spec_MemNew.f memNewR
  rw [spec_l6In_eq, spec_l6In_eq]
  simp only [Option.bind_some, decide_eq_true_eq]
  by_cases h1 : 0 ≤ a0 ∧ a0 ≤ 40
  · rw [if_pos h1]
    by_cases h2 : 14 ≤ a1 ∧ a1 ≤ 120
    · rw [if_pos h2, if_pos (show (0 ≤ a0 ∧ a0 ≤ 40) ∧ (14 ≤ a1 ∧ a1 ≤ 120) from ⟨h1, h2⟩), wrap64_of (n := a0 + a1) (by omega) (by omega), if_pos (by omega), if_pos (by omega), spec_l21Cards_eq a1 (by omega) (by omega)]
      simp only [Option.bind_some]
      rw [if_pos (by omega), if_pos (by omega)]
    · rw [if_neg h2, if_neg (fun h => h2 h.2)]
  · rw [if_neg h1, if_neg (fun h => h1 h.1)]
theorem impl_memNew_eq (a0 a1 : Int) : impl_memNew.f a0 a1 = some ((memNewR a0 a1).1, (memNewR a0 a1).2.1, (memNewR a0 a1).2.2.1, (memNewR a0 a1).2.2.2.1, (memNewR a0 a1).2.2.2.2, decide ((0 ≤ a0 ∧ a0 ≤ 40) ∧ (14 ≤ a1 ∧ a1 ≤ 120))) := by
  unfold impl_memNew.f memNewR
  rw [impl_within_eq, impl_within_eq]
  simp only [Option.bind_some, decide_eq_true_eq]
  by_cases h1 : 0 ≤ a0 ∧ a0 ≤ 40
  · rw [if_pos h1]
    by_cases h2 : 14 ≤ a1 ∧ a1 ≤ 120
    · rw [if_pos h2, if_pos (show (0 ≤ a0 ∧ a0 ≤ 40) ∧ (14 ≤ a1 ∧ a1 ≤ 120) from ⟨h1, h2⟩), wrap64_of (n := a0 + a1) (by omega) (by omega), if_pos (by omega), if_pos (by omega), impl_cardsOf_eq a1 (by omega) (by omega)]
      simp only [Option.bind_some]
      rw [if_pos (by omega), if_pos (by omega)]
      simp [h1, h2]
    · rw [if_neg h2, if_neg (fun h => h2 h.2)]
      simp [h2]
  · rw [if_neg h1, if_neg (fun h => h1 h.1)]
    simp [h1]
theorem impl_MemNew_eq (a0 a1 : Int) : impl_MemNew.f a0 a1 = some (memNewR a0 a1) := by
  unfold impl_MemNew.f
  rw [impl_memNew_eq]
  rfl
theorem memNewR_len (a0 a1 : Int) : (memNewR a0 a1).1.length ≤ 160 ∧ (memNewR a0 a1).2.2.2.2.length ≤ 31 := by
  unfold memNewR
  split
  · simp only [List.length_replicate]; omega
  · simp
end Go.Proofs.Ytjnbilfhpdkcbaa.Pure
namespace Go.Proofs.Ytjnbilfhpdkcbaa.Pure
open Go.RowKit Go.Proofs.Ytjnbilfhpdkcbaa.K Go.Proofs.YtjnbilfhpdkcbaaW.PrintWords Go.Proofs.YtjnbilfhpdkcbaaW.PrintLast Go.Proofs.YtjnbilfhpdkcbaaW.PrintMore
set_option linter.unusedVariables false
set_option linter.unusedSimpArgs false
theorem xor_nn (a b : Int) (ha : 0 ≤ a) (hb : 0 ≤ b) (ha2 : a < 4611686018427387904) (hb2 : b < 4611686018427387904) : 0 ≤ Go.bits .xor .i64 a b := by
  obtain ⟨x, rfl⟩ : ∃ x : Nat, a = x := ⟨a.toNat, by omega⟩
  obtain ⟨y, rfl⟩ : ∃ y : Nat, b = y := ⟨b.toNat, by omega⟩
  have hx : x ^^^ y < 2 ^ 62 := Nat.xor_lt_two_pow (by omega) (by omega)
  have h1 : (BitVec.ofInt 64 (x : Int)).toNat = x := by rw [BitVec.ofInt_natCast, BitVec.toNat_ofNat]; exact Nat.mod_eq_of_lt (by omega)
  have h2 : (BitVec.ofInt 64 (y : Int)).toNat = y := by rw [BitVec.ofInt_natCast, BitVec.toNat_ofNat]; exact Nat.mod_eq_of_lt (by omega)
  show 0 ≤ IntKind.i64.wrap ((BitVec.ofInt 64 (x : Int) ^^^ BitVec.ofInt 64 (y : Int)).toNat : Int)
  rw [BitVec.toNat_xor, h1, h2, i64_w, wrap64_of (by omega) (by omega)]
  omega
theorem rd_byte {b : List Int} (hb : ∀ x ∈ b, 0 ≤ x ∧ x ≤ 255) (i : Int) : 0 ≤ rd b i ∧ rd b i ≤ 255 := by
  unfold rd
  rw [List.getD_eq_getElem?_getD]
  by_cases h : i.toNat < b.length
  · rw [List.getElem?_eq_getElem h]; exact hb _ (List.getElem_mem h)
  · rw [List.getElem?_eq_none (by omega)]; simp
theorem tmod_in (x n : Int) (hx : 0 ≤ x) (hn : 1 ≤ n) : 0 ≤ Int.tmod x n ∧ Int.tmod x n < n := ⟨Int.tmod_nonneg _ hx, Int.tmod_lt_of_pos _ (by omega)⟩
theorem pick_ev {b : List Int} (hb : ∀ x ∈ b, 0 ≤ x ∧ x ≤ 255) (hl : b.length ≤ 2000) {p n : Int} (hp : 0 ≤ p) (hp2 : p ≤ 1000000) (hn : 1 ≤ n) (hn2 : n ≤ 1000000) :
    ∃ v, 0 ≤ v ∧ v < n ∧ ∀ k, 1 ≤ k → spec_l6Rd_pick.f k b p n = some (v, p + 1) := by
  have key : ∃ v, 0 ≤ v ∧ v < n ∧ spec_l6Rd_pick.j0 (0 + 1) n ((b.length : Int) == 0) b (p + 1) = some (v, p + 1) ∧ ∀ m, spec_l6Rd_pick.j0 (m + 1) n ((b.length : Int) == 0) b (p + 1) = spec_l6Rd_pick.j0 (0 + 1) n ((b.length : Int) == 0) b (p + 1) := by
    by_cases h0 : (b.length : Int) = 0
    · refine ⟨0, by omega, by omega, ?_, fun m => ?_⟩
      · rw [spec_l6Rd_pick.j0, if_pos (beq_iff_eq.mpr h0)]
      · rw [spec_l6Rd_pick.j0, spec_l6Rd_pick.j0]
    have e0 : ((b.length : Int) == 0) = false := beq_eq_false_iff_ne.mpr h0
    have ep : wrap64 (p + 1 - 1) = p := by rw [wrap64_of (by omega) (by omega)]; omega
    by_cases h1 : p < (b.length : Int)
    · obtain ⟨r0, r1⟩ := rd_byte hb p
      obtain ⟨t0, t1⟩ := tmod_in (rd b p) n r0 hn
      refine ⟨Int.tmod (rd b p) n, t0, t1, ?_, fun m => ?_⟩
      · rw [spec_l6Rd_pick.j0, e0, if_neg (by simp), ep, if_pos h1, if_pos hp, if_neg (by omega), wrap64_of (n := rd b p) (by omega) (by omega)]
      · rw [spec_l6Rd_pick.j0, spec_l6Rd_pick.j0]
    obtain ⟨q0, q1⟩ := tmod_in p b.length hp (by omega)
    have w7 : wrap64 (p * 7) = p * 7 := wrap64_of (by omega) (by omega)
    have w73 : wrap64 (p * 7 + 3) = p * 7 + 3 := wrap64_of (by omega) (by omega)
    obtain ⟨s0, s1⟩ := tmod_in (p * 7 + 3) b.length (by omega) (by omega)
    obtain ⟨a0, a1⟩ := rd_byte hb (Int.tmod p b.length)
    obtain ⟨c0, c1⟩ := rd_byte hb (Int.tmod (p * 7 + 3) b.length)
    have d0 : 0 ≤ Int.tdiv p b.length := Int.tdiv_nonneg hp (by omega)
    have d1 : Int.tdiv p b.length ≤ p := by rw [Int.tdiv_eq_ediv_of_nonneg hp]; exact Int.ediv_le_self _ hp
    obtain ⟨A, hA⟩ : ∃ A, A = rd b (Int.tmod p b.length) := ⟨_, rfl⟩
    obtain ⟨C, hC⟩ : ∃ C, C = rd b (Int.tmod (p * 7 + 3) b.length) := ⟨_, rfl⟩
    obtain ⟨D, hD⟩ : ∃ D, D = Int.tdiv p b.length := ⟨_, rfl⟩
    rw [← hA] at a0 a1
    rw [← hC] at c0 c1
    rw [← hD] at d0 d1
    obtain ⟨X, hX⟩ : ∃ X, X = A * 131 + C * 1117 + p * 29 + D * 53 := ⟨_, rfl⟩
    have x0 : 0 ≤ X := by omega
    have x1 : X ≤ 1000000000 := by omega
    have y0 : 0 ≤ Int.tdiv X 64 := Int.tdiv_nonneg x0 (by omega)
    have y1 : Int.tdiv X 64 ≤ X := by rw [Int.tdiv_eq_ediv_of_nonneg x0]; exact Int.ediv_le_self _ x0
    obtain ⟨t0, t1⟩ := tmod_in (Go.bits .xor .i64 X (Int.tdiv X 64)) n (xor_nn _ _ x0 y0 (by omega) (by omega)) hn
    have wA : wrap64 A = A := wrap64_of (by omega) (by omega)
    have wC : wrap64 C = C := wrap64_of (by omega) (by omega)
    have wA1 : wrap64 (A * 131) = A * 131 := wrap64_of (by omega) (by omega)
    have wC1 : wrap64 (C * 1117) = C * 1117 := wrap64_of (by omega) (by omega)
    have wp : wrap64 (p * 29) = p * 29 := wrap64_of (by omega) (by omega)
    have wD : wrap64 D = D := wrap64_of (by omega) (by omega)
    have wD1 : wrap64 (D * 53) = D * 53 := wrap64_of (by omega) (by omega)
    have w1 : wrap64 (A * 131 + C * 1117) = A * 131 + C * 1117 := wrap64_of (by omega) (by omega)
    have w2 : wrap64 (A * 131 + C * 1117 + p * 29) = A * 131 + C * 1117 + p * 29 := wrap64_of (by omega) (by omega)
    have w3 : wrap64 (A * 131 + C * 1117 + p * 29 + D * 53) = X := by rw [← hX]; exact wrap64_of (by omega) (by omega)
    have w4 : wrap64 (Int.tdiv X 64) = Int.tdiv X 64 := wrap64_of (by omega) (by omega)
    refine ⟨_, t0, t1, ?_, fun m => ?_⟩
    · rw [spec_l6Rd_pick.j0, e0, if_neg (by simp), ep, if_neg h1, if_neg h0, if_pos q0, if_pos q1, w7, w73, if_pos s0, if_pos s1, if_neg (by omega), ← hA, ← hC, ← hD, wA, wC, wA1, wC1, wp, wD, wD1, w1, w2, w3, w4]
    · rw [spec_l6Rd_pick.j0, spec_l6Rd_pick.j0]
  obtain ⟨v, v0, v1, h1, h2⟩ := key
  refine ⟨v, v0, v1, fun k hk => ?_⟩
  obtain ⟨m, rfl⟩ : ∃ m, k = m + 1 := ⟨k - 1, by omega⟩
  unfold spec_l6Rd_pick.f
  rw [if_neg (by omega), wrap64_of (n := p + 1) (by omega) (by omega), h2, h1]
theorem l6Open_ev {l : List Int} (hl : ∀ x ∈ l, (Lit.int .u8 x).wf = true) : ∃ b, spec_l6Open.f l = some (b, 0) ∧ b.length ≤ 2000 ∧ ∀ x ∈ b, 0 ≤ x ∧ x ≤ 255 := by
  have hb : ∀ x ∈ l, 0 ≤ x ∧ x ≤ 255 := fun x hx => by
    have h := hl x hx
    have h1 : IntKind.u8.min = 0 := by decide
    have h2 : IntKind.u8.max = 255 := by decide
    simp [Lit.wf] at h
    omega
  unfold spec_l6Open.f
  by_cases h : (l.length : Int) > 2000
  · exact ⟨l.take 2000, by rw [if_pos h, if_pos (by omega)], by rw [List.length_take]; omega, fun x hx => hb x (List.mem_of_mem_take hx)⟩
  · exact ⟨l, by rw [if_neg h], by omega, hb⟩
end Go.Proofs.Ytjnbilfhpdkcbaa.Pure
namespace Go.Proofs.Ytjnbilfhpdkcbaa.Pure
open Go.RowKit Go.Proofs.Ytjnbilfhpdkcbaa.K Go.Proofs.YtjnbilfhpdkcbaaW.PrintWords Go.Proofs.YtjnbilfhpdkcbaaW.PrintLast Go.Proofs.YtjnbilfhpdkcbaaW.PrintMore
set_option linter.unusedVariables false
set_option linter.unusedSimpArgs false
theorem draw_ev {l : List Int} (hl : ∀ x ∈ l, (Lit.int .u8 x).wf = true) : ∃ a b, Ev (fun k => spec_DrawMemNew.f k l) (a, b) := by
  obtain ⟨b, hb, hb1, hb2⟩ := l6Open_ev hl
  obtain ⟨v, v0, v1, hv⟩ := pick_ev hb2 hb1 (p := 0) (n := 43) (by omega) (by omega) (by omega) (by omega)
  obtain ⟨u, u0, u1, hu⟩ := pick_ev hb2 hb1 (p := 1) (n := 6) (by omega) (by omega) (by omega) (by omega)
  refine ⟨wrap64 (v - 1), rd [13, 14, 20, 50, 120, 121] u, 1, fun k hk => ?_⟩
  show spec_DrawMemNew.f k l = _
  unfold spec_DrawMemNew.f
  rw [hb, Option.bind_some, hv k hk, Option.bind_some, Option.bind_some, show (0 : Int) + 1 = 1 by omega, hu k hk, Option.bind_some, if_pos u0, if_pos (by simp only [List.length_cons, List.length_nil]; omega)]
def twoCs : Cs := [⟨-1, []⟩, ⟨0, [1]⟩]
theorem twoCs_ok : csOk twoCs = true := by decide
theorem zeros_all (n a b : Nat) : (((List.replicate n (0 : Int)).take a).drop b).all (· == 0) = true := by
  rw [List.all_eq_true]
  intro x hx
  have := List.eq_of_mem_replicate (List.mem_of_mem_take (List.mem_of_mem_drop hx))
  simp [this]
theorem zeros_all2 (n a b : Nat) : (((List.replicate n (0 : Int)).drop a).drop b).all (· == 0) = true := by
  rw [List.all_eq_true]
  intro x hx
  have := List.eq_of_mem_replicate (List.mem_of_mem_drop (List.mem_of_mem_drop hx))
  simp [this]
theorem mopen_new {a b : Int} (ha : 0 ≤ a ∧ a ≤ 40) (hb : 14 ≤ b ∧ b ≤ 120) (k : Nat) (hk : 4000000 ≤ k) :
    mopen k k twoCs (List.replicate (a + b).toNat 0) a 0 a (List.replicate ((b + 3) / 4).toNat false) = some (some ⟨List.replicate (a + b).toNat 0, a, 0, a, List.replicate ((b + 3) / 4).toNat false, allF twoCs, []⟩) := by
  have hn : ((List.replicate (a + b).toNat (0 : Int)).length : Int) = a + b := by rw [List.length_replicate]; omega
  have hp : impl_partsOk.f (List.replicate (a + b).toNat 0) a 0 a (List.replicate ((b + 3) / 4).toNat false) = some true := by
    unfold impl_partsOk.f
    rw [if_pos (by omega)]
    have e0 : pOk (List.replicate (a + b).toNat 0) a 0 a (List.replicate ((b + 3) / 4).toNat false) 0 = true := decide_eq_true ha
    have w : wrap64 (((List.replicate (a + b).toNat (0 : Int)).length : Int) - a) = b := by rw [hn, wrap64_of (by omega) (by omega)]; omega
    have e1 : pOk (List.replicate (a + b).toNat 0) a 0 a (List.replicate ((b + 3) / 4).toNat false) 1 = true := by unfold pOk; rw [w]; exact decide_eq_true hb
    have e2 : pOk (List.replicate (a + b).toNat 0) a 0 a (List.replicate ((b + 3) / 4).toNat false) 2 = true := decide_eq_true ⟨by omega, by omega⟩
    have e3 : pOk (List.replicate (a + b).toNat 0) a 0 a (List.replicate ((b + 3) / 4).toNat false) 3 = true := decide_eq_true ⟨by omega, by omega⟩
    have e4 : pOk (List.replicate (a + b).toNat 0) a 0 a (List.replicate ((b + 3) / 4).toNat false) 4 = true := by
      unfold pOk; rw [w]
      refine beq_iff_eq.mpr ?_
      unfold cardsN
      rw [wrap64_of (n := b + 4) (by omega) (by omega), wrap64_of (n := b + 4 - 1) (by omega) (by omega), Int.tdiv_eq_ediv_of_nonneg (by omega), wrap64_of (by omega) (by omega), List.length_replicate]
      omega
    have e5 : pOk (List.replicate (a + b).toNat 0) a 0 a (List.replicate ((b + 3) / 4).toNat false) 5 = true := zeros_all _ _ _
    have e6 : pOk (List.replicate (a + b).toNat 0) a 0 a (List.replicate ((b + 3) / 4).toNat false) 6 = true := zeros_all2 _ _ _
    rw [e0, e1, e2, e3, e4, e5, e6]; rfl
  have hw : ∀ i acc, mwalk (List.replicate (a + b).toNat 0) (allF twoCs) i k i acc = some (true, acc) := fun i acc => by
    obtain ⟨k, rfl⟩ : ∃ m, k = m + 1 := ⟨k - 1, by omega⟩
    rw [mwalk, if_neg (by omega)]
  unfold mopen
  rw [impl_ClassesOk_eq twoCs k (by omega), twoCs_ok, Option.bind_some, if_pos rfl, hp, Option.bind_some, if_pos rfl, allFields_eq twoCs_ok k (by omega), Option.bind_some, if_pos ⟨allF_all twoCs_ok, by omega, by rw [List.length_replicate]; omega⟩, hw, Option.bind_some]
  simp only [if_true]
  rw [if_pos (by simp), hw, Option.bind_some]
  simp only [if_true]
  rw [if_pos (by simp)]
  rfl
theorem FnMemNew : laws_FnMemNew.Pure := by
  intro l h0 h1 h2
  refine Ev.rounds ?_
  simp only [laws_FnMemNew.f]
  by_cases c : (l.length : Int) > 1048576
  · exact evp c (Ev.now _)
  refine evn c ?_
  obtain ⟨a, b, hd⟩ := draw_ev h2
  refine hd.bind ?_
  simp only [impl_MemNew_eq, spec_MemNew_eq, Option.bind_some]
  obtain ⟨l1, l2⟩ := memNewR_len a b
  refine (leMem_self _ _ _ _ _ (by omega) (by omega)).bind ?_
  refine evp rfl ?_
  refine Ev.step (fun k => laws_FnMemNew.j0.eq_2 ..) ?_
  by_cases c1 : (((memNewR a b).1.length : Int) == 0) = true
  · refine evp c1 ?_
    simp only [spec_MemNew_eq, Option.bind_some]
    exact (leMem_self _ _ _ _ _ (by omega) (by omega)).bind (Ev.now _)
  refine evn c1 ?_
  have hR : (0 ≤ a ∧ a ≤ 40) ∧ (14 ≤ b ∧ b ≤ 120) := by
    refine Classical.byContradiction fun z => c1 ?_
    unfold memNewR
    rw [if_neg z]; rfl
  have hE : memNewR a b = (List.replicate (a + b).toNat 0, a, 0, a, List.replicate ((b + 3) / 4).toNat false) := by unfold memNewR; rw [if_pos hR]
  rw [hE]
  simp only [Option.bind_some]
  refine (ev_from (f := fun k => impl_MemOk.f k twoCs (List.replicate (a + b).toNat 0) a 0 a (List.replicate ((b + 3) / 4).toNat false)) (r := true) 4000000 (fun k hk => by unfold impl_MemOk.f; rw [mopen_new hR.1 hR.2 k hk]; rfl)).bind ?_
  refine evp rfl ?_
  refine evp (by rw [List.length_replicate, wrap64_of (by omega) (by omega)]; omega) ?_
  refine evp trivial (evp trivial (evp trivial ?_))
  refine (ev_from (f := fun k => impl_MemWalk.f k twoCs (List.replicate (a + b).toNat 0) a 0 a (List.replicate ((b + 3) / 4).toNat false)) (r := []) 4000000 (fun k hk => by unfold impl_MemWalk.f; rw [mopen_new hR.1 hR.2 k hk]; rfl)).bind ?_
  exact Ev.now _
end Go.Proofs.Ytjnbilfhpdkcbaa.Pure
