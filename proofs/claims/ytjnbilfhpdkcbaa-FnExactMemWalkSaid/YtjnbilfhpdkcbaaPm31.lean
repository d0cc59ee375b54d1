import Derived.Test.YtjnbilfhpdkcbaaPm24
import Derived.Test.YtjnbilfhpdkcbaaPm28
import Derived.Test.YtjnbilfhpdkcbaaPm30
import Derived.Test.YtjnbilfhpdkcbaaPm29
import Derived.Test.YtjnbilfhpdkcbaaPm26
import Derived.Test.YtjnbilfhpdkcbaaPm33
import Derived.Test.YtjnbilfhpdkcbaaPm35
import Derived.Laws.Bits64
namespace Go.Proofs.Ytjnbilfhpdkcbaa.K
open Go.RowKit Go.Proofs.YtjnbilfhpdkcbaaW.PrintWords Go.Proofs.YtjnbilfhpdkcbaaW.PrintLast Go.Proofs.YtjnbilfhpdkcbaaW.PrintMore
attribute [local go_sem] max2_int min2_int max_two min_two max_three min_three max_four min_four
set_option linter.unusedVariables false
set_option linter.unusedSimpArgs false
mutual
def spec_l21Thing.l0 : Nat → List Bool → Int → List Bool → Int → List Int → Int → Int → Int → List Bool → Option (Bool)
  | 0, _, _, _, _, _, _, _, _, _ => none
  | k + 1, x2, x3, x9, x10, x223000, x223001, x223002, x223003, x223004 => if x10 < (x9.length : Int) then (if 0 ≤ (wrap64 (x3 + x10)) then (if (wrap64 (x3 + x10)) < (x223000.length : Int) then (if 0 ≤ x10 then (if rdOf false x9 x10 = true then ((spec_l21Lead.f x2 (rd x223000 (wrap64 (x3 + x10)))).bind fun t230 => (if t230 = true then (spec_l21Thing.j1 k x2 x3 x9 x10 (rd x223000 (wrap64 (x3 + x10))) false x223000 x223001 x223002 x223003 x223004) else (spec_l21Thing.j1 k x2 x3 x9 x10 (rd x223000 (wrap64 (x3 + x10))) true x223000 x223001 x223002 x223003 x223004))) else ((spec_l1Word.f (rd x223000 (wrap64 (x3 + x10)))).bind fun t233 => (spec_l21Thing.j1 k x2 x3 x9 x10 (rd x223000 (wrap64 (x3 + x10))) (!t233) x223000 x223001 x223002 x223003 x223004))) else (none)) else (none)) else (none)) else (some true)
def spec_l21Thing.j1 : Nat → List Bool → Int → List Bool → Int → Int → Bool → List Int → Int → Int → Int → List Bool → Option (Bool)
  | 0, _, _, _, _, _, _, _, _, _, _, _ => none
  | k + 1, x2, x3, x9, x10, x11, x57, x223000, x223001, x223002, x223003, x223004 => if x57 = true then (some false) else (if 0 ≤ x10 then (if x10 < (x9.length : Int) then (if rdOf false x9 x10 = true then (if x3 ≥ x223001 then ((spec_l6In.f x11 1 x223001).bind fun t235 => (if t235 = true then (if 0 ≤ (wrap64 (Int.tdiv (wrap64 ((wrap64 (x3 + x10)) - x223001)) 4)) then (if (wrap64 (Int.tdiv (wrap64 ((wrap64 (x3 + x10)) - x223001)) 4)) < (x223004.length : Int) then (if (rdOf false x223004 (wrap64 (Int.tdiv (wrap64 ((wrap64 (x3 + x10)) - x223001)) 4)) = true) then (spec_l21Thing.l0 k x2 x3 x9 (wrap64 (x10 + 1)) x223000 x223001 x223002 x223003 x223004) else (some false)) else (none)) else (none)) else (spec_l21Thing.l0 k x2 x3 x9 (wrap64 (x10 + 1)) x223000 x223001 x223002 x223003 x223004))) else (spec_l21Thing.l0 k x2 x3 x9 (wrap64 (x10 + 1)) x223000 x223001 x223002 x223003 x223004)) else (spec_l21Thing.l0 k x2 x3 x9 (wrap64 (x10 + 1)) x223000 x223001 x223002 x223003 x223004)) else (none)) else (none))
end
def spec_l21Thing.f (k : Nat) (l0 : List (S32)) (l1_0 : List Int) (a1_1 : Int) (a1_2 : Int) (a1_3 : Int) (l1_4 : List Bool) (l2 : List Bool) (a3 : Int) : Option (Bool) := (spec_l21Refs.f k l0 l1_0 a3).bind fun t223 => (if 0 ≤ a3 then (if a3 < (l1_0.length : Int) then ((spec_l21Head.f (rd l1_0 a3)).bind fun t227 => (spec_l21Thing.l0 k l2 a3 t223 t227 l1_0 a1_1 a1_2 a1_3 l1_4)) else (none)) else (none))
set_option maxHeartbeats 8000000 in
set_option maxRecDepth 100000 in
theorem spec_l21Thing.calls (k : Nat) (A0 : Option Addr) (c0 : Nat) (l0 : List (S32)) (A1_0 : Option Addr) (c1_0 : Nat) (l1_0 : List Int) (a1_1 : Int) (a1_2 : Int) (a1_3 : Int) (A1_4 : Option Addr) (c1_4 : Nat) (l1_4 : List Bool) (A2 : Option Addr) (c2 : Nat) (l2 : List Bool) (a3 : Int) (r : Bool) (w : World) (hr0 : Kd.C k32 w A0 l0.length l0) (hc0 : l0.length ≤ c0) (hr1_0 : Kd.C (Kd.int .i64) w A1_0 l1_0.length l1_0) (hc1_0 : l1_0.length ≤ c1_0) (hr1_4 : Kd.C Kd.bool w A1_4 l1_4.length l1_4) (hc1_4 : l1_4.length ≤ c1_4) (hr2 : Kd.C Kd.bool w A2 l2.length l2) (hc2 : l2.length ≤ c2) (h : spec_l21Thing.f k l0 l1_0 a1_1 a1_2 a1_3 l1_4 l2 a3 = some r) :
    Calls Try.prog 46 #[.slice A0 l0.length c0, .agg #[.slice A1_0 l1_0.length c1_0, .int .i64 a1_1, .int .i64 a1_2, .int .i64 a1_3, .slice A1_4 l1_4.length c1_4], .slice A2 l2.length c2, .int .i64 a3] w fun e w' => e = .returned (.bool r) ∧ Below w.heap.size w w' := by
  have hu28 := Try.underlying28
  have HR0 := Aside0.mk hr0
  have HC0 := Aside0.mk hc0
  clear hr0 hc0
  have HR1_0 := Aside0.mk hr1_0
  have HC1_0 := Aside0.mk hc1_0
  clear hr1_0 hc1_0
  have HR1_4 := Aside0.mk hr1_4
  have HC1_4 := Aside0.mk hc1_4
  clear hr1_4 hc1_4
  have HR2 := Aside0.mk hr2
  have HC2 := Aside0.mk hc2
  clear hr2 hc2
  have HB := Aside0.mk (Below.refl w.heap.size w)
  have H : ((spec_l21Refs.f k l0 l1_0 a3).bind fun t223 => (if 0 ≤ a3 then (if a3 < (l1_0.length : Int) then ((spec_l21Head.f (rd l1_0 a3)).bind fun t227 => (spec_l21Thing.l0 k l2 a3 t223 t227 l1_0 a1_1 a1_2 a1_3 l1_4)) else (none)) else (none))) = some r := h
  clear h
  replace H := Option.bind_eq_some_iff.mp H
  obtain ⟨t223, A50, H⟩ := H
  replace H : (if 0 ≤ a3 then (if a3 < (l1_0.length : Int) then ((spec_l21Head.f (rd l1_0 a3)).bind fun t227 => (spec_l21Thing.l0 k l2 a3 t223 t227 l1_0 a1_1 a1_2 a1_3 l1_4)) else (none)) else (none)) = some r := H
  have A5 := Aside0.mk A50
  clear A50
  by_cases c6 : 0 ≤ a3
  · rw [if_pos c6] at H
    have c6b0 : decide (0 ≤ a3) = true := decide_eq_true c6
    clear c6
    by_cases c7 : a3 < (l1_0.length : Int)
    · rw [if_pos c7] at H
      have c7b0 : decide (a3 < (l1_0.length : Int)) = true := decide_eq_true c7
      clear c7
      replace H := Option.bind_eq_some_iff.mp H
      obtain ⟨t227, A80, H⟩ := H
      replace H : (spec_l21Thing.l0 k l2 a3 t223 t227 l1_0 a1_1 a1_2 a1_3 l1_4) = some r := H
      have A8 := Aside0.mk A80
      clear A80
      have H' := Aside0.mk H
      clear H
      go_enter Try.func46, Try.ntmps46
      go_wp2_with (first | ((with_reducible refine gate_dst (N := 5) rfl ?_); refine box_event ?hg (N := 5) ?hd (cs := #[.slice A1_0 l1_0.length c1_0, .int .i64 a1_1, .int .i64 a1_2, .int .i64 a1_3, .slice A1_4 l1_4.length c1_4]) (t := 28) ?hr ?_; (case hd => rfl); (case hg => rfl); (case hr => first | (go_simp; done) | (go_simp; rfl)); intro gb222 hg w9 hbox hb; have n0_ := Aside0.mk (below_step (by repeat (first | (with_reducible first | exact HB.out | apply below_alloc | apply pw_below_drewN | apply below_drew1) | exact HB.out)) hb); have n1_ := Aside0.mk (hbox); have n2_ := Aside0.mk ((by rw [hg]; exact (below_size (by repeat (first | (with_reducible first | exact HB.out | apply below_alloc | apply pw_below_drewN | apply below_drew1) | exact HB.out))) : w.heap.size ≤ gb222)); have n3_ := Aside0.mk ((by rw [hg]; exact (below_size (by repeat (first | (with_reducible first | exact HB.out | apply below_alloc | apply pw_below_drewN | apply below_drew1) | exact HB.out))) : w.heap.size ≤ gb222)); clear HB; have HB := n0_; have BK222 := n1_; have GW222 := n2_; have GE222 := n3_; clear n0_ n1_ n2_ n3_; clear hb hbox hg; have hcz10_0 : w9.cell? ⟨gb222, 0, none⟩ = some (.slice A1_0 l1_0.length c1_0) := (blk_cell BK222.out 0).trans rfl; have hcz10_1 : w9.cell? ⟨gb222, 1, none⟩ = some (.int .i64 a1_1) := (blk_cell BK222.out 1).trans rfl; have hcz10_2 : w9.cell? ⟨gb222, 2, none⟩ = some (.int .i64 a1_2) := (blk_cell BK222.out 2).trans rfl; have hcz10_3 : w9.cell? ⟨gb222, 3, none⟩ = some (.int .i64 a1_3) := (blk_cell BK222.out 3).trans rfl; have hcz10_4 : w9.cell? ⟨gb222, 4, none⟩ = some (.slice A1_4 l1_4.length c1_4) := (blk_cell BK222.out 4).trans rfl; have hfz10_0 := blk_frozen BK222.out 0; have hfz10_1 := blk_frozen BK222.out 1; have hfz10_2 := blk_frozen BK222.out 2; have hfz10_3 := blk_frozen BK222.out 3; have hfz10_4 := blk_frozen BK222.out 4) | ((with_reducible refine gate_callee (f := 72) rfl ?_); refine goesL_ (some 16) rfl rfl Try.func72 (by kernel_rfl) rfl #[.slice A0 l0.length c0, .slice A1_0 l1_0.length c1_0, .int .i64 a3] rfl (by (try simp only [List.map_toArray, List.map_cons, List.map_nil]); first | done | rfl | (simp only [List.length_drop, List.length_take]; rfl)) ?_; (with_reducible refine (spec_l21Refs.calls k _ _ l0 _ _ l1_0 a3 t223 _ ?side1 ?side2 ?side3 ?side4 A5.out).mono ?_); (case side1 => repeat (first | exact (Kd.C_below HR0.out HB.out) | (with_reducible refine Kd.C_alloc ?_ _) | (with_reducible refine Kd.C_drewN ?_ _) | (with_reducible refine Kd.C_drew ?_))); (case side2 => exact HC0.out); (case side3 => repeat (first | exact (Kd.C_below HR1_0.out HB.out) | (with_reducible refine Kd.C_alloc ?_ _) | (with_reducible refine Kd.C_drewN ?_ _) | (with_reducible refine Kd.C_drew ?_))); (case side4 => exact HC1_0.out); rintro e w11 ⟨v224, rfl, ho0, hb⟩; refine ⟨_, rfl, ?_⟩; have n0_ := Aside0.mk (Kd.R_lower ho0 (below_size (by repeat (first | (with_reducible first | exact HB.out | apply below_alloc | apply pw_below_drewN | apply below_drew1 | refine below_set ?_ GE222.out) | exact HB.out)))); have n1_ := Aside0.mk (blk_below (g := gb222) (o := .cells #[.slice A1_0 l1_0.length c1_0, .int .i64 a1_1, .int .i64 a1_2, .int .i64 a1_3, .slice A1_4 l1_4.length c1_4] 28 (0, 0)) (by (with_reducible repeat (first | refine blk_drewN ?_ _ | refine blk_drew ?_ | refine blk_alloc ?_ _)); exact BK222.out) hb); have n2_ := Aside0.mk (below_step (by repeat (first | (with_reducible first | exact HB.out | apply below_alloc | apply pw_below_drewN | apply below_drew1 | refine below_set ?_ GE222.out) | exact HB.out)) hb); clear BK222; clear HB; have HO225 := n0_; have BK222 := n1_; have HB := n2_; clear n0_ n1_ n2_; (try clear hb); (try clear hb2); (try clear hk); (try clear hi); (try clear ho0); have hcz12_0 : w11.cell? ⟨gb222, 0, none⟩ = some (.slice A1_0 l1_0.length c1_0) := (blk_cell BK222.out 0).trans rfl; have hcz12_1 : w11.cell? ⟨gb222, 1, none⟩ = some (.int .i64 a1_1) := (blk_cell BK222.out 1).trans rfl; have hcz12_2 : w11.cell? ⟨gb222, 2, none⟩ = some (.int .i64 a1_2) := (blk_cell BK222.out 2).trans rfl; have hcz12_3 : w11.cell? ⟨gb222, 3, none⟩ = some (.int .i64 a1_3) := (blk_cell BK222.out 3).trans rfl; have hcz12_4 : w11.cell? ⟨gb222, 4, none⟩ = some (.slice A1_4 l1_4.length c1_4) := (blk_cell BK222.out 4).trans rfl; have hfz12_0 := blk_frozen BK222.out 0; have hfz12_1 := blk_frozen BK222.out 1; have hfz12_2 := blk_frozen BK222.out 2; have hfz12_3 := blk_frozen BK222.out 3; have hfz12_4 := blk_frozen BK222.out 4; have p226 : 0 ≤ (a3 : Int) := of_decide_eq_true (by first | (with_reducible assumption) | assumption); have q226 : a3 < (l1_0.length : Int) := of_decide_eq_true (by first | (with_reducible assumption) | assumption); obtain ⟨ad226, e226, hx226_0⟩ := Kd.at_int HR1_0.out a3 p226 q226; cases e226; replace hx226_0 := (HB.out.cell (World.block_lt_of_cell? w _ hx226_0)).trans hx226_0; replace p226 := eq_true p226; replace q226 := eq_true q226) | ((with_reducible refine gate_callee (f := 73) rfl ?_); refine goesL_ (some 22) rfl rfl Try.func73 (by kernel_rfl) rfl #[.int .i64 (rd l1_0 a3)] rfl (by (try simp only [List.map_toArray, List.map_cons, List.map_nil]); first | done | rfl | (simp only [List.length_drop, List.length_take]; rfl)) ?_; (with_reducible refine (spec_l21Head.calls (rd l1_0 a3) t227 _ A8.out).mono ?_); rintro e w' ⟨rfl, ⟨nd, rfl⟩⟩; refine ⟨_, rfl, ?_⟩))
      go_loopg [10] k (fun kq v10 w' => ∃ (x10_1 : Int), v10 = .int .i64 x10_1 ∧ Aside0 (spec_l21Thing.l0 kq l2 a3 t223 x10_1 l1_0 a1_1 a1_2 a1_3 l1_4 = some r) ∧ Aside0 (kq ≤ k) ∧ Aside0 (Kd.R Kd.bool 4 w' w.heap.size (fun _ => True) v224 t223) ∧ Aside0 (w'.heap[gb222]? = some (.cells #[(.slice (some ad226) l1_0.length c1_0), .int .i64 a1_1, .int .i64 a1_2, .int .i64 a1_3, (.slice A1_4 l1_4.length c1_4)] 28 (0, 0))) ∧ Aside0 (Below w.heap.size w w'))
      case atStart => exact ⟨(t227), (by first | rfl | (simp; done) | (simp [*]; done)), H', ⟨Nat.le_refl _⟩, ⟨by (with_reducible repeat (first | apply Kd.R_alloc | apply Kd.R_drewN | apply Kd.R_drew)); exact HO225.out⟩, ⟨by (with_reducible repeat (first | refine blk_drewN ?_ _ | refine blk_drew ?_ | refine blk_alloc ?_ _)); exact BK222.out⟩, ⟨by repeat (first | (with_reducible first | exact HB.out | apply below_alloc | apply pw_below_drewN | apply below_drew1 | refine below_set ?_ GE222.out) | exact HB.out)⟩⟩
      case round =>
        clear H'
        try clear c1
        try clear c2
        try clear p2
        try clear q2
        try clear hx2
        try clear c4
        try clear c6
        try clear c6b0
        try clear c7
        try clear c7b0
        try clear hcz10_0
        try clear hcz10_1
        try clear hcz10_2
        try clear hcz10_3
        try clear hcz10_4
        try clear hcz12_0
        try clear hcz12_1
        try clear hcz12_2
        try clear hcz12_3
        try clear hcz12_4
        try clear hfz10_0
        try clear hfz10_1
        try clear hfz10_2
        try clear hfz10_3
        try clear hfz10_4
        try clear hfz12_0
        try clear hfz12_1
        try clear hfz12_2
        try clear hfz12_3
        try clear hfz12_4
        try clear hx226_0
        try clear p226
        try clear q226
        obtain ⟨x10_1, rfl, HA, HK1, HO_9, BK222, HB⟩ := hrel
        cases gk with
        | zero => exact absurd HA.out (by simp [spec_l21Thing.l0])
        | succ k1 =>
          have H := HA.out
          clear HA
          simp only [spec_l21Thing.l0] at H
          by_cases c13 : x10_1 < (t223.length : Int)
          · rw [if_pos c13] at H
            have c13b0 : decide (x10_1 < (t223.length : Int)) = true := decide_eq_true c13
            clear c13
            obtain ⟨ji14, hji14⟩ : ∃ j_ : Int, (wrap64 (a3 + x10_1)) = j_ := ⟨_, rfl⟩
            replace H : (if 0 ≤ (ji14) then (if (ji14) < (l1_0.length : Int) then (if 0 ≤ x10_1 then (if rdOf false t223 x10_1 = true then ((spec_l21Lead.f l2 (rd l1_0 (ji14))).bind fun t230 => (if t230 = true then (spec_l21Thing.j1 k1 l2 a3 t223 x10_1 (rd l1_0 (ji14)) false l1_0 a1_1 a1_2 a1_3 l1_4) else (spec_l21Thing.j1 k1 l2 a3 t223 x10_1 (rd l1_0 (ji14)) true l1_0 a1_1 a1_2 a1_3 l1_4))) else ((spec_l1Word.f (rd l1_0 (ji14))).bind fun t233 => (spec_l21Thing.j1 k1 l2 a3 t223 x10_1 (rd l1_0 (ji14)) (!t233) l1_0 a1_1 a1_2 a1_3 l1_4))) else (none)) else (none)) else (none)) = some r := by first | (rw [hji14] at H; exact H) | (simp only [hji14] at H ⊢; exact H)
            have hji14w : (IntKind.i64.wrap (a3 + x10_1)) = ji14 := (i64_w _).trans hji14
            by_cases c15 : 0 ≤ (ji14)
            · rw [if_pos c15] at H
              have c15b0 : decide (0 ≤ (ji14)) = true := decide_eq_true c15
              clear c15
              by_cases c16 : (ji14) < (l1_0.length : Int)
              · rw [if_pos c16] at H
                have c16b0 : decide ((ji14) < (l1_0.length : Int)) = true := decide_eq_true c16
                clear c16
                have HC17 := Aside0.mk H
                clear H
                obtain ⟨Ao18, co18, eo18⟩ := Kd.R_slice HO_9.out
                subst eo18
                have hcz19_0 : wr.cell? ⟨gb222, 0, none⟩ = some (.slice (some ad226) l1_0.length c1_0) := (blk_cell BK222.out 0).trans rfl
                have hcz19_1 : wr.cell? ⟨gb222, 1, none⟩ = some (.int .i64 a1_1) := (blk_cell BK222.out 1).trans rfl
                have hcz19_2 : wr.cell? ⟨gb222, 2, none⟩ = some (.int .i64 a1_2) := (blk_cell BK222.out 2).trans rfl
                have hcz19_3 : wr.cell? ⟨gb222, 3, none⟩ = some (.int .i64 a1_3) := (blk_cell BK222.out 3).trans rfl
                have hcz19_4 : wr.cell? ⟨gb222, 4, none⟩ = some (.slice A1_4 l1_4.length c1_4) := (blk_cell BK222.out 4).trans rfl
                have hfz19_0 := blk_frozen BK222.out 0
                have hfz19_1 := blk_frozen BK222.out 1
                have hfz19_2 := blk_frozen BK222.out 2
                have hfz19_3 := blk_frozen BK222.out 3
                have hfz19_4 := blk_frozen BK222.out 4
                have p228 : 0 ≤ ((ji14) : Int) := of_decide_eq_true (by first | (with_reducible assumption) | assumption)
                have q228 : (ji14) < (l1_0.length : Int) := of_decide_eq_true (by first | (with_reducible assumption) | assumption)
                obtain ⟨ad228, e228, hx228_0⟩ := Kd.at_int HR1_0.out (ji14) p228 q228
                obtain rfl : ad226 = ad228 := (by injection e228)
                replace hx228_0 := (HB.out.cell (World.block_lt_of_cell? w _ hx228_0)).trans hx228_0
                replace p228 := eq_true p228
                replace q228 := eq_true q228
                go_upto_region 6 with (fail)
                go_cut [57] (fun v57 wc => ∃ (kq : Nat) (x57_16 : Bool), v57 = .bool x57_16 ∧ Aside0 (spec_l21Thing.j1 kq l2 a3 t223 x10_1 (rd l1_0 (ji14)) x57_16 l1_0 a1_1 a1_2 a1_3 l1_4 = some r) ∧ Aside0 (kq ≤ k1) ∧ Aside0 (Kd.R Kd.bool 4 wc w.heap.size (fun _ => True) (.slice Ao18 t223.length co18) t223) ∧ Aside0 (wc.heap[gb222]? = some (.cells #[(.slice (some ad226) l1_0.length c1_0), .int .i64 a1_1, .int .i64 a1_2, .int .i64 a1_3, (.slice A1_4 l1_4.length c1_4)] 28 (0, 0))) ∧ Aside0 (Below w.heap.size w wc))
                case first =>
                  have H := HC17.out
                  clear HC17
                  by_cases c20 : 0 ≤ x10_1
                  · rw [if_pos c20] at H
                    have c20b0 : decide (0 ≤ x10_1) = true := decide_eq_true c20
                    clear c20
                    (first | rw [c20b0] | (simp only [i64_w, i32_w]; rw [c20b0]) | skip)
                    obtain ⟨bq21, hbq21⟩ : ∃ b_ : Bool, b_ = (rdOf false t223 x10_1) := ⟨_, rfl⟩
                    replace H : (if bq21 = true then ((spec_l21Lead.f l2 (rd l1_0 (ji14))).bind fun t230 => (if t230 = true then (spec_l21Thing.j1 k1 l2 a3 t223 x10_1 (rd l1_0 (ji14)) false l1_0 a1_1 a1_2 a1_3 l1_4) else (spec_l21Thing.j1 k1 l2 a3 t223 x10_1 (rd l1_0 (ji14)) true l1_0 a1_1 a1_2 a1_3 l1_4))) else ((spec_l1Word.f (rd l1_0 (ji14))).bind fun t233 => (spec_l21Thing.j1 k1 l2 a3 t223 x10_1 (rd l1_0 (ji14)) (!t233) l1_0 a1_1 a1_2 a1_3 l1_4))) = some r := by rw [← hbq21] at H; exact H
                    have Nbq21 := Aside0.mk hbq21
                    clear hbq21
                    by_cases c22 : bq21 = true
                    · subst c22
                      have H1 : ((spec_l21Lead.f l2 (rd l1_0 (ji14))).bind fun t230 => (if t230 = true then (spec_l21Thing.j1 k1 l2 a3 t223 x10_1 (rd l1_0 (ji14)) false l1_0 a1_1 a1_2 a1_3 l1_4) else (spec_l21Thing.j1 k1 l2 a3 t223 x10_1 (rd l1_0 (ji14)) true l1_0 a1_1 a1_2 a1_3 l1_4))) = some r := by rw [if_pos rfl] at H; exact H
                      clear H
                      have H := H1
                      clear H1
                      replace H := Option.bind_eq_some_iff.mp H
                      obtain ⟨t230, A230, H⟩ := H
                      replace H : (if t230 = true then (spec_l21Thing.j1 k1 l2 a3 t223 x10_1 (rd l1_0 (ji14)) false l1_0 a1_1 a1_2 a1_3 l1_4) else (spec_l21Thing.j1 k1 l2 a3 t223 x10_1 (rd l1_0 (ji14)) true l1_0 a1_1 a1_2 a1_3 l1_4)) = some r := H
                      have A23 := Aside0.mk A230
                      clear A230
                      by_cases c24 : t230 = true
                      · subst c24
                        have H1 : (spec_l21Thing.j1 k1 l2 a3 t223 x10_1 (rd l1_0 (ji14)) false l1_0 a1_1 a1_2 a1_3 l1_4) = some r := by rw [if_pos rfl] at H; exact H
                        clear H
                        have H := H1
                        clear H1
                        have H' := Aside0.mk H
                        clear H
                        have p229 : 0 ≤ (x10_1 : Int) := of_decide_eq_true (by first | (with_reducible assumption) | assumption)
                        have q229 : x10_1 < (t223.length : Int) := of_decide_eq_true (by first | (with_reducible assumption) | assumption)
                        obtain ⟨ad229, e229, hx229_0⟩ := Kd.at_bool (Kd.R_reads' HO_9.out).2.2 x10_1 p229 q229
                        (try rw [← Nbq21.out] at hx229_0)
                        cases e229
                        replace p229 := eq_true p229
                        replace q229 := eq_true q229
                        go_wp2_with (first | (go_at_call 74; (with_reducible refine (spec_l21Lead.calls _ _ l2 (rd l1_0 (ji14)) true _ ?side1 ?side2 A23.out).mono ?_); (case side1 => repeat (first | exact (Kd.C_below HR2.out HB.out) | (with_reducible refine Kd.C_alloc ?_ _) | (with_reducible refine Kd.C_drewN ?_ _) | (with_reducible refine Kd.C_drew ?_))); (case side2 => exact HC2.out); rintro e w' ⟨rfl, ⟨nd, rfl⟩⟩; have p231 : 0 ≤ (x10_1 : Int) := of_decide_eq_true (by first | (with_reducible assumption) | assumption); have q231 : x10_1 < (t223.length : Int) := of_decide_eq_true (by first | (with_reducible assumption) | assumption); obtain ⟨ad231, e231, hx231_0⟩ := Kd.at_bool (Kd.R_reads' HO_9.out).2.2 x10_1 p231 q231; (try rw [← Nbq21.out] at hx231_0); obtain rfl : ad229 = ad231 := (by injection e231); replace p231 := eq_true p231; replace q231 := eq_true q231))
                        go_meet
                        case rel => exact ⟨_, (false), (by first | rfl | (simp; done) | (simp [*]; done)), H', ⟨by have := HK1.out; first | omega | exact Nat.le_refl _⟩, ⟨by (with_reducible repeat (first | apply Kd.R_alloc | apply Kd.R_drewN | apply Kd.R_drew)); exact HO_9.out⟩, ⟨by (with_reducible repeat (first | refine blk_drewN ?_ _ | refine blk_drew ?_ | refine blk_alloc ?_ _)); exact BK222.out⟩, ⟨by repeat (first | (with_reducible first | exact HB.out | apply below_alloc | apply pw_below_drewN | apply below_drew1 | refine below_set ?_ GE222.out) | exact HB.out)⟩⟩
                      · replace c24 := Bool.eq_false_iff.mpr c24
                        subst c24
                        have H1 : (spec_l21Thing.j1 k1 l2 a3 t223 x10_1 (rd l1_0 (ji14)) true l1_0 a1_1 a1_2 a1_3 l1_4) = some r := by rw [if_neg (show ¬ (false = true) by decide)] at H; exact H
                        clear H
                        have H := H1
                        clear H1
                        have H' := Aside0.mk H
                        clear H
                        have p229 : 0 ≤ (x10_1 : Int) := of_decide_eq_true (by first | (with_reducible assumption) | assumption)
                        have q229 : x10_1 < (t223.length : Int) := of_decide_eq_true (by first | (with_reducible assumption) | assumption)
                        obtain ⟨ad229, e229, hx229_0⟩ := Kd.at_bool (Kd.R_reads' HO_9.out).2.2 x10_1 p229 q229
                        (try rw [← Nbq21.out] at hx229_0)
                        cases e229
                        replace p229 := eq_true p229
                        replace q229 := eq_true q229
                        go_wp2_with (first | (go_at_call 74; (with_reducible refine (spec_l21Lead.calls _ _ l2 (rd l1_0 (ji14)) false _ ?side1 ?side2 A23.out).mono ?_); (case side1 => repeat (first | exact (Kd.C_below HR2.out HB.out) | (with_reducible refine Kd.C_alloc ?_ _) | (with_reducible refine Kd.C_drewN ?_ _) | (with_reducible refine Kd.C_drew ?_))); (case side2 => exact HC2.out); rintro e w' ⟨rfl, ⟨nd, rfl⟩⟩))
                        go_meet
                        case rel => exact ⟨_, (true), (by first | rfl | (simp; done) | (simp [*]; done)), H', ⟨by have := HK1.out; first | omega | exact Nat.le_refl _⟩, ⟨by (with_reducible repeat (first | apply Kd.R_alloc | apply Kd.R_drewN | apply Kd.R_drew)); exact HO_9.out⟩, ⟨by (with_reducible repeat (first | refine blk_drewN ?_ _ | refine blk_drew ?_ | refine blk_alloc ?_ _)); exact BK222.out⟩, ⟨by repeat (first | (with_reducible first | exact HB.out | apply below_alloc | apply pw_below_drewN | apply below_drew1 | refine below_set ?_ GE222.out) | exact HB.out)⟩⟩
                    · replace c22 := Bool.eq_false_iff.mpr c22
                      subst c22
                      have H1 : ((spec_l1Word.f (rd l1_0 (ji14))).bind fun t233 => (spec_l21Thing.j1 k1 l2 a3 t223 x10_1 (rd l1_0 (ji14)) (!t233) l1_0 a1_1 a1_2 a1_3 l1_4)) = some r := by rw [if_neg (show ¬ (false = true) by decide)] at H; exact H
                      clear H
                      have H := H1
                      clear H1
                      replace H := Option.bind_eq_some_iff.mp H
                      obtain ⟨t233, A250, H⟩ := H
                      replace H : (spec_l21Thing.j1 k1 l2 a3 t223 x10_1 (rd l1_0 (ji14)) (!t233) l1_0 a1_1 a1_2 a1_3 l1_4) = some r := H
                      have A25 := Aside0.mk A250
                      clear A250
                      have H' := Aside0.mk H
                      clear H
                      have p229 : 0 ≤ (x10_1 : Int) := of_decide_eq_true (by first | (with_reducible assumption) | assumption)
                      have q229 : x10_1 < (t223.length : Int) := of_decide_eq_true (by first | (with_reducible assumption) | assumption)
                      obtain ⟨ad229, e229, hx229_0⟩ := Kd.at_bool (Kd.R_reads' HO_9.out).2.2 x10_1 p229 q229
                      (try rw [← Nbq21.out] at hx229_0)
                      cases e229
                      replace p229 := eq_true p229
                      replace q229 := eq_true q229
                      have p232 : 0 ≤ (x10_1 : Int) := of_decide_eq_true (by first | (with_reducible assumption) | assumption)
                      have q232 : x10_1 < (t223.length : Int) := of_decide_eq_true (by first | (with_reducible assumption) | assumption)
                      obtain ⟨ad232, e232, hx232_0⟩ := Kd.at_bool (Kd.R_reads' HO_9.out).2.2 x10_1 p232 q232
                      (try rw [← Nbq21.out] at hx232_0)
                      obtain rfl : ad229 = ad232 := (by injection e232)
                      replace p232 := eq_true p232
                      replace q232 := eq_true q232
                      go_wp2_with (first | (go_at_call 75; (with_reducible refine (spec_l1Word.calls (rd l1_0 (ji14)) t233 _ A25.out).mono ?_); rintro e w' ⟨rfl, ⟨nd, rfl⟩⟩))
                      go_meet
                      case rel => exact ⟨_, (!t233), (by first | rfl | (simp; done) | (simp [*]; done)), H', ⟨by have := HK1.out; first | omega | exact Nat.le_refl _⟩, ⟨by (with_reducible repeat (first | apply Kd.R_alloc | apply Kd.R_drewN | apply Kd.R_drew)); exact HO_9.out⟩, ⟨by (with_reducible repeat (first | refine blk_drewN ?_ _ | refine blk_drew ?_ | refine blk_alloc ?_ _)); exact BK222.out⟩, ⟨by repeat (first | (with_reducible first | exact HB.out | apply below_alloc | apply pw_below_drewN | apply below_drew1 | refine below_set ?_ GE222.out) | exact HB.out)⟩⟩
                  · rw [if_neg c20] at H
                    exact absurd H (by simp)
                case rest =>
                  clear HC17
                  try clear c1
                  try clear c2
                  try clear p2
                  try clear q2
                  try clear hx2
                  try clear c4
                  try clear c6
                  try clear c6b0
                  try clear p6
                  try clear c7
                  try clear c7b0
                  try clear c13
                  try clear c13b0
                  try clear c15
                  try clear c15b0
                  try clear c16
                  try clear c16b0
                  try clear c20
                  try clear c20b0
                  try clear q21
                  try clear c22
                  try clear p22
                  try clear q22
                  try clear hx22
                  try clear p23
                  try clear q23
                  try clear hx23
                  try clear c24
                  try clear hcz10_0
                  try clear hcz10_1
                  try clear hcz10_2
                  try clear hcz10_3
                  try clear hcz10_4
                  try clear hcz12_0
                  try clear hcz12_1
                  try clear hcz12_2
                  try clear hcz12_3
                  try clear hcz12_4
                  try clear hcz19_0
                  try clear hcz19_1
                  try clear hcz19_2
                  try clear hcz19_3
                  try clear hcz19_4
                  try clear hfz10_0
                  try clear hfz10_1
                  try clear hfz10_2
                  try clear hfz10_3
                  try clear hfz10_4
                  try clear hfz12_0
                  try clear hfz12_1
                  try clear hfz12_2
                  try clear hfz12_3
                  try clear hfz12_4
                  try clear hfz19_0
                  try clear hfz19_1
                  try clear hfz19_2
                  try clear hfz19_3
                  try clear hfz19_4
                  try clear hx226_0
                  try clear hx228_0
                  try clear hx229_0
                  try clear hx231_0
                  try clear hx232_0
                  try clear p2
                  try clear p226
                  try clear p228
                  try clear p229
                  try clear p231
                  try clear p232
                  try clear q2
                  try clear q226
                  try clear q228
                  try clear q229
                  try clear q231
                  try clear q232
                  obtain ⟨kq, x57_16, rfl, HA, HJ16, HO_9, BK222, HB⟩ := hcut
                  cases kq with
                  | zero => exact absurd HA.out (by simp [spec_l21Thing.j1])
                  | succ kj16 =>
                    have H := HA.out
                    clear HA
                    simp only [spec_l21Thing.j1] at H
                    by_cases c26 : x57_16 = true
                    · subst c26
                      have H1 : (some false) = some r := by rw [if_pos rfl] at H; exact H
                      clear H
                      have H := H1
                      clear H1
                      obtain rfl := Option.some.inj H
                      go_wp2
                      go_ret
                      exact ⟨by first | rfl | (simp [errW_none, errW_some] <;> rfl) | (simp only [← hji14]; first | rfl | (simp [errW_none, errW_some] <;> rfl)) | (simp [*, errW_none, errW_some] <;> rfl), by repeat (first | (with_reducible first | exact HB.out | apply below_alloc | apply pw_below_drewN | apply below_drew1 | refine below_set ?_ GE222.out) | exact HB.out)⟩
                    · replace c26 := Bool.eq_false_iff.mpr c26
                      subst c26
                      have H1 : (if 0 ≤ x10_1 then (if x10_1 < (t223.length : Int) then (if rdOf false t223 x10_1 = true then (if a3 ≥ a1_1 then ((spec_l6In.f (rd l1_0 (ji14)) 1 a1_1).bind fun t235 => (if t235 = true then (if 0 ≤ (wrap64 (Int.tdiv (wrap64 ((wrap64 (a3 + x10_1)) - a1_1)) 4)) then (if (wrap64 (Int.tdiv (wrap64 ((wrap64 (a3 + x10_1)) - a1_1)) 4)) < (l1_4.length : Int) then (if (rdOf false l1_4 (wrap64 (Int.tdiv (wrap64 ((wrap64 (a3 + x10_1)) - a1_1)) 4)) = true) then (spec_l21Thing.l0 kj16 l2 a3 t223 (wrap64 (x10_1 + 1)) l1_0 a1_1 a1_2 a1_3 l1_4) else (some false)) else (none)) else (none)) else (spec_l21Thing.l0 kj16 l2 a3 t223 (wrap64 (x10_1 + 1)) l1_0 a1_1 a1_2 a1_3 l1_4))) else (spec_l21Thing.l0 kj16 l2 a3 t223 (wrap64 (x10_1 + 1)) l1_0 a1_1 a1_2 a1_3 l1_4)) else (spec_l21Thing.l0 kj16 l2 a3 t223 (wrap64 (x10_1 + 1)) l1_0 a1_1 a1_2 a1_3 l1_4)) else (none)) else (none)) = some r := by rw [if_neg (show ¬ (false = true) by decide)] at H; exact H
                      clear H
                      have H := H1
                      clear H1
                      by_cases c27 : 0 ≤ x10_1
                      · rw [if_pos c27] at H
                        have c27b0 : decide (0 ≤ x10_1) = true := decide_eq_true c27
                        clear c27
                        by_cases c28 : x10_1 < (t223.length : Int)
                        · rw [if_pos c28] at H
                          have c28b0 : decide (x10_1 < (t223.length : Int)) = true := decide_eq_true c28
                          clear c28
                          obtain ⟨bq29, hbq29⟩ : ∃ b_ : Bool, b_ = (rdOf false t223 x10_1) := ⟨_, rfl⟩
                          replace H : (if bq29 = true then (if a3 ≥ a1_1 then ((spec_l6In.f (rd l1_0 (ji14)) 1 a1_1).bind fun t235 => (if t235 = true then (if 0 ≤ (wrap64 (Int.tdiv (wrap64 ((wrap64 (a3 + x10_1)) - a1_1)) 4)) then (if (wrap64 (Int.tdiv (wrap64 ((wrap64 (a3 + x10_1)) - a1_1)) 4)) < (l1_4.length : Int) then (if (rdOf false l1_4 (wrap64 (Int.tdiv (wrap64 ((wrap64 (a3 + x10_1)) - a1_1)) 4)) = true) then (spec_l21Thing.l0 kj16 l2 a3 t223 (wrap64 (x10_1 + 1)) l1_0 a1_1 a1_2 a1_3 l1_4) else (some false)) else (none)) else (none)) else (spec_l21Thing.l0 kj16 l2 a3 t223 (wrap64 (x10_1 + 1)) l1_0 a1_1 a1_2 a1_3 l1_4))) else (spec_l21Thing.l0 kj16 l2 a3 t223 (wrap64 (x10_1 + 1)) l1_0 a1_1 a1_2 a1_3 l1_4)) else (spec_l21Thing.l0 kj16 l2 a3 t223 (wrap64 (x10_1 + 1)) l1_0 a1_1 a1_2 a1_3 l1_4)) = some r := by rw [← hbq29] at H; exact H
                          have Nbq29 := Aside0.mk hbq29
                          clear hbq29
                          by_cases c30 : bq29 = true
                          · subst c30
                            have H1 : (if a3 ≥ a1_1 then ((spec_l6In.f (rd l1_0 (ji14)) 1 a1_1).bind fun t235 => (if t235 = true then (if 0 ≤ (wrap64 (Int.tdiv (wrap64 ((wrap64 (a3 + x10_1)) - a1_1)) 4)) then (if (wrap64 (Int.tdiv (wrap64 ((wrap64 (a3 + x10_1)) - a1_1)) 4)) < (l1_4.length : Int) then (if (rdOf false l1_4 (wrap64 (Int.tdiv (wrap64 ((wrap64 (a3 + x10_1)) - a1_1)) 4)) = true) then (spec_l21Thing.l0 kj16 l2 a3 t223 (wrap64 (x10_1 + 1)) l1_0 a1_1 a1_2 a1_3 l1_4) else (some false)) else (none)) else (none)) else (spec_l21Thing.l0 kj16 l2 a3 t223 (wrap64 (x10_1 + 1)) l1_0 a1_1 a1_2 a1_3 l1_4))) else (spec_l21Thing.l0 kj16 l2 a3 t223 (wrap64 (x10_1 + 1)) l1_0 a1_1 a1_2 a1_3 l1_4)) = some r := by rw [if_pos rfl] at H; exact H
                            clear H
                            have H := H1
                            clear H1
                            by_cases c31 : a3 ≥ a1_1
                            · rw [if_pos c31] at H
                              have c31b0 : decide (a1_1 ≤ a3) = true := decide_eq_true c31
                              clear c31
                              replace H := Option.bind_eq_some_iff.mp H
                              obtain ⟨t235, A320, H⟩ := H
                              replace H : (if t235 = true then (if 0 ≤ (wrap64 (Int.tdiv (wrap64 ((wrap64 (a3 + x10_1)) - a1_1)) 4)) then (if (wrap64 (Int.tdiv (wrap64 ((wrap64 (a3 + x10_1)) - a1_1)) 4)) < (l1_4.length : Int) then (if (rdOf false l1_4 (wrap64 (Int.tdiv (wrap64 ((wrap64 (a3 + x10_1)) - a1_1)) 4)) = true) then (spec_l21Thing.l0 kj16 l2 a3 t223 (wrap64 (x10_1 + 1)) l1_0 a1_1 a1_2 a1_3 l1_4) else (some false)) else (none)) else (none)) else (spec_l21Thing.l0 kj16 l2 a3 t223 (wrap64 (x10_1 + 1)) l1_0 a1_1 a1_2 a1_3 l1_4)) = some r := H
                              have A32 := Aside0.mk A320
                              clear A320
                              by_cases c33 : t235 = true
                              · subst c33
                                have H1 : (if 0 ≤ (wrap64 (Int.tdiv (wrap64 ((wrap64 (a3 + x10_1)) - a1_1)) 4)) then (if (wrap64 (Int.tdiv (wrap64 ((wrap64 (a3 + x10_1)) - a1_1)) 4)) < (l1_4.length : Int) then (if (rdOf false l1_4 (wrap64 (Int.tdiv (wrap64 ((wrap64 (a3 + x10_1)) - a1_1)) 4)) = true) then (spec_l21Thing.l0 kj16 l2 a3 t223 (wrap64 (x10_1 + 1)) l1_0 a1_1 a1_2 a1_3 l1_4) else (some false)) else (none)) else (none)) = some r := by rw [if_pos rfl] at H; exact H
                                clear H
                                have H := H1
                                clear H1
                                obtain ⟨ji34, hji34⟩ : ∃ j_ : Int, (wrap64 (Int.tdiv (wrap64 ((wrap64 (a3 + x10_1)) - a1_1)) 4)) = j_ := ⟨_, rfl⟩
                                replace H : (if 0 ≤ (ji34) then (if (ji34) < (l1_4.length : Int) then (if (rdOf false l1_4 (ji34) = true) then (spec_l21Thing.l0 kj16 l2 a3 t223 (wrap64 (x10_1 + 1)) l1_0 a1_1 a1_2 a1_3 l1_4) else (some false)) else (none)) else (none)) = some r := by first | (rw [hji34] at H; exact H) | (simp only [hji34] at H ⊢; exact H)
                                (try rw [hji34] at A32)
                                have hji34w : (IntKind.i64.wrap (Int.tdiv (wrap64 ((wrap64 (a3 + x10_1)) - a1_1)) 4)) = ji34 := (i64_w _).trans hji34
                                (try rw [hji14] at hji34w)
                                by_cases c35 : 0 ≤ (ji34)
                                · rw [if_pos c35] at H
                                  have c35b0 : decide (0 ≤ (ji34)) = true := decide_eq_true c35
                                  clear c35
                                  by_cases c36 : (ji34) < (l1_4.length : Int)
                                  · rw [if_pos c36] at H
                                    have c36b0 : decide ((ji34) < (l1_4.length : Int)) = true := decide_eq_true c36
                                    clear c36
                                    obtain ⟨bq37, hbq37⟩ : ∃ b_ : Bool, b_ = (rdOf false l1_4 (ji34)) := ⟨_, rfl⟩
                                    replace H : (if (bq37 = true) then (spec_l21Thing.l0 kj16 l2 a3 t223 (wrap64 (x10_1 + 1)) l1_0 a1_1 a1_2 a1_3 l1_4) else (some false)) = some r := by rw [← hbq37] at H; exact H
                                    have Nbq37 := Aside0.mk hbq37
                                    clear hbq37
                                    by_cases c38 : (bq37 = true)
                                    · subst c38
                                      have H1 : (spec_l21Thing.l0 kj16 l2 a3 t223 (wrap64 (x10_1 + 1)) l1_0 a1_1 a1_2 a1_3 l1_4) = some r := by rw [if_pos rfl] at H; exact H
                                      clear H
                                      have H := H1
                                      clear H1
                                      have H' := Aside0.mk H
                                      clear H
                                      have p234 : 0 ≤ (x10_1 : Int) := of_decide_eq_true (by first | (with_reducible assumption) | assumption)
                                      have q234 : x10_1 < (t223.length : Int) := of_decide_eq_true (by first | (with_reducible assumption) | assumption)
                                      obtain ⟨ad234, e234, hx234_0⟩ := Kd.at_bool (Kd.R_reads' HO_9.out).2.2 x10_1 p234 q234
                                      (try rw [← Nbq29.out] at hx234_0)
                                      (try rw [← Nbq37.out] at hx234_0)
                                      cases e234
                                      replace p234 := eq_true p234
                                      replace q234 := eq_true q234
                                      have hcz39_0 : wc.cell? ⟨gb222, 0, none⟩ = some (.slice (some ad226) l1_0.length c1_0) := (blk_cell BK222.out 0).trans rfl
                                      have hcz39_1 : wc.cell? ⟨gb222, 1, none⟩ = some (.int .i64 a1_1) := (blk_cell BK222.out 1).trans rfl
                                      have hcz39_2 : wc.cell? ⟨gb222, 2, none⟩ = some (.int .i64 a1_2) := (blk_cell BK222.out 2).trans rfl
                                      have hcz39_3 : wc.cell? ⟨gb222, 3, none⟩ = some (.int .i64 a1_3) := (blk_cell BK222.out 3).trans rfl
                                      have hcz39_4 : wc.cell? ⟨gb222, 4, none⟩ = some (.slice A1_4 l1_4.length c1_4) := (blk_cell BK222.out 4).trans rfl
                                      have hfz39_0 := blk_frozen BK222.out 0
                                      have hfz39_1 := blk_frozen BK222.out 1
                                      have hfz39_2 := blk_frozen BK222.out 2
                                      have hfz39_3 := blk_frozen BK222.out 3
                                      have hfz39_4 := blk_frozen BK222.out 4
                                      go_wp2_with (first | (go_at_call 37; (with_reducible refine (spec_l6In.calls (rd l1_0 (ji14)) 1 a1_1 true _ A32.out).mono ?_); rintro e w' ⟨rfl, ⟨nd, rfl⟩⟩; have p236 : 0 ≤ ((ji34) : Int) := of_decide_eq_true (by first | (with_reducible assumption) | assumption); have q236 : (ji34) < (l1_4.length : Int) := of_decide_eq_true (by first | (with_reducible assumption) | assumption); obtain ⟨ad236, e236, hx236_0⟩ := Kd.at_bool HR1_4.out (ji34) p236 q236; (try rw [← Nbq29.out] at hx236_0); (try rw [← Nbq37.out] at hx236_0); cases e236; replace hx236_0 := (HB.out.cell (World.block_lt_of_cell? w _ hx236_0)).trans hx236_0; replace p236 := eq_true p236; replace q236 := eq_true q236))
                                      go_roundg kj16
                                      case measure => have := HK1.out; have := HJ16.out; omega
                                      case rel => exact ⟨(wrap64 (x10_1 + 1)), (by first | rfl | (simp; done) | (simp [*]; done)), H', ⟨by have := HK1.out; have := HJ16.out; omega⟩, ⟨by (with_reducible repeat (first | apply Kd.R_alloc | apply Kd.R_drewN | apply Kd.R_drew)); exact HO_9.out⟩, ⟨by (with_reducible repeat (first | refine blk_drewN ?_ _ | refine blk_drew ?_ | refine blk_alloc ?_ _)); exact BK222.out⟩, ⟨by repeat (first | (with_reducible first | exact HB.out | apply below_alloc | apply pw_below_drewN | apply below_drew1 | refine below_set ?_ GE222.out) | exact HB.out)⟩⟩
                                    · replace c38 := Bool.eq_false_iff.mpr c38
                                      subst c38
                                      have H1 : (some false) = some r := by rw [if_neg (show ¬ (false = true) by decide)] at H; exact H
                                      clear H
                                      have H := H1
                                      clear H1
                                      obtain rfl := Option.some.inj H
                                      have p234 : 0 ≤ (x10_1 : Int) := of_decide_eq_true (by first | (with_reducible assumption) | assumption)
                                      have q234 : x10_1 < (t223.length : Int) := of_decide_eq_true (by first | (with_reducible assumption) | assumption)
                                      obtain ⟨ad234, e234, hx234_0⟩ := Kd.at_bool (Kd.R_reads' HO_9.out).2.2 x10_1 p234 q234
                                      (try rw [← Nbq29.out] at hx234_0)
                                      (try rw [← Nbq37.out] at hx234_0)
                                      cases e234
                                      replace p234 := eq_true p234
                                      replace q234 := eq_true q234
                                      have hcz40_0 : wc.cell? ⟨gb222, 0, none⟩ = some (.slice (some ad226) l1_0.length c1_0) := (blk_cell BK222.out 0).trans rfl
                                      have hcz40_1 : wc.cell? ⟨gb222, 1, none⟩ = some (.int .i64 a1_1) := (blk_cell BK222.out 1).trans rfl
                                      have hcz40_2 : wc.cell? ⟨gb222, 2, none⟩ = some (.int .i64 a1_2) := (blk_cell BK222.out 2).trans rfl
                                      have hcz40_3 : wc.cell? ⟨gb222, 3, none⟩ = some (.int .i64 a1_3) := (blk_cell BK222.out 3).trans rfl
                                      have hcz40_4 : wc.cell? ⟨gb222, 4, none⟩ = some (.slice A1_4 l1_4.length c1_4) := (blk_cell BK222.out 4).trans rfl
                                      have hfz40_0 := blk_frozen BK222.out 0
                                      have hfz40_1 := blk_frozen BK222.out 1
                                      have hfz40_2 := blk_frozen BK222.out 2
                                      have hfz40_3 := blk_frozen BK222.out 3
                                      have hfz40_4 := blk_frozen BK222.out 4
                                      go_wp2_with (first | (go_at_call 37; (with_reducible refine (spec_l6In.calls (rd l1_0 (ji14)) 1 a1_1 true _ A32.out).mono ?_); rintro e w' ⟨rfl, ⟨nd, rfl⟩⟩; have p236 : 0 ≤ ((ji34) : Int) := of_decide_eq_true (by first | (with_reducible assumption) | assumption); have q236 : (ji34) < (l1_4.length : Int) := of_decide_eq_true (by first | (with_reducible assumption) | assumption); obtain ⟨ad236, e236, hx236_0⟩ := Kd.at_bool HR1_4.out (ji34) p236 q236; (try rw [← Nbq29.out] at hx236_0); (try rw [← Nbq37.out] at hx236_0); cases e236; replace hx236_0 := (HB.out.cell (World.block_lt_of_cell? w _ hx236_0)).trans hx236_0; replace p236 := eq_true p236; replace q236 := eq_true q236))
                                      go_ret
                                      exact ⟨by first | rfl | (simp [errW_none, errW_some] <;> rfl) | (simp only [← hji14, ← hji34]; first | rfl | (simp [errW_none, errW_some] <;> rfl)) | (simp [*, errW_none, errW_some] <;> rfl), by repeat (first | (with_reducible first | exact HB.out | apply below_alloc | apply pw_below_drewN | apply below_drew1 | refine below_set ?_ GE222.out) | exact HB.out)⟩
                                  · rw [if_neg c36] at H
                                    exact absurd H (by simp)
                                · rw [if_neg c35] at H
                                  exact absurd H (by simp)
                              · replace c33 := Bool.eq_false_iff.mpr c33
                                subst c33
                                have H1 : (spec_l21Thing.l0 kj16 l2 a3 t223 (wrap64 (x10_1 + 1)) l1_0 a1_1 a1_2 a1_3 l1_4) = some r := by rw [if_neg (show ¬ (false = true) by decide)] at H; exact H
                                clear H
                                have H := H1
                                clear H1
                                have H' := Aside0.mk H
                                clear H
                                have p234 : 0 ≤ (x10_1 : Int) := of_decide_eq_true (by first | (with_reducible assumption) | assumption)
                                have q234 : x10_1 < (t223.length : Int) := of_decide_eq_true (by first | (with_reducible assumption) | assumption)
                                obtain ⟨ad234, e234, hx234_0⟩ := Kd.at_bool (Kd.R_reads' HO_9.out).2.2 x10_1 p234 q234
                                (try rw [← Nbq29.out] at hx234_0)
                                cases e234
                                replace p234 := eq_true p234
                                replace q234 := eq_true q234
                                have hcz41_0 : wc.cell? ⟨gb222, 0, none⟩ = some (.slice (some ad226) l1_0.length c1_0) := (blk_cell BK222.out 0).trans rfl
                                have hcz41_1 : wc.cell? ⟨gb222, 1, none⟩ = some (.int .i64 a1_1) := (blk_cell BK222.out 1).trans rfl
                                have hcz41_2 : wc.cell? ⟨gb222, 2, none⟩ = some (.int .i64 a1_2) := (blk_cell BK222.out 2).trans rfl
                                have hcz41_3 : wc.cell? ⟨gb222, 3, none⟩ = some (.int .i64 a1_3) := (blk_cell BK222.out 3).trans rfl
                                have hcz41_4 : wc.cell? ⟨gb222, 4, none⟩ = some (.slice A1_4 l1_4.length c1_4) := (blk_cell BK222.out 4).trans rfl
                                have hfz41_0 := blk_frozen BK222.out 0
                                have hfz41_1 := blk_frozen BK222.out 1
                                have hfz41_2 := blk_frozen BK222.out 2
                                have hfz41_3 := blk_frozen BK222.out 3
                                have hfz41_4 := blk_frozen BK222.out 4
                                go_wp2_with (first | (go_at_call 37; (with_reducible refine (spec_l6In.calls (rd l1_0 (ji14)) 1 a1_1 false _ A32.out).mono ?_); rintro e w' ⟨rfl, ⟨nd, rfl⟩⟩))
                                go_roundg kj16
                                case measure => have := HK1.out; have := HJ16.out; omega
                                case rel => exact ⟨(wrap64 (x10_1 + 1)), (by first | rfl | (simp; done) | (simp [*]; done)), H', ⟨by have := HK1.out; have := HJ16.out; omega⟩, ⟨by (with_reducible repeat (first | apply Kd.R_alloc | apply Kd.R_drewN | apply Kd.R_drew)); exact HO_9.out⟩, ⟨by (with_reducible repeat (first | refine blk_drewN ?_ _ | refine blk_drew ?_ | refine blk_alloc ?_ _)); exact BK222.out⟩, ⟨by repeat (first | (with_reducible first | exact HB.out | apply below_alloc | apply pw_below_drewN | apply below_drew1 | refine below_set ?_ GE222.out) | exact HB.out)⟩⟩
                            · rw [if_neg c31] at H
                              have c31b0 : decide (a1_1 ≤ a3) = false := decide_eq_false c31
                              clear c31
                              have H' := Aside0.mk H
                              clear H
                              have p234 : 0 ≤ (x10_1 : Int) := of_decide_eq_true (by first | (with_reducible assumption) | assumption)
                              have q234 : x10_1 < (t223.length : Int) := of_decide_eq_true (by first | (with_reducible assumption) | assumption)
                              obtain ⟨ad234, e234, hx234_0⟩ := Kd.at_bool (Kd.R_reads' HO_9.out).2.2 x10_1 p234 q234
                              (try rw [← Nbq29.out] at hx234_0)
                              cases e234
                              replace p234 := eq_true p234
                              replace q234 := eq_true q234
                              have hcz42_0 : wc.cell? ⟨gb222, 0, none⟩ = some (.slice (some ad226) l1_0.length c1_0) := (blk_cell BK222.out 0).trans rfl
                              have hcz42_1 : wc.cell? ⟨gb222, 1, none⟩ = some (.int .i64 a1_1) := (blk_cell BK222.out 1).trans rfl
                              have hcz42_2 : wc.cell? ⟨gb222, 2, none⟩ = some (.int .i64 a1_2) := (blk_cell BK222.out 2).trans rfl
                              have hcz42_3 : wc.cell? ⟨gb222, 3, none⟩ = some (.int .i64 a1_3) := (blk_cell BK222.out 3).trans rfl
                              have hcz42_4 : wc.cell? ⟨gb222, 4, none⟩ = some (.slice A1_4 l1_4.length c1_4) := (blk_cell BK222.out 4).trans rfl
                              have hfz42_0 := blk_frozen BK222.out 0
                              have hfz42_1 := blk_frozen BK222.out 1
                              have hfz42_2 := blk_frozen BK222.out 2
                              have hfz42_3 := blk_frozen BK222.out 3
                              have hfz42_4 := blk_frozen BK222.out 4
                              go_wp2
                              go_roundg kj16
                              case measure => have := HK1.out; have := HJ16.out; omega
                              case rel => exact ⟨(wrap64 (x10_1 + 1)), (by first | rfl | (simp; done) | (simp [*]; done)), H', ⟨by have := HK1.out; have := HJ16.out; omega⟩, ⟨by (with_reducible repeat (first | apply Kd.R_alloc | apply Kd.R_drewN | apply Kd.R_drew)); exact HO_9.out⟩, ⟨by (with_reducible repeat (first | refine blk_drewN ?_ _ | refine blk_drew ?_ | refine blk_alloc ?_ _)); exact BK222.out⟩, ⟨by repeat (first | (with_reducible first | exact HB.out | apply below_alloc | apply pw_below_drewN | apply below_drew1 | refine below_set ?_ GE222.out) | exact HB.out)⟩⟩
                          · replace c30 := Bool.eq_false_iff.mpr c30
                            subst c30
                            have H1 : (spec_l21Thing.l0 kj16 l2 a3 t223 (wrap64 (x10_1 + 1)) l1_0 a1_1 a1_2 a1_3 l1_4) = some r := by rw [if_neg (show ¬ (false = true) by decide)] at H; exact H
                            clear H
                            have H := H1
                            clear H1
                            have H' := Aside0.mk H
                            clear H
                            have p234 : 0 ≤ (x10_1 : Int) := of_decide_eq_true (by first | (with_reducible assumption) | assumption)
                            have q234 : x10_1 < (t223.length : Int) := of_decide_eq_true (by first | (with_reducible assumption) | assumption)
                            obtain ⟨ad234, e234, hx234_0⟩ := Kd.at_bool (Kd.R_reads' HO_9.out).2.2 x10_1 p234 q234
                            (try rw [← Nbq29.out] at hx234_0)
                            cases e234
                            replace p234 := eq_true p234
                            replace q234 := eq_true q234
                            go_wp2
                            go_roundg kj16
                            case measure => have := HK1.out; have := HJ16.out; omega
                            case rel => exact ⟨(wrap64 (x10_1 + 1)), (by first | rfl | (simp; done) | (simp [*]; done)), H', ⟨by have := HK1.out; have := HJ16.out; omega⟩, ⟨by (with_reducible repeat (first | apply Kd.R_alloc | apply Kd.R_drewN | apply Kd.R_drew)); exact HO_9.out⟩, ⟨by (with_reducible repeat (first | refine blk_drewN ?_ _ | refine blk_drew ?_ | refine blk_alloc ?_ _)); exact BK222.out⟩, ⟨by repeat (first | (with_reducible first | exact HB.out | apply below_alloc | apply pw_below_drewN | apply below_drew1 | refine below_set ?_ GE222.out) | exact HB.out)⟩⟩
                        · rw [if_neg c28] at H
                          exact absurd H (by simp)
                      · rw [if_neg c27] at H
                        exact absurd H (by simp)
              · rw [if_neg c16] at H
                exact absurd H (by simp)
            · rw [if_neg c15] at H
              exact absurd H (by simp)
          · rw [if_neg c13] at H
            have c13b0 : decide (x10_1 < (t223.length : Int)) = false := decide_eq_false c13
            clear c13
            obtain rfl := Option.some.inj H
            obtain ⟨Ao43, co43, eo43⟩ := Kd.R_slice HO_9.out
            subst eo43
            go_wp2
            go_ret
            exact ⟨by first | rfl | (simp [errW_none, errW_some] <;> rfl) | (simp [*, errW_none, errW_some] <;> rfl), by repeat (first | (with_reducible first | exact HB.out | apply below_alloc | apply pw_below_drewN | apply below_drew1 | refine below_set ?_ GE222.out) | exact HB.out)⟩
    · rw [if_neg c7] at H
      exact absurd H (by simp)
  · rw [if_neg c6] at H
    exact absurd H (by simp)
end Go.Proofs.Ytjnbilfhpdkcbaa.K
namespace Go.Proofs.Ytjnbilfhpdkcbaa.K
open Go.RowKit Go.Proofs.YtjnbilfhpdkcbaaW.PrintWords Go.Proofs.YtjnbilfhpdkcbaaW.PrintLast Go.Proofs.YtjnbilfhpdkcbaaW.PrintMore
attribute [local go_sem] max2_int min2_int max_two min_two max_three min_three max_four min_four
set_option linter.unusedVariables false
set_option linter.unusedSimpArgs false
def spec_MemOk.l0 : Nat → List (S32) → List Int → List Bool → Int → List Int → Int → Int → Int → List Bool → Option (Bool)
  | 0, _, _, _, _, _, _, _, _, _ => none
  | k + 1, x0, x5, x7, x8, x238000, x238001, x238002, x238003, x238004 => if x8 < (x5.length : Int) then (if 0 ≤ x8 then ((spec_l21Thing.f k x0 x238000 x238001 x238002 x238003 x238004 x7 (rd x5 x8)).bind fun t247 => (if t247 = true then (spec_MemOk.l0 k x0 x5 x7 (wrap64 (x8 + 1)) x238000 x238001 x238002 x238003 x238004) else (some false))) else (none)) else (some true)
def spec_MemOk.f (k : Nat) (l0 : List (S32)) (l1_0 : List Int) (a1_1 : Int) (a1_2 : Int) (a1_3 : Int) (l1_4 : List Bool) : Option (Bool) := (spec_l21Bounds.f k l0 l1_0 a1_1 a1_2 a1_3 l1_4).bind fun t238 => (if t238 = true then ((spec_l21Walk.f k l0 l1_0 a1_1 a1_2 a1_3 l1_4).bind fun bt239 => (if bt239.2 = true then ((spec_l21Starts.f k (l1_0.length : Int) bt239.1).bind fun t243 => (spec_MemOk.l0 k l0 bt239.1 t243 0 l1_0 a1_1 a1_2 a1_3 l1_4)) else (some false))) else (some false))
def spec_MemOk.T10 : Bool × List (List Nat × List Nat) := (true, [([], []), ([], []), ([], []), ([], []), ([], []), ([3, 4], [3, 4]), ([5], [5]), ([0, 1, 2, 6], [0, 1, 2, 6]), ([7], [7])])
def spec_MemOk.B10 : List Nat := [0, 0, 0, 0, 0, 24, 56, 127, 255]
theorem spec_MemOk.tab10 : rtab .any (opsOf Try.f17 10) = spec_MemOk.T10 := by kernel_rfl
theorem spec_MemOk.bits10 : waitsOk spec_MemOk.T10.2 spec_MemOk.B10 = true := by kernel_rfl
set_option maxHeartbeats 8000000 in
set_option maxRecDepth 100000 in
theorem spec_MemOk.calls (k : Nat) (A0 : Option Addr) (c0 : Nat) (l0 : List (S32)) (A1_0 : Option Addr) (c1_0 : Nat) (l1_0 : List Int) (a1_1 : Int) (a1_2 : Int) (a1_3 : Int) (A1_4 : Option Addr) (c1_4 : Nat) (l1_4 : List Bool) (r : Bool) (w : World) (hr0 : Kd.C k32 w A0 l0.length l0) (hc0 : l0.length ≤ c0) (hr1_0 : Kd.C (Kd.int .i64) w A1_0 l1_0.length l1_0) (hc1_0 : l1_0.length ≤ c1_0) (hr1_4 : Kd.C Kd.bool w A1_4 l1_4.length l1_4) (hc1_4 : l1_4.length ≤ c1_4) (h : spec_MemOk.f k l0 l1_0 a1_1 a1_2 a1_3 l1_4 = some r) :
    Calls Try.prog 17 #[.slice A0 l0.length c0, .agg #[.slice A1_0 l1_0.length c1_0, .int .i64 a1_1, .int .i64 a1_2, .int .i64 a1_3, .slice A1_4 l1_4.length c1_4]] w fun e w' => e = .returned (.bool r) ∧ Below w.heap.size w w' := by
  have hu28 := Try.underlying28
  have HR0 := Aside0.mk hr0
  have HC0 := Aside0.mk hc0
  clear hr0 hc0
  have HR1_0 := Aside0.mk hr1_0
  have HC1_0 := Aside0.mk hc1_0
  clear hr1_0 hc1_0
  have HR1_4 := Aside0.mk hr1_4
  have HC1_4 := Aside0.mk hc1_4
  clear hr1_4 hc1_4
  have HB := Aside0.mk (Below.refl w.heap.size w)
  have H : ((spec_l21Bounds.f k l0 l1_0 a1_1 a1_2 a1_3 l1_4).bind fun t238 => (if t238 = true then ((spec_l21Walk.f k l0 l1_0 a1_1 a1_2 a1_3 l1_4).bind fun bt239 => (if bt239.2 = true then ((spec_l21Starts.f k (l1_0.length : Int) bt239.1).bind fun t243 => (spec_MemOk.l0 k l0 bt239.1 t243 0 l1_0 a1_1 a1_2 a1_3 l1_4)) else (some false))) else (some false))) = some r := h
  clear h
  replace H := Option.bind_eq_some_iff.mp H
  obtain ⟨t238, A30, H⟩ := H
  replace H : (if t238 = true then ((spec_l21Walk.f k l0 l1_0 a1_1 a1_2 a1_3 l1_4).bind fun bt239 => (if bt239.2 = true then ((spec_l21Starts.f k (l1_0.length : Int) bt239.1).bind fun t243 => (spec_MemOk.l0 k l0 bt239.1 t243 0 l1_0 a1_1 a1_2 a1_3 l1_4)) else (some false))) else (some false)) = some r := H
  have A3 := Aside0.mk A30
  clear A30
  by_cases c4 : t238 = true
  · subst c4
    have H1 : ((spec_l21Walk.f k l0 l1_0 a1_1 a1_2 a1_3 l1_4).bind fun bt239 => (if bt239.2 = true then ((spec_l21Starts.f k (l1_0.length : Int) bt239.1).bind fun t243 => (spec_MemOk.l0 k l0 bt239.1 t243 0 l1_0 a1_1 a1_2 a1_3 l1_4)) else (some false))) = some r := by rw [if_pos rfl] at H; exact H
    clear H
    have H := H1
    clear H1
    replace H := Option.bind_eq_some_iff.mp H
    obtain ⟨⟨t239, t242⟩, A50, H⟩ := H
    replace H : (if t242 = true then ((spec_l21Starts.f k (l1_0.length : Int) t239).bind fun t243 => (spec_MemOk.l0 k l0 t239 t243 0 l1_0 a1_1 a1_2 a1_3 l1_4)) else (some false)) = some r := H
    have A5 := Aside0.mk A50
    clear A50
    by_cases c6 : t242 = true
    · subst c6
      have H1 : ((spec_l21Starts.f k (l1_0.length : Int) t239).bind fun t243 => (spec_MemOk.l0 k l0 t239 t243 0 l1_0 a1_1 a1_2 a1_3 l1_4)) = some r := by rw [if_pos rfl] at H; exact H
      clear H
      have H := H1
      clear H1
      replace H := Option.bind_eq_some_iff.mp H
      obtain ⟨t243, A70, H⟩ := H
      replace H : (spec_MemOk.l0 k l0 t239 t243 0 l1_0 a1_1 a1_2 a1_3 l1_4) = some r := H
      have A7 := Aside0.mk A70
      clear A70
      have H' := Aside0.mk H
      clear H
      go_enter Try.func17, Try.ntmps17
      go_wp2_with (first | ((with_reducible refine gate_dst (N := 3) rfl ?_); refine box_event ?hg (N := 3) ?hd (cs := #[.slice A1_0 l1_0.length c1_0, .int .i64 a1_1, .int .i64 a1_2, .int .i64 a1_3, .slice A1_4 l1_4.length c1_4]) (t := 28) ?hr ?_; (case hd => rfl); (case hg => rfl); (case hr => first | (go_simp; done) | (go_simp; rfl)); intro gb237 hg w8 hbox hb; have n0_ := Aside0.mk (below_step (by repeat (first | (with_reducible first | exact HB.out | apply below_alloc | apply pw_below_drewN | apply below_drew1) | exact HB.out)) hb); have n1_ := Aside0.mk (hbox); have n2_ := Aside0.mk ((by rw [hg]; exact (below_size (by repeat (first | (with_reducible first | exact HB.out | apply below_alloc | apply pw_below_drewN | apply below_drew1) | exact HB.out))) : w.heap.size ≤ gb237)); have n3_ := Aside0.mk ((by rw [hg]; exact (below_size (by repeat (first | (with_reducible first | exact HB.out | apply below_alloc | apply pw_below_drewN | apply below_drew1) | exact HB.out))) : w.heap.size ≤ gb237)); clear HB; have HB := n0_; have BK237 := n1_; have GW237 := n2_; have GE237 := n3_; clear n0_ n1_ n2_ n3_; clear hb hbox hg; have hcz9_0 : w8.cell? ⟨gb237, 0, none⟩ = some (.slice A1_0 l1_0.length c1_0) := (blk_cell BK237.out 0).trans rfl; have hcz9_1 : w8.cell? ⟨gb237, 1, none⟩ = some (.int .i64 a1_1) := (blk_cell BK237.out 1).trans rfl; have hcz9_2 : w8.cell? ⟨gb237, 2, none⟩ = some (.int .i64 a1_2) := (blk_cell BK237.out 2).trans rfl; have hcz9_3 : w8.cell? ⟨gb237, 3, none⟩ = some (.int .i64 a1_3) := (blk_cell BK237.out 3).trans rfl; have hcz9_4 : w8.cell? ⟨gb237, 4, none⟩ = some (.slice A1_4 l1_4.length c1_4) := (blk_cell BK237.out 4).trans rfl; have hfz9_0 := blk_frozen BK237.out 0; have hfz9_1 := blk_frozen BK237.out 1; have hfz9_2 := blk_frozen BK237.out 2; have hfz9_3 := blk_frozen BK237.out 3; have hfz9_4 := blk_frozen BK237.out 4) | ((with_reducible refine gate_callee (f := 43) rfl ?_); refine goesL_ (some 11) rfl rfl Try.func43 (by kernel_rfl) rfl #[.slice A0 l0.length c0, .agg #[.slice A1_0 l1_0.length c1_0, .int .i64 a1_1, .int .i64 a1_2, .int .i64 a1_3, .slice A1_4 l1_4.length c1_4]] rfl (by (try simp only [List.map_toArray, List.map_cons, List.map_nil]); first | done | rfl | (simp only [List.length_drop, List.length_take]; rfl)) ?_; (with_reducible refine (spec_l21Bounds.calls k _ _ l0 _ _ l1_0 a1_1 a1_2 a1_3 _ _ l1_4 true _ ?side1 ?side2 ?side3 ?side4 ?side5 ?side6 A3.out).mono ?_); (case side1 => repeat (first | exact (Kd.C_below HR0.out HB.out) | (with_reducible refine Kd.C_alloc ?_ _) | (with_reducible refine Kd.C_drewN ?_ _) | (with_reducible refine Kd.C_drew ?_))); (case side2 => exact HC0.out); (case side3 => repeat (first | exact (Kd.C_below HR1_0.out HB.out) | (with_reducible refine Kd.C_alloc ?_ _) | (with_reducible refine Kd.C_drewN ?_ _) | (with_reducible refine Kd.C_drew ?_))); (case side4 => exact HC1_0.out); (case side5 => repeat (first | exact (Kd.C_below HR1_4.out HB.out) | (with_reducible refine Kd.C_alloc ?_ _) | (with_reducible refine Kd.C_drewN ?_ _) | (with_reducible refine Kd.C_drew ?_))); (case side6 => exact HC1_4.out); rintro e w10 ⟨rfl, hb⟩; refine ⟨_, rfl, ?_⟩; have n0_ := Aside0.mk (blk_below (g := gb237) (o := .cells #[.slice A1_0 l1_0.length c1_0, .int .i64 a1_1, .int .i64 a1_2, .int .i64 a1_3, .slice A1_4 l1_4.length c1_4] 28 (0, 0)) (by (with_reducible repeat (first | refine blk_drewN ?_ _ | refine blk_drew ?_ | refine blk_alloc ?_ _)); exact BK237.out) hb); have n1_ := Aside0.mk (below_step (by repeat (first | (with_reducible first | exact HB.out | apply below_alloc | apply pw_below_drewN | apply below_drew1 | refine below_set ?_ GE237.out) | exact HB.out)) hb); clear BK237; clear HB; have BK237 := n0_; have HB := n1_; clear n0_ n1_; (try clear hb); (try clear hb2); (try clear hk); (try clear hi); have hcz11_0 : w10.cell? ⟨gb237, 0, none⟩ = some (.slice A1_0 l1_0.length c1_0) := (blk_cell BK237.out 0).trans rfl; have hcz11_1 : w10.cell? ⟨gb237, 1, none⟩ = some (.int .i64 a1_1) := (blk_cell BK237.out 1).trans rfl; have hcz11_2 : w10.cell? ⟨gb237, 2, none⟩ = some (.int .i64 a1_2) := (blk_cell BK237.out 2).trans rfl; have hcz11_3 : w10.cell? ⟨gb237, 3, none⟩ = some (.int .i64 a1_3) := (blk_cell BK237.out 3).trans rfl; have hcz11_4 : w10.cell? ⟨gb237, 4, none⟩ = some (.slice A1_4 l1_4.length c1_4) := (blk_cell BK237.out 4).trans rfl; have hfz11_0 := blk_frozen BK237.out 0; have hfz11_1 := blk_frozen BK237.out 1; have hfz11_2 := blk_frozen BK237.out 2; have hfz11_3 := blk_frozen BK237.out 3; have hfz11_4 := blk_frozen BK237.out 4) | ((with_reducible refine gate_callee (f := 44) rfl ?_); refine goesL_ (some 16) rfl rfl Try.func44 (by kernel_rfl) rfl #[.slice A0 l0.length c0, .agg #[.slice A1_0 l1_0.length c1_0, .int .i64 a1_1, .int .i64 a1_2, .int .i64 a1_3, .slice A1_4 l1_4.length c1_4]] rfl (by (try simp only [List.map_toArray, List.map_cons, List.map_nil]); first | done | rfl | (simp only [List.length_drop, List.length_take]; rfl)) ?_; (with_reducible refine (spec_l21Walk.calls k _ _ l0 _ _ l1_0 a1_1 a1_2 a1_3 _ _ l1_4 t239 true _ ?side1 ?side2 ?side3 ?side4 ?side5 ?side6 A5.out).mono ?_); (case side1 => repeat (first | exact (Kd.C_below HR0.out HB.out) | (with_reducible refine Kd.C_alloc ?_ _) | (with_reducible refine Kd.C_drewN ?_ _) | (with_reducible refine Kd.C_drew ?_))); (case side2 => exact HC0.out); (case side3 => repeat (first | exact (Kd.C_below HR1_0.out HB.out) | (with_reducible refine Kd.C_alloc ?_ _) | (with_reducible refine Kd.C_drewN ?_ _) | (with_reducible refine Kd.C_drew ?_))); (case side4 => exact HC1_0.out); (case side5 => repeat (first | exact (Kd.C_below HR1_4.out HB.out) | (with_reducible refine Kd.C_alloc ?_ _) | (with_reducible refine Kd.C_drewN ?_ _) | (with_reducible refine Kd.C_drew ?_))); (case side6 => exact HC1_4.out); rintro e w12 ⟨v240, rfl, ho0, hb⟩; refine ⟨_, rfl, ?_⟩; have n0_ := Aside0.mk (Kd.R_lower ho0 (below_size (by repeat (first | (with_reducible first | exact HB.out | apply below_alloc | apply pw_below_drewN | apply below_drew1 | refine below_set ?_ GE237.out) | exact HB.out)))); have n1_ := Aside0.mk (blk_below (g := gb237) (o := .cells #[.slice A1_0 l1_0.length c1_0, .int .i64 a1_1, .int .i64 a1_2, .int .i64 a1_3, .slice A1_4 l1_4.length c1_4] 28 (0, 0)) (by (with_reducible repeat (first | refine blk_drewN ?_ _ | refine blk_drew ?_ | refine blk_alloc ?_ _)); exact BK237.out) hb); have n2_ := Aside0.mk (below_step (by repeat (first | (with_reducible first | exact HB.out | apply below_alloc | apply pw_below_drewN | apply below_drew1 | refine below_set ?_ GE237.out) | exact HB.out)) hb); clear BK237; clear HB; have HO241 := n0_; have BK237 := n1_; have HB := n2_; clear n0_ n1_ n2_; (try clear hb); (try clear hb2); (try clear hk); (try clear hi); (try clear ho0); have hcz13_0 : w12.cell? ⟨gb237, 0, none⟩ = some (.slice A1_0 l1_0.length c1_0) := (blk_cell BK237.out 0).trans rfl; have hcz13_1 : w12.cell? ⟨gb237, 1, none⟩ = some (.int .i64 a1_1) := (blk_cell BK237.out 1).trans rfl; have hcz13_2 : w12.cell? ⟨gb237, 2, none⟩ = some (.int .i64 a1_2) := (blk_cell BK237.out 2).trans rfl; have hcz13_3 : w12.cell? ⟨gb237, 3, none⟩ = some (.int .i64 a1_3) := (blk_cell BK237.out 3).trans rfl; have hcz13_4 : w12.cell? ⟨gb237, 4, none⟩ = some (.slice A1_4 l1_4.length c1_4) := (blk_cell BK237.out 4).trans rfl; have hfz13_0 := blk_frozen BK237.out 0; have hfz13_1 := blk_frozen BK237.out 1; have hfz13_2 := blk_frozen BK237.out 2; have hfz13_3 := blk_frozen BK237.out 3; have hfz13_4 := blk_frozen BK237.out 4; obtain ⟨Ao14, co14, eo14⟩ := Kd.R_slice HO241.out; subst eo14) | ((with_reducible refine gate_callee (f := 45) rfl ?_); refine goesL_ (some 25) rfl rfl Try.func45 (by kernel_rfl) rfl #[.int .i64 (l1_0.length : Int), .slice Ao14 t239.length co14] rfl (by (try simp only [List.map_toArray, List.map_cons, List.map_nil]); first | done | rfl | (simp only [List.length_drop, List.length_take]; rfl)) ?_; (with_reducible refine (spec_l21Starts.calls k (l1_0.length : Int) _ _ t239 t243 _ ?side1 ?side2 A7.out).mono ?_); (case side1 => repeat (first | exact (Kd.R_reads' HO241.out).2.2 | (with_reducible refine Kd.C_alloc ?_ _) | (with_reducible refine Kd.C_drewN ?_ _) | (with_reducible refine Kd.C_drew ?_))); (case side2 => exact (Kd.R_reads' HO241.out).2.1); rintro e w15 ⟨v244, rfl, ho0, hb⟩; refine ⟨_, rfl, ?_⟩; have n0_ := Aside0.mk (Kd.R_below (by (with_reducible repeat (first | apply Kd.R_alloc | apply Kd.R_drewN | apply Kd.R_drew)); exact HO241.out) hb); have n1_ := Aside0.mk (Kd.R_lower ho0 (below_size (by repeat (first | (with_reducible first | exact HB.out | apply below_alloc | apply pw_below_drewN | apply below_drew1 | refine below_set ?_ GE237.out) | exact HB.out)))); have n2_ := Aside0.mk (blk_below (g := gb237) (o := .cells #[.slice A1_0 l1_0.length c1_0, .int .i64 a1_1, .int .i64 a1_2, .int .i64 a1_3, .slice A1_4 l1_4.length c1_4] 28 (0, 0)) (by (with_reducible repeat (first | refine blk_drewN ?_ _ | refine blk_drew ?_ | refine blk_alloc ?_ _)); exact BK237.out) hb); have n3_ := Aside0.mk (below_step (by repeat (first | (with_reducible first | exact HB.out | apply below_alloc | apply pw_below_drewN | apply below_drew1 | refine below_set ?_ GE237.out) | exact HB.out)) hb); clear HO241; clear BK237; clear HB; have HO241 := n0_; have HO245 := n1_; have BK237 := n2_; have HB := n3_; clear n0_ n1_ n2_ n3_; (try clear hb); (try clear hb2); (try clear hk); (try clear hi); (try clear ho0)))
      go_loopg [8] k (fun kq v8 w' => ∃ (x8_1 : Int), v8 = .int .i64 x8_1 ∧ Aside0 (spec_MemOk.l0 kq l0 t239 t243 x8_1 l1_0 a1_1 a1_2 a1_3 l1_4 = some r) ∧ Aside0 (kq ≤ k) ∧ Aside0 (Kd.R (Kd.int .i64) 3 w' w.heap.size (fun _ => True) (.slice Ao14 t239.length co14) t239) ∧ Aside0 (Kd.R Kd.bool 4 w' w.heap.size (fun _ => True) v244 t243) ∧ Aside0 (w'.heap[gb237]? = some (.cells #[(.slice A1_0 l1_0.length c1_0), .int .i64 a1_1, .int .i64 a1_2, .int .i64 a1_3, (.slice A1_4 l1_4.length c1_4)] 28 (0, 0))) ∧ Aside0 (Below w.heap.size w w'))
      case atStart => exact ⟨(0), (by first | rfl | (simp; done) | (simp [*]; done)), H', ⟨Nat.le_refl _⟩, ⟨by (with_reducible repeat (first | apply Kd.R_alloc | apply Kd.R_drewN | apply Kd.R_drew)); exact HO241.out⟩, ⟨by (with_reducible repeat (first | apply Kd.R_alloc | apply Kd.R_drewN | apply Kd.R_drew)); exact HO245.out⟩, ⟨by (with_reducible repeat (first | refine blk_drewN ?_ _ | refine blk_drew ?_ | refine blk_alloc ?_ _)); exact BK237.out⟩, ⟨by repeat (first | (with_reducible first | exact HB.out | apply below_alloc | apply pw_below_drewN | apply below_drew1 | refine below_set ?_ GE237.out) | exact HB.out)⟩⟩
      case round =>
        clear H'
        try clear c1
        try clear p2
        try clear c4
        try clear c6
        try clear hcz11_0
        try clear hcz11_1
        try clear hcz11_2
        try clear hcz11_3
        try clear hcz11_4
        try clear hcz13_0
        try clear hcz13_1
        try clear hcz13_2
        try clear hcz13_3
        try clear hcz13_4
        try clear hcz9_0
        try clear hcz9_1
        try clear hcz9_2
        try clear hcz9_3
        try clear hcz9_4
        try clear hfz11_0
        try clear hfz11_1
        try clear hfz11_2
        try clear hfz11_3
        try clear hfz11_4
        try clear hfz13_0
        try clear hfz13_1
        try clear hfz13_2
        try clear hfz13_3
        try clear hfz13_4
        try clear hfz9_0
        try clear hfz9_1
        try clear hfz9_2
        try clear hfz9_3
        try clear hfz9_4
        obtain ⟨x8_1, rfl, HA, HK1, HO_5, HO_7, BK237, HB⟩ := hrel
        cases gk with
        | zero => exact absurd HA.out (by simp [spec_MemOk.l0])
        | succ k1 =>
          have H := HA.out
          clear HA
          simp only [spec_MemOk.l0] at H
          by_cases c16 : x8_1 < (t239.length : Int)
          · rw [if_pos c16] at H
            have c16b0 : decide (x8_1 < (t239.length : Int)) = true := decide_eq_true c16
            clear c16
            by_cases c17 : 0 ≤ x8_1
            · rw [if_pos c17] at H
              have c17b0 : decide (0 ≤ x8_1) = true := decide_eq_true c17
              clear c17
              replace H := Option.bind_eq_some_iff.mp H
              obtain ⟨t247, A180, H⟩ := H
              replace H : (if t247 = true then (spec_MemOk.l0 k1 l0 t239 t243 (wrap64 (x8_1 + 1)) l1_0 a1_1 a1_2 a1_3 l1_4) else (some false)) = some r := H
              have A18 := Aside0.mk A180
              clear A180
              by_cases c19 : t247 = true
              · subst c19
                have H1 : (spec_MemOk.l0 k1 l0 t239 t243 (wrap64 (x8_1 + 1)) l1_0 a1_1 a1_2 a1_3 l1_4) = some r := by rw [if_pos rfl] at H; exact H
                clear H
                have H := H1
                clear H1
                have H' := Aside0.mk H
                clear H
                try go_wp2
                have n0_ := Aside0.mk (Kd.R_drew HO_5.out)
                have n1_ := Aside0.mk (Kd.R_drew HO_7.out)
                have n2_ := Aside0.mk (blk_drew BK237.out)
                have n3_ := Aside0.mk (below_drew1 HB.out)
                clear HO_5
                clear HO_7
                clear BK237
                clear HB
                have HO_5 := n0_
                have HO_7 := n1_
                have BK237 := n2_
                have HB := n3_
                clear n0_ n1_ n2_ n3_
                have p246 : 0 ≤ (x8_1 : Int) := of_decide_eq_true (by first | (with_reducible assumption) | assumption)
                have q246 : x8_1 < (t239.length : Int) := of_decide_eq_true (by first | (with_reducible assumption) | assumption)
                obtain ⟨ad246, e246, hx246_0⟩ := Kd.at_int (Kd.R_reads' HO_5.out).2.2 x8_1 p246 q246
                cases e246
                replace p246 := eq_true p246
                replace q246 := eq_true q246
                obtain ⟨Ao21, co21, eo21⟩ := Kd.R_slice HO_7.out
                (first | subst eo21 | (injection eo21 with f1_ f2_ f3_; have f4_ := f1_.symm; have f5_ := f3_.symm; clear f1_ f2_ f3_; subst f4_; subst f5_))
                refine start_ (n := 9) (S := fun w' => w'.cell? ⟨gb237, 0, none⟩ = some (.slice A1_0 l1_0.length c1_0) ∧ w'.cell? ⟨gb237, 1, none⟩ = some (.int .i64 a1_1) ∧ w'.cell? ⟨gb237, 2, none⟩ = some (.int .i64 a1_2) ∧ w'.cell? ⟨gb237, 3, none⟩ = some (.int .i64 a1_3) ∧ w'.cell? ⟨gb237, 4, none⟩ = some (.slice A1_4 l1_4.length c1_4) ∧ w'.cell? (ad246.add (x8_1).toNat) = some (.int .i64 (rd t239 x8_1))) (ds := []) #[false, false, false, false, false, false, false, false, false] (by kernel_rfl) rfl rfl ⟨(blk_cell BK237.out 0).trans rfl, (blk_cell BK237.out 1).trans rfl, (blk_cell BK237.out 2).trans rfl, (blk_cell BK237.out 3).trans rfl, (blk_cell BK237.out 4).trans rfl, hx246_0⟩ (fun hHeld => ?_); refine with_tabW spec_MemOk.tab10 spec_MemOk.bits10 (fun HT_ HW_ => ?_)
                generalize wr.drew = w20 at HO_5 HO_7 BK237 HB hx246_0 hHeld ⊢
                refine pS 0 32 #[true, false, false, false, false, false, false, false, false] ?_ (hc := (any_of HT_.out (by kernel_rfl)))
                refine pS 2 34 #[true, false, true, false, false, false, false, false, false] ?_ (hc := (any_of HT_.out (by kernel_rfl)))
                refine pS 3 35 #[true, false, true, true, false, false, false, false, false] ?_ (hc := (any_of HT_.out (by kernel_rfl)))
                refine pS 4 36 #[true, false, true, true, true, false, false, false, false] ?_ (hc := (any_of HT_.out (by kernel_rfl)))
                refine pS 5 37 #[true, false, true, true, true, true, false, false, false] ?_ (hc := (any_of HT_.out (by kernel_rfl)))
                refine tS 1 33 #[true, true, true, true, true, true, false, false, false] rfl rfl (take_ofW HT_.out HW_.out (by kernel_rfl)) hHeld (by rintro w' ⟨s0, s1, s2, s3, s4, s5⟩; go_simp; with_reducible rfl) ?_
                refine tS 6 38 #[true, true, true, true, true, true, true, false, false] rfl rfl (take_ofW HT_.out HW_.out (by kernel_rfl)) hHeld (by rintro w' ⟨s0, s1, s2, s3, s4, s5⟩; go_simp; with_reducible rfl) ?_
                refine one_ (i := 7) (N := some 39) #[true, true, true, true, true, true, true, true, false] rfl rfl (one_of HT_.out (by kernel_rfl)) (by decide) (fun K hK => ?_)
                refine goes_ Try.func46 (by kernel_rfl) rfl #[.slice A0 l0.length c0, .agg #[.slice A1_0 l1_0.length c1_0, .int .i64 a1_1, .int .i64 a1_2, .int .i64 a1_3, .slice A1_4 l1_4.length c1_4], .slice Ao21 t243.length co21, .int .i64 (rd t239 x8_1)] (by rfl) rfl rfl (by (try simp only [List.map_toArray, List.map_cons, List.map_nil]); first | done | rfl | (simp only [List.length_drop, List.length_take]; rfl)) ?_
                with_reducible refine (spec_l21Thing.calls k1 _ _ l0 _ _ l1_0 a1_1 a1_2 a1_3 _ _ l1_4 _ _ t243 (rd t239 x8_1) true _ ?side1 ?side2 ?side3 ?side4 ?side5 ?side6 ?side7 ?side8 A18.out).mono ?_
                (case side1 => repeat (first | exact (Kd.C_below HR0.out HB.out) | (with_reducible refine Kd.C_alloc ?_ _) | (with_reducible refine Kd.C_drewN ?_ _) | (with_reducible refine Kd.C_drew ?_)))
                (case side2 => exact HC0.out)
                (case side3 => repeat (first | exact (Kd.C_below HR1_0.out HB.out) | (with_reducible refine Kd.C_alloc ?_ _) | (with_reducible refine Kd.C_drewN ?_ _) | (with_reducible refine Kd.C_drew ?_)))
                (case side4 => exact HC1_0.out)
                (case side5 => repeat (first | exact (Kd.C_below HR1_4.out HB.out) | (with_reducible refine Kd.C_alloc ?_ _) | (with_reducible refine Kd.C_drewN ?_ _) | (with_reducible refine Kd.C_drew ?_)))
                (case side6 => exact HC1_4.out)
                (case side7 => repeat (first | exact (Kd.R_reads' HO_7.out).2.2 | (with_reducible refine Kd.C_alloc ?_ _) | (with_reducible refine Kd.C_drewN ?_ _) | (with_reducible refine Kd.C_drew ?_)))
                (case side8 => exact (Kd.R_reads' HO_7.out).2.1)
                rintro e w22 ⟨rfl, hb⟩
                have HS5_ := (hb.cell (World.block_lt_of_cell? _ _ (hHeld.2.2.2.2.2))).trans (hHeld.2.2.2.2.2)
                refine ⟨_, rfl, ?_⟩
                have n0_ := Aside0.mk (Kd.R_below (by (with_reducible repeat (first | apply Kd.R_alloc | apply Kd.R_drewN | apply Kd.R_drew)); exact HO_5.out) hb)
                have n1_ := Aside0.mk (Kd.R_below (by (with_reducible repeat (first | apply Kd.R_alloc | apply Kd.R_drewN | apply Kd.R_drew)); exact HO_7.out) hb)
                have n2_ := Aside0.mk (blk_below (g := gb237) (o := .cells #[.slice A1_0 l1_0.length c1_0, .int .i64 a1_1, .int .i64 a1_2, .int .i64 a1_3, .slice A1_4 l1_4.length c1_4] 28 (0, 0)) (by (with_reducible repeat (first | refine blk_drewN ?_ _ | refine blk_drew ?_ | refine blk_alloc ?_ _)); exact BK237.out) hb)
                have n3_ := Aside0.mk (below_step (by repeat (first | (with_reducible first | exact HB.out | apply below_alloc | apply pw_below_drewN | apply below_drew1 | refine below_set ?_ GE237.out) | exact HB.out)) hb)
                clear HO_5
                clear HO_7
                clear BK237
                clear HB
                have HO_5 := n0_
                have HO_7 := n1_
                have BK237 := n2_
                have HB := n3_
                clear n0_ n1_ n2_ n3_
                (try clear hb)
                (try clear hb2)
                (try clear hk)
                (try clear hi)
                refine hK.out _ _ ⟨(blk_cell BK237.out 0).trans rfl, (blk_cell BK237.out 1).trans rfl, (blk_cell BK237.out 2).trans rfl, (blk_cell BK237.out 3).trans rfl, (blk_cell BK237.out 4).trans rfl, HS5_⟩ (fun hHeld => ?_)
                clear hK K
                refine norm_ (a' := ?_) ?_ ?_
                rotate_left
                · show Act.put _ (some 39) _ = _
                  simp only [Act.put, lA1, lA2, lA3, i64_w, i32_w]
                  rfl
                refine pS 8 40 #[true, true, true, true, true, true, true, true, true] ?_ (hc := (any_of HT_.out (by kernel_rfl)))
                refine done_ (done_of HT_.out (by kernel_rfl)) ?_
                try go_wp2
                go_roundg k1
                case measure => have := HK1.out; omega
                case rel => exact ⟨(wrap64 (x8_1 + 1)), (by first | rfl | (simp; done) | (simp [*]; done)), H', ⟨by have := HK1.out; omega⟩, ⟨by (with_reducible repeat (first | apply Kd.R_alloc | apply Kd.R_drewN | apply Kd.R_drew)); exact HO_5.out⟩, ⟨by (with_reducible repeat (first | apply Kd.R_alloc | apply Kd.R_drewN | apply Kd.R_drew)); exact HO_7.out⟩, ⟨by (with_reducible repeat (first | refine blk_drewN ?_ _ | refine blk_drew ?_ | refine blk_alloc ?_ _)); exact BK237.out⟩, ⟨by repeat (first | (with_reducible first | exact HB.out | apply below_alloc | apply pw_below_drewN | apply below_drew1 | refine below_set ?_ GE237.out) | exact HB.out)⟩⟩
              · replace c19 := Bool.eq_false_iff.mpr c19
                subst c19
                have H1 : (some false) = some r := by rw [if_neg (show ¬ (false = true) by decide)] at H; exact H
                clear H
                have H := H1
                clear H1
                obtain rfl := Option.some.inj H
                try go_wp2
                have n0_ := Aside0.mk (Kd.R_drew HO_5.out)
                have n1_ := Aside0.mk (Kd.R_drew HO_7.out)
                have n2_ := Aside0.mk (blk_drew BK237.out)
                have n3_ := Aside0.mk (below_drew1 HB.out)
                clear HO_5
                clear HO_7
                clear BK237
                clear HB
                have HO_5 := n0_
                have HO_7 := n1_
                have BK237 := n2_
                have HB := n3_
                clear n0_ n1_ n2_ n3_
                have p246 : 0 ≤ (x8_1 : Int) := of_decide_eq_true (by first | (with_reducible assumption) | assumption)
                have q246 : x8_1 < (t239.length : Int) := of_decide_eq_true (by first | (with_reducible assumption) | assumption)
                obtain ⟨ad246, e246, hx246_0⟩ := Kd.at_int (Kd.R_reads' HO_5.out).2.2 x8_1 p246 q246
                cases e246
                replace p246 := eq_true p246
                replace q246 := eq_true q246
                obtain ⟨Ao24, co24, eo24⟩ := Kd.R_slice HO_7.out
                (first | subst eo24 | (injection eo24 with f1_ f2_ f3_; have f4_ := f1_.symm; have f5_ := f3_.symm; clear f1_ f2_ f3_; subst f4_; subst f5_))
                refine start_ (n := 9) (S := fun w' => w'.cell? ⟨gb237, 0, none⟩ = some (.slice A1_0 l1_0.length c1_0) ∧ w'.cell? ⟨gb237, 1, none⟩ = some (.int .i64 a1_1) ∧ w'.cell? ⟨gb237, 2, none⟩ = some (.int .i64 a1_2) ∧ w'.cell? ⟨gb237, 3, none⟩ = some (.int .i64 a1_3) ∧ w'.cell? ⟨gb237, 4, none⟩ = some (.slice A1_4 l1_4.length c1_4) ∧ w'.cell? (ad246.add (x8_1).toNat) = some (.int .i64 (rd t239 x8_1))) (ds := []) #[false, false, false, false, false, false, false, false, false] (by kernel_rfl) rfl rfl ⟨(blk_cell BK237.out 0).trans rfl, (blk_cell BK237.out 1).trans rfl, (blk_cell BK237.out 2).trans rfl, (blk_cell BK237.out 3).trans rfl, (blk_cell BK237.out 4).trans rfl, hx246_0⟩ (fun hHeld => ?_); refine with_tabW spec_MemOk.tab10 spec_MemOk.bits10 (fun HT_ HW_ => ?_)
                generalize wr.drew = w23 at HO_5 HO_7 BK237 HB hx246_0 hHeld ⊢
                refine pS 0 32 #[true, false, false, false, false, false, false, false, false] ?_ (hc := (any_of HT_.out (by kernel_rfl)))
                refine pS 2 34 #[true, false, true, false, false, false, false, false, false] ?_ (hc := (any_of HT_.out (by kernel_rfl)))
                refine pS 3 35 #[true, false, true, true, false, false, false, false, false] ?_ (hc := (any_of HT_.out (by kernel_rfl)))
                refine pS 4 36 #[true, false, true, true, true, false, false, false, false] ?_ (hc := (any_of HT_.out (by kernel_rfl)))
                refine pS 5 37 #[true, false, true, true, true, true, false, false, false] ?_ (hc := (any_of HT_.out (by kernel_rfl)))
                refine tS 1 33 #[true, true, true, true, true, true, false, false, false] rfl rfl (take_ofW HT_.out HW_.out (by kernel_rfl)) hHeld (by rintro w' ⟨s0, s1, s2, s3, s4, s5⟩; go_simp; with_reducible rfl) ?_
                refine tS 6 38 #[true, true, true, true, true, true, true, false, false] rfl rfl (take_ofW HT_.out HW_.out (by kernel_rfl)) hHeld (by rintro w' ⟨s0, s1, s2, s3, s4, s5⟩; go_simp; with_reducible rfl) ?_
                refine one_ (i := 7) (N := some 39) #[true, true, true, true, true, true, true, true, false] rfl rfl (one_of HT_.out (by kernel_rfl)) (by decide) (fun K hK => ?_)
                refine goes_ Try.func46 (by kernel_rfl) rfl #[.slice A0 l0.length c0, .agg #[.slice A1_0 l1_0.length c1_0, .int .i64 a1_1, .int .i64 a1_2, .int .i64 a1_3, .slice A1_4 l1_4.length c1_4], .slice Ao24 t243.length co24, .int .i64 (rd t239 x8_1)] (by rfl) rfl rfl (by (try simp only [List.map_toArray, List.map_cons, List.map_nil]); first | done | rfl | (simp only [List.length_drop, List.length_take]; rfl)) ?_
                with_reducible refine (spec_l21Thing.calls k1 _ _ l0 _ _ l1_0 a1_1 a1_2 a1_3 _ _ l1_4 _ _ t243 (rd t239 x8_1) false _ ?side1 ?side2 ?side3 ?side4 ?side5 ?side6 ?side7 ?side8 A18.out).mono ?_
                (case side1 => repeat (first | exact (Kd.C_below HR0.out HB.out) | (with_reducible refine Kd.C_alloc ?_ _) | (with_reducible refine Kd.C_drewN ?_ _) | (with_reducible refine Kd.C_drew ?_)))
                (case side2 => exact HC0.out)
                (case side3 => repeat (first | exact (Kd.C_below HR1_0.out HB.out) | (with_reducible refine Kd.C_alloc ?_ _) | (with_reducible refine Kd.C_drewN ?_ _) | (with_reducible refine Kd.C_drew ?_)))
                (case side4 => exact HC1_0.out)
                (case side5 => repeat (first | exact (Kd.C_below HR1_4.out HB.out) | (with_reducible refine Kd.C_alloc ?_ _) | (with_reducible refine Kd.C_drewN ?_ _) | (with_reducible refine Kd.C_drew ?_)))
                (case side6 => exact HC1_4.out)
                (case side7 => repeat (first | exact (Kd.R_reads' HO_7.out).2.2 | (with_reducible refine Kd.C_alloc ?_ _) | (with_reducible refine Kd.C_drewN ?_ _) | (with_reducible refine Kd.C_drew ?_)))
                (case side8 => exact (Kd.R_reads' HO_7.out).2.1)
                rintro e w25 ⟨rfl, hb⟩
                have HS5_ := (hb.cell (World.block_lt_of_cell? _ _ (hHeld.2.2.2.2.2))).trans (hHeld.2.2.2.2.2)
                refine ⟨_, rfl, ?_⟩
                have n0_ := Aside0.mk (Kd.R_below (by (with_reducible repeat (first | apply Kd.R_alloc | apply Kd.R_drewN | apply Kd.R_drew)); exact HO_5.out) hb)
                have n1_ := Aside0.mk (Kd.R_below (by (with_reducible repeat (first | apply Kd.R_alloc | apply Kd.R_drewN | apply Kd.R_drew)); exact HO_7.out) hb)
                have n2_ := Aside0.mk (blk_below (g := gb237) (o := .cells #[.slice A1_0 l1_0.length c1_0, .int .i64 a1_1, .int .i64 a1_2, .int .i64 a1_3, .slice A1_4 l1_4.length c1_4] 28 (0, 0)) (by (with_reducible repeat (first | refine blk_drewN ?_ _ | refine blk_drew ?_ | refine blk_alloc ?_ _)); exact BK237.out) hb)
                have n3_ := Aside0.mk (below_step (by repeat (first | (with_reducible first | exact HB.out | apply below_alloc | apply pw_below_drewN | apply below_drew1 | refine below_set ?_ GE237.out) | exact HB.out)) hb)
                clear HO_5
                clear HO_7
                clear BK237
                clear HB
                have HO_5 := n0_
                have HO_7 := n1_
                have BK237 := n2_
                have HB := n3_
                clear n0_ n1_ n2_ n3_
                (try clear hb)
                (try clear hb2)
                (try clear hk)
                (try clear hi)
                refine hK.out _ _ ⟨(blk_cell BK237.out 0).trans rfl, (blk_cell BK237.out 1).trans rfl, (blk_cell BK237.out 2).trans rfl, (blk_cell BK237.out 3).trans rfl, (blk_cell BK237.out 4).trans rfl, HS5_⟩ (fun hHeld => ?_)
                clear hK K
                refine norm_ (a' := ?_) ?_ ?_
                rotate_left
                · show Act.put _ (some 39) _ = _
                  simp only [Act.put, lA1, lA2, lA3, i64_w, i32_w]
                  rfl
                refine pS 8 40 #[true, true, true, true, true, true, true, true, true] ?_ (hc := (any_of HT_.out (by kernel_rfl)))
                refine done_ (done_of HT_.out (by kernel_rfl)) ?_
                try go_wp2
                go_ret
                exact ⟨by first | rfl | (simp [errW_none, errW_some] <;> rfl) | (simp [*, errW_none, errW_some] <;> rfl), by repeat (first | (with_reducible first | exact HB.out | apply below_alloc | apply pw_below_drewN | apply below_drew1 | refine below_set ?_ GE237.out) | exact HB.out)⟩
            · rw [if_neg c17] at H
              exact absurd H (by simp)
          · rw [if_neg c16] at H
            have c16b0 : decide (x8_1 < (t239.length : Int)) = false := decide_eq_false c16
            clear c16
            obtain rfl := Option.some.inj H
            go_wp2
            go_ret
            exact ⟨by first | rfl | (simp [errW_none, errW_some] <;> rfl) | (simp [*, errW_none, errW_some] <;> rfl), by repeat (first | (with_reducible first | exact HB.out | apply below_alloc | apply pw_below_drewN | apply below_drew1 | refine below_set ?_ GE237.out) | exact HB.out)⟩
    · replace c6 := Bool.eq_false_iff.mpr c6
      subst c6
      have H1 : (some false) = some r := by rw [if_neg (show ¬ (false = true) by decide)] at H; exact H
      clear H
      have H := H1
      clear H1
      obtain rfl := Option.some.inj H
      go_enter Try.func17, Try.ntmps17
      go_wp2_with (first | ((with_reducible refine gate_dst (N := 3) rfl ?_); refine box_event ?hg (N := 3) ?hd (cs := #[.slice A1_0 l1_0.length c1_0, .int .i64 a1_1, .int .i64 a1_2, .int .i64 a1_3, .slice A1_4 l1_4.length c1_4]) (t := 28) ?hr ?_; (case hd => rfl); (case hg => rfl); (case hr => first | (go_simp; done) | (go_simp; rfl)); intro gb237 hg w26 hbox hb; have n0_ := Aside0.mk (below_step (by repeat (first | (with_reducible first | exact HB.out | apply below_alloc | apply pw_below_drewN | apply below_drew1) | exact HB.out)) hb); have n1_ := Aside0.mk (hbox); have n2_ := Aside0.mk ((by rw [hg]; exact (below_size (by repeat (first | (with_reducible first | exact HB.out | apply below_alloc | apply pw_below_drewN | apply below_drew1) | exact HB.out))) : w.heap.size ≤ gb237)); have n3_ := Aside0.mk ((by rw [hg]; exact (below_size (by repeat (first | (with_reducible first | exact HB.out | apply below_alloc | apply pw_below_drewN | apply below_drew1) | exact HB.out))) : w.heap.size ≤ gb237)); clear HB; have HB := n0_; have BK237 := n1_; have GW237 := n2_; have GE237 := n3_; clear n0_ n1_ n2_ n3_; clear hb hbox hg; have hcz27_0 : w26.cell? ⟨gb237, 0, none⟩ = some (.slice A1_0 l1_0.length c1_0) := (blk_cell BK237.out 0).trans rfl; have hcz27_1 : w26.cell? ⟨gb237, 1, none⟩ = some (.int .i64 a1_1) := (blk_cell BK237.out 1).trans rfl; have hcz27_2 : w26.cell? ⟨gb237, 2, none⟩ = some (.int .i64 a1_2) := (blk_cell BK237.out 2).trans rfl; have hcz27_3 : w26.cell? ⟨gb237, 3, none⟩ = some (.int .i64 a1_3) := (blk_cell BK237.out 3).trans rfl; have hcz27_4 : w26.cell? ⟨gb237, 4, none⟩ = some (.slice A1_4 l1_4.length c1_4) := (blk_cell BK237.out 4).trans rfl; have hfz27_0 := blk_frozen BK237.out 0; have hfz27_1 := blk_frozen BK237.out 1; have hfz27_2 := blk_frozen BK237.out 2; have hfz27_3 := blk_frozen BK237.out 3; have hfz27_4 := blk_frozen BK237.out 4) | ((with_reducible refine gate_callee (f := 43) rfl ?_); refine goesL_ (some 11) rfl rfl Try.func43 (by kernel_rfl) rfl #[.slice A0 l0.length c0, .agg #[.slice A1_0 l1_0.length c1_0, .int .i64 a1_1, .int .i64 a1_2, .int .i64 a1_3, .slice A1_4 l1_4.length c1_4]] rfl (by (try simp only [List.map_toArray, List.map_cons, List.map_nil]); first | done | rfl | (simp only [List.length_drop, List.length_take]; rfl)) ?_; (with_reducible refine (spec_l21Bounds.calls k _ _ l0 _ _ l1_0 a1_1 a1_2 a1_3 _ _ l1_4 true _ ?side1 ?side2 ?side3 ?side4 ?side5 ?side6 A3.out).mono ?_); (case side1 => repeat (first | exact (Kd.C_below HR0.out HB.out) | (with_reducible refine Kd.C_alloc ?_ _) | (with_reducible refine Kd.C_drewN ?_ _) | (with_reducible refine Kd.C_drew ?_))); (case side2 => exact HC0.out); (case side3 => repeat (first | exact (Kd.C_below HR1_0.out HB.out) | (with_reducible refine Kd.C_alloc ?_ _) | (with_reducible refine Kd.C_drewN ?_ _) | (with_reducible refine Kd.C_drew ?_))); (case side4 => exact HC1_0.out); (case side5 => repeat (first | exact (Kd.C_below HR1_4.out HB.out) | (with_reducible refine Kd.C_alloc ?_ _) | (with_reducible refine Kd.C_drewN ?_ _) | (with_reducible refine Kd.C_drew ?_))); (case side6 => exact HC1_4.out); rintro e w28 ⟨rfl, hb⟩; refine ⟨_, rfl, ?_⟩; have n0_ := Aside0.mk (blk_below (g := gb237) (o := .cells #[.slice A1_0 l1_0.length c1_0, .int .i64 a1_1, .int .i64 a1_2, .int .i64 a1_3, .slice A1_4 l1_4.length c1_4] 28 (0, 0)) (by (with_reducible repeat (first | refine blk_drewN ?_ _ | refine blk_drew ?_ | refine blk_alloc ?_ _)); exact BK237.out) hb); have n1_ := Aside0.mk (below_step (by repeat (first | (with_reducible first | exact HB.out | apply below_alloc | apply pw_below_drewN | apply below_drew1 | refine below_set ?_ GE237.out) | exact HB.out)) hb); clear BK237; clear HB; have BK237 := n0_; have HB := n1_; clear n0_ n1_; (try clear hb); (try clear hb2); (try clear hk); (try clear hi); have hcz29_0 : w28.cell? ⟨gb237, 0, none⟩ = some (.slice A1_0 l1_0.length c1_0) := (blk_cell BK237.out 0).trans rfl; have hcz29_1 : w28.cell? ⟨gb237, 1, none⟩ = some (.int .i64 a1_1) := (blk_cell BK237.out 1).trans rfl; have hcz29_2 : w28.cell? ⟨gb237, 2, none⟩ = some (.int .i64 a1_2) := (blk_cell BK237.out 2).trans rfl; have hcz29_3 : w28.cell? ⟨gb237, 3, none⟩ = some (.int .i64 a1_3) := (blk_cell BK237.out 3).trans rfl; have hcz29_4 : w28.cell? ⟨gb237, 4, none⟩ = some (.slice A1_4 l1_4.length c1_4) := (blk_cell BK237.out 4).trans rfl; have hfz29_0 := blk_frozen BK237.out 0; have hfz29_1 := blk_frozen BK237.out 1; have hfz29_2 := blk_frozen BK237.out 2; have hfz29_3 := blk_frozen BK237.out 3; have hfz29_4 := blk_frozen BK237.out 4) | ((with_reducible refine gate_callee (f := 44) rfl ?_); refine goesL_ (some 16) rfl rfl Try.func44 (by kernel_rfl) rfl #[.slice A0 l0.length c0, .agg #[.slice A1_0 l1_0.length c1_0, .int .i64 a1_1, .int .i64 a1_2, .int .i64 a1_3, .slice A1_4 l1_4.length c1_4]] rfl (by (try simp only [List.map_toArray, List.map_cons, List.map_nil]); first | done | rfl | (simp only [List.length_drop, List.length_take]; rfl)) ?_; (with_reducible refine (spec_l21Walk.calls k _ _ l0 _ _ l1_0 a1_1 a1_2 a1_3 _ _ l1_4 t239 false _ ?side1 ?side2 ?side3 ?side4 ?side5 ?side6 A5.out).mono ?_); (case side1 => repeat (first | exact (Kd.C_below HR0.out HB.out) | (with_reducible refine Kd.C_alloc ?_ _) | (with_reducible refine Kd.C_drewN ?_ _) | (with_reducible refine Kd.C_drew ?_))); (case side2 => exact HC0.out); (case side3 => repeat (first | exact (Kd.C_below HR1_0.out HB.out) | (with_reducible refine Kd.C_alloc ?_ _) | (with_reducible refine Kd.C_drewN ?_ _) | (with_reducible refine Kd.C_drew ?_))); (case side4 => exact HC1_0.out); (case side5 => repeat (first | exact (Kd.C_below HR1_4.out HB.out) | (with_reducible refine Kd.C_alloc ?_ _) | (with_reducible refine Kd.C_drewN ?_ _) | (with_reducible refine Kd.C_drew ?_))); (case side6 => exact HC1_4.out); rintro e w30 ⟨v240, rfl, ho0, hb⟩; refine ⟨_, rfl, ?_⟩; have n0_ := Aside0.mk (Kd.R_lower ho0 (below_size (by repeat (first | (with_reducible first | exact HB.out | apply below_alloc | apply pw_below_drewN | apply below_drew1 | refine below_set ?_ GE237.out) | exact HB.out)))); have n1_ := Aside0.mk (blk_below (g := gb237) (o := .cells #[.slice A1_0 l1_0.length c1_0, .int .i64 a1_1, .int .i64 a1_2, .int .i64 a1_3, .slice A1_4 l1_4.length c1_4] 28 (0, 0)) (by (with_reducible repeat (first | refine blk_drewN ?_ _ | refine blk_drew ?_ | refine blk_alloc ?_ _)); exact BK237.out) hb); have n2_ := Aside0.mk (below_step (by repeat (first | (with_reducible first | exact HB.out | apply below_alloc | apply pw_below_drewN | apply below_drew1 | refine below_set ?_ GE237.out) | exact HB.out)) hb); clear BK237; clear HB; have HO241 := n0_; have BK237 := n1_; have HB := n2_; clear n0_ n1_ n2_; (try clear hb); (try clear hb2); (try clear hk); (try clear hi); (try clear ho0)))
      go_ret
      exact ⟨by first | rfl | (simp [errW_none, errW_some] <;> rfl) | (simp [*, errW_none, errW_some] <;> rfl), by repeat (first | (with_reducible first | exact HB.out | apply below_alloc | apply pw_below_drewN | apply below_drew1 | refine below_set ?_ GE237.out) | exact HB.out)⟩
  · replace c4 := Bool.eq_false_iff.mpr c4
    subst c4
    have H1 : (some false) = some r := by rw [if_neg (show ¬ (false = true) by decide)] at H; exact H
    clear H
    have H := H1
    clear H1
    obtain rfl := Option.some.inj H
    go_enter Try.func17, Try.ntmps17
    go_wp2_with (first | ((with_reducible refine gate_dst (N := 3) rfl ?_); refine box_event ?hg (N := 3) ?hd (cs := #[.slice A1_0 l1_0.length c1_0, .int .i64 a1_1, .int .i64 a1_2, .int .i64 a1_3, .slice A1_4 l1_4.length c1_4]) (t := 28) ?hr ?_; (case hd => rfl); (case hg => rfl); (case hr => first | (go_simp; done) | (go_simp; rfl)); intro gb237 hg w31 hbox hb; have n0_ := Aside0.mk (below_step (by repeat (first | (with_reducible first | exact HB.out | apply below_alloc | apply pw_below_drewN | apply below_drew1) | exact HB.out)) hb); have n1_ := Aside0.mk (hbox); have n2_ := Aside0.mk ((by rw [hg]; exact (below_size (by repeat (first | (with_reducible first | exact HB.out | apply below_alloc | apply pw_below_drewN | apply below_drew1) | exact HB.out))) : w.heap.size ≤ gb237)); have n3_ := Aside0.mk ((by rw [hg]; exact (below_size (by repeat (first | (with_reducible first | exact HB.out | apply below_alloc | apply pw_below_drewN | apply below_drew1) | exact HB.out))) : w.heap.size ≤ gb237)); clear HB; have HB := n0_; have BK237 := n1_; have GW237 := n2_; have GE237 := n3_; clear n0_ n1_ n2_ n3_; clear hb hbox hg; have hcz32_0 : w31.cell? ⟨gb237, 0, none⟩ = some (.slice A1_0 l1_0.length c1_0) := (blk_cell BK237.out 0).trans rfl; have hcz32_1 : w31.cell? ⟨gb237, 1, none⟩ = some (.int .i64 a1_1) := (blk_cell BK237.out 1).trans rfl; have hcz32_2 : w31.cell? ⟨gb237, 2, none⟩ = some (.int .i64 a1_2) := (blk_cell BK237.out 2).trans rfl; have hcz32_3 : w31.cell? ⟨gb237, 3, none⟩ = some (.int .i64 a1_3) := (blk_cell BK237.out 3).trans rfl; have hcz32_4 : w31.cell? ⟨gb237, 4, none⟩ = some (.slice A1_4 l1_4.length c1_4) := (blk_cell BK237.out 4).trans rfl; have hfz32_0 := blk_frozen BK237.out 0; have hfz32_1 := blk_frozen BK237.out 1; have hfz32_2 := blk_frozen BK237.out 2; have hfz32_3 := blk_frozen BK237.out 3; have hfz32_4 := blk_frozen BK237.out 4) | ((with_reducible refine gate_callee (f := 43) rfl ?_); refine goesL_ (some 11) rfl rfl Try.func43 (by kernel_rfl) rfl #[.slice A0 l0.length c0, .agg #[.slice A1_0 l1_0.length c1_0, .int .i64 a1_1, .int .i64 a1_2, .int .i64 a1_3, .slice A1_4 l1_4.length c1_4]] rfl (by (try simp only [List.map_toArray, List.map_cons, List.map_nil]); first | done | rfl | (simp only [List.length_drop, List.length_take]; rfl)) ?_; (with_reducible refine (spec_l21Bounds.calls k _ _ l0 _ _ l1_0 a1_1 a1_2 a1_3 _ _ l1_4 false _ ?side1 ?side2 ?side3 ?side4 ?side5 ?side6 A3.out).mono ?_); (case side1 => repeat (first | exact (Kd.C_below HR0.out HB.out) | (with_reducible refine Kd.C_alloc ?_ _) | (with_reducible refine Kd.C_drewN ?_ _) | (with_reducible refine Kd.C_drew ?_))); (case side2 => exact HC0.out); (case side3 => repeat (first | exact (Kd.C_below HR1_0.out HB.out) | (with_reducible refine Kd.C_alloc ?_ _) | (with_reducible refine Kd.C_drewN ?_ _) | (with_reducible refine Kd.C_drew ?_))); (case side4 => exact HC1_0.out); (case side5 => repeat (first | exact (Kd.C_below HR1_4.out HB.out) | (with_reducible refine Kd.C_alloc ?_ _) | (with_reducible refine Kd.C_drewN ?_ _) | (with_reducible refine Kd.C_drew ?_))); (case side6 => exact HC1_4.out); rintro e w33 ⟨rfl, hb⟩; refine ⟨_, rfl, ?_⟩; have n0_ := Aside0.mk (blk_below (g := gb237) (o := .cells #[.slice A1_0 l1_0.length c1_0, .int .i64 a1_1, .int .i64 a1_2, .int .i64 a1_3, .slice A1_4 l1_4.length c1_4] 28 (0, 0)) (by (with_reducible repeat (first | refine blk_drewN ?_ _ | refine blk_drew ?_ | refine blk_alloc ?_ _)); exact BK237.out) hb); have n1_ := Aside0.mk (below_step (by repeat (first | (with_reducible first | exact HB.out | apply below_alloc | apply pw_below_drewN | apply below_drew1 | refine below_set ?_ GE237.out) | exact HB.out)) hb); clear BK237; clear HB; have BK237 := n0_; have HB := n1_; clear n0_ n1_; (try clear hb); (try clear hb2); (try clear hk); (try clear hi)))
    go_ret
    exact ⟨by first | rfl | (simp [errW_none, errW_some] <;> rfl) | (simp [*, errW_none, errW_some] <;> rfl), by repeat (first | (with_reducible first | exact HB.out | apply below_alloc | apply pw_below_drewN | apply below_drew1 | refine below_set ?_ GE237.out) | exact HB.out)⟩
end Go.Proofs.Ytjnbilfhpdkcbaa.K
namespace Go.Proofs.Ytjnbilfhpdkcbaa.Pure
open Go.RowKit Go.Proofs.Ytjnbilfhpdkcbaa.K Go.Proofs.YtjnbilfhpdkcbaaW.PrintWords Go.Proofs.YtjnbilfhpdkcbaaW.PrintLast Go.Proofs.YtjnbilfhpdkcbaaW.PrintMore
set_option linter.unusedVariables false
set_option linter.unusedSimpArgs false
def pw (ws : List Int) (F : List (List Int)) (e : Int) : Nat → Int → List Int × Bool
  | 0, _ => ([], true)
  | n + 1, i => if i < e then (if mstep ws F e i = 0 then ([], false) else (i :: (pw ws F e n (i + mstep ws F e i)).1, (pw ws F e n (i + mstep ws F e i)).2)) else ([], true)
theorem pw_mwalk (ws : List Int) (F : List (List Int)) (e : Int) : ∀ (n : Nat) (i : Int) (acc : List Int) (q : Nat), (e - i).toNat ≤ n → n < q → mwalk ws F e q i acc = some ((pw ws F e n i).2, acc ++ (pw ws F e n i).1.map (· + 1))
  | 0, i, acc, q, h, hq => by
    obtain ⟨q, rfl⟩ : ∃ m, q = m + 1 := ⟨q - 1, by omega⟩
    rw [mwalk, if_neg (by omega), pw]; simp
  | n + 1, i, acc, q, h, hq => by
    obtain ⟨q, rfl⟩ : ∃ m, q = m + 1 := ⟨q - 1, by omega⟩
    rw [mwalk, pw]
    by_cases c : i < e
    · rw [if_pos c, if_pos c]
      by_cases c2 : mstep ws F e i = 0
      · rw [if_pos c2, if_pos c2]; simp
      · rw [if_neg c2, if_neg c2]
        have := mwalk_lt ws F e i
        rw [pw_mwalk ws F e n _ _ q (by omega) (by omega)]
        simp
    · rw [if_neg c, if_neg c]; simp
theorem pw_len (ws : List Int) (F : List (List Int)) (e : Int) : ∀ (n : Nat) (i : Int), (pw ws F e n i).1.length ≤ n
  | 0, i => by simp [pw]
  | n + 1, i => by
    rw [pw]
    split
    · split
      · simp
      · have := pw_len ws F e n (i + mstep ws F e i)
        simp only [List.length_cons]; omega
    · simp
theorem pw_mem (ws : List Int) (F : List (List Int)) (e : Int) : ∀ (n : Nat) (i : Int), ∀ x ∈ (pw ws F e n i).1, i ≤ x ∧ x < e ∧ 0 < mstep ws F e x ∧ mstep ws F e x ≤ e - x
  | 0, i => by simp [pw]
  | n + 1, i => by
    rw [pw]
    intro x hx
    split at hx
    case isTrue c =>
      split at hx
      case isTrue c2 => simp at hx
      case isFalse c2 =>
        have hl := mwalk_lt ws F e i
        simp only [List.mem_cons] at hx
        rcases hx with rfl | hx
        · omega
        · have := pw_mem ws F e n _ x hx
          omega
    case isFalse c => simp at hx
theorem pw_sorted (ws : List Int) (F : List (List Int)) (e : Int) : ∀ (n : Nat) (i : Int), (pw ws F e n i).1.Pairwise (· < ·)
  | 0, i => by simp [pw]
  | n + 1, i => by
    rw [pw]
    split
    case isTrue c =>
      split
      case isTrue c2 => simp
      case isFalse c2 =>
        have hl := mwalk_lt ws F e i
        refine List.Pairwise.cons (fun x hx => ?_) (pw_sorted ws F e n _)
        have := pw_mem ws F e n _ x hx
        omega
    case isFalse c => simp
theorem pw_part {cs : Cs} (h : csOk cs = true) {ws : List Int} (hw : ws.length ≤ 1048576) {e : Int} (he : e ≤ ws.length) : ∀ (n : Nat) (i : Int) (acc : List Int) (k : Nat), 0 ≤ i → (e - i).toNat ≤ n → n + 21 ≤ k → acc.length + n < 17592186044416 →
    spec_l21Part.l0 k cs ws i e acc = some (acc ++ (pw ws (allF cs) e n i).1, (pw ws (allF cs) e n i).2)
  | 0, i, acc, k, h0, hn, hk, ha => by
    obtain ⟨k, rfl⟩ : ∃ m, k = m + 1 := ⟨k - 1, by omega⟩
    rw [spec_l21Part.l0, if_neg (by omega), pw]; simp
  | n + 1, i, acc, k, h0, hn, hk, ha => by
    obtain ⟨k, rfl⟩ : ∃ m, k = m + 1 := ⟨k - 1, by omega⟩
    rw [spec_l21Part.l0, pw]
    by_cases c : i < e
    · rw [if_pos c, if_pos c, l21Size_eq h hw h0 he k (by omega), if_pos c]
      simp only [Option.bind_some]
      by_cases c2 : mstep ws (allF cs) e i = 0
      · rw [if_pos c2, if_pos c2]; simp
      · rw [if_neg c2, if_neg c2, if_pos (by omega)]
        have hl := mwalk_lt ws (allF cs) e i
        rw [wrap64_of (by omega) (by omega), pw_part h hw he n _ _ k (by omega) (by omega) (by omega) (by rw [List.length_append, List.length_singleton]; omega)]
        simp
    · rw [if_neg c, if_neg c]; simp
theorem rd_mem {xs : List Int} {i : Nat} (h : i < xs.length) : rd xs (i : Int) = xs[i] := by
  rw [rd_cast, List.getD_eq_getElem?_getD, List.getElem?_eq_getElem h]; rfl
theorem sorted_lt {xs : List Int} (h : xs.Pairwise (· < ·)) {i j : Nat} (hi : i < j) (hj : j < xs.length) : xs[i]'(by omega) < xs[j] := List.pairwise_iff_getElem.mp h i j (by omega) hj hi
theorem cmp_Less_eq (a b : Int) : cmp_Less_int.f a b = some (decide (a < b)) := by
  unfold cmp_Less_int.f cmp_isNaN_int.f
  rw [Option.bind_some, show (a != a) = false from by simp, if_neg (by simp)]
theorem search_l0 {xs : List Int} (hs : xs.Pairwise (· < ·)) (hl : xs.length ≤ 1048576) (v : Int) (d : Nat) : ∀ (lo hi k : Nat), hi - lo ≤ d → lo ≤ hi → hi ≤ xs.length → d + 2 ≤ k → (∀ i (h : i < xs.length), i < lo → xs[i] < v) → (∀ i (h : i < xs.length), hi ≤ i → v ≤ xs[i]) →
    ∃ p : Nat, p ≤ xs.length ∧ slices_BinarySearch_int_int.l0 k xs v xs.length lo hi = some ((p : Int), decide (v ∈ xs)) ∧ (∀ i (h : i < xs.length), i < p → xs[i] < v) ∧ (∀ i (h : i < xs.length), p ≤ i → v ≤ xs[i]) := by
  induction d with
  | zero =>
    intro lo hi k hd hlh hhi hk h1 h2
    obtain ⟨k, rfl⟩ : ∃ m, k = m + 1 := ⟨k - 1, by omega⟩
    obtain rfl : lo = hi := by omega
    refine ⟨lo, hhi, ?_, h1, h2⟩
    rw [slices_BinarySearch_int_int.l0, if_neg (by omega)]
    by_cases c : lo < xs.length
    · rw [if_pos (by omega), if_pos (by omega), if_pos (by omega), rd_mem c]
      by_cases c2 : xs[lo] = v
      · rw [if_pos c2, decide_eq_true (by rw [← c2]; exact List.getElem_mem c)]
      · have hv := h2 lo c (Nat.le_refl _)
        rw [if_neg c2]
        simp only [slices_isNaN_int.f, Option.bind_some]
        have nm : ¬ v ∈ xs := fun hm => by
          obtain ⟨j, hj, e⟩ := List.getElem_of_mem hm
          rcases Nat.lt_trichotomy j lo with q | q | q
          · have := h1 j hj q; omega
          · subst q; exact c2 e
          · have := sorted_lt hs q hj; omega
        rw [decide_eq_false nm]
        simp
    · rw [if_neg (by omega)]
      have nm : ¬ v ∈ xs := fun hm => by
        obtain ⟨j, hj, e⟩ := List.getElem_of_mem hm
        have := h1 j hj (by omega); omega
      rw [decide_eq_false nm]
  | succ d ih =>
    intro lo hi k hd hlh hhi hk h1 h2
    by_cases c : lo = hi
    · subst c
      exact ih lo lo k (by omega) (by omega) hhi (by omega) h1 h2
    obtain ⟨k, rfl⟩ : ∃ m, k = m + 1 := ⟨k - 1, by omega⟩
    obtain ⟨m, hm⟩ : ∃ m, m = (lo + hi) / 2 := ⟨_, rfl⟩
    have hm2 : m < xs.length := by omega
    have hm3 : lo ≤ m := by omega
    have hm4 : m < hi := by omega
    have e1 : wrap64 ((lo : Int) + hi) = ((lo + hi : Nat) : Int) := by rw [wrap64_of (by omega) (by omega)]; omega
    have e2 : IntKind.u64.wrap ((lo + hi : Nat) : Int) = ((lo + hi : Nat) : Int) := by rw [IntKind.wrap_u64]; omega
    have e3 : wrap64 (((lo + hi : Nat) : Int) / 2) = (m : Int) := by
      have e4 : ((lo + hi : Nat) : Int) / 2 = (m : Int) := by rw [hm]; exact (Int.natCast_ediv (lo + hi) 2).symm
      rw [e4]
      exact wrap64_of (by omega) (by omega)
    clear hm
    rw [slices_BinarySearch_int_int.l0, if_pos (by omega), e1, e2, e3, if_pos (by omega), if_pos (by omega), rd_mem hm2]
    by_cases c2 : xs[m] < v
    · have hc : cmp_Less_int.f xs[m] v = some true := by rw [cmp_Less_eq, decide_eq_true c2]
      rw [hc]
      simp only [Option.bind_some, if_true]
      rw [wrap_inc (n := 1048577) (by omega) (by omega) (by omega)]
      have := ih (m + 1) hi k (by omega) (by omega) hhi (by omega) (fun i h hi' => by
        rcases Nat.lt_or_ge i m with q | q
        · have := sorted_lt hs q hm2; omega
        · obtain rfl : i = m := by omega
          exact c2) h2
      rw [show ((m + 1 : Nat) : Int) = (m : Int) + 1 by omega] at this
      exact this
    · have hc : cmp_Less_int.f xs[m] v = some false := by rw [cmp_Less_eq, decide_eq_false c2]
      rw [hc]
      simp only [Option.bind_some]
      rw [if_neg (by simp)]
      exact ih lo m k (by omega) (by omega) (by omega) (by omega) h1 (fun i h hi' => by
        rcases Nat.eq_or_lt_of_le hi' with q | q
        · subst q; omega
        · have := sorted_lt hs q h; omega)
theorem search_eq {xs : List Int} (hs : xs.Pairwise (· < ·)) (hl : xs.length ≤ 1048576) (v : Int) : ∃ p : Nat, p ≤ xs.length ∧ (∀ k, xs.length + 2 ≤ k → slices_BinarySearch_int_int.f k xs v = some ((p : Int), decide (v ∈ xs))) ∧ (∀ i (h : i < xs.length), i < p → xs[i] < v) ∧ (∀ i (h : i < xs.length), p ≤ i → v ≤ xs[i]) := by
  obtain ⟨p, hp, he, h1, h2⟩ := search_l0 hs hl v xs.length 0 xs.length (xs.length + 2) (by omega) (by omega) (by omega) (by omega) (fun i h hi => by omega) (fun i h hi => by omega)
  refine ⟨p, hp, fun k hk => ?_, h1, h2⟩
  have := at_rounds (g := fun k => slices_BinarySearch_int_int.f k xs v) (fun k => slices_BinarySearch_int_int.mono xs v k) hk (r := ((p : Int), decide (v ∈ xs))) (by unfold slices_BinarySearch_int_int.f; exact he)
  exact this
end Go.Proofs.Ytjnbilfhpdkcbaa.Pure
